import Derived.Test.YtdfahbenacjgeaaGreatWg11
set_option linter.unusedSimpArgs false
set_option linter.unusedVariables false
namespace Go.Ix
open Go.Proofs
theorem fi_pos(d:Nat)(hs:FHs)(x:Int)(m:Mem):xu2 (xsi (d+1)) hs 2 (.clo xz []) [I x] m=some (B (decide (0<x)),⟨m.hp,m.next+1⟩):=by
 show xsi (d+1) hs xz [I x] m=_
 rw[xo5]
 unfold xdl xbk
 simp
abbrev posP:Int->Bool:=λx=>decide (0<x)
theorem l_IdxOwn(d:Nat)(hs:FHs){id:Id}{l:List Int}(hl:l.length<1000000)(u:Nat):∀(suf:List Int) (k j:Nat) (m:Mem) (fc:Nat),l.drop k=suf->suf.length<j->m.get id=some (.row (l.flatMap intE) 0 false) ->
 ∃n,m.next<=n/\xx (xsi (d+1)) hs u j (srI id l.length) (.clo xz []) (I l.length) (I k) m fc=some (I (xuu posP k suf),⟨m.hp,n⟩):=by
 intro suf
 induction suf with
 |nil=>
  intro k j m fc hd hj hg
  obtain⟨j,rfl⟩:∃i,j=i+1:=⟨j-1,by simp at hj;omega⟩
  have hk:¬((k:Int)<(l.length:Int)):=by have:=x1ha.mp hd;omega
  refine⟨m.next,x1ga _,?_⟩
  simp only[xx]
  unfold x3h
  simp[hk,xaj,xuu]
 |cons x r ih=>
  intro k j m fc hd hj hg
  obtain⟨j,rfl⟩:∃i,j=i+1:=⟨j-1,by simp at hj;omega⟩
  obtain⟨hk,hke,hd⟩:=xul hd
  have hk':(k:Int)<(l.length:Int):=by omega
  have ix:sIx 1 (srI id l.length) (I k)=some (.ptr id 0 k):=by simpa using xtu (id:=id) (n:=l.length) (k:=(k:Int)) (by omega) (by omega)
  have e1:at0 l k=x:=by rw[xt5 hk,hke]
  have h1:=fi_pos d hs x m
  obtain⟨n2,h3,h2⟩:=ih (k+1) j ⟨m.hp,m.next+1⟩ (fc+11) hd (by simp at hj;omega) hg
  simp only at h3
  by_cases c:0<x
  .refine⟨m.next+1,by omega,?_⟩
   simp only[xx]
   unfold x3h
   simp only[xta,xsn,hk',x1gm,xt9,ix,xsv,hg,xt1,x1gd,xsr,xun hk,e1,h1,c,xuu,posP]
  .refine⟨n2,by omega,?_⟩
   simp only[xx]
   unfold x3h
   simp(disch:=omega)only[xta,xsn,hk',x1gm,xt9,ix,xsv,hg,xt1,x1gd,xsr,xun hk,e1,h1,c,x1h9,xup,xux,xso,xuu,posP,xzv]
   exact h2
theorem w_IdxOwn(d:Nat)(hs:FHs){id:Id}{l:List Int}(hl:l.length<1000000){m:Mem}(hg:m.get id=some (.row (l.flatMap intE) 0 false)):∃n,m.next<=n/\xsi (d+2) hs x1e [srI id l.length,.clo xz []] m=some (I (xuu posP 0 l),⟨m.hp,n⟩):=by
 obtain⟨n,h1,h'⟩:=l_IdxOwn d hs hl m.next l 0 NN ⟨m.hp,m.next+1⟩ 4 rfl (by rw[xsu];omega) hg
 simp only at h1
 refine⟨n,by omega,?_⟩
 rw[xll]
 unfold x7m x6z xak
 have hlen:sLen Tryz.prog x4 (srI id l.length)=some (I l.length):=rfl
 simp only[hlen,xsn]
 exact h'
theorem x19h:∀(l:List Int) (k:Nat),(xuu posP k l=-1/\∀i,at0 l i<=0)\/(∃i,i<l.length/\xuu posP k l=((k+i:Nat):Int)/\0<at0 l i)
 |[],k=>Or.inl ⟨rfl,λi=>by simp[at0]⟩
 |x::r,k=>by
  unfold xuu
  by_cases c:0<x
  .right
   exact⟨0,by simp,by simp[posP,c],by simpa[at0]using c⟩
  .simp only[posP,c,x1h9,xzv]
   rcases x19h r (k+1)with ⟨h1,h2⟩|⟨i,h1,h2,h3⟩
   .left
    refine⟨by simpa using h1,λi=>?_⟩
    cases i with
    |zero=>simp[at0];omega
    |succ i=>exact h2 i
   .right
    refine⟨i+1,by simpa using h1,?_,h3⟩
    have:((k:Int)+1)=((k+1:Nat):Int):=rfl
    rw[this,h2]
    congr 1;omega
theorem netF_in(v:Nat):∀z:List (Edge×Int),(∀x∈z,-20<=x.2/\x.2<=20)->-(40*(z.length:Int))<=netF v z/\netF v z<=40*(z.length:Int)
 |[],_=>by simp[netF]
 |x::r,h=>by
  have ih:=netF_in v r (λy hy=>h y (x1ge _ hy))
  have hx:=h x (x1gf ..)
  simp only[netF,x1gq]
  split<;>split<;>omega
theorem FlowOK.exb{J:Int}{n:Nat}{l:List Edge}{fl tu ex:List Int}(h:FlowOK n l fl tu ex)(hS:Slim J n l)(v:Nat):-680<=at0 ex v/\at0 ex v<=680:=by
 by_cases hv:v<n
 .rw[h.net v hv]
  have:=netF_in v (l.zip fl) (λx hx=>by
   obtain⟨k,hk,rfl⟩:=(xzb h.fll).mp hx
   have h1:=h.cap k hk
   have h2:=hS.jw (edgeAt l k) (by rw[xwc hk];exact x1go hk)
   simp only
   omega)
  have hl:=hS.ll
  have:(l.zip fl).length<=17:=by rw[List.length_zip];omega
  omega
 .have:at0 ex v=0:=by
   unfold at0
   rw[x1gk,x1j8 (by rw[h.exl];omega)];rfl
  omega
theorem FlowOK.flb{n:Nat}{l:List Edge}{fl tu ex:List Int}(h:FlowOK n l fl tu ex)(k:Nat):-1000<=at0 fl k/\at0 fl k<=1000:=by
 by_cases hk:k<l.length
 .have:=h.cap k hk
  obtain⟨⟨_,_,_,_,_,_,w0,w1⟩,_⟩:=xx8 h.ed hk
  omega
 .have:at0 fl k=0:=by
   unfold at0
   rw[x1gk,x1j8 (by rw[h.fll];omega)];rfl
  omega
theorem FlowOK.inn{J P:Int}{n:Nat}{l:List Edge}{fl tu ex:List Int}(h:FlowOK n l fl tu ex)(hS:Slim J n l)(hT:TurnB n tu ex P)(hP:P<=1000000):SolIn n l fl tu ex:=by
 refine⟨h.nn,h.ll,h.ed,h.flb,λv=>?_,λv=>by have:=h.exb hS v;omega⟩
 by_cases hv:v<n
 .have:=hT.b v hv;omega
 .have:at0 tu v=0:=by
   unfold at0
   rw[x1gk,x1j8 (by rw[h.tul];omega)];rfl
  omega
def PBound(J P:Int)(n:Nat)(ex:List Int):Prop:=0<=P/\P<=(J*12)*(1000-posS n ex)
theorem PBound.le{J P:Int}{n:Nat}{ex:List Int}(h:PBound J P n ex)(h0:0<=J):P<=J*12000:=by
 have h1:=x11c n ex
 have h2:(J*12)*(1000-posS n ex)<=(J*12)*1000:=x1lk (by omega) (by omega)
 have:=h.2
 have e:J*12*1000=J*12000:=by rw[Int.mul_assoc];rfl
 omega
theorem PBound.push{J P P' amt:Int}{n:Nat}{ex ex':List Int}(h:PBound J P n ex)(h0:0<=J)(h1:P<=P')(h2:P'<=P+J*12)(h3:posS n ex'+amt=posS n ex)(h4:0<amt):PBound J P' n ex':=by
 refine⟨by have:=h.1;omega,?_⟩
 have h5:(J*12)*(1000-posS n ex+1)<=(J*12)*(1000-posS n ex'):=x1lk (by omega) (by omega)
 rw[Int.mul_add,Int.mul_one]at h5
 have:=h.2
 omega
theorem l_solve(d:Nat)(hs:FHs){us n:Nat}{J:Int}{ev:AV}{l:List Edge}(hev:Sl Edge.c ev l)(hS:Slim J n l)(u:Nat)(t1:AV):∀(c:Nat) (fl tu ex:List Int) (P:Int) (m:Mem) (j fc:Nat),posS n ex<=c->c<j->us<m.next->SolMem us n ev l fl tu ex m->FlowOK n l fl tu ex->TurnB n tu ex P->PBound J P n ex ->
 ∃m' fc' fl' tu' ex' P',x1r (xsi (d+5)) hs u j t1 (.ptr (us,21,25) 0 0) m fc=x70 (xsi (d+5)) hs u t1 (.ptr (us,21,25) 0 0) m' fc'/\SolMem us n ev l fl' tu' ex' m'/\FlowOK n l fl' tu' ex'/\TurnB n tu' ex' P'/\PBound J P' n ex' /\
  (∀v,at0 ex' v<=0)/\m.next<=m'.next/\∀id:Id,id.1<m.next->id≠(us,7,11)->id≠(us,11,15)->id≠(us,15,19)->m'.get id=m.get id:=by
 have hj0:=hS.j0
 have hj1:=hS.j1
 intro c
 induction c using Nat.strongRecOn with
 |ind c ih=>
  intro fl tu ex P m j fc hc hj hus hM hF hT hP
  obtain⟨j,rfl⟩:∃i,j=i+1:=⟨j-1,by omega⟩
  have hPl:=hP.le hj0
  obtain⟨n1,hn1,hI⟩:=w_IdxOwn (d+3) hs (id:=(us,15,19)) (l:=ex) (by rw[hM.exl];have:=hF.nn;omega) hM.x
  have pre:∀K,(sLt (I (xuu posP 0 ex)) (I 0)).bind (λt19=>xsk t19 (x70 (xsi (d+5)) hs u t1 (.ptr (us,21,25) 0 0) ⟨m.hp,n1⟩ (fc+8))
   ((xsi (d+5) hs x31 [.ptr (us,21,25) 0 0,I (xuu posP 0 ex)] ⟨m.hp,n1⟩).bind λp22=>x1r (xsi (d+5)) hs u j t1 (.ptr (us,21,25) 0 0) p22.2 (fc+11)))=K ->
   x1r (xsi (d+5)) hs u (j+1) t1 (.ptr (us,21,25) 0 0) m fc=K:=by
   intro K hK
   rw[<-hK]
   simp only[x1r]
   unfold xiz
   simp only[sNil,xsn,xtn,x1gl,xsv,hM.s,xt1,x1gd,xsr,x1g8,x1gr,rd_f]
   rw[hM.exl]at hI
   rw[hI]
   rfl
  have hM1:SolMem us n ev l fl tu ex ⟨m.hp,n1⟩:=hM.frame λ_ _=>rfl
  rcases x19h ex 0 with ⟨h1,h2⟩|⟨i,h1,h2,h3⟩
  .refine⟨⟨m.hp,n1⟩,fc+8,fl,tu,ex,P,?_,hM1,hF,hT,hP,h2,hn1,λ_ _ _ _ _=>rfl⟩
   refine pre _ ?_
   have h1:xuu posP 0 ex=-1:=h1
   rw[h1]
   simp
  .have hin:i<n:=by rw[<-hM.exl];exact h1
   rw[x1gl]at h2
   have h2:xuu posP 0 ex=(i:Nat):=h2
   have hb:=hF.exb hS
   obtain⟨to,ps,amt,p1,p2,p3,p4,p5,p6,p7,p8,p9,p10,p11,⟨P',p12,p13,p14⟩,p15⟩:=(push_ok hF hS hT (by omega) hin h3 (λv=>by have:=hb v;omega)).ex
   obtain⟨m2,w1,w2,w3,w4⟩:=w_push d hs (m:=⟨m.hp,n1⟩) (us:=us) (by show us<n1;omega) hM1 (hF.inn hS hT (by omega)) hev (fr:=(i:Nat)) (by omega) (by omega) rfl (to:=(to:Nat)) p1 (by omega) (by omega) (by omega) (by rw[x1gb];exact p4) p5 p6 p7 (amt:=amt) (by rw[x1gb,x1gb];exact p8) (by omega) p10
   simp only[x1gb]at w2
   have hps:posS n ((ex.set i (at0 ex i-amt)).set to (at0 ex to+amt))<c:=by have:=x11c n ((ex.set i (at0 ex i-amt)).set to (at0 ex to+amt));omega
   have w3:n1<=m2.next:=w3
   obtain⟨m',fc',fl',tu',ex',P'',r1,r2,r3,r4,r5,r6,r7,r8⟩:=ih (posS n ((ex.set i (at0 ex i-amt)).set to (at0 ex to+amt))).toNat (by have:=x11c n ((ex.set i (at0 ex i-amt)).set to (at0 ex to+amt));omega) _ _ _ P' m2 j (fc+11) (by have:=x11c n ((ex.set i (at0 ex i-amt)).set to (at0 ex to+amt));omega) (by have:=x11c n ((ex.set i (at0 ex i-amt)).set to (at0 ex to+amt));omega) (by omega) w2 p11 p14 (hP.push hj0 p12 p13 p15 p9)
   refine⟨m',fc',fl',tu',ex',P'',?_,r2,r3,r4,r5,r6,by omega,λid e0 e1 e2 e3=>?_⟩
   .refine pre _ ?_
    rw[h2,w1]
    simp only[xta,xsn]
    rw[x1ib (by omega),xup]
    exact r1
   .rw[r8 id (by omega) e1 e2 e3,w4 id (by show id.1<n1;omega) e1 e2 e3]
    rfl
theorem ex0_net{n:Nat}(v:Nat)(hv:v<n):∀(l:List Edge) (p:List Int),p.length=n->(∀e∈l,EdgeIn n e/\e.fr≠e.to)->at0 (l.foldl exUp p) v=at0 p v+netF v (l.zip (l.map f0M))
 |[],p,_,_=>by simp[netF]
 |e::r,p,hp,he=>by
  obtain⟨⟨f0,f1,t0,t1,-⟩,hne⟩:=he e (x1gf ..)
  have ih:=ex0_net v hv r (exUp p e) (by simp[exUp,hp]) (λx hx=>he x (x1ge _ hx))
  rw[x1ic,ih]
  simp only[x1gt,x1jo,netF]
  unfold exUp
  rw[xue (by simp;omega),xue (by omega)]
  by_cases c1:v=e.to.toNat
  .rw[x1g7 c1,x1g7 c1.symm,x1g6 (by omega),<-c1];omega
  .by_cases c2:v=e.fr.toNat
   .rw[x1g6 c1,x1g7 c2,x1g6 (by omega),x1g7 c2.symm,<-c2];omega
   .rw[x1g6 c1,x1g6 c2,x1g6 (by omega),x1g6 (by omega)];omega
theorem pos_net(n:Nat):∀z:List (Edge×Int),Ends n z->(∀x∈z,-20<=x.2/\x.2<=20)->sumN n (λv=>if 0<netF v z then netF v z else 0)<=40*(z.length:Int)
 |[],_,_=>by rw[x10a (λk _=>by simp[netF])];simp
 |x::r,he,h=>by
  have ih:=pos_net n r (λy hy=>he y (x1ge _ hy)) (λy hy=>h y (x1ge _ hy))
  have hx:=h x (x1gf ..)
  obtain⟨e1,e2⟩:=he x (x1gf ..)
  have:=sumN_le (n:=n) (g:=λv=>if 0<netF v (x::r)then netF v (x::r)else 0) (h:=λv=>(if 0<netF v r then netF v r else 0)+((if x.1.to.toNat=v then(λ_=>1) v*20 else 0)+(if x.1.fr.toNat=v then(λ_=>1) v*20 else 0))) (λv hv=>by
   simp only[netF]
   by_cases c1:x.1.to.toNat=v<;>by_cases c2:x.1.fr.toNat=v<;>simp only[c1,c2,x1gp,x1gu,Int.one_mul]<;>split<;>split<;>omega)
  rw[x11a,x11a,x11b e1,x11b e2]at this
  simp only[x1gq]
  omega
theorem start_ok{J:Int}{n:Nat}{l:List Edge}(hS:Slim J n l):FlowOK n l (l.map f0M) (List.replicate n 0) (ex0M n l)/\TurnB n (List.replicate n 0) (ex0M n l) 0/\PBound J 0 n (ex0M n l)/\posS n (ex0M n l)<=1000:=by
 have hz:∀k,at0 (List.replicate n 0) k=0:=λk=>x12c n k
 have hf:∀k,k<l.length->at0 (l.map f0M) k=f0M (edgeAt l k):=λk hk=>by
  rw[xt5 (by simpa using hk),xwc hk];simp
 have hx:∀k,exI (List.replicate n 0) (edgeAt l k)=(edgeAt l k).jump:=λk=>by unfold exI;rw[hz,hz];omega
 have hnn:=hS.nn
 have hll:=hS.ll
 have hj:=hS.j0
 have hF:FlowOK n l (l.map f0M) (List.replicate n 0) (ex0M n l):=by
  refine⟨by omega,by omega,hS.ed,by simp,by simp,x15a n l,λk hk=>?_,λk hk=>?_,λv hv=>?_⟩
  .obtain⟨⟨_,_,_,_,_,_,w0,w1⟩,_⟩:=xx8 hS.ed hk
   rw[hf k hk];unfold f0M
   split
   .omega
   .split<;>omega
  .obtain⟨⟨_,_,_,_,_,_,w0,w1⟩,_⟩:=xx8 hS.ed hk
   rw[hf k hk,hx k];unfold f0M
   split
   .omega
   .split<;>omega
  .have:=ex0_net v hv l (List.replicate n 0) (by simp) hS.ed
   unfold ex0M
   rw[this,hz];omega
 have hp:posS n (ex0M n l)<=680:=by
  unfold posS
  rw[x15c (λv hv=>by rw[hF.net v hv])]
  have:=pos_net n (l.zip (l.map f0M)) (x12v hS.ed (by simp)) (λx hx=>by
   obtain⟨k,hk,rfl⟩:=(xzb (by simp)).mp hx
   have h1:=hF.cap k hk
   have h2:=hS.jw (edgeAt l k) (by rw[xwc hk];exact x1go hk)
   simp only
   omega)
  have hl:(l.zip (l.map f0M)).length=l.length:=by simp
  omega
 refine⟨hF,⟨λv hv=>by rw[hz];omega,λv hv _=>hz v⟩,⟨by omega,?_⟩,by omega⟩
 have:0<=(J*12)*(1000-posS n (ex0M n l)):=x1le (by omega) (by omega)
 omega
theorem end_ok{n:Nat}{l:List Edge}{fl tu ex:List Int}(h:FlowOK n l fl tu ex)(hex:∀v,at0 ex v<=0):Feas n (l.zip fl)/\CS (at0 tu) (l.zip fl):=by
 have hE:=x12v h.ed h.fll
 have hs:=x12r n (λ_=>1) (l.zip fl) hE
 have hz:∀z:List (Edge×Int),z.foldr (λx s=>x.2*((λ_=>(1:Int)) x.1.to.toNat-(λ_=>(1:Int)) x.1.fr.toNat)+s) 0=0:=by
  intro z
  induction z with
  |nil=>rfl
  |cons x r ih=>rw[x1k8,ih];simp
 rw[hz]at hs
 have hneg:∀v,v<n->netF v (l.zip fl)<=0:=λv hv=>by rw[<-h.net v hv];exact hex v
 refine⟨⟨h.capz,λv hv=>?_,hE⟩,λx hx=>?_⟩
 .apply Classical.byContradiction
  intro hne
  have:=sumN_lt (n:=n) (g:=λv=>1*netF v (l.zip fl)) (h:=λ_=>0) (λk hk=>by have:=hneg k hk;omega) hv (by have:=hneg v hv;omega)
  rw[x10a (g:=λ_=>0) (λ_ _=>rfl)]at this
  omega
 .obtain⟨k,hk,rfl⟩:=(xzb h.fll).mp hx
  have:=h.cs k hk
  exact this
theorem x1cq{cs:List AV}{n:Nat}{x:Bool}{lo:Int}(h0:0<=lo)(h2:lo<=n)(hl:cs.length=n):xvk Tryz.prog x4 (.slit cs n x) (some (I lo)) none=some (.slit (cs.drop lo.toNat) (n-lo.toNat) x):=by
 obtain⟨i,e1,e2⟩:=x14j
 simp only[xvk,xtk,xt8,e1,asI,Option.getD_some,Option.getD_none,e2]
 rw[x1g7 ⟨h0,h2,x1ho _,by omega⟩,x1i4,x1i4,show((n:Int)-lo).toNat=n-lo.toNat by omega,x1gg (by simp;omega)]
 simp
def QRep(w:Nat)(m:Mem)(a:AV)(q:List Int):Prop:=
 a=.slit (q.flatMap intE) q.length true\/∃id ver off cs,w<=id.1/\a=.sref id ver off q.length 1 true/\m.get id=some (.row cs ver false)/\cs.drop off=q.flatMap intE/\off+q.length=cs.length
theorem QRep.frame{w:Nat}{m m':Mem}{a:AV}{q:List Int}(h:QRep w m a q)(hm:∀id:Id,w<=id.1->m'.get id=m.get id):QRep w m' a q:=by
 rcases h with h|⟨id,ver,off,cs,h1,h2,h3,h4⟩
 .exact Or.inl h
 .exact Or.inr ⟨id,ver,off,cs,h1,h2,by rw[hm id h1];exact h3,h4⟩
theorem QRep.one{w:Nat}{m:Mem}{a:AV}{q:List Int}(h:QRep w m a q):a.cells=[a]/\a.one=true:=by
 rcases h with rfl|⟨id,ver,off,cs,h1,rfl,h3,h4⟩<;>exact⟨rfl,rfl⟩
theorem QRep.len{w:Nat}{m:Mem}{a:AV}{q:List Int}(h:QRep w m a q):sLen Tryz.prog x4 a=some (I q.length):=by
 rcases h with rfl|⟨id,ver,off,cs,h1,rfl,h3,h4⟩<;>rfl
theorem QRep.head{w:Nat}{m:Mem}{a:AV}{x:Int}{q:List Int}(h:QRep w m a (x::q)):∃p,sIx 1 a (I 0)=some p/\sLd false 1 p m=some (I x):=by
 rcases h with rfl|⟨id,ver,off,cs,h1,rfl,h3,h4,h5⟩
 .refine⟨.plit ((x::q).flatMap intE),?_,rfl⟩
  have:=(Sl.lit (x::q) true (enc:=intE)).ixI xt2 (k:=0) (by omega) (by simp)
  simpa using this
 .refine⟨.ptr id ver off,by simp[sIx,asI],?_⟩
  rw[xsv,h3]
  simp only[xxj,x1gd,cond_true]
  rw[h4];rfl
theorem QRep.tail{w:Nat}{m:Mem}{a:AV}{x:Int}{q:List Int}(h:QRep w m a (x::q)):∃a',xvk Tryz.prog x4 a (some (I 1)) none=some a'/\QRep w m a' q:=by
 rcases h with rfl|⟨id,ver,off,cs,h1,rfl,h3,h4,h5⟩
 .refine⟨.slit (q.flatMap intE) q.length true,?_,Or.inl rfl⟩
  rw[x1cq (by omega) (by rw[x1gq];omega) (xvx _)]
  rfl
 .refine⟨.sref id ver (off+1) q.length 1 true,?_,Or.inr ⟨id,ver,off+1,cs,h1,rfl,h3,?_,by simp at h5;omega⟩⟩
  .rw[x183 (by omega) (by rw[x1gq];omega)]
   rfl
  .rw[<-x1lj,h4];rfl
theorem QRep.app{w:Nat}{m:Mem}{a:AV}{q:List Int}(h:QRep w m a q)(hq:q.length<=100000){id0:Id}(h0:w<=id0.1)(x:Int) :
 ∃a' m',(∀{R:Type} (k:AV->Mem->Option R),sApp 1 8 id0 (some (intE x,1)) a m k=k a' m')/\QRep w m' a' (q++[x])/\m'.next=m.next/\∀id:Id,id.1<w->m'.get id=m.get id:=by
 have hro:∀k,k<=100001->xt6 k 8:=λk hk=>by unfold xt6;omega
 have hl:=xvx q
 rcases h with rfl|⟨id,ver,off,cs,h1,rfl,h3,h4,h5⟩
 .refine⟨.sref id0 0 0 (q.length+1) 1 true,m.new id0 (.row (q.flatMap intE++intE x) 0 false),λk=>?_,Or.inr ⟨id0,0,0,q.flatMap intE++intE x,h0,by simp,by simp,by simp,by simp[hl,intE]⟩,rfl,λj hj=>?_⟩
  .simp only[sApp]
   rw[x1g7 (by omega),x1g6 (by omega),x1g7 (hro _ (by omega)),x1i4,x1gg (by omega)]
  .rw[Mem.get_new,x1g6 (by rintro rfl;omega)]
 .refine⟨.sref id (ver+1) 0 (q.length+1) 1 true,m.set id (.row (q.flatMap intE++intE x) (ver+1) false),λk=>?_,Or.inr ⟨id,ver+1,0,q.flatMap intE++intE x,h1,by simp,by simp,by simp,by simp[hl,intE]⟩,rfl,λj hj=>?_⟩
  .simp only[sApp,h3]
   rw[x1g7 ⟨trivial,trivial,by omega,hro _ (by omega)⟩,x1g6 (by omega),x1g6 (by omega),h4,x1gg (by omega)]
  .rw[Mem.get_set,x1g6 (by rintro rfl;omega)]
theorem QRep.tA{w:Nat}{m:Mem}{a:AV}{q:List Int}(h:QRep w m a q){id0:Id}(h0:w<=id0.1):∃id,Go.Ix.tA id0 a=some [id]/\w<=id.1:=by
 rcases h with rfl|⟨id,ver,off,cs,h1,rfl,h3,h4,h5⟩
 .exact⟨id0,rfl,h0⟩
 .exact⟨id,rfl,h1⟩
structure NumMem (u sL fq n:Nat) (out q:List Int) (g:Int) (m:Mem):Prop where
 t5:m.get (u,4,5)=some (.row [srL u sL n] 0 false)
 t6:m.get (u,6,6)=some (.row [I g] 0 false)
 o:m.get (u+1,sL,30)=some (.row (out.flatMap intE) 0 false)
 t8:∃a,m.get (u,fq,8)=some (.row [a] 0 false)/\QRep (u+2) m a q
 ol:out.length=n
 nx:u+1<m.next
def FrU(u sL fq:Nat)(m m':Mem):Prop:=∀id:Id,id.1<u+2->id≠(u+1,sL,30)->id≠(u,fq,8)->m'.get id=m.get id
def addM(g:Int)(s:List Int×List Int)(b:Int):List Int×List Int:=if at0 s.1 b.toNat<0 then(s.1.set b.toNat g,s.2++[b])else s
theorem a_add(d:Nat)(hs:FHs){u sL fq n:Nat}{out q:List Int}{g b:Int}{m:Mem}(h:NumMem u sL fq n out q g m)(hq:q.length<=100000)(b0:0<=b)(b1:b<n) :
 ∃m',xu2 (xsi (d+1)) hs 2 (.clo xp [.ptr (u,4,5) 0 0,.ptr (u,6,6) 0 0,.ptr (u,fq,8) 0 0]) [I b] m=some (.tup [],m') /\
  NumMem u sL fq n (addM g (out,q) b).1 (addM g (out,q) b).2 g m'/\m.next<=m'.next/\FrU u sL fq m m':=by
 obtain⟨t5,t6,o,⟨a,ta,hQ⟩,ol,nx⟩:=h
 obtain⟨m0,hm0⟩:∃m0:Mem,m0=⟨m.hp,m.next+1⟩:=⟨_,rfl⟩
 have g0:∀id,m0.get id=m.get id:=λ_=>by rw[hm0];rfl
 have hb:b.toNat<out.length:=by omega
 have ib:sIx 1 (srL u sL n) (I b)=some (.ptr (u+1,sL,30) 0 b.toNat):=xtu b0 b1
 have e0:xu2 (xsi (d+1)) hs 2 (.clo xp [.ptr (u,4,5) 0 0,.ptr (u,6,6) 0 0,.ptr (u,fq,8) 0 0]) [I b] m=x6h (xsi d) hs m.next (I b) (.ptr (u,4,5) 0 0) (.ptr (u,6,6) 0 0) (.ptr (u,fq,8) 0 0) m0 0:=by
  show xsi (d+1) hs xp _ m=_
  rw[xox,hm0]
  rfl
 rw[e0]
 have G5:m0.get (u,4,5)=some (.row [srL u sL n] 0 false):=by rw[g0];exact t5
 have G6:m0.get (u,6,6)=some (.row [I g] 0 false):=by rw[g0];exact t6
 have GO:m0.get (u+1,sL,30)=some (.row (out.flatMap intE) 0 false):=by rw[g0];exact o
 have G8:m0.get (u,fq,8)=some (.row [a] 0 false):=by rw[g0];exact ta
 have hQ0:QRep (u+2) m0 a q:=hQ.frame λid _=>g0 id
 unfold addM
 simp only
 by_cases c:at0 out b.toNat<0
 .rw[x1g7 c]
  obtain⟨m1,hm1⟩:∃m1,m1=m0.set (u+1,sL,30) (.row ((out.set b.toNat g).flatMap intE) 0 false):=⟨_,rfl⟩
  have q1:∀id:Id,id≠(u+1,sL,30)->m1.get id=m0.get id:=λid hid=>by rw[hm1,Mem.get_set,x1g6 hid]
  have hQ1:QRep (u+2) m1 a q:=hQ0.frame λid hid=>q1 id (by rintro rfl;simp at hid)
  obtain⟨a',m2,A,hQ2,n2,q2⟩:=hQ1.app hq (id0:=(m.next,13,17)) (by show u+2<=m.next;omega) b
  obtain⟨idA,tA1,tA2⟩:=hQ1.tA (id0:=(m.next,13,17)) (by show u+2<=m.next;omega)
  obtain⟨c1,c2⟩:=hQ2.one
  obtain⟨m3,hm3⟩:∃m3,m3=m2.set (u,fq,8) (.row [a'] 0 false):=⟨_,rfl⟩
  have q3:∀id:Id,id≠(u,fq,8)->m3.get id=m2.get id:=λid hid=>by rw[hm3,Mem.get_set,x1g6 hid]
  refine⟨m3,?_,⟨?_,?_,?_,⟨a',by rw[hm3];simp,hQ2.frame λid hid=>q3 id (by rintro rfl;have:u+2<=u:=hid;omega)⟩,by simp[ol],?_⟩,?_,λid h1 h2 h3=>?_⟩
  .unfold x6h
   have H8:m1.get (u,fq,8)=some (.row [a] 0 false):=by rw[q1 _ (by simp)];exact G8
   have H82:m2.get (u,fq,8)=some (.row [a] 0 false):=by rw[q2 _ (by simp)];exact H8
   have hel:∀M:Mem,elems M.get 1 (.slit [I b] 1 true)=some (intE b,1):=λ_=>rfl
   have hst:xui 1 0 0 a' (some (.row [a] 0 false))=some (.row [a'] 0 false):=by
    rw[xz1,c1];simp[c2]
   simp only[xsv,G5,G6,GO,xt1,x1gd,xsr,x1g8,rd_f,xsn,ib,xun hb,xta,c,x1gm,xt9,xtp]
   rw[xvf hb]
   simp only[xsn]
   rw[<-hm1]
   simp only[xsv,H8,xt1,x1gd,xsr,x1g8,rd_f,xsn,xu3,xwn,hel,A,xtp,H82,hst]
   rw[<-hm3]
  .rw[q3 _ (by simp),q2 _ (by simp),q1 _ (by simp)];exact G5
  .rw[q3 _ (by simp),q2 _ (by simp),q1 _ (by simp)];exact G6
  .rw[q3 _ (by simp),q2 _ (by simp),hm1];simp
  .rw[hm3,Mem.next_set,n2,hm1,Mem.next_set,hm0];simp only;omega
  .rw[hm3,Mem.next_set,n2,hm1,Mem.next_set,hm0];simp only;omega
  .rw[q3 id h3,q2 id h1,q1 id h2,g0]
 .rw[x1g6 c]
  refine⟨m0,?_,⟨G5,G6,GO,⟨a,G8,hQ0⟩,ol,by rw[hm0];simp only;omega⟩,by rw[hm0];simp only;omega,λid _ _ _=>g0 id⟩
  unfold x6h
  simp only[xsv,G5,G6,GO,xt1,x1gd,xsr,x1g8,rd_f,xsn,ib,xun hb,xta,c,x1h9,xup]
def xub(g:Int)(bs:List Int)(s:List Int×List Int):List Int×List Int:=bs.foldl (addM g) s
def bfsM(nb:Nat->List Int)(g:Int):Nat->List Int×List Int->List Int
 |0,s=>s.1
 |f+1,s=>match s.2 with
  |[]=>s.1
  |a::q=>bfsM nb g f (xub g (nb a.toNat) (s.1,q))
def xvo(nb:Nat->List Int)(s:List Int×Int)(r:Nat):List Int×Int:=if 0<=at0 s.1 r then s else(bfsM nb s.2 NN (s.1.set r s.2,[(r:Int)]),s.2+1)
def numM(n:Nat)(nb:Nat->List Int):List Int×Int:=(List.range n).foldl (xvo nb) (List.replicate n (-1),0)
def negC:List Int->Nat
 |[]=>0
 |x::r=>(if x<0 then 1 else 0)+negC r
theorem x15d:∀{l:List Int} {k:Nat} {g:Int},k<l.length->at0 l k<0->0<=g->negC (l.set k g)+1=negC l
 |[],k,g,h,_,_=>by simp at h
 |x::r,0,g,h,hx,hg=>by
  have hx:x<0:=hx
  have:¬g<0:=by omega
  simp[negC,hx,this];omega
 |x::r,k+1,g,h,hx,hg=>by
  have:=x15d (l:=r) (k:=k) (g:=g) (by simpa using h) hx hg
  simp only[x1jy,negC];omega
theorem x15e:∀l:List Int,negC l<=l.length
 |[]=>x1ga _
 |x::r=>by have:=x15e r;simp only[negC,x1gq];split<;>omega
structure StOK (n:Nat) (s:List Int×List Int):Prop where
 l:s.1.length=n
 q:∀a∈s.2,0<=a/\a<n
theorem addM_ok{n:Nat}{g b:Int}{s:List Int×List Int}(h:StOK n s)(hg:0<=g)(b0:0<=b)(b1:b<n):StOK n (addM g s b)/\negC (addM g s b).1+(addM g s b).2.length=negC s.1+s.2.length:=by
 unfold addM
 by_cases c:at0 s.1 b.toNat<0
 .rw[x1g7 c]
  refine⟨⟨by simp[h.l],λa ha=>?_⟩,?_⟩
  .rcases x1h2.mp ha with ha|ha
   .exact h.q a ha
   .rw[x1hk]at ha;subst ha;exact⟨b0,b1⟩
  .have:=x15d (l:=s.1) (k:=b.toNat) (g:=g) (by rw[h.l];omega) c hg
   simp only[x1hu,x1ks];omega
 .rw[x1g6 c];exact⟨h,rfl⟩
theorem x11d{n:Nat}{g:Int}(hg:0<=g):∀(bs:List Int) (s:List Int×List Int),StOK n s->(∀b∈bs,0<=b/\b<n)->StOK n (xub g bs s)/\negC (xub g bs s).1+(xub g bs s).2.length=negC s.1+s.2.length
 |[],s,h,_=>⟨h,rfl⟩
 |b::bs,s,h,hb=>by
  obtain⟨b0,b1⟩:=hb b (x1gf ..)
  obtain⟨h1,h2⟩:=addM_ok h hg b0 b1
  obtain⟨h3,h4⟩:=x11d hg bs (addM g s b) h1 (λx hx=>hb x (x1ge _ hx))
  exact⟨h3,h4.trans h2⟩
def x12w(call:xsj)(f:AV)(n:Nat)(nb:Nat->List Int)(u:Nat)(C:Mem->Prop):Prop:=
 ∀(hs:FHs) (sL fq:Nat) (out q:List Int) (g:Int) (a:Nat) (m:Mem),a<n->C m->NumMem u sL fq n out q g m->0<=g->StOK n (out,q)->negC out+q.length<=n ->
  ∃x m',xu2 call hs 2 f [I a,.clo xp [.ptr (u,4,5) 0 0,.ptr (u,6,6) 0 0,.ptr (u,fq,8) 0 0]] m=some (x,m') /\
   NumMem u sL fq n (xub g (nb a) (out,q)).1 (xub g (nb a) (out,q)).2 g m'/\m.next<=m'.next/\FrU u sL fq m m'
theorem l_queue(d:Nat)(hs:FHs){u sL fq n:Nat}{nb:Nat->List Int}{f:AV}{C:Mem->Prop}(hf:x12w (xsi d) f n nb u C)(hC:∀m m',C m->(∀id:Id,id.1<u->m'.get id=m.get id)->C m')(hnb:∀a,a<n->∀b∈nb a,0<=b/\b<n)(rec0:AV->AV->AV->AV->AV->Mem->Nat->Option (AV×Mem))(t14 t15:AV){g:Int}(hg:0<=g):∀(c:Nat) (out q:List Int) (j F:Nat) (m:Mem) (fc:Nat),negC out+q.length=c->c<=n->c<j->c<F->C m->NumMem u sL fq n out q g m->StOK n (out,q) ->
 ∃m' fc',x3u (xsi d) hs u rec0 j f (.ptr (u,4,5) 0 0) (.ptr (u,6,6) 0 0) (.ptr (u,fq,8) 0 0) t14 t15 m fc=xcq (xsi d) hs u rec0 f (.ptr (u,4,5) 0 0) (.ptr (u,6,6) 0 0) t14 t15 m' fc'/\fc<=fc' /\
  NumMem u sL fq n (bfsM nb g F (out,q)) [] g m'/\m.next<=m'.next/\FrU u sL fq m m':=by
 intro c
 induction c with
 |zero=>
  intro out q j F m fc hc hn hj hF hCm hM hO
  obtain⟨j,rfl⟩:∃i,j=i+1:=⟨j-1,by omega⟩
  obtain⟨F,rfl⟩:∃i,F=i+1:=⟨F-1,by omega⟩
  have hq:q=[]:=x1hv.mp (by omega)
  subst hq
  obtain⟨a,ta,hQ⟩:=hM.t8
  refine⟨m,fc+3,?_,by omega,hM,x1ga _,λ_ _ _ _=>rfl⟩
  simp only[x3u]
  unfold x7e
  simp only[xsv,ta,xt1,x1gd,xsr,x1g8,rd_f,xsn,hQ.len]
  simp
 |succ c ih=>
  intro out q j F m fc hc hn hj hF hCm hM hO
  obtain⟨j,rfl⟩:∃i,j=i+1:=⟨j-1,by omega⟩
  obtain⟨F,rfl⟩:∃i,F=i+1:=⟨F-1,by omega⟩
  obtain⟨a,ta,hQ⟩:=hM.t8
  cases q with
  |nil=>
   refine⟨m,fc+3,?_,by omega,hM,x1ga _,λ_ _ _ _=>rfl⟩
   simp only[x3u]
   unfold x7e
   simp only[xsv,ta,xt1,x1gd,xsr,x1g8,rd_f,xsn,hQ.len]
   simp
  |cons x q=>
   obtain⟨x0,x1⟩:=hO.q x (x1gf ..)
   obtain⟨xn,rfl⟩:∃xn:Nat,x=xn:=⟨x.toNat,by omega⟩
   have hxn:xn<n:=by omega
   obtain⟨p,hp1,hp2⟩:=hQ.head
   obtain⟨a',ha1,ha2⟩:=hQ.tail
   obtain⟨c1,c2⟩:=ha2.one
   obtain⟨m1,hm1⟩:∃m1,m1=m.set (u,fq,8) (.row [a'] 0 false):=⟨_,rfl⟩
   have q1:∀id:Id,id≠(u,fq,8)->m1.get id=m.get id:=λid hid=>by rw[hm1,Mem.get_set,x1g6 hid]
   have hM1:NumMem u sL fq n out q g m1:=⟨by rw[q1 _ (by simp)];exact hM.t5,by rw[q1 _ (by simp)];exact hM.t6,by rw[q1 _ (by simp)];exact hM.o,⟨a',by rw[hm1];simp,ha2.frame λid hid=>q1 id (by rintro rfl;have:u+2<=u:=hid;omega)⟩,hM.ol,by rw[hm1];exact hM.nx⟩
   have hO1:StOK n (out,q):=⟨hO.l,λb hb=>hO.q b (x1ge _ hb)⟩
   obtain⟨z,m2,e1,e2,e3,e4⟩:=hf hs sL fq out q g xn m1 hxn (hC m m1 hCm (λid hid=>q1 id (by rintro rfl;simp at hid))) hM1 hg hO1 (by simp only[x1gq]at hc;omega)
   obtain⟨o1,o2⟩:=x11d hg (nb xn) (out,q) hO1 (hnb xn hxn)
   simp only at o2
   obtain⟨m',fc',r1,r0,r2,r3,r4⟩:=ih (xub g (nb xn) (out,q)).1 (xub g (nb xn) (out,q)).2 j F m2 (fc+14) (by simp only[x1gq]at hc;omega) (by omega) (by omega) (by omega)
    (hC m m2 hCm (λid hid=>by rw[e4 id (by omega) (by rintro rfl;have:u+1<u:=hid;omega) (by rintro rfl;simp at hid),q1 id (by rintro rfl;simp at hid)])) e2 o1
   refine⟨m',fc',?_,by omega,?_,by rw[hm1,Mem.next_set]at e3;omega,λid h1 h2 h3=>by rw[r4 id h1 h2 h3,e4 id h1 h2 h3,q1 id h3]⟩
   .rw[<-r1]
    simp only[x3u]
    unfold x7e
    have hst:xui 1 0 0 a' (some (.row [a] 0 false))=some (.row [a'] 0 false):=by
     rw[xz1,c1];simp[c2]
    have hpos:(0:Int)<((((xn:Int)::q).length:Nat):Int):=by rw[x1gq];omega
    simp only[xsv,ta,xt1,x1gd,xsr,x1g8,rd_f,xsn,hQ.len,xxh,hpos,x1gm,xt9,hp1,hp2,ha1,xtp,hst]
    rw[<-hm1]
    simp only[e1,xsn]
   .have:bfsM nb g (F+1) (out,(xn:Int)::q)=bfsM nb g F (xub g (nb xn) (out,q)):=by
     simp only[bfsM,x1gb]
    rw[this]
    exact r2
structure NumBase (u sL n:Nat) (out:List Int) (g:Int) (m:Mem):Prop where
 t5:m.get (u,4,5)=some (.row [srL u sL n] 0 false)
 t6:m.get (u,6,6)=some (.row [I g] 0 false)
 o:m.get (u+1,sL,30)=some (.row (out.flatMap intE) 0 false)
 ol:out.length=n
 nx:u+1<m.next
theorem bfs_len{n:Nat}{nb:Nat->List Int}{g:Int}(hg:0<=g)(hnb:∀a,a<n->∀b∈nb a,0<=b/\b<n):∀(F:Nat) (s:List Int×List Int),StOK n s->(bfsM nb g F s).length=n
 |0,s,h=>h.l
 |F+1,s,h=>by
  obtain⟨out,q⟩:=s
  cases q with
  |nil=>exact h.l
  |cons a q=>
   simp only[bfsM]
   have ha:=h.q a (x1gf ..)
   exact bfs_len hg hnb F _ (x11d hg (nb a.toNat) (out,q) ⟨h.l,λb hb=>h.q b (x1ge _ hb)⟩ (hnb _ (by omega))).1
theorem l_roots(d:Nat)(hs:FHs){u sL n:Nat}{nb:Nat->List Int}{f:AV}{C:Mem->Prop}(hn:n<=200)(hf:x12w (xsi d) f n nb u C)(hC:∀m m',C m->(∀id:Id,id.1<u->m'.get id=m.get id)->C m')(hnb:∀a,a<n->∀b∈nb a,0<=b/\b<n) :
 ∀(s k j:Nat) (out:List Int) (g:Int) (m:Mem) (fc:Nat),k+s=n->s<j->0<=g->g<=k->C m->NumBase u sL n out g m ->
 ∃m',x20 (xsi d) hs u j f (.ptr (u,4,5) 0 0) (.ptr (u,6,6) 0 0) (I n) (I k) m fc=some (srL u sL n,m') /\
  NumBase u sL n ((List.range' k s).foldl (xvo nb) (out,g)).1 ((List.range' k s).foldl (xvo nb) (out,g)).2 m'/\m.next<=m'.next/\∀id:Id,id.1<u->m'.get id=m.get id:=by
 intro s
 induction s with
 |zero=>
  intro k j out g m fc hk hj hg hgk hCm hM
  obtain⟨j,rfl⟩:∃i,j=i+1:=⟨j-1,by omega⟩
  have hkn:k=n:=by omega
  subst hkn
  refine⟨m,?_,hM,x1ga _,λ_ _=>rfl⟩
  simp only[x20]
  unfold x7f xkq
  simp[hM.t5]
 |succ s ih=>
  intro k j out g m fc hk hj hg hgk hCm hM
  obtain⟨j,rfl⟩:∃i,j=i+1:=⟨j-1,by omega⟩
  have hkn:k<n:=by omega
  have hk':(k:Int)<(n:Int):=by omega
  have hko:k<out.length:=by rw[hM.ol];exact hkn
  have ik:sIx 1 (srL u sL n) (I k)=some (.ptr (u+1,sL,30) 0 k):=by simpa using xtu (id:=(u+1,sL,30)) (n:=n) (k:=(k:Int)) (by omega) hk'
  have e0:(List.range' k (s+1)).foldl (xvo nb) (out,g)=(List.range' (k+1) s).foldl (xvo nb) (xvo nb (out,g) k):=by rw[List.range'_succ];rfl
  rw[e0]
  by_cases c:0<=at0 out k
  .have e1:xvo nb (out,g) k=(out,g):=by unfold xvo;rw[x1g7 c]
   rw[e1]
   obtain⟨m',r1,r2,r3,r4⟩:=ih (k+1) j out g m (fc+1+7+2) (by omega) (by omega) hg (by omega) hCm hM
   refine⟨m',?_,r2,r3,r4⟩
   rw[<-r1]
   simp only[x20]
   unfold x7f xcr x7d
   simp(disch:=omega)only[xta,xsn,hk',x1gm,xt9,xsv,hM.t5,hM.o,xt1,x1gd,xsr,x1g8,rd_f,ik,xun hko,sGe_I,c,xux,xso]
   rfl
  .have e1:xvo nb (out,g) k=(bfsM nb g NN (out.set k g,[(k:Int)]),g+1):=by unfold xvo;rw[x1g6 c]
   rw[e1]
   obtain⟨m1,hm1⟩:∃m1,m1=m.set (u+1,sL,30) (.row ((out.set k g).flatMap intE) 0 false):=⟨_,rfl⟩
   obtain⟨m2,hm2⟩:∃m2,m2=(m1.new (u,fc+1+14,8) (.row [nilS] 0 false)).set (u,fc+1+14,8) (.row [.slit [I (k:Int)] 1 true] 0 false):=⟨_,rfl⟩
   have q2:∀id:Id,id≠(u,fc+1+14,8)->id≠(u+1,sL,30)->m2.get id=m.get id:=λid h1 h2=>by rw[hm2,Mem.get_set,x1g6 h1,Mem.get_new,x1g6 h1,hm1,Mem.get_set,x1g6 h2]
   have hM2:NumMem u sL (fc+1+14) n (out.set k g) [(k:Int)] g m2:=by
    refine⟨by rw[q2 _ (by simp) (by simp)];exact hM.t5,by rw[q2 _ (by simp) (by simp)];exact hM.t6,?_,⟨_,by rw[hm2];simp;rfl,Or.inl rfl⟩,by simp[hM.ol],by rw[hm2,hm1];exact hM.nx⟩
    rw[hm2,Mem.get_set,x1g6 (by simp),Mem.get_new,x1g6 (by simp),hm1];simp
   have hng:=x15d hko (by omega) hg
   have hnl:=x15e out
   rw[hM.ol]at hnl
   have hO:StOK n (out.set k g,[(k:Int)]):=⟨by simp[hM.ol],λa ha=>by rw[x1hk]at ha;subst ha;omega⟩
   obtain⟨m3,fc3,r1,r0,r2,r3,r4⟩:=l_queue d hs hf hC hnb (x20 (xsi d) hs u j) (I n) (I k) hg (negC (out.set k g)+1) (out.set k g) [(k:Int)] NN NN m2 (fc+1+16) rfl (by omega) (by rw[xsu];omega) (by rw[xsu];omega)
    (hC m m2 hCm (λid hid=>q2 id (by rintro rfl;simp at hid) (by rintro rfl;have:u+1<u:=hid;omega))) hM2 hO
   obtain⟨m4,hm4⟩:∃m4,m4=m3.set (u,6,6) (.row [I (g+1)] 0 false):=⟨_,rfl⟩
   have q4:∀id:Id,id≠(u,6,6)->m4.get id=m3.get id:=λid hid=>by rw[hm4,Mem.get_set,x1g6 hid]
   have hM4:NumBase u sL n (bfsM nb g NN (out.set k g,[(k:Int)])) (g+1) m4:=⟨by rw[q4 _ (by simp)];exact r2.t5,by rw[hm4];simp,by rw[q4 _ (by simp)];exact r2.o,bfs_len hg hnb NN _ hO,by rw[hm4];exact r2.nx⟩
   have low:∀id:Id,id.1<u->m4.get id=m.get id:=λid hid=>by
    rw[q4 id (by rintro rfl;simp at hid),r4 id (by omega) (by rintro rfl;have:u+1<u:=hid;omega) (by rintro rfl;simp at hid),q2 id (by rintro rfl;simp at hid) (by rintro rfl;have:u+1<u:=hid;omega)]
   obtain⟨m',s1,s2,s3,s4⟩:=ih (k+1) j _ (g+1) m4 (fc3+3+2) (by omega) (by omega) (by omega) (by omega) (hC m m4 hCm low) hM4
   refine⟨m',?_,s2,?_,λid hid=>by rw[s4 id hid,low id hid]⟩
   .rw[<-s1]
    simp only[x20]
    unfold x7f xcr
    have hz:xw=[nilS]:=x12n
    simp(disch:=omega)only[xta,xsn,hk',x1gm,xt9,xsv,hM.t5,hM.t6,hM.o,xt1,x1gd,xsr,x1g8,rd_f,ik,xun hko,sGe_I,c,x1h9,xup,xtp]
    rw[xvf hko]
    simp only[xsn]
    rw[<-hm1]
    simp only[xu3,hz,xwn,xvs,xtp,Mem.get_new,x1gp]
    have hst:xui 1 0 0 (.slit [I (k:Int)] 1 true) (some (.row [nilS] 0 false))=some (.row [.slit [I (k:Int)] 1 true] 0 false):=by
     rw[xz1];simp[AV.one]
    rw[hst]
    simp only[xsn]
    rw[<-hm2,r1]
    unfold xcq x7d
    simp(disch:=omega)only[xsv,r2.t6,xt1,x1gd,xsr,x1g8,rd_f,xsn,xux,xso,xtp,xz1]
    rw[x1h6 (by exact⟨rfl,rfl⟩)]
    simp only[xsr,xsn]
    rw[show(I (g+1)).cells=[I (g+1)]from rfl,<-hm4]
    rfl
   .rw[hm4,Mem.next_set]at s3
    have:m2.next=m.next:=by rw[hm2,hm1];rfl
    omega
theorem x1cr(d:Nat)(hs:FHs){n:Nat}{nb:Nat->List Int}{f:AV}{C:Mem->Prop}(hn:n<=200){m:Mem}(hf:x12w (xsi (d+3)) f n nb m.next C)(hC:∀m1 m',C m1->(∀id:Id,id.1<m.next->m'.get id=m1.get id)->C m')(hnb:∀a,a<n->∀b∈nb a,0<=b/\b<n)(hCm:C m) :
 ∃sL m',xsi (d+4) hs x4u [I n,f] m=some (srL m.next sL n,m')/\m'.get (m.next+1,sL,30)=some (.row ((numM n nb).1.flatMap intE) 0 false)/\(numM n nb).1.length=n/\m.next<=m'.next/\∀id:Id,id.1<m.next->m'.get id=m.get id:=by
 obtain⟨u,hu⟩:∃u,u=m.next:=⟨_,rfl⟩
 rw[<-hu]at hf hC ⊢
 obtain⟨m0,hm0⟩:∃m0:Mem,m0=⟨m.hp,u+1⟩:=⟨_,rfl⟩
 have g0:∀id,m0.get id=m.get id:=λ_=>by rw[hm0];rfl
 obtain⟨sL,mR,hR,hRg,hRn⟩:=x18w d (u+1) (-1) hn
 obtain⟨m1,h1,n1,q1⟩:=xz4 (call:=xsi (d+3)) (f:=xv) (l:=[.slit [I (-1)] 1 true,I n]) (m:=m0) (m':=mR) (r:=.sref (u+1,sL,30) 0 0 n 1 true) rfl (by rw[hm0];exact hR)
 obtain⟨m2,hm2⟩:∃m2,m2=(m1.new (u,4,5) (.row [nilS] 0 false)).set (u,4,5) (.row [srL u sL n] 0 false):=⟨_,rfl⟩
 obtain⟨m3,hm3⟩:∃m3,m3=(m2.new (u,6,6) (.row [I 0] 0 false)).set (u,6,6) (.row [I 0] 0 false):=⟨_,rfl⟩
 have q2:∀id:Id,id≠(u,4,5)->m2.get id=m1.get id:=λid h=>by rw[hm2,Mem.get_set,x1g6 h,Mem.get_new,x1g6 h]
 have q3:∀id:Id,id≠(u,6,6)->m3.get id=m2.get id:=λid h=>by rw[hm3,Mem.get_set,x1g6 h,Mem.get_new,x1g6 h]
 have low:∀id:Id,id.1<u->m3.get id=m.get id:=λid h=>by
  rw[q3 id (by rintro rfl;simp at h),q2 id (by rintro rfl;simp at h),q1,x1g6 (by rw[hm0];show ¬(u+1<=id.1);omega),g0]
 have hB:NumBase u sL n (List.replicate n (-1)) 0 m3:=by
  refine⟨by rw[q3 _ (by simp),hm2];simp,by rw[hm3];simp,?_,by simp,?_⟩
  .rw[q3 _ (by simp),q2 _ (by simp),q1,x1g7 (by rw[hm0];exact x1ga _)];exact hRg
  .rw[hm3,Mem.next_set,Mem.next_new,hm2,Mem.next_set,Mem.next_new,n1,hRn];omega
 obtain⟨m',r1,r2,r3,r4⟩:=l_roots (d+3) hs hn hf hC hnb n 0 NN (List.replicate n (-1)) 0 m3 (8+3) (by omega) (by rw[xsu];omega) (by omega) (by omega) (hC m m3 hCm low) hB
 rw[<-List.range_eq_range']at r2
 refine⟨sL,m',?_,r2.o,r2.ol,?_,λid h=>by rw[r4 id h,low id h]⟩
 .rw[xom]
  unfold xfx xcs xkr
  have hz:xw=[nilS]:=x12n
  simp only
  rw[<-hu,<-hm0]
  have hst:xui 1 0 0 (srL u sL n) (some (.row [nilS] 0 false))=some (.row [srL u sL n] 0 false):=by
   rw[xz1];simp[AV.one]
  have hst2:xui 1 0 0 (I 0) (some (.row [I 0] 0 false))=some (.row [I 0] 0 false):=by
   rw[xz1,x1h6 ⟨rfl,rfl⟩];rfl
  simp only[xu3,hz,xwn,h1,xsn,xvs,xtp,Mem.get_new,x1gp,hst]
  rw[<-hm2]
  simp only[hst2,xsn]
  rw[<-hm3]
  have hlen:sLen Tryz.prog x4 (srL u sL n)=some (I n):=rfl
  simp only[xsv,hB.t5,xt1,x1gd,xsr,x1g8,rd_f,xsn,hlen]
  exact r1
 .have:m3.next=u+2:=by rw[hm3,Mem.next_set,Mem.next_new,hm2,Mem.next_set,Mem.next_new,n1,hRn]
  omega
def nearU(l:List Edge)(a:Int):List Int:=l.flatMap λe=>if 0<e.wt then(if e.fr=a then[e.to]else if e.to=a then[e.fr]else[])else[]
theorem x19i(l:List Edge)(e:Edge)(a:Int):nearU (l++[e]) a=nearU l a++(if 0<e.wt then(if e.fr=a then[e.to]else if e.to=a then[e.fr]else[])else[]):=by
 unfold nearU;simp
theorem x15f{n:Nat}{l:List Edge}(hed:∀e∈l,EdgeIn n e/\e.fr≠e.to){a b:Int}(h:b∈nearU l a):0<=b/\b<n:=by
 unfold nearU at h
 obtain⟨e,he,hb⟩:=x1hj.mp h
 obtain⟨⟨f0,f1,t0,t1,-⟩,-⟩:=hed e he
 split at hb
 .split at hb
  .rw[x1hk]at hb;omega
  .split at hb
   .rw[x1hk]at hb;omega
   .simp at hb
 .simp at hb
def okjd(u fc:Nat)(id:Id):Prop:=id.1=u/\(id.2.2=35\/id.2.2=44)/\id.2.1<fc
structure AtJ (u fc:Nat) (cells:List AV) (adj:Nat->List Int) (m:Mem):Prop where
 sh:∃ids:Nat->Id,(∀(v:Nat) (hv:v<cells.length),(cells[v]=nilS/\adj v=[])\/(∃ver,cells[v]=.sref (ids v) ver 0 (adj v).length 1 true/\m.get (ids v)=some (.row ((adj v).flatMap intE) ver false)/\okjd u fc (ids v)/\adj v≠[])) /\
  ∀v w,v<cells.length->w<cells.length->adj v≠[]->adj w≠[]->v≠w->ids v≠ids w
theorem AtJ.frame{u fc fc':Nat}{cells:List AV}{adj:Nat->List Int}{m m':Mem}(h:AtJ u fc cells adj m)(hm:∀id,okjd u fc id->m'.get id=m.get id)(hfc:fc<=fc'):AtJ u fc' cells adj m':=by
 obtain⟨ids,h1,h2⟩:=h.sh
 refine⟨ids,λv hv=>?_,h2⟩
 rcases h1 v hv with h|⟨ver,a,b,c,d⟩
 .exact Or.inl h
 .exact Or.inr ⟨ver,a,by rw[hm _ c];exact b,⟨c.1,c.2.1,by have:=c.2.2;omega⟩,d⟩
theorem AtJ.app{u fc fc':Nat}{cells:List AV}{adj:Nat->List Int}{m:Mem}(h:AtJ u fc cells adj m){v:Nat}(hv:v<cells.length)(x:Int){id0:Id}(h1:id0.1=u)(h2:id0.2.2=35\/id0.2.2=44)(h3:fc<=id0.2.1)(h4:id0.2.1<fc')(hr:(adj v).length<=100000) :
 ∃a' m' idA,(∀{R:Type} (k:AV->Mem->Option R),sApp 1 8 id0 (some (intE x,1)) cells[v] m k=k a' m')/\AtJ u fc' (cells.set v a') (λw=>if w=v then adj v++[x]else adj w) m'/\a'.cells=[a']/\a'.one=true/\m'.next=m.next/\(∀j:Id,¬okjd u fc' j->m'.get j=m.get j) /\
  tA id0 cells[v]=some [idA]/\(idA.2.2=35\/idA.2.2=44)/\idA.1=u:=by
 obtain⟨ids,e1,e2⟩:=h.sh
 have hro:∀k,k<=100001->xt6 k 8:=λk hk=>by unfold xt6;omega
 have others:∀(w:Nat) (hw:w<cells.length),((cells[w]=nilS/\adj w=[])\/(∃ver,cells[w]=.sref (ids w) ver 0 (adj w).length 1 true/\m.get (ids w)=some (.row ((adj w).flatMap intE) ver false)/\okjd u fc (ids w)/\adj w≠[])):=e1
 rcases e1 v hv with ⟨c1,c2⟩|⟨ver,c1,c2,c3,c4⟩
 ·
  refine⟨.sref id0 0 0 1 1 true,m.new id0 (.row (intE x) 0 false),id0,λk=>?_,⟨λw=>if w=v then id0 else ids w,λw hw=>?_,λw w' hw hw' n1 n2 hne=>?_⟩,rfl,rfl,rfl,λj hj=>?_,by rw[c1];rfl,h2,h1⟩
  .rw[c1]
   simp only[sApp]
   rw[x1g6 (by omega),x1g7 (hro 1 (by omega))]
  .simp only[x1iu]at hw
   by_cases hwv:w=v
   .subst hwv
    right
    refine⟨0,?_,?_,?_,by simp⟩
    .simp[c2]
    .simp[c2]
    .simp only[x1gp];exact⟨h1,h2,h4⟩
   .rw[x1jz (λe=>hwv e.symm)]
    simp only[x1g6 hwv]
    rcases others w hw with h|⟨ver,a,b,c,d⟩
    .exact Or.inl h
    .refine Or.inr ⟨ver,a,?_,⟨c.1,c.2.1,by have:=c.2.2;omega⟩,d⟩
     rw[Mem.get_new,x1g6 (by rintro e;rw[e]at c;have:=c.2.2;omega)];exact b
  .simp only[x1iu]at hw hw'
   by_cases hwv:w=v
   .have hwv':w'≠v:=by omega
    simp only[x1g7 hwv,x1g6 hwv']
    simp only[x1g6 hwv']at n2
    rcases others w' hw' with ⟨_,h⟩|⟨_,_,_,c,_⟩
    .exact absurd h n2
    .intro e;rw[<-e]at c;have:=c.2.2;omega
   .by_cases hwv':w'=v
    .simp only[x1g6 hwv,x1g7 hwv']
     simp only[x1g6 hwv]at n1
     rcases others w hw with ⟨_,h⟩|⟨_,_,_,c,_⟩
     .exact absurd h n1
     .intro e;rw[e]at c;have:=c.2.2;omega
    .simp only[x1g6 hwv,x1g6 hwv']at n1 n2 ⊢
     exact e2 w w' hw hw' n1 n2 hne
  .rw[Mem.get_new,x1g6 (by rintro rfl;exact hj ⟨h1,h2,h4⟩)]
 .have hl:=xvx (adj v)
  refine⟨.sref (ids v) (ver+1) 0 ((adj v).length+1) 1 true,m.set (ids v) (.row ((adj v).flatMap intE++intE x) (ver+1) false),ids v,λk=>?_,⟨ids,λw hw=>?_,λw w' hw hw' n1 n2 hne=>?_⟩,rfl,rfl,rfl,λj hj=>?_,by rw[c1];rfl,c3.2.1,c3.1⟩
  .rw[c1]
   simp only[sApp,c2]
   rw[x1g7 ⟨trivial,trivial,by omega,hro _ (by omega)⟩,x1g6 (by omega),x1g6 (by omega),x1g8,x1gg (by omega)]
  .simp only[x1iu]at hw
   by_cases hwv:w=v
   .subst hwv
    right
    refine⟨ver+1,by simp,by simp,⟨c3.1,c3.2.1,by have:=c3.2.2;omega⟩,by simp⟩
   .rw[x1jz (λe=>hwv e.symm)]
    simp only[x1g6 hwv]
    rcases others w hw with h|⟨ver',a,b,c,d⟩
    .exact Or.inl h
    .refine Or.inr ⟨ver',a,?_,⟨c.1,c.2.1,by have:=c.2.2;omega⟩,d⟩
     rw[Mem.get_set,x1g6 (e2 w v hw hv d c4 hwv)];exact b
  .simp only[x1iu]at hw hw'
   refine e2 w w' hw hw' ?_ ?_ hne
   .by_cases hwv:w=v
    .subst hwv;exact c4
    .simpa[hwv]using n1
   .by_cases hwv:w'=v
    .subst hwv;exact c4
    .simpa[hwv]using n2
  .rw[Mem.get_set,x1g6 (by rintro rfl;exact hj ⟨c3.1,c3.2.1,by have:=c3.2.2;omega⟩)]
structure PInv (fc n:Nat) (ev:AV) (l:List Edge) (k:Nat) (m:Mem):Prop where
 b:m.get (0,0,1)=some (.row [I n,ev] 0 false)
 t3:m.get (0,6,3)=some (.row [srI (0,5,9) n] 0 false)
 a:∃cells,m.get (0,5,9)=some (.row cells 0 false)/\cells.length=n/\AtJ 0 fc cells (λv=>nearU (l.take k) v) m
 nx:m.next=1
theorem x19j(l:List Edge)(a:Int):(nearU l a).length<=l.length:=by
 unfold nearU
 induction l with
 |nil=>simp
 |cons e r ih=>
  rw[x1gy,x1hu,x1gq]
  have:(if 0<e.wt then(if e.fr=a then[e.to]else if e.to=a then[e.fr]else[])else[]).length<=1:=by
   split
   .split
    .simp
    .split<;>simp
   .simp
  omega
theorem p_loop(d:Nat)(hs:FHs){n:Nat}{ev:AV}{l:List Edge}(hev:Sl Edge.c ev l)(hl:l.length<=600)(hn:n<=200)(hed:∀e∈l,EdgeIn n e/\e.fr≠e.to):∀(suf:List Edge) (k j:Nat) (m:Mem) (fc:Nat),l.drop k=suf->suf.length<j->k<=l.length->PInv fc n ev l k m ->
 ∃m' fc',x1w (xsi d) hs 0 j (.ptr (0,0,1) 0 0) (.ptr (0,6,3) 0 0) ev (I l.length) (I k) m fc=xbt (xsi d) hs 0 (.ptr (0,0,1) 0 0) (.ptr (0,6,3) 0 0) m' fc'/\(∃fc',PInv fc' n ev l l.length m'):=by
 intro suf
 induction suf with
 |nil=>
  intro k j m fc hd hj hk hi
  obtain⟨j,rfl⟩:∃i,j=i+1:=⟨j-1,by simp at hj;omega⟩
  have hke:k=l.length:=by have:=x1ha.mp hd;omega
  subst hke
  refine⟨m,fc+1,?_,fc,hi⟩
  simp only[x1w]
  unfold x77
  simp
 |cons e r ih=>
  intro k j m fc hd hj hk hi
  obtain⟨j,rfl⟩:∃i,j=i+1:=⟨j-1,by simp at hj;omega⟩
  obtain⟨hk,hke,hd⟩:=xul hd
  have hk':(k:Int)<(l.length:Int):=by omega
  have ix:=hev.ix Edge.len hk
  have ld:=xtz (m:=m) Edge.len (by omega) hk
  rw[hke]at ld
  obtain⟨⟨f0,f1,t0,t1,j0,j1,w0,w1⟩,hne⟩:=hed e (hke▸x1go hk)
  obtain⟨m1,hm1⟩:∃m1:Mem,m1=(m.new (0,fc+1+2,5) (.row [I 0,I 0,I 0,I 0] 0 false)).set (0,fc+1+2,5) (.row e.c 0 false):=⟨_,rfl⟩
  have q1:∀id:Id,id≠(0,fc+1+2,5)->m1.get id=m.get id:=λid hid=>by rw[hm1,Mem.get_set,x1g6 hid,Mem.get_new,x1g6 hid]
  have hE:m1.get (0,fc+1+2,5)=some (.row [I e.fr,I e.to,I e.jump,I e.wt] 0 false):=by rw[hm1];simp[Edge.c]
  have hn1:m1.next=m.next:=by rw[hm1];simp
  have htk:l.take (k+1)=l.take k++[e]:=by rw[x1gz hk,hke]
  obtain⟨cells,ha0,hcl,hA0⟩:=hi.a
  have g3:m1.get (0,6,3)=some (.row [srI (0,5,9) n] 0 false):=by rw[q1 _ (by simp)];exact hi.t3
  have ga:m1.get (0,5,9)=some (.row cells 0 false):=by rw[q1 _ (by simp)];exact ha0
  have hA1:AtJ 0 fc cells (λv=>nearU (l.take k) v) m1:=hA0.frame (λid hid=>q1 id (by rintro rfl;rcases hid.2.1 with h|h<;>simp at h)) (x1ga _)
  by_cases c:0<e.wt
  .have cfr:e.fr.toNat<cells.length:=by omega
   have cto:e.to.toNat<cells.length:=by omega
   have afr:sIx 1 (srI (0,5,9) n) (I e.fr)=some (.ptr (0,5,9) 0 e.fr.toNat):=xtu f0 f1
   have ato:sIx 1 (srI (0,5,9) n) (I e.to)=some (.ptr (0,5,9) 0 e.to.toNat):=xtu t0 t1
   have nl:∀v:Int,(nearU (l.take k) v).length<=600:=λv=>by have:=x19j (l.take k) v;simp at this;omega
   have hA2:AtJ 0 (fc+1+7) cells (λv=>nearU (l.take k) v) m1:=hA1.frame (λ_ _=>rfl) (by omega)
   obtain⟨a1,m4,id1,A1,AI1,c11,c12,n4,q4,tA1,ty1,iu1⟩:=hA2.app cfr e.to (id0:=(0,fc+1+21,35)) (fc':=fc+1+25) rfl (Or.inl rfl) (by simp only;omega) (by simp only;omega) (by have:=nl (e.fr.toNat:Int);omega)
   have e24:(cells.set e.fr.toNat a1)[e.to.toNat]'(by simpa using cto)=cells[e.to.toNat]:=by rw[x1jz (by omega)]
   obtain⟨a2,m6,id2,A2,AI2,c21,c22,n6,q6,tA2,ty2,iu2⟩:=AI1.app (v:=e.to.toNat) (by simpa using cto) e.fr (id0:=(0,fc+1+30,44)) (fc':=fc+1+35+2) rfl (Or.inr rfl) (by simp only;omega) (by simp only;omega) (by have h1:=nl (e.fr.toNat:Int);have h2:=nl (e.to.toNat:Int);show(if _ then _ else _:List Int).length<=_;split<;>first|(rw[x1hu,x1ks];omega)|exact x1hh h2 (by omega))
   rw[e24]at A2 tA2
   have nok:∀(s t g:Nat),t≠35->t≠44->¬okjd 0 g (0,s,t):=λs t g h1 h2 h=>by rcases h.2.1 with h|h<;>simp at h<;>omega
   have r4:∀(s t:Nat),t≠35->t≠44->m4.get (0,s,t)=m1.get (0,s,t):=λs t h1 h2=>q4 _ (nok s t _ h1 h2)
   have r6:∀(s t:Nat),t≠35->t≠44->m6.get (0,s,t)=m1.get (0,s,t):=λs t h1 h2=>by rw[q6 _ (nok s t _ h1 h2),r4 s t h1 h2]
   obtain⟨m7,hm7⟩:∃m7,m7=m6.set (0,5,9) (.row (cells.set e.fr.toNat a1) 0 false):=⟨_,rfl⟩
   obtain⟨m8,hm8⟩:∃m8,m8=m7.set (0,5,9) (.row ((cells.set e.fr.toNat a1).set e.to.toNat a2) 0 false):=⟨_,rfl⟩
   have q8:∀id:Id,id≠(0,5,9)->m8.get id=m6.get id:=λid hid=>by rw[hm8,Mem.get_set,x1g6 hid,hm7,Mem.get_set,x1g6 hid]
   obtain⟨m',fc',z1,z2⟩:=ih (k+1) j m8 (fc+1+35+2) hd (by simp at hj;omega) (by omega) ⟨by rw[q8 _ (by simp),r6 _ _ (by simp) (by simp),q1 _ (by simp)];exact hi.b,by rw[q8 _ (by simp),r6 _ _ (by simp) (by simp)];exact g3,
    ⟨(cells.set e.fr.toNat a1).set e.to.toNat a2,by rw[hm8];simp,by simp[hcl],by
      have hfe:(λv:Nat=>nearU (l.take (k+1)) (v:Int))=(λw:Nat=>if w=e.to.toNat then(if e.to.toNat=e.fr.toNat then nearU (l.take k) (e.fr.toNat:Int)++[e.to]else nearU (l.take k) (e.to.toNat:Int))++[e.fr]else if w=e.fr.toNat then nearU (l.take k) (e.fr.toNat:Int)++[e.to]else nearU (l.take k) (w:Int)):=by
       funext w
       rw[htk,x19i,x1g7 c]
       have hn':¬(e.to.toNat=e.fr.toNat):=by omega
       by_cases h1:w=e.to.toNat
       .rw[x1g7 h1,x1g6 hn',x1g6 (show ¬e.fr=(w:Int) by omega),x1g7 (show e.to=(w:Int) by omega),h1]
       .by_cases h2:w=e.fr.toNat
        .rw[x1g6 h1,x1g7 h2,x1g7 (show e.fr=(w:Int) by omega),h2]
        .rw[x1g6 h1,x1g6 h2,x1g6 (show ¬e.fr=(w:Int) by omega),x1g6 (show ¬e.to=(w:Int) by omega),x1hc]
      rw[hfe]
      exact AI2.frame (λid hid=>q8 id (by rintro rfl;rcases hid.2.1 with h|h<;>simp at h)) (x1ga _)⟩,
    by rw[hm8,hm7];simp only[Mem.next_set,n6,n4,hn1];exact hi.nx⟩
   refine⟨m',fc',?_,z2⟩
   rw[<-z1]
   simp only[x1w]
   unfold x77 xbu
   simp only[xy6]
   simp only[xta,xsn,hk',x1gm,xt9,ix,ld,xvs,xtp,Mem.get_new,x1gp,Edge.c,x145]
   rw[show([I e.fr,I e.to,I e.jump,I e.wt].all AV.one)=true from rfl]
   simp only[xsr,xsn]
   rw[show(m.new (0,fc+1+2,5) (.row [I 0,I 0,I 0,I 0] 0 false)).set (0,fc+1+2,5) (.row [I e.fr,I e.to,I e.jump,I e.wt] 0 false)=m1 from hm1.symm]
   have hel:∀(M:Mem) (x:Int),elems M.get 1 (.slit [I x] 1 true)=some (intE x,1):=λ_ _=>rfl
   have h4E:m4.get (0,fc+1+2,5)=some (.row [I e.fr,I e.to,I e.jump,I e.wt] 0 false):=by rw[r4 _ _ (by simp) (by simp)];exact hE
   have h43:m4.get (0,6,3)=some (.row [srI (0,5,9) n] 0 false):=by rw[r4 _ _ (by simp) (by simp)];exact g3
   have h4a:m4.get (0,5,9)=some (.row cells 0 false):=by rw[r4 _ _ (by simp) (by simp)];exact ga
   have h6a:m6.get (0,5,9)=some (.row cells 0 false):=by rw[r6 _ _ (by simp) (by simp)];exact ga
   simp only[xtn,xsn,x1gl,xsv,hE,g3,ga,xt1,x1gd,xsr,x1g8,x1gr,rd_f,xxh,c,x1gm,xt9,afr,ato,x108 cfr,xu3,xwn,hel,A1]
   simp only[xtn,xsn,x1gl,xsv,h4E,h43,h4a,xt1,x1gd,xsr,x1g8,x1gr,rd_f,afr,ato,x108 cto,xu3,xwn,hel,A2,xtp,h6a,x12q cfr c11 c12]
   rw[<-hm7]
   have h7a:m7.get (0,5,9)=some (.row (cells.set e.fr.toNat a1) 0 false):=by rw[hm7];simp
   have cto7:e.to.toNat<(cells.set e.fr.toNat a1).length:=by simpa using cto
   simp only[h7a,x12q cto7 c21 c22,xsn]
   rw[<-hm8]
   have ne1:∀s t:Nat,t≠35->t≠44->((0,s,t)=id1)=False:=λs t h1 h2=>eq_false (by rintro h;rw[<-h]at ty1;simp at ty1;omega)
   have ne2:∀s t:Nat,t≠35->t≠44->((0,s,t)=id2)=False:=λs t h1 h2=>eq_false (by rintro h;rw[<-h]at ty2;simp at ty2;omega)
   have ne3:(id1=(0,fc+1+29,43))=False:=eq_false (by rintro h;rw[h]at ty1;simp at ty1)
   simp[xsm,disj,tR,tS,tX,tA1,tA2,ne1,ne2,ne3]
   unfold x76
   simp(disch:=omega) [xux,xso]
  .obtain⟨m',fc',r1,r2⟩:=ih (k+1) j m1 (fc+1+7+2) hd (by simp at hj;omega) (by omega) ⟨by rw[q1 _ (by simp)];exact hi.b,g3,⟨cells,ga,hcl,by
    have:(λv:Nat=>nearU (l.take (k+1)) (v:Int))=λv:Nat=>nearU (l.take k) (v:Int):=by
     funext v;rw[htk,x19i,x1g6 c,x1hc]
    rw[this]
    exact hA1.frame (λ_ _=>rfl) (by omega)⟩,by rw[hn1];exact hi.nx⟩
   refine⟨m',fc',?_,r2⟩
   rw[<-r1]
   simp only[x1w]
   unfold x77 xbu
   simp only[xy6]
   simp(disch:=omega) [hk',ix,ld,Edge.c]
   rw[show(m.new (0,fc+1+2,5) (.row [I 0,I 0,I 0,I 0] 0 false)).set (0,fc+1+2,5) (.row [I e.fr,I e.to,I e.jump,I e.wt] 0 false)=m1 from hm1.symm]
   simp(disch:=omega) [hE,c,x76]
end Go.Ix
