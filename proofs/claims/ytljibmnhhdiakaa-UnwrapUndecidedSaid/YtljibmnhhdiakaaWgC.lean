import Derived.Test.YtljibmnhhdiakaaWgB
set_option linter.unusedSimpArgs false
set_option linter.unusedVariables false
namespace Go.Ix
open Go.Proofs
theorem fi_pos(d:Nat)(hs:FHs)(x:Int)(m:Mem):x1sj (x1qp (d+1)) hs 2 (.clo x2t []) [I x] m=some (B (decide (0<x)),⟨m.hp,m.next+1⟩):=by
 show x1qp (d+1) hs x2t [I x] m=_
 rw[xzz]
 unfold xdl xh3
 simp
abbrev posP:Int->Bool:=fun x=>decide (0<x)
theorem l_IdxOwn(d:Nat)(hs:FHs){id:Id}{l:List Int}(hl:l.length<1000000)(u:Nat):∀(suf:List Int) (k j:Nat) (m:Mem) (fc:Nat),l.drop k=suf->suf.length<j->m.get id=some (.row (l.flatMap intE) 0 false) ->
 ∃n,m.next<=n/\x1o (x1qp (d+1)) hs u j (srI id l.length) (.clo x2t []) (I l.length) (I k) m fc=some (I (x1su posP k suf),⟨m.hp,n⟩):=by
 intro suf
 induction suf with
 |nil=>
  intro k j m fc hd hj hg
  obtain⟨j,rfl⟩:∃i,j=i+1:=⟨j-1,by simp at hj;omega⟩
  have hk:¬((k:Int)<(l.length:Int)):=by have:=List.drop_eq_nil_iff.mp hd;omega
  refine⟨m.next,Nat.le_refl _,?_⟩
  simp only[x1o]
  unfold x6e
  simp[hk,x3d,x1su]
 |cons x r ih=>
  intro k j m fc hd hj hg
  obtain⟨j,rfl⟩:∃i,j=i+1:=⟨j-1,by simp at hj;omega⟩
  obtain⟨hk,hke,hd⟩:=x1sm hd
  have hk':(k:Int)<(l.length:Int):=by omega
  have ix:sIx 1 (srI id l.length) (I k)=some (.ptr id 0 k):=by simpa using x1re (id:=id) (n:=l.length) (k:=(k:Int)) (by omega) (by omega)
  have e1:at0 l k=x:=by rw[x1ri hk,hke]
  have h1:=fi_pos d hs x m
  obtain⟨n2,h3,h2⟩:=ih (k+1) j ⟨m.hp,m.next+1⟩ (fc+11) hd (by simp at hj;omega) hg
  simp only at h3
  by_cases c:0<x
  .refine⟨m.next+1,by omega,?_⟩
   simp only[x1o]
   unfold x6e
   simp only[x1s6,x1qt,hk',decide_true,x1ru,ix,x1qy,hg,x1r0,Nat.beq_refl,x1qw,x1s3 hk,e1,h1,c,x1su,posP]
  .refine⟨n2,by omega,?_⟩
   simp only[x1o]
   unfold x6e
   simp(disch:=omega)only[x1s6,x1qt,hk',decide_true,x1ru,ix,x1qy,hg,x1r0,Nat.beq_refl,x1qw,x1s3 hk,e1,h1,c,decide_false,x1sz,x1sl,x1rs,x1su,posP,x1z3]
   exact h2
theorem w_IdxOwn(d:Nat)(hs:FHs){id:Id}{l:List Int}(hl:l.length<1000000){m:Mem}(hg:m.get id=some (.row (l.flatMap intE) 0 false)):∃n,m.next<=n/\x1qp (d+2) hs x3o [srI id l.length,.clo x2t []] m=some (I (x1su posP 0 l),⟨m.hp,n⟩):=by
 obtain⟨n,h1,h'⟩:=l_IdxOwn d hs hl m.next l 0 NN ⟨m.hp,m.next+1⟩ 4 rfl (by rw[x1r6];omega) hg
 simp only at h1
 refine⟨n,by omega,?_⟩
 rw[xl3]
 unfold x9q xcl x9d
 have hlen:sLen Try.prog x5 (srI id l.length)=some (I l.length):=rfl
 simp only[hlen,x1qt]
 exact h'
theorem x260:∀(l:List Int) (k:Nat),(x1su posP k l=-1/\∀i,at0 l i<=0)\/(∃i,i<l.length/\x1su posP k l=((k+i:Nat):Int)/\0<at0 l i)
 |[],k=>Or.inl ⟨rfl,fun i=>by simp[at0]⟩
 |x::r,k=>by
  unfold x1su
  by_cases c:0<x
  .right
   exact⟨0,by simp,by simp[posP,c],by simpa[at0]using c⟩
  .simp only[posP,c,decide_false,x1z3]
   rcases x260 r (k+1)with ⟨h1,h2⟩|⟨i,h1,h2,h3⟩
   .left
    refine⟨by simpa using h1,fun i=>?_⟩
    cases i with
    |zero=>simp[at0];omega
    |succ i=>exact h2 i
   .right
    refine⟨i+1,by simpa using h1,?_,h3⟩
    have:((k:Int)+1)=((k+1:Nat):Int):=rfl
    rw[this,h2]
    congr 1;omega
theorem netF_in(v:Nat):∀z:List (Edge×Int),(∀x∈z,-20<=x.2/\x.2<=20)->-(40*(z.length:Int))<=netF v z/\netF v z<=40*(z.length:Int)
 |[],_=>by simp[netF]
 |x::r,h=>by
  have ih:=netF_in v r (fun y hy=>h y (List.mem_cons_of_mem _ hy))
  have hx:=h x (List.mem_cons_self ..)
  simp only[netF,List.length_cons]
  split<;>split<;>omega
theorem FlowOK.exb{J:Int}{n:Nat}{l:List Edge}{fl tu ex:List Int}(h:FlowOK n l fl tu ex)(hS:Slim J n l)(v:Nat):-680<=at0 ex v/\at0 ex v<=680:=by
 by_cases hv:v<n
 .rw[h.net v hv]
  have:=netF_in v (l.zip fl) (fun x hx=>by
   obtain⟨k,hk,rfl⟩:=(x1t0 h.fll).mp hx
   have h1:=h.cap k hk
   have h2:=hS.jw (edgeAt l k) (by rw[x1t9 hk];exact List.getElem_mem hk)
   simp only
   omega)
  have hl:=hS.ll
  have:(l.zip fl).length<=17:=by rw[List.length_zip];omega
  omega
 .have:at0 ex v=0:=by
   unfold at0
   rw[List.getD_eq_getElem?_getD,List.getElem?_eq_none (by rw[h.exl];omega)];rfl
  omega
theorem FlowOK.flb{n:Nat}{l:List Edge}{fl tu ex:List Int}(h:FlowOK n l fl tu ex)(k:Nat):-1000<=at0 fl k/\at0 fl k<=1000:=by
 by_cases hk:k<l.length
 .have:=h.cap k hk
  obtain⟨⟨_,_,_,_,_,_,w0,w1⟩,_⟩:=x1tw h.ed hk
  omega
 .have:at0 fl k=0:=by
   unfold at0
   rw[List.getD_eq_getElem?_getD,List.getElem?_eq_none (by rw[h.fll];omega)];rfl
  omega
theorem FlowOK.inn{J P:Int}{n:Nat}{l:List Edge}{fl tu ex:List Int}(h:FlowOK n l fl tu ex)(hS:Slim J n l)(hT:TurnB n tu ex P)(hP:P<=1000000):SolIn n l fl tu ex:=by
 refine⟨h.nn,h.ll,h.ed,h.flb,fun v=>?_,fun v=>by have:=h.exb hS v;omega⟩
 by_cases hv:v<n
 .have:=hT.b v hv;omega
 .have:at0 tu v=0:=by
   unfold at0
   rw[List.getD_eq_getElem?_getD,List.getElem?_eq_none (by rw[h.tul];omega)];rfl
  omega
def PBound(J P:Int)(n:Nat)(ex:List Int):Prop:=0<=P/\P<=(J*12)*(1000-posS n ex)
theorem PBound.le{J P:Int}{n:Nat}{ex:List Int}(h:PBound J P n ex)(h0:0<=J):P<=J*12000:=by
 have h1:=x1zb n ex
 have h2:(J*12)*(1000-posS n ex)<=(J*12)*1000:=Int.mul_le_mul_of_nonneg_left (by omega) (by omega)
 have:=h.2
 have e:J*12*1000=J*12000:=by rw[Int.mul_assoc];rfl
 omega
theorem PBound.push{J P P' amt:Int}{n:Nat}{ex ex':List Int}(h:PBound J P n ex)(h0:0<=J)(h1:P<=P')(h2:P'<=P+J*12)(h3:posS n ex'+amt=posS n ex)(h4:0<amt):PBound J P' n ex':=by
 refine⟨by have:=h.1;omega,?_⟩
 have h5:(J*12)*(1000-posS n ex+1)<=(J*12)*(1000-posS n ex'):=Int.mul_le_mul_of_nonneg_left (by omega) (by omega)
 rw[Int.mul_add,Int.mul_one]at h5
 have:=h.2
 omega
theorem l_solve(d:Nat)(hs:FHs){us n:Nat}{J:Int}{ev:AV}{l:List Edge}(hev:Sl Edge.c ev l)(hS:Slim J n l)(u:Nat)(t1:AV):∀(c:Nat) (fl tu ex:List Int) (P:Int) (m:Mem) (j fc:Nat),posS n ex<=c->c<j->us<m.next->SolMem us n ev l fl tu ex m->FlowOK n l fl tu ex->TurnB n tu ex P->PBound J P n ex ->
 ∃m' fc' fl' tu' ex' P',x21 (x1qp (d+5)) hs u j t1 (.ptr (us,21,25) 0 0) m fc=x35 (x1qp (d+5)) hs u t1 (.ptr (us,21,25) 0 0) m' fc'/\SolMem us n ev l fl' tu' ex' m'/\FlowOK n l fl' tu' ex'/\TurnB n tu' ex' P'/\PBound J P' n ex' /\
  (∀v,at0 ex' v<=0)/\m.next<=m'.next/\∀id:Id,id.1<m.next->id≠(us,7,11)->id≠(us,11,15)->id≠(us,15,19)->m'.get id=m.get id:=by
 have hj0:=hS.j0
 have hj1:=hS.j1
 intro c
 induction c using Nat.strongRecOn with
 |ind c ih=>
  intro fl tu ex P m j fc hc hj hus hM hF hT hP
  obtain⟨j,rfl⟩:∃i,j=i+1:=⟨j-1,by omega⟩
  have hPl:=hP.le hj0
  obtain⟨n1,hn1,hI⟩:=w_IdxOwn (d+3) hs (id:=(us,15,19)) (l:=ex) (by rw[hM.exl];have:=hF.nn;omega) hM.x
  have pre:∀K,(sLt (I (x1su posP 0 ex)) (I 0)).bind (fun t19=>x1qr t19 (x35 (x1qp (d+5)) hs u t1 (.ptr (us,21,25) 0 0) ⟨m.hp,n1⟩ (fc+8))
   ((x1qp (d+5) hs x5p [.ptr (us,21,25) 0 0,I (x1su posP 0 ex)] ⟨m.hp,n1⟩).bind fun p22=>x21 (x1qp (d+5)) hs u j t1 (.ptr (us,21,25) 0 0) p22.2 (fc+11)))=K ->
   x21 (x1qp (d+5)) hs u (j+1) t1 (.ptr (us,21,25) 0 0) m fc=K:=by
   intro K hK
   rw[<-hK]
   simp only[x21]
   unfold xg9
   simp only[sNil,x1qt,x1rh,Nat.zero_add,x1qy,hM.s,x1r0,Nat.beq_refl,x1qw,List.drop_zero,List.drop_succ_cons,rd_f]
   rw[hM.exl]at hI
   rw[hI]
   rfl
  have hM1:SolMem us n ev l fl tu ex ⟨m.hp,n1⟩:=hM.frame fun _ _=>rfl
  rcases x260 ex 0 with ⟨h1,h2⟩|⟨i,h1,h2,h3⟩
  .refine⟨⟨m.hp,n1⟩,fc+8,fl,tu,ex,P,?_,hM1,hF,hT,hP,h2,hn1,fun _ _ _ _ _=>rfl⟩
   refine pre _ ?_
   have h1:x1su posP 0 ex=-1:=h1
   rw[h1]
   simp
  .have hin:i<n:=by rw[<-hM.exl];exact h1
   rw[Nat.zero_add]at h2
   have h2:x1su posP 0 ex=(i:Nat):=h2
   have hb:=hF.exb hS
   obtain⟨to,ps,amt,p1,p2,p3,p4,p5,p6,p7,p8,p9,p10,p11,⟨P',p12,p13,p14⟩,p15⟩:=(push_ok hF hS hT (by omega) hin h3 (fun v=>by have:=hb v;omega)).ex
   obtain⟨m2,w1,w2,w3,w4⟩:=w_push d hs (m:=⟨m.hp,n1⟩) (us:=us) (by show us<n1;omega) hM1 (hF.inn hS hT (by omega)) hev (fr:=(i:Nat)) (by omega) (by omega) rfl (to:=(to:Nat)) p1 (by omega) (by omega) (by omega) (by rw[Int.toNat_natCast];exact p4) p5 p6 p7 (amt:=amt) (by rw[Int.toNat_natCast,Int.toNat_natCast];exact p8) (by omega) p10
   simp only[Int.toNat_natCast]at w2
   have hps:posS n ((ex.set i (at0 ex i-amt)).set to (at0 ex to+amt))<c:=by have:=x1zb n ((ex.set i (at0 ex i-amt)).set to (at0 ex to+amt));omega
   have w3:n1<=m2.next:=w3
   obtain⟨m',fc',fl',tu',ex',P'',r1,r2,r3,r4,r5,r6,r7,r8⟩:=ih (posS n ((ex.set i (at0 ex i-amt)).set to (at0 ex to+amt))).toNat (by have:=x1zb n ((ex.set i (at0 ex i-amt)).set to (at0 ex to+amt));omega) _ _ _ P' m2 j (fc+11) (by have:=x1zb n ((ex.set i (at0 ex i-amt)).set to (at0 ex to+amt));omega) (by have:=x1zb n ((ex.set i (at0 ex i-amt)).set to (at0 ex to+amt));omega) (by omega) w2 p11 p14 (hP.push hj0 p12 p13 p15 p9)
   refine⟨m',fc',fl',tu',ex',P'',?_,r2,r3,r4,r5,r6,by omega,fun id e0 e1 e2 e3=>?_⟩
   .refine pre _ ?_
    rw[h2,w1]
    simp only[x1s6,x1qt]
    rw[decide_eq_false (by omega),x1sz]
    exact r1
   .rw[r8 id (by omega) e1 e2 e3,w4 id (by show id.1<n1;omega) e1 e2 e3]
    rfl
theorem ex0_net{n:Nat}(v:Nat)(hv:v<n):∀(l:List Edge) (p:List Int),p.length=n->(∀e∈l,EdgeIn n e/\e.fr≠e.to)->at0 (l.foldl exUp p) v=at0 p v+netF v (l.zip (l.map f0M))
 |[],p,_,_=>by simp[netF]
 |e::r,p,hp,he=>by
  obtain⟨⟨f0,f1,t0,t1,-⟩,hne⟩:=he e (List.mem_cons_self ..)
  have ih:=ex0_net v hv r (exUp p e) (by simp[exUp,hp]) (fun x hx=>he x (List.mem_cons_of_mem _ hx))
  rw[List.foldl_cons,ih]
  simp only[List.map_cons,List.zip_cons_cons,netF]
  unfold exUp
  rw[x1sa (by simp;omega),x1sa (by omega)]
  by_cases c1:v=e.to.toNat
  .rw[if_pos c1,if_pos c1.symm,if_neg (by omega),<-c1];omega
  .by_cases c2:v=e.fr.toNat
   .rw[if_neg c1,if_pos c2,if_neg (by omega),if_pos c2.symm,<-c2];omega
   .rw[if_neg c1,if_neg c2,if_neg (by omega),if_neg (by omega)];omega
theorem pos_net(n:Nat):∀z:List (Edge×Int),Ends n z->(∀x∈z,-20<=x.2/\x.2<=20)->sumN n (fun v=>if 0<netF v z then netF v z else 0)<=40*(z.length:Int)
 |[],_,_=>by rw[x1y8 (fun k _=>by simp[netF])];simp
 |x::r,he,h=>by
  have ih:=pos_net n r (fun y hy=>he y (List.mem_cons_of_mem _ hy)) (fun y hy=>h y (List.mem_cons_of_mem _ hy))
  have hx:=h x (List.mem_cons_self ..)
  obtain⟨e1,e2⟩:=he x (List.mem_cons_self ..)
  have:=sumN_le (n:=n) (g:=fun v=>if 0<netF v (x::r)then netF v (x::r)else 0) (h:=fun v=>(if 0<netF v r then netF v r else 0)+((if x.1.to.toNat=v then(fun _=>1) v*20 else 0)+(if x.1.fr.toNat=v then(fun _=>1) v*20 else 0))) (fun v hv=>by
   simp only[netF]
   by_cases c1:x.1.to.toNat=v<;>by_cases c2:x.1.fr.toNat=v<;>simp only[c1,c2,if_true,if_false,Int.one_mul]<;>split<;>split<;>omega)
  rw[x1z8,x1z8,x1z9 e1,x1z9 e2]at this
  simp only[List.length_cons]
  omega
theorem start_ok{J:Int}{n:Nat}{l:List Edge}(hS:Slim J n l):FlowOK n l (l.map f0M) (List.replicate n 0) (ex0M n l)/\TurnB n (List.replicate n 0) (ex0M n l) 0/\PBound J 0 n (ex0M n l)/\posS n (ex0M n l)<=1000:=by
 have hz:∀k,at0 (List.replicate n 0) k=0:=fun k=>x1z5 n k
 have hf:∀k,k<l.length->at0 (l.map f0M) k=f0M (edgeAt l k):=fun k hk=>by
  rw[x1ri (by simpa using hk),x1t9 hk];simp
 have hx:∀k,exI (List.replicate n 0) (edgeAt l k)=(edgeAt l k).jump:=fun k=>by unfold exI;rw[hz,hz];omega
 have hnn:=hS.nn
 have hll:=hS.ll
 have hj:=hS.j0
 have hF:FlowOK n l (l.map f0M) (List.replicate n 0) (ex0M n l):=by
  refine⟨by omega,by omega,hS.ed,by simp,by simp,x22d n l,fun k hk=>?_,fun k hk=>?_,fun v hv=>?_⟩
  .obtain⟨⟨_,_,_,_,_,_,w0,w1⟩,_⟩:=x1tw hS.ed hk
   rw[hf k hk];unfold f0M
   split
   .omega
   .split<;>omega
  .obtain⟨⟨_,_,_,_,_,_,w0,w1⟩,_⟩:=x1tw hS.ed hk
   rw[hf k hk,hx k];unfold f0M
   split
   .omega
   .split<;>omega
  .have:=ex0_net v hv l (List.replicate n 0) (by simp) hS.ed
   unfold ex0M
   rw[this,hz];omega
 have hp:posS n (ex0M n l)<=680:=by
  unfold posS
  rw[x22g (fun v hv=>by rw[hF.net v hv])]
  have:=pos_net n (l.zip (l.map f0M)) (x1wy hS.ed (by simp)) (fun x hx=>by
   obtain⟨k,hk,rfl⟩:=(x1t0 (by simp)).mp hx
   have h1:=hF.cap k hk
   have h2:=hS.jw (edgeAt l k) (by rw[x1t9 hk];exact List.getElem_mem hk)
   simp only
   omega)
  have hl:(l.zip (l.map f0M)).length=l.length:=by simp
  omega
 refine⟨hF,⟨fun v hv=>by rw[hz];omega,fun v hv _=>hz v⟩,⟨by omega,?_⟩,by omega⟩
 have:0<=(J*12)*(1000-posS n (ex0M n l)):=Int.mul_nonneg (by omega) (by omega)
 omega
theorem end_ok{n:Nat}{l:List Edge}{fl tu ex:List Int}(h:FlowOK n l fl tu ex)(hex:∀v,at0 ex v<=0):Feas n (l.zip fl)/\CS (at0 tu) (l.zip fl):=by
 have hE:=x1wy h.ed h.fll
 have hs:=x20b n (fun _=>1) (l.zip fl) hE
 have hz:∀z:List (Edge×Int),z.foldr (fun x s=>x.2*((fun _=>(1:Int)) x.1.to.toNat-(fun _=>(1:Int)) x.1.fr.toNat)+s) 0=0:=by
  intro z
  induction z with
  |nil=>rfl
  |cons x r ih=>rw[List.foldr_cons,ih];simp
 rw[hz]at hs
 have hneg:∀v,v<n->netF v (l.zip fl)<=0:=fun v hv=>by rw[<-h.net v hv];exact hex v
 refine⟨⟨h.capz,fun v hv=>?_,hE⟩,fun x hx=>?_⟩
 .apply Classical.byContradiction
  intro hne
  have:=sumN_lt (n:=n) (g:=fun v=>1*netF v (l.zip fl)) (h:=fun _=>0) (fun k hk=>by have:=hneg k hk;omega) hv (by have:=hneg v hv;omega)
  rw[x1y8 (g:=fun _=>0) (fun _ _=>rfl)]at this
  omega
 .obtain⟨k,hk,rfl⟩:=(x1t0 h.fll).mp hx
  have:=h.cs k hk
  exact this
theorem x28i{cs:List AV}{n:Nat}{x:Bool}{lo:Int}(h0:0<=lo)(h2:lo<=n)(hl:cs.length=n):x1t4 Try.prog x5 (.slit cs n x) (some (I lo)) none=some (.slit (cs.drop lo.toNat) (n-lo.toNat) x):=by
 obtain⟨i,e1,e2⟩:=x226
 simp only[x1t4,x1rj,x1r8,e1,asI,Option.getD_some,Option.getD_none,e2]
 rw[if_pos ⟨h0,h2,Int.le_refl _,by omega⟩,Nat.mul_one,Nat.mul_one,show((n:Int)-lo).toNat=n-lo.toNat by omega,List.take_of_length_le (by simp;omega)]
 simp
def QRep(w:Nat)(m:Mem)(a:AV)(q:List Int):Prop:=
 a=.slit (q.flatMap intE) q.length true\/∃id ver off cs,w<=id.1/\a=.sref id ver off q.length 1 true/\m.get id=some (.row cs ver false)/\cs.drop off=q.flatMap intE/\off+q.length=cs.length
theorem QRep.frame{w:Nat}{m m':Mem}{a:AV}{q:List Int}(h:QRep w m a q)(hm:∀id:Id,w<=id.1->m'.get id=m.get id):QRep w m' a q:=by
 rcases h with h|⟨id,ver,off,cs,h1,h2,h3,h4⟩
 .exact Or.inl h
 .exact Or.inr ⟨id,ver,off,cs,h1,h2,by rw[hm id h1];exact h3,h4⟩
theorem QRep.one{w:Nat}{m:Mem}{a:AV}{q:List Int}(h:QRep w m a q):a.cells=[a]/\a.one=true:=by
 rcases h with rfl|⟨id,ver,off,cs,h1,rfl,h3,h4⟩<;>exact⟨rfl,rfl⟩
theorem QRep.len{w:Nat}{m:Mem}{a:AV}{q:List Int}(h:QRep w m a q):sLen Try.prog x5 a=some (I q.length):=by
 rcases h with rfl|⟨id,ver,off,cs,h1,rfl,h3,h4⟩<;>rfl
theorem QRep.head{w:Nat}{m:Mem}{a:AV}{x:Int}{q:List Int}(h:QRep w m a (x::q)):∃p,sIx 1 a (I 0)=some p/\sLd false 1 p m=some (I x):=by
 rcases h with rfl|⟨id,ver,off,cs,h1,rfl,h3,h4,h5⟩
 .refine⟨.plit ((x::q).flatMap intE),?_,rfl⟩
  have:=(Sl.lit (x::q) true (enc:=intE)).ixI x1rk (k:=0) (by omega) (by simp)
  simpa using this
 .refine⟨.ptr id ver off,by simp[sIx,asI],?_⟩
  rw[x1qy,h3]
  simp only[x1vv,Nat.beq_refl,cond_true]
  rw[h4];rfl
theorem QRep.tail{w:Nat}{m:Mem}{a:AV}{x:Int}{q:List Int}(h:QRep w m a (x::q)):∃a',x1t4 Try.prog x5 a (some (I 1)) none=some a'/\QRep w m a' q:=by
 rcases h with rfl|⟨id,ver,off,cs,h1,rfl,h3,h4,h5⟩
 .refine⟨.slit (q.flatMap intE) q.length true,?_,Or.inl rfl⟩
  rw[x28i (by omega) (by rw[List.length_cons];omega) (x1th _)]
  rfl
 .refine⟨.sref id ver (off+1) q.length 1 true,?_,Or.inr ⟨id,ver,off+1,cs,h1,rfl,h3,?_,by simp at h5;omega⟩⟩
  .rw[x251 (by omega) (by rw[List.length_cons];omega)]
   rfl
  .rw[<-List.drop_drop,h4];rfl
theorem QRep.app{w:Nat}{m:Mem}{a:AV}{q:List Int}(h:QRep w m a q)(hq:q.length<=100000){id0:Id}(h0:w<=id0.1)(x:Int) :
 ∃a' m',(∀{R:Type} (k:AV->Mem->Option R),sApp 1 8 id0 (some (intE x,1)) a m k=k a' m')/\QRep w m' a' (q++[x])/\m'.next=m.next/\∀id:Id,id.1<w->m'.get id=m.get id:=by
 have hro:∀k,k<=100001->x1r4 k 8:=fun k hk=>by unfold x1r4;omega
 have hl:=x1th q
 rcases h with rfl|⟨id,ver,off,cs,h1,rfl,h3,h4,h5⟩
 .refine⟨.sref id0 0 0 (q.length+1) 1 true,m.new id0 (.row (q.flatMap intE++intE x) 0 false),fun k=>?_,Or.inr ⟨id0,0,0,q.flatMap intE++intE x,h0,by simp,by simp,by simp,by simp[hl,intE]⟩,rfl,fun j hj=>?_⟩
  .simp only[sApp]
   rw[if_pos (by omega),if_neg (by omega),if_pos (hro _ (by omega)),Nat.mul_one,List.take_of_length_le (by omega)]
  .rw[Mem.get_new,if_neg (by rintro rfl;omega)]
 .refine⟨.sref id (ver+1) 0 (q.length+1) 1 true,m.set id (.row (q.flatMap intE++intE x) (ver+1) false),fun k=>?_,Or.inr ⟨id,ver+1,0,q.flatMap intE++intE x,h1,by simp,by simp,by simp,by simp[hl,intE]⟩,rfl,fun j hj=>?_⟩
  .simp only[sApp,h3]
   rw[if_pos ⟨trivial,trivial,by omega,hro _ (by omega)⟩,if_neg (by omega),if_neg (by omega),h4,List.take_of_length_le (by omega)]
  .rw[Mem.get_set,if_neg (by rintro rfl;omega)]
theorem QRep.tA{w:Nat}{m:Mem}{a:AV}{q:List Int}(h:QRep w m a q){id0:Id}(h0:w<=id0.1):∃id,Go.Ix.tA id0 a=some [id]/\w<=id.1:=by
 rcases h with rfl|⟨id,ver,off,cs,h1,rfl,h3,h4,h5⟩
 .exact⟨id0,rfl,h0⟩
 .exact⟨id,rfl,h1⟩
structure NumMem (u sL fq n:Nat) (out q:List Int) (g:Int) (m:Mem):Prop where
 t5:m.get (u,4,5)=some (.row [srL u sL n] 0 false)
 t6:m.get (u,6,6)=some (.row [I g] 0 false)
 o:m.get (u+1,sL,30)=some (.row (out.flatMap intE) 0 false)
 t8:∃a,m.get (u,fq,8)=some (.row [a] 0 false)/\QRep (u+2) m a q
 ol:out.length=n
 nx:u+1<m.next
def FrU(u sL fq:Nat)(m m':Mem):Prop:=∀id:Id,id.1<u+2->id≠(u+1,sL,30)->id≠(u,fq,8)->m'.get id=m.get id
def addM(g:Int)(s:List Int×List Int)(b:Int):List Int×List Int:=if at0 s.1 b.toNat<0 then(s.1.set b.toNat g,s.2++[b])else s
theorem a_add(d:Nat)(hs:FHs){u sL fq n:Nat}{out q:List Int}{g b:Int}{m:Mem}(h:NumMem u sL fq n out q g m)(hq:q.length<=100000)(b0:0<=b)(b1:b<n) :
 ∃m',x1sj (x1qp (d+1)) hs 2 (.clo x1i [.ptr (u,4,5) 0 0,.ptr (u,6,6) 0 0,.ptr (u,fq,8) 0 0]) [I b] m=some (.tup [],m') /\
  NumMem u sL fq n (addM g (out,q) b).1 (addM g (out,q) b).2 g m'/\m.next<=m'.next/\FrU u sL fq m m':=by
 obtain⟨t5,t6,o,⟨a,ta,hQ⟩,ol,nx⟩:=h
 obtain⟨m0,hm0⟩:∃m0:Mem,m0=⟨m.hp,m.next+1⟩:=⟨_,rfl⟩
 have g0:∀id,m0.get id=m.get id:=fun _=>by rw[hm0];rfl
 have hb:b.toNat<out.length:=by omega
 have ib:sIx 1 (srL u sL n) (I b)=some (.ptr (u+1,sL,30) 0 b.toNat):=x1re b0 b1
 have e0:x1sj (x1qp (d+1)) hs 2 (.clo x1i [.ptr (u,4,5) 0 0,.ptr (u,6,6) 0 0,.ptr (u,fq,8) 0 0]) [I b] m=x9n (x1qp d) hs m.next (I b) (.ptr (u,4,5) 0 0) (.ptr (u,6,6) 0 0) (.ptr (u,fq,8) 0 0) m0 0:=by
  show x1qp (d+1) hs x1i _ m=_
  rw[x10d,hm0]
  rfl
 rw[e0]
 have G5:m0.get (u,4,5)=some (.row [srL u sL n] 0 false):=by rw[g0];exact t5
 have G6:m0.get (u,6,6)=some (.row [I g] 0 false):=by rw[g0];exact t6
 have GO:m0.get (u+1,sL,30)=some (.row (out.flatMap intE) 0 false):=by rw[g0];exact o
 have G8:m0.get (u,fq,8)=some (.row [a] 0 false):=by rw[g0];exact ta
 have hQ0:QRep (u+2) m0 a q:=hQ.frame fun id _=>g0 id
 unfold addM
 simp only
 by_cases c:at0 out b.toNat<0
 .rw[if_pos c]
  obtain⟨m1,hm1⟩:∃m1,m1=m0.set (u+1,sL,30) (.row ((out.set b.toNat g).flatMap intE) 0 false):=⟨_,rfl⟩
  have q1:∀id:Id,id≠(u+1,sL,30)->m1.get id=m0.get id:=fun id hid=>by rw[hm1,Mem.get_set,if_neg hid]
  have hQ1:QRep (u+2) m1 a q:=hQ0.frame fun id hid=>q1 id (by rintro rfl;simp at hid)
  obtain⟨a',m2,A,hQ2,n2,q2⟩:=hQ1.app hq (id0:=(m.next,13,17)) (by show u+2<=m.next;omega) b
  obtain⟨idA,tA1,tA2⟩:=hQ1.tA (id0:=(m.next,13,17)) (by show u+2<=m.next;omega)
  obtain⟨c1,c2⟩:=hQ2.one
  obtain⟨m3,hm3⟩:∃m3,m3=m2.set (u,fq,8) (.row [a'] 0 false):=⟨_,rfl⟩
  have q3:∀id:Id,id≠(u,fq,8)->m3.get id=m2.get id:=fun id hid=>by rw[hm3,Mem.get_set,if_neg hid]
  refine⟨m3,?_,⟨?_,?_,?_,⟨a',by rw[hm3];simp,hQ2.frame fun id hid=>q3 id (by rintro rfl;have:u+2<=u:=hid;omega)⟩,by simp[ol],?_⟩,?_,fun id h1 h2 h3=>?_⟩
  .unfold x9n
   have H8:m1.get (u,fq,8)=some (.row [a] 0 false):=by rw[q1 _ (by simp)];exact G8
   have H82:m2.get (u,fq,8)=some (.row [a] 0 false):=by rw[q2 _ (by simp)];exact H8
   have hel:∀M:Mem,elems M.get 1 (.slit [I b] 1 true)=some (intE b,1):=fun _=>rfl
   have hst:x1s2 1 0 0 a' (some (.row [a] 0 false))=some (.row [a'] 0 false):=by
    rw[x1we,c1];simp[c2]
   simp only[x1qy,G5,G6,GO,x1r0,Nat.beq_refl,x1qw,List.drop_zero,rd_f,x1qt,ib,x1s3 hb,x1s6,c,decide_true,x1ru,x1rl]
   rw[x1ss hb]
   simp only[x1qt]
   rw[<-hm1]
   simp only[x1qy,H8,x1r0,Nat.beq_refl,x1qw,List.drop_zero,rd_f,x1qt,x1t8,x1wg,hel,A,x1rl,H82,hst]
   rw[<-hm3]
  .rw[q3 _ (by simp),q2 _ (by simp),q1 _ (by simp)];exact G5
  .rw[q3 _ (by simp),q2 _ (by simp),q1 _ (by simp)];exact G6
  .rw[q3 _ (by simp),q2 _ (by simp),hm1];simp
  .rw[hm3,Mem.next_set,n2,hm1,Mem.next_set,hm0];simp only;omega
  .rw[hm3,Mem.next_set,n2,hm1,Mem.next_set,hm0];simp only;omega
  .rw[q3 id h3,q2 id h1,q1 id h2,g0]
 .rw[if_neg c]
  refine⟨m0,?_,⟨G5,G6,GO,⟨a,G8,hQ0⟩,ol,by rw[hm0];simp only;omega⟩,by rw[hm0];simp only;omega,fun id _ _ _=>g0 id⟩
  unfold x9n
  simp only[x1qy,G5,G6,GO,x1r0,Nat.beq_refl,x1qw,List.drop_zero,rd_f,x1qt,ib,x1s3 hb,x1s6,c,decide_false,x1sz]
def x1rz(g:Int)(bs:List Int)(s:List Int×List Int):List Int×List Int:=bs.foldl (addM g) s
def bfsM(nb:Nat->List Int)(g:Int):Nat->List Int×List Int->List Int
 |0,s=>s.1
 |f+1,s=>match s.2 with
  |[]=>s.1
  |a::q=>bfsM nb g f (x1rz g (nb a.toNat) (s.1,q))
def x1ts(nb:Nat->List Int)(s:List Int×Int)(r:Nat):List Int×Int:=if 0<=at0 s.1 r then s else(bfsM nb s.2 NN (s.1.set r s.2,[(r:Int)]),s.2+1)
def numM(n:Nat)(nb:Nat->List Int):List Int×Int:=(List.range n).foldl (x1ts nb) (List.replicate n (-1),0)
def negC:List Int->Nat
 |[]=>0
 |x::r=>(if x<0 then 1 else 0)+negC r
theorem x22n:∀{l:List Int} {k:Nat} {g:Int},k<l.length->at0 l k<0->0<=g->negC (l.set k g)+1=negC l
 |[],k,g,h,_,_=>by simp at h
 |x::r,0,g,h,hx,hg=>by
  have hx:x<0:=hx
  have:¬g<0:=by omega
  simp[negC,hx,this];omega
 |x::r,k+1,g,h,hx,hg=>by
  have:=x22n (l:=r) (k:=k) (g:=g) (by simpa using h) hx hg
  simp only[List.set_cons_succ,negC];omega
theorem x22o:∀l:List Int,negC l<=l.length
 |[]=>Nat.le_refl _
 |x::r=>by have:=x22o r;simp only[negC,List.length_cons];split<;>omega
structure StOK (n:Nat) (s:List Int×List Int):Prop where
 l:s.1.length=n
 q:∀a∈s.2,0<=a/\a<n
theorem x22p{n:Nat}{g b:Int}{s:List Int×List Int}(h:StOK n s)(hg:0<=g)(b0:0<=b)(b1:b<n):StOK n (addM g s b)/\negC (addM g s b).1+(addM g s b).2.length=negC s.1+s.2.length:=by
 unfold addM
 by_cases c:at0 s.1 b.toNat<0
 .rw[if_pos c]
  refine⟨⟨by simp[h.l],fun a ha=>?_⟩,?_⟩
  .rcases List.mem_append.mp ha with ha|ha
   .exact h.q a ha
   .rw[List.mem_singleton]at ha;subst ha;exact⟨b0,b1⟩
  .have:=x22n (l:=s.1) (k:=b.toNat) (g:=g) (by rw[h.l];omega) c hg
   simp only[List.length_append,List.length_singleton];omega
 .rw[if_neg c];exact⟨h,rfl⟩
theorem x1zc{n:Nat}{g:Int}(hg:0<=g):∀(bs:List Int) (s:List Int×List Int),StOK n s->(∀b∈bs,0<=b/\b<n)->StOK n (x1rz g bs s)/\negC (x1rz g bs s).1+(x1rz g bs s).2.length=negC s.1+s.2.length
 |[],s,h,_=>⟨h,rfl⟩
 |b::bs,s,h,hb=>by
  obtain⟨b0,b1⟩:=hb b (List.mem_cons_self ..)
  obtain⟨h1,h2⟩:=x22p h hg b0 b1
  obtain⟨h3,h4⟩:=x1zc hg bs (addM g s b) h1 (fun x hx=>hb x (List.mem_cons_of_mem _ hx))
  exact⟨h3,h4.trans h2⟩
def x1zd(call:x1qo)(f:AV)(n:Nat)(nb:Nat->List Int)(u:Nat)(C:Mem->Prop):Prop:=
 ∀(hs:FHs) (sL fq:Nat) (out q:List Int) (g:Int) (a:Nat) (m:Mem),a<n->C m->NumMem u sL fq n out q g m->0<=g->StOK n (out,q)->negC out+q.length<=n ->
  ∃x m',x1sj call hs 2 f [I a,.clo x1i [.ptr (u,4,5) 0 0,.ptr (u,6,6) 0 0,.ptr (u,fq,8) 0 0]] m=some (x,m') /\
   NumMem u sL fq n (x1rz g (nb a) (out,q)).1 (x1rz g (nb a) (out,q)).2 g m'/\m.next<=m'.next/\FrU u sL fq m m'
theorem l_queue(d:Nat)(hs:FHs){u sL fq n:Nat}{nb:Nat->List Int}{f:AV}{C:Mem->Prop}(hf:x1zd (x1qp d) f n nb u C)(hC:∀m m',C m->(∀id:Id,id.1<u->m'.get id=m.get id)->C m')(hnb:∀a,a<n->∀b∈nb a,0<=b/\b<n)(rec0:AV->AV->AV->AV->AV->Mem->Nat->Option (AV×Mem))(t14 t15:AV){g:Int}(hg:0<=g):∀(c:Nat) (out q:List Int) (j F:Nat) (m:Mem) (fc:Nat),negC out+q.length=c->c<=n->c<j->c<F->C m->NumMem u sL fq n out q g m->StOK n (out,q) ->
 ∃m' fc',x2q (x1qp d) hs u rec0 j f (.ptr (u,4,5) 0 0) (.ptr (u,6,6) 0 0) (.ptr (u,fq,8) 0 0) t14 t15 m fc=x4x (x1qp d) hs u rec0 f (.ptr (u,4,5) 0 0) (.ptr (u,6,6) 0 0) t14 t15 m' fc'/\fc<=fc' /\
  NumMem u sL fq n (bfsM nb g F (out,q)) [] g m'/\m.next<=m'.next/\FrU u sL fq m m':=by
 intro c
 induction c with
 |zero=>
  intro out q j F m fc hc hn hj hF hCm hM hO
  obtain⟨j,rfl⟩:∃i,j=i+1:=⟨j-1,by omega⟩
  obtain⟨F,rfl⟩:∃i,F=i+1:=⟨F-1,by omega⟩
  have hq:q=[]:=List.length_eq_zero_iff.mp (by omega)
  subst hq
  obtain⟨a,ta,hQ⟩:=hM.t8
  refine⟨m,fc+3,?_,by omega,hM,Nat.le_refl _,fun _ _ _ _=>rfl⟩
  simp only[x2q]
  unfold x9h
  simp only[x1qy,ta,x1r0,Nat.beq_refl,x1qw,List.drop_zero,rd_f,x1qt,hQ.len]
  simp
 |succ c ih=>
  intro out q j F m fc hc hn hj hF hCm hM hO
  obtain⟨j,rfl⟩:∃i,j=i+1:=⟨j-1,by omega⟩
  obtain⟨F,rfl⟩:∃i,F=i+1:=⟨F-1,by omega⟩
  obtain⟨a,ta,hQ⟩:=hM.t8
  cases q with
  |nil=>
   refine⟨m,fc+3,?_,by omega,hM,Nat.le_refl _,fun _ _ _ _=>rfl⟩
   simp only[x2q]
   unfold x9h
   simp only[x1qy,ta,x1r0,Nat.beq_refl,x1qw,List.drop_zero,rd_f,x1qt,hQ.len]
   simp
  |cons x q=>
   obtain⟨x0,x1⟩:=hO.q x (List.mem_cons_self ..)
   obtain⟨xn,rfl⟩:∃xn:Nat,x=xn:=⟨x.toNat,by omega⟩
   have hxn:xn<n:=by omega
   obtain⟨p,hp1,hp2⟩:=hQ.head
   obtain⟨a',ha1,ha2⟩:=hQ.tail
   obtain⟨c1,c2⟩:=ha2.one
   obtain⟨m1,hm1⟩:∃m1,m1=m.set (u,fq,8) (.row [a'] 0 false):=⟨_,rfl⟩
   have q1:∀id:Id,id≠(u,fq,8)->m1.get id=m.get id:=fun id hid=>by rw[hm1,Mem.get_set,if_neg hid]
   have hM1:NumMem u sL fq n out q g m1:=⟨by rw[q1 _ (by simp)];exact hM.t5,by rw[q1 _ (by simp)];exact hM.t6,by rw[q1 _ (by simp)];exact hM.o,⟨a',by rw[hm1];simp,ha2.frame fun id hid=>q1 id (by rintro rfl;have:u+2<=u:=hid;omega)⟩,hM.ol,by rw[hm1];exact hM.nx⟩
   have hO1:StOK n (out,q):=⟨hO.l,fun b hb=>hO.q b (List.mem_cons_of_mem _ hb)⟩
   obtain⟨z,m2,e1,e2,e3,e4⟩:=hf hs sL fq out q g xn m1 hxn (hC m m1 hCm (fun id hid=>q1 id (by rintro rfl;simp at hid))) hM1 hg hO1 (by simp only[List.length_cons]at hc;omega)
   obtain⟨o1,o2⟩:=x1zc hg (nb xn) (out,q) hO1 (hnb xn hxn)
   simp only at o2
   obtain⟨m',fc',r1,r0,r2,r3,r4⟩:=ih (x1rz g (nb xn) (out,q)).1 (x1rz g (nb xn) (out,q)).2 j F m2 (fc+14) (by simp only[List.length_cons]at hc;omega) (by omega) (by omega) (by omega)
    (hC m m2 hCm (fun id hid=>by rw[e4 id (by omega) (by rintro rfl;have:u+1<u:=hid;omega) (by rintro rfl;simp at hid),q1 id (by rintro rfl;simp at hid)])) e2 o1
   refine⟨m',fc',?_,by omega,?_,by rw[hm1,Mem.next_set]at e3;omega,fun id h1 h2 h3=>by rw[r4 id h1 h2 h3,e4 id h1 h2 h3,q1 id h3]⟩
   .rw[<-r1]
    simp only[x2q]
    unfold x9h
    have hst:x1s2 1 0 0 a' (some (.row [a] 0 false))=some (.row [a'] 0 false):=by
     rw[x1we,c1];simp[c2]
    have hpos:(0:Int)<((((xn:Int)::q).length:Nat):Int):=by rw[List.length_cons];omega
    simp only[x1qy,ta,x1r0,Nat.beq_refl,x1qw,List.drop_zero,rd_f,x1qt,hQ.len,sGt_I,hpos,decide_true,x1ru,hp1,hp2,ha1,x1rl,hst]
    rw[<-hm1]
    simp only[e1,x1qt]
   .have:bfsM nb g (F+1) (out,(xn:Int)::q)=bfsM nb g F (x1rz g (nb xn) (out,q)):=by
     simp only[bfsM,Int.toNat_natCast]
    rw[this]
    exact r2
structure NumBase (u sL n:Nat) (out:List Int) (g:Int) (m:Mem):Prop where
 t5:m.get (u,4,5)=some (.row [srL u sL n] 0 false)
 t6:m.get (u,6,6)=some (.row [I g] 0 false)
 o:m.get (u+1,sL,30)=some (.row (out.flatMap intE) 0 false)
 ol:out.length=n
 nx:u+1<m.next
theorem bfs_len{n:Nat}{nb:Nat->List Int}{g:Int}(hg:0<=g)(hnb:∀a,a<n->∀b∈nb a,0<=b/\b<n):∀(F:Nat) (s:List Int×List Int),StOK n s->(bfsM nb g F s).length=n
 |0,s,h=>h.l
 |F+1,s,h=>by
  obtain⟨out,q⟩:=s
  cases q with
  |nil=>exact h.l
  |cons a q=>
   simp only[bfsM]
   have ha:=h.q a (List.mem_cons_self ..)
   exact bfs_len hg hnb F _ (x1zc hg (nb a.toNat) (out,q) ⟨h.l,fun b hb=>h.q b (List.mem_cons_of_mem _ hb)⟩ (hnb _ (by omega))).1
theorem l_roots(d:Nat)(hs:FHs){u sL n:Nat}{nb:Nat->List Int}{f:AV}{C:Mem->Prop}(hn:n<=200)(hf:x1zd (x1qp d) f n nb u C)(hC:∀m m',C m->(∀id:Id,id.1<u->m'.get id=m.get id)->C m')(hnb:∀a,a<n->∀b∈nb a,0<=b/\b<n) :
 ∀(s k j:Nat) (out:List Int) (g:Int) (m:Mem) (fc:Nat),k+s=n->s<j->0<=g->g<=k->C m->NumBase u sL n out g m ->
 ∃m',x2r (x1qp d) hs u j f (.ptr (u,4,5) 0 0) (.ptr (u,6,6) 0 0) (I n) (I k) m fc=some (srL u sL n,m') /\
  NumBase u sL n ((List.range' k s).foldl (x1ts nb) (out,g)).1 ((List.range' k s).foldl (x1ts nb) (out,g)).2 m'/\m.next<=m'.next/\∀id:Id,id.1<u->m'.get id=m.get id:=by
 intro s
 induction s with
 |zero=>
  intro k j out g m fc hk hj hg hgk hCm hM
  obtain⟨j,rfl⟩:∃i,j=i+1:=⟨j-1,by omega⟩
  have hkn:k=n:=by omega
  subst hkn
  refine⟨m,?_,hM,Nat.le_refl _,fun _ _=>rfl⟩
  simp only[x2r]
  unfold x9i xv
  simp[hM.t5]
 |succ s ih=>
  intro k j out g m fc hk hj hg hgk hCm hM
  obtain⟨j,rfl⟩:∃i,j=i+1:=⟨j-1,by omega⟩
  have hkn:k<n:=by omega
  have hk':(k:Int)<(n:Int):=by omega
  have hko:k<out.length:=by rw[hM.ol];exact hkn
  have ik:sIx 1 (srL u sL n) (I k)=some (.ptr (u+1,sL,30) 0 k):=by simpa using x1re (id:=(u+1,sL,30)) (n:=n) (k:=(k:Int)) (by omega) hk'
  have e0:(List.range' k (s+1)).foldl (x1ts nb) (out,g)=(List.range' (k+1) s).foldl (x1ts nb) (x1ts nb (out,g) k):=by rw[List.range'_succ];rfl
  rw[e0]
  by_cases c:0<=at0 out k
  .have e1:x1ts nb (out,g) k=(out,g):=by unfold x1ts;rw[if_pos c]
   rw[e1]
   obtain⟨m',r1,r2,r3,r4⟩:=ih (k+1) j out g m (fc+1+7+2) (by omega) (by omega) hg (by omega) hCm hM
   refine⟨m',?_,r2,r3,r4⟩
   rw[<-r1]
   simp only[x2r]
   unfold x9i x79 x16
   simp(disch:=omega)only[x1s6,x1qt,hk',decide_true,x1ru,x1qy,hM.t5,hM.o,x1r0,Nat.beq_refl,x1qw,List.drop_zero,rd_f,ik,x1s3 hko,sGe_I,c,x1sl,x1rs]
   rfl
  .have e1:x1ts nb (out,g) k=(bfsM nb g NN (out.set k g,[(k:Int)]),g+1):=by unfold x1ts;rw[if_neg c]
   rw[e1]
   obtain⟨m1,hm1⟩:∃m1,m1=m.set (u+1,sL,30) (.row ((out.set k g).flatMap intE) 0 false):=⟨_,rfl⟩
   obtain⟨m2,hm2⟩:∃m2,m2=(m1.new (u,fc+1+14,8) (.row [nilS] 0 false)).set (u,fc+1+14,8) (.row [.slit [I (k:Int)] 1 true] 0 false):=⟨_,rfl⟩
   have q2:∀id:Id,id≠(u,fc+1+14,8)->id≠(u+1,sL,30)->m2.get id=m.get id:=fun id h1 h2=>by rw[hm2,Mem.get_set,if_neg h1,Mem.get_new,if_neg h1,hm1,Mem.get_set,if_neg h2]
   have hM2:NumMem u sL (fc+1+14) n (out.set k g) [(k:Int)] g m2:=by
    refine⟨by rw[q2 _ (by simp) (by simp)];exact hM.t5,by rw[q2 _ (by simp) (by simp)];exact hM.t6,?_,⟨_,by rw[hm2];simp;rfl,Or.inl rfl⟩,by simp[hM.ol],by rw[hm2,hm1];exact hM.nx⟩
    rw[hm2,Mem.get_set,if_neg (by simp),Mem.get_new,if_neg (by simp),hm1];simp
   have hng:=x22n hko (by omega) hg
   have hnl:=x22o out
   rw[hM.ol]at hnl
   have hO:StOK n (out.set k g,[(k:Int)]):=⟨by simp[hM.ol],fun a ha=>by rw[List.mem_singleton]at ha;subst ha;omega⟩
   obtain⟨m3,fc3,r1,r0,r2,r3,r4⟩:=l_queue d hs hf hC hnb (x2r (x1qp d) hs u j) (I n) (I k) hg (negC (out.set k g)+1) (out.set k g) [(k:Int)] NN NN m2 (fc+1+16) rfl (by omega) (by rw[x1r6];omega) (by rw[x1r6];omega)
    (hC m m2 hCm (fun id hid=>q2 id (by rintro rfl;simp at hid) (by rintro rfl;have:u+1<u:=hid;omega))) hM2 hO
   obtain⟨m4,hm4⟩:∃m4,m4=m3.set (u,6,6) (.row [I (g+1)] 0 false):=⟨_,rfl⟩
   have q4:∀id:Id,id≠(u,6,6)->m4.get id=m3.get id:=fun id hid=>by rw[hm4,Mem.get_set,if_neg hid]
   have hM4:NumBase u sL n (bfsM nb g NN (out.set k g,[(k:Int)])) (g+1) m4:=⟨by rw[q4 _ (by simp)];exact r2.t5,by rw[hm4];simp,by rw[q4 _ (by simp)];exact r2.o,bfs_len hg hnb NN _ hO,by rw[hm4];exact r2.nx⟩
   have low:∀id:Id,id.1<u->m4.get id=m.get id:=fun id hid=>by
    rw[q4 id (by rintro rfl;simp at hid),r4 id (by omega) (by rintro rfl;have:u+1<u:=hid;omega) (by rintro rfl;simp at hid),q2 id (by rintro rfl;simp at hid) (by rintro rfl;have:u+1<u:=hid;omega)]
   obtain⟨m',s1,s2,s3,s4⟩:=ih (k+1) j _ (g+1) m4 (fc3+3+2) (by omega) (by omega) (by omega) (by omega) (hC m m4 hCm low) hM4
   refine⟨m',?_,s2,?_,fun id hid=>by rw[s4 id hid,low id hid]⟩
   .rw[<-s1]
    simp only[x2r]
    unfold x9i x79
    have hz:x13=[nilS]:=x1vx
    simp(disch:=omega)only[x1s6,x1qt,hk',decide_true,x1ru,x1qy,hM.t5,hM.t6,hM.o,x1r0,Nat.beq_refl,x1qw,List.drop_zero,rd_f,ik,x1s3 hko,sGe_I,c,decide_false,x1sz,x1rl]
    rw[x1ss hko]
    simp only[x1qt]
    rw[<-hm1]
    simp only[x1t8,hz,x1wg,x1ub,x1rl,Mem.get_new,if_true]
    have hst:x1s2 1 0 0 (.slit [I (k:Int)] 1 true) (some (.row [nilS] 0 false))=some (.row [.slit [I (k:Int)] 1 true] 0 false):=by
     rw[x1we];simp[AV.one]
    rw[hst]
    simp only[x1qt]
    rw[<-hm2,r1]
    unfold x4x x16
    simp(disch:=omega)only[x1qy,r2.t6,x1r0,Nat.beq_refl,x1qw,List.drop_zero,rd_f,x1qt,x1sl,x1rs,x1rl,x1we]
    rw[decide_eq_true (by exact⟨rfl,rfl⟩)]
    simp only[x1qw,x1qt]
    rw[show(I (g+1)).cells=[I (g+1)]from rfl,<-hm4]
    rfl
   .rw[hm4,Mem.next_set]at s3
    have:m2.next=m.next:=by rw[hm2,hm1];rfl
    omega
theorem x261(d:Nat)(hs:FHs){n:Nat}{nb:Nat->List Int}{f:AV}{C:Mem->Prop}(hn:n<=200){m:Mem}(hf:x1zd (x1qp (d+3)) f n nb m.next C)(hC:∀m1 m',C m1->(∀id:Id,id.1<m.next->m'.get id=m1.get id)->C m')(hnb:∀a,a<n->∀b∈nb a,0<=b/\b<n)(hCm:C m) :
 ∃sL m',x1qp (d+4) hs x5t [I n,f] m=some (srL m.next sL n,m')/\m'.get (m.next+1,sL,30)=some (.row ((numM n nb).1.flatMap intE) 0 false)/\(numM n nb).1.length=n/\m.next<=m'.next/\∀id:Id,id.1<m.next->m'.get id=m.get id:=by
 obtain⟨u,hu⟩:∃u,u=m.next:=⟨_,rfl⟩
 rw[<-hu]at hf hC ⊢
 obtain⟨m0,hm0⟩:∃m0:Mem,m0=⟨m.hp,u+1⟩:=⟨_,rfl⟩
 have g0:∀id,m0.get id=m.get id:=fun _=>by rw[hm0];rfl
 obtain⟨sL,mR,hR,hRg,hRn⟩:=x255 d (u+1) (-1) hn
 obtain⟨m1,h1,n1,q1⟩:=x1vw (call:=x1qp (d+3)) (f:=x2d) (l:=[.slit [I (-1)] 1 true,I n]) (m:=m0) (m':=mR) (r:=.sref (u+1,sL,30) 0 0 n 1 true) rfl (by rw[hm0];exact hR)
 obtain⟨m2,hm2⟩:∃m2,m2=(m1.new (u,4,5) (.row [nilS] 0 false)).set (u,4,5) (.row [srL u sL n] 0 false):=⟨_,rfl⟩
 obtain⟨m3,hm3⟩:∃m3,m3=(m2.new (u,6,6) (.row [I 0] 0 false)).set (u,6,6) (.row [I 0] 0 false):=⟨_,rfl⟩
 have q2:∀id:Id,id≠(u,4,5)->m2.get id=m1.get id:=fun id h=>by rw[hm2,Mem.get_set,if_neg h,Mem.get_new,if_neg h]
 have q3:∀id:Id,id≠(u,6,6)->m3.get id=m2.get id:=fun id h=>by rw[hm3,Mem.get_set,if_neg h,Mem.get_new,if_neg h]
 have low:∀id:Id,id.1<u->m3.get id=m.get id:=fun id h=>by
  rw[q3 id (by rintro rfl;simp at h),q2 id (by rintro rfl;simp at h),q1,if_neg (by rw[hm0];show ¬(u+1<=id.1);omega),g0]
 have hB:NumBase u sL n (List.replicate n (-1)) 0 m3:=by
  refine⟨by rw[q3 _ (by simp),hm2];simp,by rw[hm3];simp,?_,by simp,?_⟩
  .rw[q3 _ (by simp),q2 _ (by simp),q1,if_pos (by rw[hm0];exact Nat.le_refl _)];exact hRg
  .rw[hm3,Mem.next_set,Mem.next_new,hm2,Mem.next_set,Mem.next_new,n1,hRn];omega
 obtain⟨m',r1,r2,r3,r4⟩:=l_roots (d+3) hs hn hf hC hnb n 0 NN (List.replicate n (-1)) 0 m3 (8+3) (by omega) (by rw[x1r6];omega) (by omega) (by omega) (hC m m3 hCm low) hB
 rw[<-List.range_eq_range']at r2
 refine⟨sL,m',?_,r2.o,r2.ol,?_,fun id h=>by rw[r4 id h,low id h]⟩
 .rw[x106]
  unfold xew xha xcs
  have hz:x13=[nilS]:=x1vx
  simp only
  rw[<-hu,<-hm0]
  have hst:x1s2 1 0 0 (srL u sL n) (some (.row [nilS] 0 false))=some (.row [srL u sL n] 0 false):=by
   rw[x1we];simp[AV.one]
  have hst2:x1s2 1 0 0 (I 0) (some (.row [I 0] 0 false))=some (.row [I 0] 0 false):=by
   rw[x1we,decide_eq_true ⟨rfl,rfl⟩];rfl
  simp only[x1t8,hz,x1wg,h1,x1qt,x1ub,x1rl,Mem.get_new,if_true,hst]
  rw[<-hm2]
  simp only[hst2,x1qt]
  rw[<-hm3]
  have hlen:sLen Try.prog x5 (srL u sL n)=some (I n):=rfl
  simp only[x1qy,hB.t5,x1r0,Nat.beq_refl,x1qw,List.drop_zero,rd_f,x1qt,hlen]
  exact r1
 .have:m3.next=u+2:=by rw[hm3,Mem.next_set,Mem.next_new,hm2,Mem.next_set,Mem.next_new,n1,hRn]
  omega
def nearU(l:List Edge)(a:Int):List Int:=l.flatMap fun e=>if 0<e.wt then(if e.fr=a then[e.to]else if e.to=a then[e.fr]else[])else[]
theorem x262(l:List Edge)(e:Edge)(a:Int):nearU (l++[e]) a=nearU l a++(if 0<e.wt then(if e.fr=a then[e.to]else if e.to=a then[e.fr]else[])else[]):=by
 unfold nearU;simp
theorem x22q{n:Nat}{l:List Edge}(hed:∀e∈l,EdgeIn n e/\e.fr≠e.to){a b:Int}(h:b∈nearU l a):0<=b/\b<n:=by
 unfold nearU at h
 obtain⟨e,he,hb⟩:=List.mem_flatMap.mp h
 obtain⟨⟨f0,f1,t0,t1,-⟩,-⟩:=hed e he
 split at hb
 .split at hb
  .rw[List.mem_singleton]at hb;omega
  .split at hb
   .rw[List.mem_singleton]at hb;omega
   .simp at hb
 .simp at hb
def okjd(u fc:Nat)(id:Id):Prop:=id.1=u/\(id.2.2=35\/id.2.2=44)/\id.2.1<fc
structure AtJ (u fc:Nat) (cells:List AV) (adj:Nat->List Int) (m:Mem):Prop where
 sh:∃ids:Nat->Id,(∀(v:Nat) (hv:v<cells.length),(cells[v]=nilS/\adj v=[])\/(∃ver,cells[v]=.sref (ids v) ver 0 (adj v).length 1 true/\m.get (ids v)=some (.row ((adj v).flatMap intE) ver false)/\okjd u fc (ids v)/\adj v≠[])) /\
  ∀v w,v<cells.length->w<cells.length->adj v≠[]->adj w≠[]->v≠w->ids v≠ids w
theorem AtJ.frame{u fc fc':Nat}{cells:List AV}{adj:Nat->List Int}{m m':Mem}(h:AtJ u fc cells adj m)(hm:∀id,okjd u fc id->m'.get id=m.get id)(hfc:fc<=fc'):AtJ u fc' cells adj m':=by
 obtain⟨ids,h1,h2⟩:=h.sh
 refine⟨ids,fun v hv=>?_,h2⟩
 rcases h1 v hv with h|⟨ver,a,b,c,d⟩
 .exact Or.inl h
 .exact Or.inr ⟨ver,a,by rw[hm _ c];exact b,⟨c.1,c.2.1,by have:=c.2.2;omega⟩,d⟩
theorem AtJ.app{u fc fc':Nat}{cells:List AV}{adj:Nat->List Int}{m:Mem}(h:AtJ u fc cells adj m){v:Nat}(hv:v<cells.length)(x:Int){id0:Id}(h1:id0.1=u)(h2:id0.2.2=35\/id0.2.2=44)(h3:fc<=id0.2.1)(h4:id0.2.1<fc')(hr:(adj v).length<=100000) :
 ∃a' m' idA,(∀{R:Type} (k:AV->Mem->Option R),sApp 1 8 id0 (some (intE x,1)) cells[v] m k=k a' m')/\AtJ u fc' (cells.set v a') (fun w=>if w=v then adj v++[x]else adj w) m'/\a'.cells=[a']/\a'.one=true/\m'.next=m.next/\(∀j:Id,¬okjd u fc' j->m'.get j=m.get j) /\
  tA id0 cells[v]=some [idA]/\(idA.2.2=35\/idA.2.2=44)/\idA.1=u:=by
 obtain⟨ids,e1,e2⟩:=h.sh
 have hro:∀k,k<=100001->x1r4 k 8:=fun k hk=>by unfold x1r4;omega
 have others:∀(w:Nat) (hw:w<cells.length),((cells[w]=nilS/\adj w=[])\/(∃ver,cells[w]=.sref (ids w) ver 0 (adj w).length 1 true/\m.get (ids w)=some (.row ((adj w).flatMap intE) ver false)/\okjd u fc (ids w)/\adj w≠[])):=e1
 rcases e1 v hv with ⟨c1,c2⟩|⟨ver,c1,c2,c3,c4⟩
 ·
  refine⟨.sref id0 0 0 1 1 true,m.new id0 (.row (intE x) 0 false),id0,fun k=>?_,⟨fun w=>if w=v then id0 else ids w,fun w hw=>?_,fun w w' hw hw' n1 n2 hne=>?_⟩,rfl,rfl,rfl,fun j hj=>?_,by rw[c1];rfl,h2,h1⟩
  .rw[c1]
   simp only[sApp]
   rw[if_neg (by omega),if_pos (hro 1 (by omega))]
  .simp only[List.length_set]at hw
   by_cases hwv:w=v
   .subst hwv
    right
    refine⟨0,?_,?_,?_,by simp⟩
    .simp[c2]
    .simp[c2]
    .simp only[if_true];exact⟨h1,h2,h4⟩
   .rw[List.getElem_set_ne (fun e=>hwv e.symm)]
    simp only[if_neg hwv]
    rcases others w hw with h|⟨ver,a,b,c,d⟩
    .exact Or.inl h
    .refine Or.inr ⟨ver,a,?_,⟨c.1,c.2.1,by have:=c.2.2;omega⟩,d⟩
     rw[Mem.get_new,if_neg (by rintro e;rw[e]at c;have:=c.2.2;omega)];exact b
  .simp only[List.length_set]at hw hw'
   by_cases hwv:w=v
   .have hwv':w'≠v:=by omega
    simp only[if_pos hwv,if_neg hwv']
    simp only[if_neg hwv']at n2
    rcases others w' hw' with ⟨_,h⟩|⟨_,_,_,c,_⟩
    .exact absurd h n2
    .intro e;rw[<-e]at c;have:=c.2.2;omega
   .by_cases hwv':w'=v
    .simp only[if_neg hwv,if_pos hwv']
     simp only[if_neg hwv]at n1
     rcases others w hw with ⟨_,h⟩|⟨_,_,_,c,_⟩
     .exact absurd h n1
     .intro e;rw[e]at c;have:=c.2.2;omega
    .simp only[if_neg hwv,if_neg hwv']at n1 n2 ⊢
     exact e2 w w' hw hw' n1 n2 hne
  .rw[Mem.get_new,if_neg (by rintro rfl;exact hj ⟨h1,h2,h4⟩)]
 .have hl:=x1th (adj v)
  refine⟨.sref (ids v) (ver+1) 0 ((adj v).length+1) 1 true,m.set (ids v) (.row ((adj v).flatMap intE++intE x) (ver+1) false),ids v,fun k=>?_,⟨ids,fun w hw=>?_,fun w w' hw hw' n1 n2 hne=>?_⟩,rfl,rfl,rfl,fun j hj=>?_,by rw[c1];rfl,c3.2.1,c3.1⟩
  .rw[c1]
   simp only[sApp,c2]
   rw[if_pos ⟨trivial,trivial,by omega,hro _ (by omega)⟩,if_neg (by omega),if_neg (by omega),List.drop_zero,List.take_of_length_le (by omega)]
  .simp only[List.length_set]at hw
   by_cases hwv:w=v
   .subst hwv
    right
    refine⟨ver+1,by simp,by simp,⟨c3.1,c3.2.1,by have:=c3.2.2;omega⟩,by simp⟩
   .rw[List.getElem_set_ne (fun e=>hwv e.symm)]
    simp only[if_neg hwv]
    rcases others w hw with h|⟨ver',a,b,c,d⟩
    .exact Or.inl h
    .refine Or.inr ⟨ver',a,?_,⟨c.1,c.2.1,by have:=c.2.2;omega⟩,d⟩
     rw[Mem.get_set,if_neg (e2 w v hw hv d c4 hwv)];exact b
  .simp only[List.length_set]at hw hw'
   refine e2 w w' hw hw' ?_ ?_ hne
   .by_cases hwv:w=v
    .subst hwv;exact c4
    .simpa[hwv]using n1
   .by_cases hwv:w'=v
    .subst hwv;exact c4
    .simpa[hwv]using n2
  .rw[Mem.get_set,if_neg (by rintro rfl;exact hj ⟨c3.1,c3.2.1,by have:=c3.2.2;omega⟩)]
structure PInv (fc n:Nat) (ev:AV) (l:List Edge) (k:Nat) (m:Mem):Prop where
 b:m.get (0,0,1)=some (.row [I n,ev] 0 false)
 t3:m.get (0,6,3)=some (.row [srI (0,5,9) n] 0 false)
 a:∃cells,m.get (0,5,9)=some (.row cells 0 false)/\cells.length=n/\AtJ 0 fc cells (fun v=>nearU (l.take k) v) m
 nx:m.next=1
theorem x263(l:List Edge)(a:Int):(nearU l a).length<=l.length:=by
 unfold nearU
 induction l with
 |nil=>simp
 |cons e r ih=>
  rw[List.flatMap_cons,List.length_append,List.length_cons]
  have:(if 0<e.wt then(if e.fr=a then[e.to]else if e.to=a then[e.fr]else[])else[]).length<=1:=by
   split
   .split
    .simp
    .split<;>simp
   .simp
  omega
theorem p_loop(d:Nat)(hs:FHs){n:Nat}{ev:AV}{l:List Edge}(hev:Sl Edge.c ev l)(hl:l.length<=600)(hn:n<=200)(hed:∀e∈l,EdgeIn n e/\e.fr≠e.to):∀(suf:List Edge) (k j:Nat) (m:Mem) (fc:Nat),l.drop k=suf->suf.length<j->k<=l.length->PInv fc n ev l k m ->
 ∃m' fc',x2l (x1qp d) hs 0 j (.ptr (0,0,1) 0 0) (.ptr (0,6,3) 0 0) ev (I l.length) (I k) m fc=x1n (x1qp d) hs 0 (.ptr (0,0,1) 0 0) (.ptr (0,6,3) 0 0) m' fc'/\(∃fc',PInv fc' n ev l l.length m'):=by
 intro suf
 induction suf with
 |nil=>
  intro k j m fc hd hj hk hi
  obtain⟨j,rfl⟩:∃i,j=i+1:=⟨j-1,by simp at hj;omega⟩
  have hke:k=l.length:=by have:=List.drop_eq_nil_iff.mp hd;omega
  subst hke
  refine⟨m,fc+1,?_,fc,hi⟩
  simp only[x2l]
  unfold x91
  simp
 |cons e r ih=>
  intro k j m fc hd hj hk hi
  obtain⟨j,rfl⟩:∃i,j=i+1:=⟨j-1,by simp at hj;omega⟩
  obtain⟨hk,hke,hd⟩:=x1sm hd
  have hk':(k:Int)<(l.length:Int):=by omega
  have ix:=hev.ix Edge.len hk
  have ld:=x1vt (m:=m) Edge.len (by omega) hk
  rw[hke]at ld
  obtain⟨⟨f0,f1,t0,t1,j0,j1,w0,w1⟩,hne⟩:=hed e (hke▸List.getElem_mem hk)
  obtain⟨m1,hm1⟩:∃m1:Mem,m1=(m.new (0,fc+1+2,5) (.row [I 0,I 0,I 0,I 0] 0 false)).set (0,fc+1+2,5) (.row e.c 0 false):=⟨_,rfl⟩
  have q1:∀id:Id,id≠(0,fc+1+2,5)->m1.get id=m.get id:=fun id hid=>by rw[hm1,Mem.get_set,if_neg hid,Mem.get_new,if_neg hid]
  have hE:m1.get (0,fc+1+2,5)=some (.row [I e.fr,I e.to,I e.jump,I e.wt] 0 false):=by rw[hm1];simp[Edge.c]
  have hn1:m1.next=m.next:=by rw[hm1];simp
  have htk:l.take (k+1)=l.take k++[e]:=by rw[List.take_succ_eq_append_getElem hk,hke]
  obtain⟨cells,ha0,hcl,hA0⟩:=hi.a
  have g3:m1.get (0,6,3)=some (.row [srI (0,5,9) n] 0 false):=by rw[q1 _ (by simp)];exact hi.t3
  have ga:m1.get (0,5,9)=some (.row cells 0 false):=by rw[q1 _ (by simp)];exact ha0
  have hA1:AtJ 0 fc cells (fun v=>nearU (l.take k) v) m1:=hA0.frame (fun id hid=>q1 id (by rintro rfl;rcases hid.2.1 with h|h<;>simp at h)) (Nat.le_refl _)
  by_cases c:0<e.wt
  .have cfr:e.fr.toNat<cells.length:=by omega
   have cto:e.to.toNat<cells.length:=by omega
   have afr:sIx 1 (srI (0,5,9) n) (I e.fr)=some (.ptr (0,5,9) 0 e.fr.toNat):=x1re f0 f1
   have ato:sIx 1 (srI (0,5,9) n) (I e.to)=some (.ptr (0,5,9) 0 e.to.toNat):=x1re t0 t1
   have nl:∀v:Int,(nearU (l.take k) v).length<=600:=fun v=>by have:=x263 (l.take k) v;simp at this;omega
   have hA2:AtJ 0 (fc+1+7) cells (fun v=>nearU (l.take k) v) m1:=hA1.frame (fun _ _=>rfl) (by omega)
   obtain⟨a1,m4,id1,A1,AI1,c11,c12,n4,q4,tA1,ty1,iu1⟩:=hA2.app cfr e.to (id0:=(0,fc+1+21,35)) (fc':=fc+1+25) rfl (Or.inl rfl) (by simp only;omega) (by simp only;omega) (by have:=nl (e.fr.toNat:Int);omega)
   have e24:(cells.set e.fr.toNat a1)[e.to.toNat]'(by simpa using cto)=cells[e.to.toNat]:=by rw[List.getElem_set_ne (by omega)]
   obtain⟨a2,m6,id2,A2,AI2,c21,c22,n6,q6,tA2,ty2,iu2⟩:=AI1.app (v:=e.to.toNat) (by simpa using cto) e.fr (id0:=(0,fc+1+30,44)) (fc':=fc+1+35+2) rfl (Or.inr rfl) (by simp only;omega) (by simp only;omega) (by have h1:=nl (e.fr.toNat:Int);have h2:=nl (e.to.toNat:Int);show(if _ then _ else _:List Int).length<=_;split<;>first|(rw[List.length_append,List.length_singleton];omega)|exact Nat.le_trans h2 (by omega))
   rw[e24]at A2 tA2
   have nok:∀(s t g:Nat),t≠35->t≠44->¬okjd 0 g (0,s,t):=fun s t g h1 h2 h=>by rcases h.2.1 with h|h<;>simp at h<;>omega
   have r4:∀(s t:Nat),t≠35->t≠44->m4.get (0,s,t)=m1.get (0,s,t):=fun s t h1 h2=>q4 _ (nok s t _ h1 h2)
   have r6:∀(s t:Nat),t≠35->t≠44->m6.get (0,s,t)=m1.get (0,s,t):=fun s t h1 h2=>by rw[q6 _ (nok s t _ h1 h2),r4 s t h1 h2]
   obtain⟨m7,hm7⟩:∃m7,m7=m6.set (0,5,9) (.row (cells.set e.fr.toNat a1) 0 false):=⟨_,rfl⟩
   obtain⟨m8,hm8⟩:∃m8,m8=m7.set (0,5,9) (.row ((cells.set e.fr.toNat a1).set e.to.toNat a2) 0 false):=⟨_,rfl⟩
   have q8:∀id:Id,id≠(0,5,9)->m8.get id=m6.get id:=fun id hid=>by rw[hm8,Mem.get_set,if_neg hid,hm7,Mem.get_set,if_neg hid]
   obtain⟨m',fc',z1,z2⟩:=ih (k+1) j m8 (fc+1+35+2) hd (by simp at hj;omega) (by omega) ⟨by rw[q8 _ (by simp),r6 _ _ (by simp) (by simp),q1 _ (by simp)];exact hi.b,by rw[q8 _ (by simp),r6 _ _ (by simp) (by simp)];exact g3,
    ⟨(cells.set e.fr.toNat a1).set e.to.toNat a2,by rw[hm8];simp,by simp[hcl],by
      have hfe:(fun v:Nat=>nearU (l.take (k+1)) (v:Int))=(fun w:Nat=>if w=e.to.toNat then(if e.to.toNat=e.fr.toNat then nearU (l.take k) (e.fr.toNat:Int)++[e.to]else nearU (l.take k) (e.to.toNat:Int))++[e.fr]else if w=e.fr.toNat then nearU (l.take k) (e.fr.toNat:Int)++[e.to]else nearU (l.take k) (w:Int)):=by
       funext w
       rw[htk,x262,if_pos c]
       have hn':¬(e.to.toNat=e.fr.toNat):=by omega
       by_cases h1:w=e.to.toNat
       .rw[if_pos h1,if_neg hn',if_neg (show ¬e.fr=(w:Int) by omega),if_pos (show e.to=(w:Int) by omega),h1]
       .by_cases h2:w=e.fr.toNat
        .rw[if_neg h1,if_pos h2,if_pos (show e.fr=(w:Int) by omega),h2]
        .rw[if_neg h1,if_neg h2,if_neg (show ¬e.fr=(w:Int) by omega),if_neg (show ¬e.to=(w:Int) by omega),List.append_nil]
      rw[hfe]
      exact AI2.frame (fun id hid=>q8 id (by rintro rfl;rcases hid.2.1 with h|h<;>simp at h)) (Nat.le_refl _)⟩,
    by rw[hm8,hm7];simp only[Mem.next_set,n6,n4,hn1];exact hi.nx⟩
   refine⟨m',fc',?_,z2⟩
   rw[<-z1]
   simp only[x2l]
   unfold x91 x90
   simp only[x1t7]
   simp only[x1s6,x1qt,hk',decide_true,x1ru,ix,ld,x1ub,x1rl,Mem.get_new,if_true,Edge.c,x203]
   rw[show([I e.fr,I e.to,I e.jump,I e.wt].all AV.one)=true from rfl]
   simp only[x1qw,x1qt]
   rw[show(m.new (0,fc+1+2,5) (.row [I 0,I 0,I 0,I 0] 0 false)).set (0,fc+1+2,5) (.row [I e.fr,I e.to,I e.jump,I e.wt] 0 false)=m1 from hm1.symm]
   have hel:∀(M:Mem) (x:Int),elems M.get 1 (.slit [I x] 1 true)=some (intE x,1):=fun _ _=>rfl
   have h4E:m4.get (0,fc+1+2,5)=some (.row [I e.fr,I e.to,I e.jump,I e.wt] 0 false):=by rw[r4 _ _ (by simp) (by simp)];exact hE
   have h43:m4.get (0,6,3)=some (.row [srI (0,5,9) n] 0 false):=by rw[r4 _ _ (by simp) (by simp)];exact g3
   have h4a:m4.get (0,5,9)=some (.row cells 0 false):=by rw[r4 _ _ (by simp) (by simp)];exact ga
   have h6a:m6.get (0,5,9)=some (.row cells 0 false):=by rw[r6 _ _ (by simp) (by simp)];exact ga
   simp only[x1rh,x1qt,Nat.zero_add,x1qy,hE,g3,ga,x1r0,Nat.beq_refl,x1qw,List.drop_zero,List.drop_succ_cons,rd_f,sGt_I,c,decide_true,x1ru,afr,ato,x1y7 cfr,x1t8,x1wg,hel,A1]
   simp only[x1rh,x1qt,Nat.zero_add,x1qy,h4E,h43,h4a,x1r0,Nat.beq_refl,x1qw,List.drop_zero,List.drop_succ_cons,rd_f,afr,ato,x1y7 cto,x1t8,x1wg,hel,A2,x1rl,h6a,x20a cfr c11 c12]
   rw[<-hm7]
   have h7a:m7.get (0,5,9)=some (.row (cells.set e.fr.toNat a1) 0 false):=by rw[hm7];simp
   have cto7:e.to.toNat<(cells.set e.fr.toNat a1).length:=by simpa using cto
   simp only[h7a,x20a cto7 c21 c22,x1qt]
   rw[<-hm8]
   have ne1:∀s t:Nat,t≠35->t≠44->((0,s,t)=id1)=False:=fun s t h1 h2=>eq_false (by rintro h;rw[<-h]at ty1;simp at ty1;omega)
   have ne2:∀s t:Nat,t≠35->t≠44->((0,s,t)=id2)=False:=fun s t h1 h2=>eq_false (by rintro h;rw[<-h]at ty2;simp at ty2;omega)
   have ne3:(id1=(0,fc+1+29,43))=False:=eq_false (by rintro h;rw[h]at ty1;simp at ty1)
   simp[x1qs,disj,tR,tS,tX,tA1,tA2,ne1,ne2,ne3]
   unfold x6z
   simp(disch:=omega) [x1sl,x1rs]
  .obtain⟨m',fc',r1,r2⟩:=ih (k+1) j m1 (fc+1+7+2) hd (by simp at hj;omega) (by omega) ⟨by rw[q1 _ (by simp)];exact hi.b,g3,⟨cells,ga,hcl,by
    have:(fun v:Nat=>nearU (l.take (k+1)) (v:Int))=fun v:Nat=>nearU (l.take k) (v:Int):=by
     funext v;rw[htk,x262,if_neg c,List.append_nil]
    rw[this]
    exact hA1.frame (fun _ _=>rfl) (by omega)⟩,by rw[hn1];exact hi.nx⟩
   refine⟨m',fc',?_,r2⟩
   rw[<-r1]
   simp only[x2l]
   unfold x91 x90
   simp only[x1t7]
   simp(disch:=omega) [hk',ix,ld,Edge.c]
   rw[show(m.new (0,fc+1+2,5) (.row [I 0,I 0,I 0,I 0] 0 false)).set (0,fc+1+2,5) (.row [I e.fr,I e.to,I e.jump,I e.wt] 0 false)=m1 from hm1.symm]
   simp(disch:=omega) [hE,c,x6z]
theorem Gk.at{ok:Id->Prop}{m:Mem}{a:AV}{l:List Int}(h:Gk 1 intE ok m a l){k:Nat}(hk:k<l.length):∃p,sIx 1 a (I k)=some p/\sLd false 1 p m=some (I (at0 l k)):=by
 rcases h with ⟨rfl,rfl⟩|⟨id,ver,h0,rfl,hg⟩
 .simp at hk
 .refine⟨.ptr id ver k,?_,?_⟩
  .simp[sIx,asI,hk]
  .rw[x1qy,hg]
   simp only[x1vv,Nat.beq_refl,cond_true]
   exact x1s3 hk
theorem Gk.len{ok:Id->Prop}{m:Mem}{a:AV}{l:List Int}(h:Gk 1 intE ok m a l):sLen Try.prog x5 a=some (I l.length):=by
 rcases h with ⟨rfl,rfl⟩|⟨id,ver,h0,rfl,hg⟩
 .exact x1y3 x1r8
 .rfl
def PartC(n:Nat)(l:List Edge)(m:Mem):Prop:=m.get (0,6,3)=some (.row [srI (0,5,9) n] 0 false)/\∃cells,m.get (0,5,9)=some (.row cells 0 false)/\cells.length=n/\∀(v:Nat) (hv:v<cells.length),Gk 1 intE (fun id=>id.1=0) m cells[v] (nearU l v)
theorem PartC.frame{n:Nat}{l:List Edge}{m m':Mem}(h:PartC n l m)(hm:∀id:Id,id.1<1->m'.get id=m.get id):PartC n l m':=by
 obtain⟨h1,cells,h2,h3,h4⟩:=h
 exact⟨by rw[hm _ (by simp)];exact h1,cells,by rw[hm _ (by simp)];exact h2,h3,fun v hv=>(h4 v hv).frame fun id hid=>hm id (by omega)⟩
theorem l_from(d:Nat)(hs:FHs){u0 sL fq n:Nat}{a:AV}{nb:List Int}(hn:n<=200)(hnb:∀b∈nb,0<=b/\b<n)(hnl:nb.length<=100000){g:Int}(hg:0<=g):∀(suf:List Int) (k j:Nat) (out q:List Int) (m:Mem) (fc:Nat),nb.drop k=suf->suf.length<j->Gk 1 intE (fun id=>id.1=0) m a nb ->
 NumMem 1 sL fq n out q g m->StOK n (out,q)->negC out+q.length<=n ->
 ∃m',x4y (x1qp (d+1)) hs u0 j (.clo x1i [.ptr (1,4,5) 0 0,.ptr (1,6,6) 0 0,.ptr (1,fq,8) 0 0]) a (I nb.length) (I k) m fc=some (.tup [],m') /\
  NumMem 1 sL fq n (x1rz g suf (out,q)).1 (x1rz g suf (out,q)).2 g m'/\m.next<=m'.next/\FrU 1 sL fq m m':=by
 intro suf
 induction suf with
 |nil=>
  intro k j out q m fc hd hj hG hM hO hq
  obtain⟨j,rfl⟩:∃i,j=i+1:=⟨j-1,by simp at hj;omega⟩
  have hk:¬((k:Int)<(nb.length:Int)):=by have:=List.drop_eq_nil_iff.mp hd;omega
  refine⟨m,?_,hM,Nat.le_refl _,fun _ _ _ _=>rfl⟩
  simp only[x4y]
  unfold xct
  simp[hk]
 |cons b r ih=>
  intro k j out q m fc hd hj hG hM hO hq
  obtain⟨j,rfl⟩:∃i,j=i+1:=⟨j-1,by simp at hj;omega⟩
  obtain⟨hk,hke,hd⟩:=x1sm hd
  have hk':(k:Int)<(nb.length:Int):=by omega
  obtain⟨p,p1,p2⟩:=hG.at hk
  have e1:at0 nb k=b:=by rw[x1ri hk,hke]
  rw[e1]at p2
  obtain⟨b0,b1⟩:=hnb b (hke▸List.getElem_mem hk)
  obtain⟨m1,h1,h2,h3,h4⟩:=a_add d hs hM (by omega) b0 b1
  obtain⟨o1,o2⟩:=x22p hO hg b0 b1
  simp only at o2
  obtain⟨m',r1,r2,r3,r4⟩:=ih (k+1) j (addM g (out,q) b).1 (addM g (out,q) b).2 m1 (fc+9) hd (by simp at hj;omega) (hG.frame fun id hid=>h4 id (by omega) (by rintro rfl;have:(1:Nat)+1=0:=hid;omega) (by rintro rfl;have:(1:Nat)=0:=hid;omega)) h2 o1 (by omega)
  refine⟨m',?_,r2,by omega,fun id e1 e2 e3=>by rw[r4 id e1 e2 e3,h4 id e1 e2 e3]⟩
  rw[<-r1]
  simp only[x4y]
  unfold xct
  simp(disch:=omega)only[x1s6,x1qt,hk',decide_true,x1ru,p1,p2,h1,x1sl,x1rs]
  rfl
theorem x28j(d:Nat){n:Nat}{l:List Edge}(hn:n<=200)(hl:l.length<=600)(hed:∀e∈l,EdgeIn n e/\e.fr≠e.to):x1zd (x1qp (d+2)) (.clo x3k [.ptr (0,6,3) 0 0]) n (fun a=>nearU l a) 1 (PartC n l):=by
 intro hs sL fq out q g a m han hC hM hg hO hq
 obtain⟨h1,cells,h2,h3,h4⟩:=hC
 have hac:a<cells.length:=by omega
 have hG:=h4 a hac
 have hlen:=x263 l (a:Int)
 obtain⟨m',r1,r2,r3,r4⟩:=l_from d hs (u0:=m.next) (sL:=sL) (fq:=fq) (a:=cells[a]) (nb:=nearU l a) hn (fun b hb=>x22q hed hb) (by omega) hg (nearU l a) 0 NN out q ⟨m.hp,m.next+1⟩ 6 rfl (by rw[x1r6];omega) (hG.frame fun _ _=>rfl) ⟨hM.t5,hM.t6,hM.o,by
  obtain⟨x,x1,x2⟩:=hM.t8
  exact⟨x,x1,x2.frame fun _ _=>rfl⟩,hM.ol,by have:=hM.nx;show 1+1<m.next+1;omega⟩ hO hq
 refine⟨.tup [],m',?_,r2,by have:m.next+1<=m'.next:=r3;omega,r4⟩
 show x1qp (d+2) hs x3k _ m=_
 rw[x107]
 have ia:sIx 1 (srI (0,5,9) n) (I a)=some (.ptr (0,5,9) 0 a):=by simpa using x1re (id:=(0,5,9)) (n:=n) (k:=(a:Int)) (by omega) (by omega)
 show xcu (x1qp (d+1)) hs m.next (I a) _ (.ptr (0,6,3) 0 0) ⟨m.hp,m.next+1⟩ 0=_
 unfold xcu
 have G1:(⟨m.hp,m.next+1⟩:Mem).get (0,6,3)=some (.row [srI (0,5,9) n] 0 false):=h1
 have G2:(⟨m.hp,m.next+1⟩:Mem).get (0,5,9)=some (.row cells 0 false):=h2
 simp only[x1qy,G1,G2,x1r0,Nat.beq_refl,x1qw,List.drop_zero,rd_f,x1qt,ia,x1y7 hac,hG.len]
 exact r1
def x1r9(n:Nat)(l:List Edge):List Int:=(numM n (fun a=>nearU l a)).1
theorem w_parts(d:Nat){n:Nat}{ev:AV}{l:List Edge}(hev:Sl Edge.c ev l)(hl:l.length<=600)(hn:n<=200)(hed:∀e∈l,EdgeIn n e/\e.fr≠e.to)(m:Mem) :
 x1qq (x1qp (d+5)) x5h [.agg [I n,ev]] m=some (.slit ((x1r9 n l).flatMap intE) n false,m)/\(x1r9 n l).length=n:=by
 have hel:=hev.len x1v5
 have ho:=hev.one
 obtain⟨m1,hm1⟩:∃m1,m1=(⟨[],1⟩:Mem).new (0,0,1) (.row [I n,ev] 0 false):=⟨_,rfl⟩
 obtain⟨m2,hm2⟩:∃m2,m2=m1.new (0,5,9) (.row (List.replicate n nilS) 0 false):=⟨_,rfl⟩
 obtain⟨m3,hm3⟩:∃m3,m3=(m2.new (0,6,3) (.row [nilS] 0 false)).set (0,6,3) (.row [srI (0,5,9) n] 0 false):=⟨_,rfl⟩
 have g1:m1.get (0,0,1)=some (.row [I n,ev] 0 false):=by rw[hm1];simp
 have g3:m3.get (0,0,1)=some (.row [I n,ev] 0 false):=by rw[hm3,hm2];simp[Mem.get_set,Mem.get_new,g1]
 have h0:PInv 13 n ev l 0 m3:=⟨g3,by rw[hm3];simp,⟨List.replicate n nilS,by rw[hm3,hm2];simp[Mem.get_set,Mem.get_new],by simp,⟨fun _=>(0,0,0),fun v hv=>Or.inl ⟨by simp,by rw[List.take_zero];rfl⟩,fun v w hv hw n1=>absurd (by rw[List.take_zero];rfl) n1⟩⟩,by rw[hm3,hm2,hm1];rfl⟩
 obtain⟨m4,fc4,r1,⟨fcx,r2⟩⟩:=p_loop (d+4) [] hev hl hn hed l 0 NN m3 13 rfl (by rw[x1r6];omega) (by omega) h0
 have hat:l.take l.length=l:=List.take_of_length_le (Nat.le_refl _)
 obtain⟨cells,ha,hcl,hA⟩:=r2.a
 rw[hat]at hA
 have hC:PartC n l m4:=⟨r2.t3,cells,ha,hcl,fun v hv=>by
  obtain⟨ids,e1,e2⟩:=hA.sh
  rcases e1 v hv with ⟨a,b⟩|⟨ver,a,b,c,-⟩
  .exact Or.inl ⟨a,b⟩
  .exact Or.inr ⟨ids v,ver,c.1,a,b⟩⟩
 have hn4:=r2.nx
 obtain⟨sL,m5,s1,s2,s3,s4,s5⟩:=x261 d [] hn (m:=m4) (f:=.clo x3k [.ptr (0,6,3) 0 0]) (nb:=fun a=>nearU l a) (C:=PartC n l) (by rw[hn4];exact x28j (d+1) hn hl hed) (by rw[hn4];exact fun a b h1 h2=>h1.frame h2) (fun a _ b hb=>x22q hed hb) hC
 rw[hn4]at s1 s2
 refine⟨?_,s3⟩
 have hfz:=frz_own (m:=m5) (id:=(1+1,sL,30)) (l:=x1r9 n l) s2
 have hpl:(x1r9 n l).length=n:=s3
 rw[hpl]at hfz
 refine x1t6 (m':=m5) (r:=srL 1 sL n) (by simp[hev.still1]) ?_ hfz
 rw[xzk]
 show xbv (x1qp (d+4)) [] 0 (.agg [I (n:Int),ev]) ⟨[],1⟩ 0=_
 unfold xbv xbu
 simp only[x1vu,AV.cells,List.all_cons,List.all_nil,ho,show(I (n:Int)).one=true from rfl,Bool.and_self,x1qw,x1vx]
 rw[<-hm1]
 simp only[x1qy,x1rh,g1,x1r0,Nat.beq_refl,x1qw,List.drop_zero,Nat.zero_add,rd_f,x1qt,mkSl_sl _ hn]
 rw[<-hm2]
 have hz2:xbw=[nilS]:=by kernel_rfl
 have hst:x1s2 1 0 0 (srI (0,5,9) n) (some (.row [nilS] 0 false))=some (.row [srI (0,5,9) n] 0 false):=by
  rw[x1we];simp[AV.one]
 simp only[hz2,x1ub,x1rl,Mem.get_new,if_true,hst,x1qt]
 rw[<-hm3]
 simp only[x1qy,x1rh,g3,x1r0,Nat.beq_refl,x1qw,List.drop_zero,Nat.zero_add,List.drop_succ_cons,rd_f,x1qt,hel]
 rw[show((0:Nat):Int)=0 from rfl]at r1
 show x2l (x1qp (d+4)) [] 0 NN (.ptr (0,0,1) 0 0) (.ptr (0,6,3) 0 0) ev (I l.length) (I 0) m3 13=_
 rw[r1]
 unfold x1n
 simp only[x1qy,x1rh,r2.b,x1r0,Nat.beq_refl,x1qw,List.drop_zero,Nat.zero_add,rd_f,x1qt,s1]
theorem um_map:Try.prog.underlying x4h=some (.map x1sq x1sq):=by kernel_rfl
theorem um_int:Try.prog.underlying x1sq=some (.int .i64):=by kernel_rfl
theorem zv_int:x1zi Try.prog x1sq=some (I 0):=by kernel_rfl
def mpE(E:List (Int×Int)):List (Value×AV):=E.map fun x=>(.int .i64 x.1,I x.2)
def lkp:List (Int×Int)->Int->Option Int
 |[],_=>none
 |x::r,p=>if p=x.1 then some x.2 else lkp r p
theorem lkp_app(E:List (Int×Int))(p v q:Int)(h:lkp E p=none):lkp (E++[(p,v)]) q=if q=p then some v else lkp E q:=by
 induction E with
 |nil=>simp[lkp]
 |cons x r ih=>
  simp only[lkp,List.cons_append]at h ⊢
  by_cases c:p=x.1
  .rw[if_pos c]at h;cases h
  .rw[if_neg c]at h
   rw[ih h]
   by_cases e:q=x.1
   .rw[if_pos e,if_neg (by omega),if_pos e]
   .rw[if_neg e,if_neg e]
theorem x22r(E:List (Int×Int))(p:Int):x1to (.int .i64) (.int .i64 p) (mpE E)=true:=by
 unfold x1to mpE
 simp only[List.all_cons,List.map_map,List.all_map]
 rw[Bool.and_eq_true]
 exact⟨rfl,by rw[List.all_eq_true];intro x _;rfl⟩
theorem x264(p q:Int):x1vm (.int .i64 p) (.int .i64 q)=decide (p=q):=by
 unfold x1vm
 rfl
theorem find_mp(E:List (Int×Int))(p:Int):findKey (.int .i64 p) (mpE E)=(lkp E p).map I:=by
 induction E with
 |nil=>rfl
 |cons x r ih=>
  unfold mpE at ih ⊢
  simp only[List.map_cons,findKey,lkp,x264]
  by_cases c:p=x.1
  .simp[c]
  .simp only[c,decide_false,Bool.false_eq_true,if_false];exact ih
theorem set_mp(E:List (Int×Int))(p v:Int)(h:lkp E p=none):x1tn (.int .i64 p) (I v) (mpE E)=mpE (E++[(p,v)]):=by
 induction E with
 |nil=>rfl
 |cons x r ih=>
  simp only[lkp]at h
  unfold mpE at ih ⊢
  simp only[List.map_cons,List.cons_append,x1tn,x264]
  by_cases c:p=x.1
  .rw[if_pos c]at h;cases h
  .rw[if_neg c]at h
   simp only[c,decide_false,Bool.false_eq_true,if_false,ih h]
theorem look_ok(id:Id)(E:List (Int×Int))(p:Int)(m:Mem)(h:m.get id=some (.map (mpE E))):x1wb Try.prog x4h (.mp id) (I p) true m=some (.tup [I ((lkp E p).getD 0),B (lkp E p).isSome]):=by
 unfold x1wb
 simp only[um_map,um_int,zv_int,x1rj,x1w5,h]
 rw[if_pos (x22r E p),find_mp]
 cases lkp E p<;>rfl
theorem look_at(id:Id)(E:List (Int×Int))(p:Int)(m:Mem)(h:m.get id=some (.map (mpE E))):x1wb Try.prog x4h (.mp id) (I p) false m=some (I ((lkp E p).getD 0)):=by
 unfold x1wb
 simp only[um_map,um_int,zv_int,x1rj,x1w5,h]
 rw[if_pos (x22r E p),find_mp]
 cases lkp E p<;>rfl
theorem up_ok{R:Type}(id:Id)(E:List (Int×Int))(p v:Int)(m:Mem)(k:Mem->Option R)(h:m.get id=some (.map (mpE E)))(hn:lkp E p=none):x1xv Try.prog x4h (.mp id) (I p) (I v) m k=k (m.set id (.map (mpE (E++[(p,v)])))):=by
 unfold x1xv
 simp only[um_map,um_int,x1rj,h]
 rw[if_pos (x22r E p),set_mp E p v hn]
def fst0(parts:List Int)(i:Nat):Nat:=parts.findIdx (fun x=>x == at0 parts i)
theorem fst0_le{parts:List Int}{i:Nat}(h:i<parts.length):fst0 parts i<=i/\at0 parts (fst0 parts i)=at0 parts i:=by
 have h1:parts.findIdx (fun x=>x == at0 parts i)<=i:=by
  apply Classical.byContradiction
  intro hc
  have:=List.not_of_lt_findIdx (p:=fun x=>x == at0 parts i) (xs:=parts) (i:=i) (by omega)
  exact absurd (x1ri h).symm (by simpa using this)
 refine⟨h1,?_⟩
 have hl:parts.findIdx (fun x=>x == at0 parts i)<parts.length:=by omega
 have:=List.findIdx_getElem (p:=fun x=>x == at0 parts i) (w:=hl)
 unfold fst0
 rw[x1ri hl]
 simpa using this
def x1ra(n:Nat)(parts tu:List Int):List Int:=(List.range n).map fun i=>at0 tu i-at0 tu (fst0 parts i)
theorem x1v6(n:Nat)(parts tu:List Int):(x1ra n parts tu).length=n:=by simp[x1ra]
theorem x265{n:Nat}{parts tu:List Int}{k:Nat}(h:k<n):(x1ra n parts tu)[k]'(by rw[x1v6];exact h)=at0 tu k-at0 tu (fst0 parts k):=by simp[x1ra]
theorem l_norm(d:Nat)(hs:FHs){us u n:Nat}{ev:AV}{l:List Edge}{fl tu ex parts:List Int}{idM:Id}(hM:idM.1<us)(hn:n<=200)(htl:tu.length=n)(hpl:parts.length=n)(htb:∀k,-1000000<=at0 tu k/\at0 tu k<=1000000) :
 ∀(s k j:Nat) (m:Mem) (fc:Nat) (E:List (Int×Int)),k+s=n->s<j->SolMem us n ev l fl ((x1ra n parts tu).take k++tu.drop k) ex m->m.get idM=some (.map (mpE E)) ->
 (∀p,lkp E p=if parts.findIdx (fun x=>x == p)<k then some (at0 tu (parts.findIdx (fun x=>x == p)))else none) ->
 ∃m',x1l (x1qp d) hs u j (.ptr (us,21,25) 0 0) (.mp idM) (.slit (parts.flatMap intE) n false) (I n) (I k) m fc=some (.ptr (us,21,25) 0 0,m')/\SolMem us n ev l fl (x1ra n parts tu) ex m'/\m'.next=m.next:=by
 intro s
 induction s with
 |zero=>
  intro k j m fc E hk hj hS hE hL
  obtain⟨j,rfl⟩:∃i,j=i+1:=⟨j-1,by omega⟩
  have hkn:k=n:=by omega
  subst hkn
  rw[List.take_of_length_le (by rw[x1v6];omega),List.drop_eq_nil_of_le (by omega),List.append_nil]at hS
  refine⟨m,?_,hS,rfl⟩
  simp only[x1l]
  unfold xbf x14
  simp
 |succ s ih=>
  intro k j m fc E hk hj hS hE hL
  obtain⟨j,rfl⟩:∃i,j=i+1:=⟨j-1,by omega⟩
  have hkn:k<n:=by omega
  have hk':(k:Int)<(n:Int):=by omega
  have hkp:k<parts.length:=by omega
  obtain⟨p,hp⟩:∃p,p=at0 parts k:=⟨_,rfl⟩
  have hix:sIx 1 (.slit (parts.flatMap intE) n false) (I k)=some (.plit ((parts.drop k).flatMap intE)):=by
   have:=(Sl.lit parts false (enc:=intE)).ixI x1rk (k:=(k:Int)) (by omega) (by omega)
   rw[hpl]at this;simpa using this
  have hld:sLd false 1 (.plit ((parts.drop k).flatMap intE)) m=some (I p):=by rw[x1rg hkp,hp]
  have iT:sIx 1 (srI (us,11,15) n) (I k)=some (.ptr (us,11,15) 0 k):=by simpa using x1re (id:=(us,11,15)) (n:=n) (k:=(k:Int)) (by omega) hk'
  obtain⟨cur,hcur⟩:∃cur,cur=(x1ra n parts tu).take k++tu.drop k:=⟨_,rfl⟩
  rw[<-hcur]at hS
  have hcl:k<cur.length:=by rw[hcur];simp[x1v6];omega
  have hck:at0 cur k=at0 tu k:=by rw[hcur];exact x208 (by omega) (by rw[x1v6];omega)
  obtain⟨f0,f1⟩:=fst0_le hkp
  have hfi:parts.findIdx (fun x=>x == p)=fst0 parts k:=by rw[hp];rfl
  have hb1:=htb k
  have hb2:=htb (fst0 parts k)
  have hnext:cur.set k (at0 tu k-at0 tu (fst0 parts k))=(x1ra n parts tu).take (k+1)++tu.drop (k+1):=by
   rw[hcur,<-x265 hkn]
   exact x1z7 (by omega) (by rw[x1v6];exact hkn)
  have main:∀(E':List (Int×Int)) (m1:Mem) (g:Nat),(∀id:Id,id≠idM->m1.get id=m.get id)->m1.next=m.next->m1.get idM=some (.map (mpE E'))->lkp E' p=some (at0 tu (fst0 parts k)) ->
   (∀q,lkp E' q=if parts.findIdx (fun x=>x == q)<k+1 then some (at0 tu (parts.findIdx (fun x=>x == q)))else none) ->
   ∃m',x4g (x1qp d) hs u (x1l (x1qp d) hs u j) (.ptr (us,21,25) 0 0) (.mp idM) (I k) (I p) (.slit (parts.flatMap intE) n false) (I n) (I k) m1 g=some (.ptr (us,21,25) 0 0,m')/\SolMem us n ev l fl (x1ra n parts tu) ex m'/\m'.next=m.next:=by
   intro E' m1 g q1 n1 hE1 hL1 hL2
   have hS1:SolMem us n ev l fl cur ex m1:=hS.frame fun id hid=>q1 id (by rintro rfl;omega)
   obtain⟨M,hMM⟩:∃M,M=m1.set (us,11,15) (.row ((cur.set k (at0 tu k-at0 tu (fst0 parts k))).flatMap intE) 0 false):=⟨_,rfl⟩
   have q:∀id:Id,id≠(us,11,15)->M.get id=m1.get id:=fun id hid=>by rw[hMM,Mem.get_set,if_neg hid]
   have hSM:SolMem us n ev l fl ((x1ra n parts tu).take (k+1)++tu.drop (k+1)) ex M:=by
    obtain⟨a1,a2,a3,a4,⟨cells,c1,c2,c3⟩,a5,a6,a7⟩:=hS1
    refine⟨?_,?_,by rw[hMM,<-hnext];simp,?_,⟨cells,?_,c2,fun w hw=>(c3 w hw).frame fun id hid=>q id (by rintro rfl;rcases hid with ⟨_,h|h⟩<;>simp at h)⟩,a5,by rw[<-hnext];simp[a6],a7⟩<;>rw[q _ (by simp)]<;>assumption
   obtain⟨m',h1,h2,h3⟩:=ih (k+1) j M (g+13+2) E' (by omega) (by omega) hSM (by rw[q _ (by rintro rfl;simp at hM)];exact hE1) hL2
   refine⟨m',?_,h2,by rw[h3,hMM,Mem.next_set,n1]⟩
   rw[<-h1]
   unfold x4g x20
   simp(disch:=omega)only[sNil,x1qt,x1rh,Nat.zero_add,x1qy,hS1.s,x1r0,Nat.beq_refl,x1qw,List.drop_zero,List.drop_succ_cons,rd_f,iT,hS1.t,x1s3 hcl,hck,look_at idM E' p m1 hE1,hL1,Option.getD_some,x1xz,x1rs,x1rl]
   rw[x1ss hcl]
   simp(disch:=omega)only[x1sl,x1rs,x1qt]
   rw[<-hMM]
   rfl
  have pre:∀K,x1qr (B (!(lkp E p).isSome))
   ((sNil (.ptr (us,21,25) 0 0)).bind fun t44=>(sFA 3 t44).bind fun t45=>(sLd false 1 t45 m).bind fun t46=>(sIx 1 t46 (I k)).bind fun t48=>(sLd false 1 t48 m).bind fun t49=>x1xv Try.prog x4h (.mp idM) (I p) t49 m fun m_2=>
     x4g (x1qp d) hs u (x1l (x1qp d) hs u j) (.ptr (us,21,25) 0 0) (.mp idM) (I k) (I p) (.slit (parts.flatMap intE) n false) (I n) (I k) m_2 (fc+1+5+20))
   (x4g (x1qp d) hs u (x1l (x1qp d) hs u j) (.ptr (us,21,25) 0 0) (.mp idM) (I k) (I p) (.slit (parts.flatMap intE) n false) (I n) (I k) m (fc+1+5+10))=K ->
   x1l (x1qp d) hs u (j+1) (.ptr (us,21,25) 0 0) (.mp idM) (.slit (parts.flatMap intE) n false) (I n) (I k) m fc=K:=by
   intro K hK
   rw[<-hK]
   simp only[x1l]
   unfold xbf x8u xbe
   simp only[x1s6,x1qt,hk',decide_true,x1ru,hix,hld,look_ok idM E p m hE]
   rfl
  have hLp:=hL p
  rw[hfi]at hLp
  have other:∀q,q≠p->(parts.findIdx (fun x=>x == q)<k+1↔parts.findIdx (fun x=>x == q)<k):=by
   intro q hq
   constructor
   .intro h
    apply Classical.byContradiction
    intro hc
    have e:parts.findIdx (fun x=>x == q)=k:=by omega
    have hl:parts.findIdx (fun x=>x == q)<parts.length:=by omega
    have:=List.findIdx_getElem (p:=fun x=>x == q) (w:=hl)
    simp only[e,beq_iff_eq]at this
    rw[hp,x1ri hkp]at hq
    exact hq this.symm
   .intro h;omega
  by_cases c:fst0 parts k<k
  .rw[if_pos c]at hLp
   obtain⟨m',h1,h2,h3⟩:=main E m (fc+1+5+10) (fun _ _=>rfl) rfl hE hLp (fun q=>by
    rw[hL q]
    by_cases e:q=p
    .subst e;rw[hfi,if_pos c,if_pos (by omega)]
    .simp only[other q e])
   refine⟨m',pre _ ?_,h2,h3⟩
   rw[hLp]
   exact h1
  .rw[if_neg c]at hLp
   have hfk:fst0 parts k=k:=by omega
   obtain⟨m',h1,h2,h3⟩:=main (E++[(p,at0 tu k)]) (m.set idM (.map (mpE (E++[(p,at0 tu k)])))) (fc+1+5+20) (fun id hid=>by rw[Mem.get_set,if_neg hid]) rfl (by simp) (by rw[lkp_app _ _ _ _ hLp,if_pos rfl,hfk]) (fun q=>by
    rw[lkp_app _ _ _ _ hLp]
    by_cases e:q=p
    .subst e;rw[if_pos rfl,hfi,if_pos (by omega),hfk]
    .rw[if_neg e,hL q];simp only[other q e])
   refine⟨m',pre _ ?_,h2,h3⟩
   rw[hLp]
   simp only[Option.isSome_none,Bool.not_false,x1ru,sNil,x1qt,x1rh,Nat.zero_add,x1qy,hS.s,x1r0,Nat.beq_refl,x1qw,List.drop_zero,List.drop_succ_cons,rd_f,iT,hS.t,x1s3 hcl,hck]
   rw[up_ok idM E p (at0 tu k) m _ hE hLp]
   exact h1
structure Solved (J:Int) (n:Nat) (l:List Edge) (fl tu ex:List Int):Prop where
 f:FlowOK n l fl tu ex
 e:∀v,at0 ex v<=0
 t:∃P,TurnB n tu ex P/\P<=J*12000
theorem w_solve(d:Nat){n:Nat}{J:Int}{ev:AV}{l:List Edge}(hev:Sl Edge.c ev l)(hS:Slim J n l)(u:Nat) :
 ∃m' fl tu ex,x1qp (d+6) [] x1w [.agg [I n,ev]] ⟨[],u⟩=some (.ptr (u+1,21,25) 0 0,m')/\SolMem (u+1) n ev l fl (x1ra n (x1r9 n l) tu) ex m'/\Solved J n l fl tu ex/\u+1<m'.next:=by
 have hn:n<=200:=by have:=hS.nn;omega
 have hl:l.length<=600:=by have:=hS.ll;omega
 have hj0:=hS.j0
 have hj1:=hS.j1
 have ho:=hev.one
 obtain⟨m1,hm1⟩:∃m1,m1=(⟨[],u+1⟩:Mem).new (u,0,1) (.row [I n,ev] 0 false):=⟨_,rfl⟩
 have g1:m1.get (u,0,1)=some (.row [I n,ev] 0 false):=by rw[hm1];simp
 have n1:m1.next=u+1:=by rw[hm1];rfl
 obtain⟨mN,a1,a2,a3⟩:=x289 (d+4) hev hl hn hS.ed (u+1)
 obtain⟨m2,b1,b2,b3⟩:=x1vw (call:=x1qp (d+5)) (f:=x5o) (l:=[.agg [I n,ev]]) (m:=m1) (m':=mN) (r:=.ptr (u+1,21,25) 0 0) (by simp[clean,hev.clean1]) (by rw[n1];exact a1)
 have hM2:SolMem (u+1) n ev l (l.map f0M) (List.replicate n 0) (ex0M n l) m2:=a2.frame fun id hid=>by rw[b3,if_pos (by omega)]
 have g2:m2.get (u,0,1)=some (.row [I n,ev] 0 false):=by rw[b3,if_neg (by simp only[n1];omega)];exact g1
 obtain⟨hF,hT,hP,hp⟩:=start_ok hS
 obtain⟨m3,fc3,fl,tu,ex,P,c1,c2,c3,c4,c5,c6,c7,c8⟩:=l_solve d [] hev hS u (.ptr (u,0,1) 0 0) (posS n (ex0M n l)).toNat _ _ _ 0 m2 NN 5 (by omega) (by rw[x1r6];omega) (by rw[b2,a3];omega) hM2 hF hT hP
 have g3:m3.get (u,0,1)=some (.row [I n,ev] 0 false):=by rw[c8 _ (by show u<m2.next;rw[b2,a3];omega) (by simp) (by simp) (by simp)];exact g2
 have hPl:=c5.le hj0
 obtain⟨p1,p2⟩:=w_parts d hev hl hn hS.ed m3
 obtain⟨m4,hm4⟩:∃m4,m4=m3.new (u,fc3+3,25) (.map (mpE [])):=⟨_,rfl⟩
 have hM4:SolMem (u+1) n ev l fl tu ex m4:=c2.frame fun id hid=>by rw[hm4,Mem.get_new,if_neg (by rintro rfl;simp at hid)]
 have htb:=(c3.inn hS c4 (by omega)).tub
 obtain⟨m5,d1,d2,d3⟩:=l_norm (d+5) [] (us:=u+1) (u:=u) (ev:=ev) (l:=l) (fl:=fl) (ex:=ex) (parts:=x1r9 n l) (idM:=(u,fc3+3,25)) (by show u<u+1;omega) hn c3.tul p2 htb n 0 NN m4 (fc3+5+3) [] (by omega) (by rw[x1r6];omega) (by rw[List.take_zero,List.drop_zero,List.nil_append];exact hM4) (by rw[hm4];simp) (fun p=>by rw[if_neg (by omega)];rfl)
 refine⟨m5,fl,tu,ex,?_,d2,⟨c3,c6,P,c4,hPl⟩,?_⟩
 .rw[xz9]
  show xbh (x1qp (d+5)) [] u (.agg [I (n:Int),ev]) ⟨[],u+1⟩ 0=_
  unfold xbh
  simp only[x1vu,AV.cells,List.all_cons,List.all_nil,ho,show(I (n:Int)).one=true from rfl,Bool.and_self,x1qw]
  rw[<-hm1]
  simp only[x1qy,g1,x1r0,Nat.beq_refl,x1qw,List.drop_zero,rd_2,x1qt,b1]
  show x21 (x1qp (d+5)) [] u NN (.ptr (u,0,1) 0 0) (.ptr (u+1,21,25) 0 0) m2 5=_
  rw[c1]
  unfold x35 xbg
  have hlen:sLen Try.prog x5 (.slit ((x1r9 n l).flatMap intE) n false)=some (I n):=rfl
  simp only[x1qy,g3,x1r0,Nat.beq_refl,x1qw,List.drop_zero,rd_2,x1qt,p1,sMkMap,hlen]
  exact hm4▸d1
 .rw[d3,hm4,Mem.next_new]
  rw[b2,a3]at c7
  omega
inductive Reach (nb:Nat->List Int) (r:Nat):Nat->Prop
 |refl:Reach nb r r
 |step {a b:Nat}:Reach nb r a->(b:Int)∈nb a->Reach nb r b
structure Sym (n:Nat) (nb:Nat->List Int):Prop where
 rng:∀a,a<n->∀b∈nb a,0<=b/\b<n
 sym:∀a b,a<n->b<n->(b:Int)∈nb a->(a:Int)∈nb b
structure BInv (n:Nat) (nb:Nat->List Int) (g:Int) (r:Nat) (out0 out q:List Int):Prop where
 l:out.length=n
 ch:∀v,at0 out v=at0 out0 v\/(v<n/\at0 out0 v<0/\at0 out v=g/\Reach nb r v)
 qi:∀a∈q,0<=a/\a<n/\at0 out a.toNat=g
 d:∀v,v<n->at0 out v=g->(v:Int)∈q\/∀b∈nb v,0<=at0 out b.toNat
theorem x22s{n:Nat}{nb:Nat->List Int}{g:Int}{r:Nat}{out0:List Int}(hg:0<=g)(hfresh:∀v,v<n->at0 out0 v≠g){a:Nat}(han:a<n)(hra:Reach nb r a):∀(bs:List Int),(∀b∈bs,b∈nb a/\0<=b/\b<n)->∀(out q:List Int),out.length=n ->
 (∀v,at0 out v=at0 out0 v\/(v<n/\at0 out0 v<0/\at0 out v=g/\Reach nb r v))->(∀x∈q,0<=x/\x<n/\at0 out x.toNat=g)->(∀v,v<n->v≠a->at0 out v=g->(v:Int)∈q\/∀b∈nb v,0<=at0 out b.toNat) ->
 (x1rz g bs (out,q)).1.length=n/\(∀v,at0 (x1rz g bs (out,q)).1 v=at0 out0 v\/(v<n/\at0 out0 v<0/\at0 (x1rz g bs (out,q)).1 v=g/\Reach nb r v))/\(∀x∈(x1rz g bs (out,q)).2,0<=x/\x<n/\at0 (x1rz g bs (out,q)).1 x.toNat=g) /\
  (∀v,v<n->v≠a->at0 (x1rz g bs (out,q)).1 v=g->(v:Int)∈(x1rz g bs (out,q)).2\/∀b∈nb v,0<=at0 (x1rz g bs (out,q)).1 b.toNat)/\(∀v,0<=at0 out v->0<=at0 (x1rz g bs (out,q)).1 v)/\(∀b∈bs,0<=at0 (x1rz g bs (out,q)).1 b.toNat)
 |[],_,out,q,h1,h2,h3,h4=>⟨h1,h2,h3,h4,fun _ h=>h,fun b hb=>by simp at hb⟩
 |b::bs,hb,out,q,h1,h2,h3,h4=>by
  obtain⟨b1,b2,b3⟩:=hb b (List.mem_cons_self ..)
  obtain⟨bn,rfl⟩:∃bn:Nat,b=bn:=⟨b.toNat,by omega⟩
  have hbn:bn<n:=by omega
  have e:x1rz g ((bn:Int)::bs) (out,q)=x1rz g bs (addM g (out,q) bn):=rfl
  rw[e]
  by_cases c:at0 out bn<0
  .have ea:addM g (out,q) bn=(out.set bn g,q++[(bn:Int)]):=by unfold addM;simp only[Int.toNat_natCast];rw[if_pos c]
   rw[ea]
   have hset:∀v,at0 (out.set bn g) v=if v=bn then g else at0 out v:=fun v=>x1sa (by omega)
   have mono:∀v,0<=at0 out v->0<=at0 (out.set bn g) v:=fun v hv=>by rw[hset];split<;>omega
   obtain⟨r1,r2,r3,r4,r5,r6⟩:=x22s hg hfresh han hra bs (fun x hx=>hb x (List.mem_cons_of_mem _ hx)) (out.set bn g) (q++[(bn:Int)]) (by simp[h1]) (fun v=>by
    rw[hset]
    by_cases ev:v=bn
    .subst ev
     right
     rw[if_pos rfl]
     refine⟨hbn,?_,rfl,.step hra b1⟩
     rcases h2 v with h|⟨_,h,_⟩<;>omega
    .rw[if_neg ev];exact h2 v) (fun x hx=>by
    rw[hset]
    rcases List.mem_append.mp hx with hx|hx
    .obtain⟨x1,x2,x3⟩:=h3 x hx
     refine⟨x1,x2,?_⟩
     split
     .rfl
     .exact x3
    .rw[List.mem_singleton]at hx
     subst hx
     exact⟨by omega,by omega,by simp⟩) (fun v hv hva hvg=>by
    rw[hset]at hvg
    by_cases ev:v=bn
    .left;rw[ev];simp
    .rw[if_neg ev]at hvg
     rcases h4 v hv hva hvg with h|h
     .left;exact List.mem_append.mpr (Or.inl h)
     .right;exact fun b hb=>mono _ (h b hb))
   refine⟨r1,r2,r3,r4,fun v hv=>r5 v (mono v hv),fun x hx=>?_⟩
   rcases List.mem_cons.mp hx with rfl|hx
   .refine r5 _ ?_
    rw[Int.toNat_natCast,hset,if_pos rfl];exact hg
   .exact r6 x hx
  .have ea:addM g (out,q) bn=(out,q):=by unfold addM;simp only[Int.toNat_natCast];rw[if_neg c]
   rw[ea]
   obtain⟨r1,r2,r3,r4,r5,r6⟩:=x22s hg hfresh han hra bs (fun x hx=>hb x (List.mem_cons_of_mem _ hx)) out q h1 h2 h3 h4
   refine⟨r1,r2,r3,r4,r5,fun x hx=>?_⟩
   rcases List.mem_cons.mp hx with rfl|hx
   .exact r5 _ (by rw[Int.toNat_natCast];omega)
   .exact r6 x hx
theorem bfs_inv{n:Nat}{nb:Nat->List Int}(hS:Sym n nb){g:Int}{r:Nat}{out0:List Int}(hg:0<=g)(hfresh:∀v,v<n->at0 out0 v≠g):∀(F:Nat) (out q:List Int),negC out+q.length<F->BInv n nb g r out0 out q->BInv n nb g r out0 (bfsM nb g F (out,q)) []
 |0,out,q,h,_=>by omega
 |F+1,out,[],h,hB=>hB
 |F+1,out,a::q,h,hB=>by
  simp only[bfsM]
  obtain⟨a0,a1,a2⟩:=hB.qi a (List.mem_cons_self ..)
  obtain⟨an,rfl⟩:∃an:Nat,a=an:=⟨a.toNat,by omega⟩
  rw[Int.toNat_natCast]at a2 ⊢
  have han:an<n:=by omega
  have hra:Reach nb r an:=by
   rcases hB.ch an with h|⟨_,_,_,h⟩
   .exact absurd (h.symm.trans a2) (hfresh an han)
   .exact h
  obtain⟨r1,r2,r3,r4,r5,r6⟩:=x22s hg hfresh han hra (nb an) (fun b hb=>⟨hb,hS.rng an han b hb⟩) out q hB.l hB.ch (fun x hx=>hB.qi x (List.mem_cons_of_mem _ hx)) (fun v hv hva hvg=>by
   rcases hB.d v hv hvg with h|h
   .rcases List.mem_cons.mp h with h|h
    .omega
    .exact Or.inl h
   .exact Or.inr h)
  obtain⟨-,hm⟩:=x1zc hg (nb an) (out,q) ⟨hB.l,fun b hb=>by obtain⟨x,y,_⟩:=hB.qi b (List.mem_cons_of_mem _ hb);exact⟨x,y⟩⟩ (hS.rng an han)
  simp only[List.length_cons]at h hm
  refine bfs_inv hS hg hfresh F (x1rz g (nb an) (out,q)).1 (x1rz g (nb an) (out,q)).2 (by omega) ⟨r1,r2,r3,fun v hv hvg=>?_⟩
  by_cases e:v=an
  .subst e
   right
   exact r6
  .exact r4 v hv e hvg
structure RInv (n:Nat) (nb:Nat->List Int) (k:Nat) (out:List Int) (g:Int):Prop where
 l:out.length=n
 g0:0<=g
 gk:g<=k
 lt:∀v,v<n->-1<=at0 out v/\at0 out v<g
 lab:∀v,v<k->v<n->0<=at0 out v
 cl:∀v,v<n->0<=at0 out v->∀b∈nb v,at0 out b.toNat=at0 out v
 rep:∃rep:Nat->Nat,∀c:Nat,(c:Int)<g->rep c<k/\rep c<n/\at0 out (rep c)=(c:Int)/\(∀v,v<n->at0 out v=(c:Int)->rep c<=v/\Reach nb (rep c) v)/\∀c',c'<c->rep c'<rep c
theorem root_step{n:Nat}{nb:Nat->List Int}(hn:n<=200)(hS:Sym n nb){k:Nat}{out:List Int}{g:Int}(hk:k<n)(h:RInv n nb k out g):RInv n nb (k+1) (x1ts nb (out,g) k).1 (x1ts nb (out,g) k).2:=by
 obtain⟨rep,hrep⟩:=h.rep
 have hgk:=h.gk
 have hg0:=h.g0
 unfold x1ts
 by_cases c:0<=at0 out k
 .rw[if_pos c]
  refine⟨h.l,h.g0,by simp only;omega,h.lt,fun v hv hvn=>?_,h.cl,rep,fun c hc=>?_⟩
  .by_cases e:v=k
   .rw[e];exact c
   .exact h.lab v (by omega) hvn
  .obtain⟨a,b⟩:=hrep c hc
   exact⟨by omega,b⟩
 .rw[if_neg c]
  have fresh:∀v,v<n->at0 out v≠g:=fun v e=>by have:=h.lt v e;omega
  simp only
  obtain⟨out',ho⟩:∃out',out'=bfsM nb g NN (out.set k g,[(k:Int)]):=⟨_,rfl⟩
  rw[<-ho]
  have hset:∀v,at0 (out.set k g) v=if v=k then g else at0 out v:=fun v=>x1sa (by rw[h.l];exact hk)
  have hng:=x22o (out.set k g)
  rw[List.length_set,h.l]at hng
  have hk0:at0 out k<0:=by omega
  have core:BInv n nb g k out out' []:=by
   rw[ho]
   refine bfs_inv hS hg0 fresh NN _ _ (by rw[x1r6];simp only[List.length_singleton];omega) ⟨by simp[h.l],fun v=>?_,fun a ha=>?_,fun v hv hvg=>?_⟩
   .rw[hset]
    by_cases e:v=k
    .subst e;right;rw[if_pos rfl];exact⟨hk,hk0,rfl,.refl⟩
    .rw[if_neg e];exact Or.inl rfl
   .rw[List.mem_singleton]at ha
    subst ha
    rw[Int.toNat_natCast,hset,if_pos rfl]
    exact⟨by omega,by omega,rfl⟩
   .rw[hset]at hvg
    by_cases e:v=k
    .left;rw[e];simp
    .rw[if_neg e]at hvg;exact absurd hvg (fresh v hv)
  have old:∀v,v<n->0<=at0 out v->at0 out' v=at0 out v:=fun v hv h0=>by
   rcases core.ch v with e|⟨_,e,_⟩
   .exact e
   .omega
  have kg:at0 out' k=g:=by
   have mono:∀(F:Nat) (s:List Int×List Int),at0 s.1 k=g->StOK n s->at0 (bfsM nb g F s) k=g:=by
    intro F
    induction F with
    |zero=>intro s hs _;exact hs
    |succ F ih=>
     intro s hs hO
     obtain⟨so,sq⟩:=s
     cases sq with
     |nil=>exact hs
     |cons a sq=>
      simp only[bfsM]
      have hab:=hO.q a (List.mem_cons_self ..)
      have hO1:StOK n (so,sq):=⟨hO.l,fun b hb=>hO.q b (List.mem_cons_of_mem _ hb)⟩
      refine ih _ ?_ (x1zc hg0 (nb a.toNat) (so,sq) hO1 (hS.rng _ (by omega))).1
      have keep:∀(bs:List Int) (s:List Int×List Int),at0 s.1 k=g->k<s.1.length->at0 (x1rz g bs s).1 k=g/\k<(x1rz g bs s).1.length:=by
       intro bs
       induction bs with
       |nil=>intro s h1 h2;exact⟨h1,h2⟩
       |cons b bs ihb=>
        intro s h1 h2
        refine ihb (addM g s b) ?_ ?_
        .unfold addM
         split
         .rename_i hc
          by_cases e:b.toNat=k
          .rw[e]at hc;omega
          .simp only
           by_cases hb:b.toNat<s.1.length
           .rw[x1sa hb,if_neg (fun x=>e x.symm)];exact h1
           .rw[List.set_eq_of_length_le (by omega)];exact h1
         .exact h1
        .unfold addM
         split
         .simpa using h2
         .exact h2
      exact(keep (nb a.toNat) (so,sq) hs (by simp only;have:=hO.l;simp only at this;omega)).1
   rw[ho]
   exact mono NN _ (by simp only;rw[hset,if_pos rfl]) ⟨by simp[h.l],fun a ha=>by rw[List.mem_singleton]at ha;subst ha;omega⟩
  have clg:∀v,v<n->at0 out' v=g->∀b∈nb v,at0 out' b.toNat=g:=by
   intro v hv hvg b hb
   obtain⟨b0,b1⟩:=hS.rng v hv b hb
   obtain⟨bn,rfl⟩:∃bn:Nat,b=bn:=⟨b.toNat,by omega⟩
   rw[Int.toNat_natCast]
   have h0:0<=at0 out' bn:=by
    rcases core.d v hv hvg with h|h
    .simp at h
    .have:=h _ hb;rwa[Int.toNat_natCast]at this
   rcases core.ch bn with e|⟨_,_,e,_⟩
   .exfalso
    have h1:at0 out v<0:=by
     rcases core.ch v with e'|⟨_,e',_⟩
     .exact absurd (e'.symm.trans hvg) (fresh v hv)
     .exact e'
    have:=h.cl bn (by omega) (by omega) v (hS.sym v bn hv (by omega) hb)
    rw[Int.toNat_natCast]at this
    omega
   .exact e
  refine⟨core.l,by omega,by omega,fun v hv=>?_,fun v hv hvn=>?_,fun v hv hv0 b hb=>?_,fun c=>if(c:Int)<g then rep c else k,fun c hc=>?_⟩
  .have:=h.lt v hv
   rcases core.ch v with e|⟨_,_,e,_⟩<;>omega
  .by_cases e:v=k
   .rw[e,kg];exact hg0
   .have:=h.lab v (by omega) hvn
    rw[old v hvn this];exact this
  .by_cases e:at0 out' v=g
   .rw[e];exact clg v hv e b hb
   .have e':at0 out' v=at0 out v:=by
     rcases core.ch v with e'|⟨_,_,e',_⟩
     .exact e'
     .exact absurd e' e
    obtain⟨b0,b1⟩:=hS.rng v hv b hb
    have:=h.cl v hv (by omega) b hb
    rw[e',<-this]
    exact old _ (by omega) (by omega)
  .simp only
   by_cases hcg:(c:Int)<g
   .rw[if_pos hcg]
    obtain⟨a1,a2,a3,a4,a5⟩:=hrep c hcg
    refine⟨by omega,a2,by rw[old _ a2 (by omega)];exact a3,fun v hv hvc=>a4 v hv ?_,fun c' hc'=>by rw[if_pos (by omega)];exact a5 c' hc'⟩
    rcases core.ch v with e|⟨_,_,e,_⟩
    .rw[<-e];exact hvc
    .omega
   .have hcg':(c:Int)=g:=by omega
    rw[if_neg hcg]
    refine⟨by omega,hk,by rw[kg];exact hcg'.symm,fun v hv hvc=>?_,fun c' hc'=>?_⟩
    .rcases core.ch v with e|⟨_,e1,_,e2⟩
     .exact absurd (e.symm.trans (hvc.trans hcg')) (fresh v hv)
     .refine⟨?_,e2⟩
      apply Classical.byContradiction
      intro hlt
      have:=h.lab v (by omega) hv
      omega
    .rw[if_pos (by omega)]
     exact(hrep c' (by omega)).1
theorem x22t{n:Nat}{nb:Nat->List Int}(hn:n<=200)(hS:Sym n nb):RInv n nb n (numM n nb).1 (numM n nb).2:=by
 have key:∀k,k<=n->RInv n nb k ((List.range k).foldl (x1ts nb) (List.replicate n (-1),0)).1 ((List.range k).foldl (x1ts nb) (List.replicate n (-1),0)).2:=by
  intro k
  induction k with
  |zero=>
   intro _
   have hr:∀v,v<n->at0 (List.replicate n (-1)) v=-1:=fun v hv=>by rw[x1ri (by simpa using hv)];simp
   refine⟨by simp,by simp,by simp,fun v hv=>?_,fun v hv=>by omega,fun v hv h0=>?_,fun _=>0,fun c hc=>?_⟩
   .simp only[List.range_zero,List.foldl_nil];rw[hr v hv];omega
   .simp only[List.range_zero,List.foldl_nil]at h0;rw[hr v hv]at h0;omega
   .simp only[List.range_zero,List.foldl_nil]at hc;omega
  |succ k ih=>
   intro hk
   rw[List.range_succ,List.foldl_append]
   exact root_step hn hS (by omega) (ih (by omega))
 exact key n (Nat.le_refl _)
theorem x266{n:Nat}{nb:Nat->List Int}(hn:n<=200)(hS:Sym n nb){a b:Nat}(ha:a<n)(h:Reach nb a b):b<n/\at0 (numM n nb).1 b=at0 (numM n nb).1 a:=by
 have R:=x22t hn hS
 induction h with
 |refl=>exact⟨ha,rfl⟩
 |step h1 h2 ih=>
  obtain⟨i1,i2⟩:=ih
  obtain⟨b0,b1⟩:=hS.rng _ i1 _ h2
  have:=R.cl _ i1 (R.lab _ i1 i1) _ h2
  rw[Int.toNat_natCast]at this
  exact⟨by omega,by rw[this,i2]⟩
theorem mem_nearU{l:List Edge}{a b:Int}:b∈nearU l a↔∃e∈l,0<e.wt/\((e.fr=a/\e.to=b)\/(e.fr≠a/\e.to=a/\e.fr=b)):=by
 unfold nearU
 rw[List.mem_flatMap]
 constructor
 .rintro⟨e,he,hb⟩
  refine⟨e,he,?_⟩
  split at hb
  .rename_i hw
   refine⟨hw,?_⟩
   split at hb
   .rename_i h1
    rw[List.mem_singleton]at hb
    exact Or.inl ⟨h1,hb.symm⟩
   .rename_i h1
    split at hb
    .rename_i h2
     rw[List.mem_singleton]at hb
     exact Or.inr ⟨h1,h2,hb.symm⟩
    .simp at hb
  .simp at hb
 .rintro⟨e,he,hw,h⟩
  refine⟨e,he,?_⟩
  rw[if_pos hw]
  rcases h with ⟨h1,h2⟩|⟨h1,h2,h3⟩
  .rw[if_pos h1,h2];simp
  .rw[if_neg h1,if_pos h2,h3];simp
theorem x267{n:Nat}{l:List Edge}(hed:∀e∈l,EdgeIn n e/\e.fr≠e.to):Sym n (fun a=>nearU l (a:Nat)):=by
 refine⟨fun a _ b hb=>x22q hed hb,fun a b _ _ h=>?_⟩
 rw[mem_nearU]at h ⊢
 obtain⟨e,he,hw,h⟩:=h
 have hne:=(hed e he).2
 refine⟨e,he,hw,?_⟩
 rcases h with ⟨h1,h2⟩|⟨h1,h2,h3⟩
 .right;exact⟨by omega,h2,h1⟩
 .left;exact⟨h3,h2⟩
theorem x28k{n:Nat}{l:List Edge}(hn:n<=200)(hed:∀e∈l,EdgeIn n e/\e.fr≠e.to){e:Edge}(he:e∈l)(hw:0<e.wt):at0 (x1r9 n l) e.fr.toNat=at0 (x1r9 n l) e.to.toNat:=by
 obtain⟨⟨f0,f1,t0,t1,-⟩,hne⟩:=hed e he
 obtain⟨a,ha⟩:∃a:Nat,e.fr=a:=⟨e.fr.toNat,by omega⟩
 obtain⟨b,hb⟩:∃b:Nat,e.to=b:=⟨e.to.toNat,by omega⟩
 have:=(x266 hn (x267 hed) (a:=a) (b:=b) (by omega) (.step .refl (mem_nearU.mpr ⟨e,he,hw,Or.inl ⟨ha,hb⟩⟩))).2
 rw[ha,hb,Int.toNat_natCast,Int.toNat_natCast]
 exact this.symm
theorem parts_len{n:Nat}{l:List Edge}(hn:n<=200)(hed:∀e∈l,EdgeIn n e/\e.fr≠e.to):(x1r9 n l).length=n:=(x22t hn (x267 hed)).l
theorem x22u{n:Nat}{parts tu:List Int}{k:Nat}(h:k<n):at0 (x1ra n parts tu) k=at0 tu k-at0 tu (fst0 parts k):=by
 rw[x1ri (by rw[x1v6];exact h),x265 h]
theorem normT_ex{n:Nat}{l:List Edge}(hn:n<=200)(hed:∀e∈l,EdgeIn n e/\e.fr≠e.to){tu:List Int}{e:Edge}(he:e∈l)(hw:0<e.wt):exF (at0 (x1ra n (x1r9 n l) tu)) e=exF (at0 tu) e:=by
 obtain⟨⟨f0,f1,t0,t1,-⟩,hne⟩:=hed e he
 have hp:=x28k hn hed he hw
 unfold exF
 rw[x22u (by omega),x22u (by omega)]
 unfold fst0
 rw[hp]
 omega
theorem Solved.best{J:Int}{n:Nat}{l:List Edge}{fl tu ex:List Int}(h:Solved J n l fl tu ex):Feas n (l.zip fl)/\CS (at0 (x1ra n (x1r9 n l) tu)) (l.zip fl):=by
 obtain⟨h1,h2⟩:=end_ok h.f h.e
 refine⟨h1,fun x hx=>?_⟩
 obtain⟨k,hk,rfl⟩:=(x1t0 h.f.fll).mp hx
 have hc:=h.f.cap k hk
 have hem:edgeAt l k∈l:=by rw[x1t9 hk];exact List.getElem_mem hk
 by_cases hw:0<(edgeAt l k).wt
 .simp only
  rw[normT_ex h.f.nn h.f.ed hem hw]
  exact h2 _ hx
 .simp only
  exact⟨fun _=>by omega,fun _=>by omega⟩
theorem Solved.turns{J:Int}{n:Nat}{l:List Edge}{fl tu ex:List Int}(h:Solved J n l fl tu ex)(hJ:0<=J):∀k,-(J*12000)<=at0 (x1ra n (x1r9 n l) tu) k/\at0 (x1ra n (x1r9 n l) tu) k<=J*12000:=by
 obtain⟨P,hP,hPl⟩:=h.t
 intro k
 by_cases hk:k<n
 .rw[x22u hk]
  have h1:=hP.b k hk
  have h2:=fst0_le (parts:=x1r9 n l) (i:=k) (by rw[parts_len h.f.nn h.f.ed];exact hk)
  have h3:=hP.b (fst0 (x1r9 n l) k) (by omega)
  omega
 .have:at0 (x1ra n (x1r9 n l) tu) k=0:=by
   unfold at0
   rw[List.getD_eq_getElem?_getD,List.getElem?_eq_none (by rw[x1v6];omega)];rfl
  omega
theorem x22v(t:List Int):∀(l:List Edge) (s:Int),x1tg t s l=s+x1tb (at0 t) l
 |[],s=>by simp[x1tg,x1tb]
 |e::r,s=>by
  have e':exI t e=exF (at0 t) e:=rfl
  rw[x1tg,x22v t r,x1tb,e'];omega
theorem a_cost(d:Nat){n:Int}{ev a:AV}{l:List Edge}{t:List Int}(h:Sl Edge.c ev l)(hl:l.length<=600)(ha:Ints a t)(he:∀e∈l,EdgeIn t.length e)(ht:TurnsIn t):∃m',x1qp (d+2) [] x1x [.agg [I n,ev],a] mem0=some (I (x1tg t 0 l),m'):=by
 obtain⟨m',h'⟩:=l_cost d [] h hl ha he ht l 0 NN 0 ((⟨[],1⟩:Mem).new (0,0,2) (.row [I n,ev] 0 false)) 8 rfl (by rw[x1r6];omega) (by omega) (by omega)
 refine⟨m',?_⟩
 rw[xl1]
 unfold xa2 xbj x8v
 simp[mem0,h.one,h.len x1v5]
 exact h'
theorem call3_any{call:x1qo}{f:FuncId}{l l':List AV}{m m':Mem}{r:AV}(hl:l.mapM (Go.Ix.frz m.get deep)=some l')(h:call [] f l' mem0=some (r,m'))(hr:x1wm r=true):x1ua call f l m=some (r,m):=by
 unfold x1ua
 rw[hl]
 simp only[h,hr,if_true]
theorem x20g{m:Mem}{id:Id}{l:List Int}(h:m.get id=some (.row (l.flatMap intE) 0 false))(k:Nat):Go.Ix.frz m.get (k+2) (srI id l.length)=some (.slit (l.flatMap intE) l.length false):=by
 have hl:=x1th l
 have:=x1v4 (objs:=m.get) (id:=id) (cs:=l.flatMap intE) (ver:=0) (off:=0) (n:=l.length) (z:=1) (k:=k) (f:=false) (x:=true) h (by omega) (by
  rw[List.drop_zero,List.take_of_length_le (by omega)];exact x1ur x1wf l)
 rw[List.drop_zero,List.take_of_length_le (by omega)]at this
 exact this
def x1t1(n:Nat)(len tu:List Int)(p:Nat):List Int:=(List.range n).map fun i=>if at0 len i<farM then at0 len i+(at0 tu i-at0 tu p)else at0 len i
theorem x1vz(n:Nat)(len tu:List Int)(p:Nat):(x1t1 n len tu p).length=n:=by simp[x1t1]
theorem x20h{n:Nat}{len tu:List Int}{p k:Nat}(h:k<n):(x1t1 n len tu p)[k]'(by rw[x1vz];exact h)=if at0 len k<farM then at0 len k+(at0 tu k-at0 tu p)else at0 len k:=by simp[x1t1]
theorem l_most(d:Nat)(hs:FHs){u sL n p:Nat}{S:AV}{l:List Edge}{fl tu ex len:List Int}{x y:AV}(hS:FrzS S n l fl tu ex)(hp:p<n)(hL:LenB ((200:Nat)*GB) len)(hll:len.length=n) :
 ∀(s k j:Nat) (m:Mem) (fc:Nat),k+s=n->s<j->m.get (u,4,5)=some (.row [srL (u+1) sL n,x,y] 0 false)->m.get (u+1+1,sL,30)=some (.row (((x1t1 n len tu p).take k++len.drop k).flatMap intE) 0 false) ->
 ∃m',x37 (x1qp d) hs u j S (I p) (.ptr (u,4,5) 0 0) (I n) (I k) m fc=some (srL (u+1) sL n,m')/\m'.get (u+1+1,sL,30)=some (.row ((x1t1 n len tu p).flatMap intE) 0 false)/\m'.next=m.next:=by
 have hG:((200:Nat):Int)*GB=400200000:=by rfl
 rw[hG]at hL
 have hn200:=hS.n0
 obtain⟨ev,F,TU,X,cells,bb,hSe,hev,hF,hTU,hX,hcl,hcs⟩:=hS.sh
 intro s
 induction s with
 |zero=>
  intro k j m fc hk hj h5 hm
  obtain⟨j,rfl⟩:∃i,j=i+1:=⟨j-1,by omega⟩
  have hkn:k=n:=by omega
  subst hkn
  rw[List.take_of_length_le (by rw[x1vz];omega),List.drop_eq_nil_of_le (by omega),List.append_nil]at hm
  refine⟨m,?_,hm,rfl⟩
  simp only[x37]
  unfold x93 x22
  simp[h5]
 |succ s ih=>
  intro k j m fc hk hj h5 hm
  obtain⟨j,rfl⟩:∃i,j=i+1:=⟨j-1,by omega⟩
  have hkn:k<n:=by omega
  have hk':(k:Int)<(n:Int):=by omega
  have hlk:k<len.length:=by omega
  have iL:sIx 1 (srL (u+1) sL n) (I k)=some (.ptr (u+1+1,sL,30) 0 k):=by simpa using x1re (id:=(u+1+1,sL,30)) (n:=n) (k:=(k:Int)) (by omega) hk'
  obtain⟨cur,hcur⟩:∃cur,cur=(x1t1 n len tu p).take k++len.drop k:=⟨_,rfl⟩
  rw[<-hcur]at hm
  have hcl':k<cur.length:=by rw[hcur];simp[x1vz];omega
  have hck:at0 cur k=at0 len k:=by rw[hcur];exact x208 (by omega) (by rw[x1vz];omega)
  have lk:k<tu.length:=by rw[hS.tul];exact hkn
  have lp:p<tu.length:=by rw[hS.tul];exact hp
  have iTk:=hTU.ixI x1rk (k:=(k:Int)) (by omega) (by omega)
  have iTp:=hTU.ixI x1rk (k:=(p:Int)) (by omega) (by omega)
  rw[Int.toNat_natCast]at iTk iTp
  have b1:=hS.tub k
  have b2:=hS.tub p
  have b3:=hL k
  by_cases c:at0 len k<farM
  .have b4:-400200000<=at0 len k/\at0 len k<=400200000:=by rcases b3 with h|h;omega;exact h
   have hnext:cur.set k (at0 len k+(at0 tu k-at0 tu p))=(x1t1 n len tu p).take (k+1)++len.drop (k+1):=by
    have:=x20h (len:=len) (tu:=tu) (p:=p) hkn
    rw[if_pos c]at this
    rw[hcur,<-this]
    exact x1z7 (by omega) (by rw[x1vz];exact hkn)
   obtain⟨M,hM⟩:∃M,M=m.set (u+1+1,sL,30) (.row ((cur.set k (at0 len k+(at0 tu k-at0 tu p))).flatMap intE) 0 false):=⟨_,rfl⟩
   obtain⟨m',h1,h2,h3⟩:=ih (k+1) j M (fc+1+31+2) (by omega) (by omega) (by rw[hM,Mem.get_set,if_neg (by simp)];exact h5) (by rw[hM,<-hnext];simp)
   refine⟨m',?_,h2,by rw[h3,hM];rfl⟩
   rw[<-h1]
   simp only[x37]
   unfold x93 x92 x70
   simp(disch:=omega)only[x1s6,x1qt,hk',decide_true,x1ru,x1rh,Nat.zero_add,x1qy,h5,hm,x1r0,Nat.beq_refl,x1qw,List.drop_zero,rd_f,iL,x1s3 hcl',hck,c,hSe,sNil,x1v3,x1u2,List.drop_succ_cons,iTk,iTp,x1rg lk,x1rg lp,x1xz,x1sl,x1rs,x1rl]
   rw[x1ss hcl']
   simp(disch:=omega)only[x1sl,x1rs,x1qt]
   rw[<-hM]
   rfl
  .have hnext:cur=(x1t1 n len tu p).take (k+1)++len.drop (k+1):=by
    have:=x20h (len:=len) (tu:=tu) (p:=p) hkn
    rw[if_neg c]at this
    have h2:=x1z7 (a:=x1t1 n len tu p) (b:=len) (k:=k) (by omega) (by rw[x1vz];exact hkn)
    rw[this,<-hcur]at h2
    rw[<-h2,<-hck,x1ri hcl',List.set_getElem_self]
   obtain⟨m',h1,h2,h3⟩:=ih (k+1) j m (fc+1+8+2) (by omega) (by omega) h5 (by rw[<-hnext];exact hm)
   refine⟨m',?_,h2,h3⟩
   rw[<-h1]
   simp only[x37]
   unfold x93 x92 x70
   simp(disch:=omega)only[x1s6,x1qt,hk',decide_true,x1ru,x1rh,Nat.zero_add,x1qy,h5,hm,x1r0,Nat.beq_refl,x1qw,List.drop_zero,rd_f,iL,x1s3 hcl',hck,c,decide_false,x1sz,x1sl,x1rs]
   rfl
theorem w_most(d:Nat){n p:Nat}{S:AV}{l:List Edge}{fl tu ex:List Int}(hS:FrzS S n l fl tu ex)(hp:p<n)(u:Nat) :
 ∃sL m',x1qp (d+6) [] x2y [S,I p] ⟨[],u⟩=some (srL (u+1) sL n,m')/\m'.get (u+1+1,sL,30)=some (.row ((x1t1 n (waysF n l fl tu p).len tu p).flatMap intE) 0 false)/\LenB ((200:Nat)*GB) (waysF n l fl tu p).len/\u+2<m'.next:=by
 obtain⟨sL,mw,hw,hW,hWL⟩:=w_ways (d+1) hS (p:=(p:Int)) (by omega) (by omega) (u+1)
 obtain⟨ev,F,TU,X,cells,bb,hSe,-⟩:=hS.sh
 have sci:∀k:List Int,(k.flatMap intE).all isSc=true:=fun k=>by rw[x1us,List.all_eq_true];intro x hx;obtain⟨y,_,rfl⟩:=List.mem_map.mp hx;rfl
 have sca:∀k:List Ar,(k.flatMap Ar.c).all isSc=true:=fun k=>by
  rw[List.all_eq_true];intro x hx
  obtain⟨a,_,hx⟩:=List.mem_flatMap.mp hx
  exact List.all_eq_true.mp a.sc x hx
 have r1:x1r1 mw.get 5 (srL (u+1) sL n)=[(u+1+1,sL,30)]:=x1ww (k:=4) hW.len (sci _)
 have r2:x1r1 mw.get 5 (.sref (u+1,16,26) 0 0 n 5 true)=[(u+1,16,26)]:=x1ww (k:=4) hW.last (sca _)
 have r3:x1r1 mw.get 5 (.sref (u+1,23,33) 0 0 n 1 true)=[(u+1,23,33)]:=x1ww (k:=4) hW.bef (sci _)
 obtain⟨M,hM,hMn,hMg⟩:=call4 (call:=x1qp (d+5)) (f:=x1s) (l:=[S,I p]) (l':=[S,I p]) (m:=⟨[],u+1⟩) (m':=mw) (ids:=[(u+1+1,sL,30),(u+1,16,26),(u+1,23,33)])
  (by
   have h1:frz (⟨[],u+1⟩:Mem).get deep (I p)=some (I p):=rfl
   have h2:frz (⟨[],u+1⟩:Mem).get deep S=some S:=by rw[hSe];rfl
   simp only[List.mapM_cons,List.mapM_nil,h1,h2];rfl)
  hw rfl (by
   show[srL (u+1) sL n,.sref (u+1,16,26) 0 0 n 5 true,.sref (u+1,23,33) 0 0 n 1 true].flatMap (x1r1 mw.get 5)=_
   simp only[List.flatMap_cons,List.flatMap_nil,r1,r2,r3]
   rfl)
  (by
   intro i hi
   simp only[List.mem_cons,List.not_mem_nil,or_false]at hi
   rcases hi with rfl|rfl|rfl
   .exact⟨by simp only;omega,_,_,hW.len,sci _⟩
   .exact⟨by simp only;omega,_,_,hW.last,sca _⟩
   .exact⟨by simp only;omega,_,_,hW.bef,sci _⟩)
 obtain⟨m2,hm2⟩:∃m2,m2=(M.new (u,4,5) (.row [nilS,nilS,nilS] 0 false)).set (u,4,5) (.row [srL (u+1) sL n,.sref (u+1,16,26) 0 0 n 5 true,.sref (u+1,23,33) 0 0 n 1 true] 0 false):=⟨_,rfl⟩
 have g5:m2.get (u,4,5)=some (.row [srL (u+1) sL n,.sref (u+1,16,26) 0 0 n 5 true,.sref (u+1,23,33) 0 0 n 1 true] 0 false):=by rw[hm2];simp
 have gL:m2.get (u+1+1,sL,30)=some (.row ((waysF n l fl tu p).len.flatMap intE) 0 false):=by
  rw[hm2,Mem.get_set,if_neg (by simp),Mem.get_new,if_neg (by simp),hMg,if_pos (by simp)];exact hW.len
 obtain⟨m',h1,h2,h3⟩:=l_most (d+5) [] (u:=u) (sL:=sL) hS hp hWL hW.ll n 0 NN m2 10 (by omega) (by rw[x1r6];have:=hS.n0;omega) g5 (by rw[List.take_zero,List.drop_zero,List.nil_append];exact gL)
 refine⟨sL,m',?_,h2,hWL,?_⟩
 .rw[xzl]
  show xby (x1qp (d+5)) [] u S (I p) ⟨[],u+1⟩ 0=_
  unfold xby xbx
  have hst:∀x y z:AV,x.cells=[x]->y.cells=[y]->z.cells=[z]->x.one=true->y.one=true->z.one=true->x1s2 3 0 0 (.agg [x,y,z]) (some (.row [nilS,nilS,nilS] 0 false))=some (.row [x,y,z] 0 false):=by
   intro x y z _ _ _ h1 h2 h3
   rw[x1u3]
   simp[x1rc,h1,h2,h3]
  simp only[hM,x1qt,x1ub,z_tour,x1rl,Mem.get_new,if_true]
  rw[show(0+4:Nat)=4 from rfl,hst _ _ _ rfl rfl rfl rfl rfl rfl]
  simp only[x1qt]
  rw[<-hm2]
  have hlen:sLen Try.prog x5 (srL (u+1) sL n)=some (I n):=rfl
  simp only[x1rh,x1qt,Nat.zero_add,x1qy,g5,x1r0,Nat.beq_refl,x1qw,List.drop_zero,rd_f,hlen]
  exact h1
 .rw[h3,hm2]
  simp only[Mem.next_set,Mem.next_new,hMn]
  have:=hW.nx
  omega
theorem Solved.flow{J:Int}{n:Nat}{l:List Edge}{fl tu ex:List Int}(h:Solved J n l fl tu ex):FlowOK n l fl (x1ra n (x1r9 n l) tu) ex:=by
 obtain⟨-,hC⟩:=h.best
 exact⟨h.f.nn,h.f.ll,h.f.ed,h.f.fll,x1v6 _ _ _,h.f.exl,h.f.cap,fun k hk=>hC _ ((x1t0 h.f.fll).mpr ⟨k,hk,rfl⟩),h.f.net⟩
theorem Solved.inn{J:Int}{n:Nat}{l:List Edge}{fl tu ex:List Int}(h:Solved J n l fl tu ex)(hS:Slim J n l):SolIn n l fl (x1ra n (x1r9 n l) tu) ex:=by
 have hj0:=hS.j0
 have hj1:=hS.j1
 exact⟨h.f.nn,h.f.ll,h.f.ed,h.f.flb,fun v=>by have:=h.turns hj0 v;omega,fun v=>by have:=h.f.exb hS v;omega⟩
theorem way_of{n:Nat}{l:List Edge}{fl tu ex:List Int}(h:FlowOK n l fl tu ex){fr:Nat}{t:Tour}{rk:Nat->Nat}(W:WaysOK n l fl tu fr t rk):∀(r v:Nat),v<n->rk v<r->at0 t.len v<farM->Way (l.zip fl) fr v (at0 t.len v-at0 tu fr+at0 tu v):=by
 intro r
 induction r with
 |zero=>intro v _ hh;omega
 |succ r ih=>
  intro v hv hr hl
  by_cases e:v=fr
  .subst e
   rw[W.z,show(0:Int)-at0 tu v+at0 tu v=0 by omega]
   exact .nil
  .obtain⟨b,k,b1,⟨b2,b2'⟩,b3,b4,b5,b6,b7,b8⟩:=x1y9 h W hv e hl
   have hw:=ih b b1 (by omega) b2
   have hx:(edgeAt l k,at0 fl k)∈l.zip fl:=(x1t0 h.fll).mpr ⟨k,b5,rfl⟩
   rcases b8 with ⟨c1,c2,c3,c4,c5⟩|⟨c1,c2,c3,c4,c5⟩
   .have ha:Arc (l.zip fl) b v (edgeAt l k).jump:=⟨_,hx,Or.inr ⟨by simp only;omega,by simp only;omega,by simp only;omega,rfl⟩⟩
    have:=hw.cons ha
    rw[show at0 t.len b-at0 tu fr+at0 tu b+(edgeAt l k).jump=at0 t.len v-at0 tu fr+at0 tu v by omega]at this
    exact this
   .have ha:Arc (l.zip fl) b v (-(edgeAt l k).jump):=⟨_,hx,Or.inl ⟨by simp only;omega,by simp only;omega,by simp only;omega,rfl⟩⟩
    have:=hw.cons ha
    rw[show at0 t.len b-at0 tu fr+at0 tu b+-(edgeAt l k).jump=at0 t.len v-at0 tu fr+at0 tu v by omega]at this
    exact this
theorem arc_fin{n:Nat}{l:List Edge}{fl tu ex:List Int}(h:FlowOK n l fl tu ex){fr:Nat}{t:Tour}{rk:Nat->Nat}(W:WaysOK n l fl tu fr t rk)(hL:LenB ((200:Nat)*GB) t.len)(hT:∀k,-1000000<=at0 tu k/\at0 tu k<=1000000){u v:Nat}{c:Int}(ha:Arc (l.zip fl) u v c)(hu:u<n)(hl:at0 t.len u<farM) :
 v<n/\at0 t.len v<farM/\at0 t.len v<=at0 t.len u+c+at0 tu u-at0 tu v:=by
 have hG:((200:Nat):Int)*GB=400200000:=by rfl
 rw[hG]at hL
 obtain⟨-,hv⟩:=ha.lt (x1wy h.ed h.fll)
 obtain⟨i,h1,h2,h3⟩:=arc_out h.ed h.fll ha
 have h4:=W.cl u hu hl i h1
 rw[h2,Int.toNat_natCast,h3]at h4
 have h9:c<=1000:=by
  rw[<-h3]
  obtain⟨k,hk,rfl,hc⟩:=x1za h.ed fl h1.1
  obtain⟨⟨_,_,_,_,j0,j1,_⟩,_⟩:=x1tw h.ed hk
  rcases hc with ⟨_,_,c⟩|⟨_,_,c⟩<;>rw[c]<;>simp only<;>omega
 have h5:=hL u
 have h6:=hT u
 have h7:=hT v
 refine⟨hv,?_,h4⟩
 have hf:(1000000000:Int)<farM:=by decide
 omega
def x1yb(n:Nat)(len tu:List Int)(fr:Nat)(v:Nat):Option Int:=if v<n/\at0 len v<farM then some (at0 len v-at0 tu fr+at0 tu v)else none
theorem dist_ok{n:Nat}{l:List Edge}{fl tu ex:List Int}(h:FlowOK n l fl tu ex){fr:Nat}(hfr:fr<n){t:Tour}{rk:Nat->Nat}(W:WaysOK n l fl tu fr t rk)(hL:LenB ((200:Nat)*GB) t.len)(hT:∀k,-1000000<=at0 tu k/\at0 tu k<=1000000):Dist n (l.zip fl) fr (x1yb n t.len tu fr):=by
 have hff:(0:Int)<farM:=by decide
 refine⟨fun v hv c hc=>?_,fun v c hw=>?_⟩
 .unfold x1yb at hc
  by_cases e:v<n/\at0 t.len v<farM
  .rw[if_pos e]at hc
   cases hc
   exact way_of h W _ v hv (Nat.lt_succ_self _) e.2
  .rw[if_neg e]at hc;cases hc
 .have key:v<n/\at0 t.len v<farM/\at0 t.len v-at0 tu fr+at0 tu v<=c:=by
   induction hw with
   |nil=>exact⟨hfr,by rw[W.z];exact hff,by rw[W.z];omega⟩
   |cons h1 ha ih=>
    obtain⟨i1,i2,i3⟩:=ih
    obtain⟨j1,j2,j3⟩:=arc_fin h W hL hT ha i1 i2
    exact⟨j1,j2,by omega⟩
  refine⟨_,?_,key.2.2⟩
  unfold x1yb
  rw[if_pos ⟨key.1,key.2.1⟩]
theorem z_range:xe=[I 0,I 0]:=by kernel_rfl
end Go.Ix
