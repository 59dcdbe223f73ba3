import Derived.Test.YtdfahbenacjgeaaGreatWg8
set_option linter.unusedSimpArgs false
set_option linter.unusedVariables false
namespace Go.Ix
open Go.Proofs
def okA(us:Nat)(id:Id):Prop:=id.1=us/\(id.2.2=116\/id.2.2=127)
structure SolMem (us n:Nat) (ev:AV) (l:List Edge) (fl tu ex:List Int) (m:Mem):Prop where
 s:m.get (us,21,25)=some (.row [I n,ev,srI (us,7,11) l.length,srI (us,11,15) n,srI (us,15,19) n,srI (us,19,23) n] 0 false)
 f:m.get (us,7,11)=some (.row (fl.flatMap intE) 0 false)
 t:m.get (us,11,15)=some (.row (tu.flatMap intE) 0 false)
 x:m.get (us,15,19)=some (.row (ex.flatMap intE) 0 false)
 a:∃cells,m.get (us,19,23)=some (.row cells 0 false)/\cells.length=n/\∀(v:Nat) (hv:v<cells.length),Gk 1 intE (okA us) m cells[v] (adjI l v)
 fll:fl.length=l.length
 tul:tu.length=n
 exl:ex.length=n
theorem SolMem.frame{us n:Nat}{ev:AV}{l:List Edge}{fl tu ex:List Int}{m m':Mem}(h:SolMem us n ev l fl tu ex m)(hm:∀id:Id,id.1=us->m'.get id=m.get id):SolMem us n ev l fl tu ex m':=by
 obtain⟨a,b,c,d,⟨cells,e1,e2,e3⟩,f,g,i⟩:=h
 refine⟨?_,?_,?_,?_,⟨cells,?_,e2,λv hv=>(e3 v hv).frame λid hid=>hm id hid.1⟩,f,g,i⟩<;>rw[hm _ rfl]<;>assumption
structure SolIn (n:Nat) (l:List Edge) (fl tu ex:List Int):Prop where
 n0:n<=200
 ll:l.length<=600
 ed:∀e∈l,EdgeIn n e/\e.fr≠e.to
 flb:∀k,-1000<=at0 fl k/\at0 fl k<=1000
 tub:∀k,-1000000<=at0 tu k/\at0 tu k<=1000000
 exb:∀k,-1000000<=at0 ex k/\at0 ex k<=1000000
theorem x1cg{objs:Id->Option Ob}{id:Id}{cs:List AV}{v off n z k:Nat}{f x:Bool}(h:objs id=some (.row cs v f))(hl:off+n*z<=cs.length):frz objs (k+1) (.sref id v off n z x)=(((cs.drop off).take (n*z)).mapM (frz objs k)).map λl=>AV.slit l n false:=by
 simp only[frz,h]
 rw[x1g7 ⟨trivial,hl⟩]
theorem x1ch{objs:Id->Option Ob}{id:Id}{cs:List AV}{v off k:Nat}{f:Bool}(h:objs id=some (.row cs v f)):frz objs (k+1) (.ptr id v off)=((cs.drop off).mapM (frz objs k)).map AV.plit:=by
 simp only[frz,h,x1gp]
theorem x158{objs:Id->Option Ob}{id:Id}{l:List Int}{k:Nat}(h:objs id=some (.row (l.flatMap intE) 0 false)):∃a,Ints a l/\frz objs (k+2) (srI id l.length)=some a:=by
 have hl:=xvx l
 refine⟨.slit (l.flatMap intE) l.length false,Sl.lit l false,?_⟩
 have:=xx3 (objs:=objs) (id:=id) (cs:=l.flatMap intE) (ver:=0) (off:=0) (n:=l.length) (z:=1) (k:=k) (f:=false) (x:=true) h (by omega) (by
  rw[x1g8,x1gg (by omega)];exact xwm xvc l)
 rw[x1g8,x1gg (by omega)]at this
 exact this
theorem mapM_ex{f:AV->Option AV}{P:Nat->AV->Prop}:∀(l:List AV) (k:Nat),(∀(v:Nat) (hv:v<l.length),∃b,f l[v]=some b/\P (k+v) b)->∃l',l.mapM f=some l'/\l'.length=l.length/\∀(v:Nat) (hv:v<l'.length),P (k+v) l'[v]
 |[],k,_=>⟨[],rfl,rfl,λv hv=>by simp at hv⟩
 |a::l,k,h=>by
  obtain⟨b,h1,h2⟩:=h 0 (by simp)
  obtain⟨l',h3,h4,h5⟩:=mapM_ex (f:=f) (P:=P) l (k+1) λv hv=>by
   obtain⟨b,e1,e2⟩:=h (v+1) (by simpa using hv)
   exact⟨b,e1,by rw[show k+1+v=k+(v+1) by omega];exact e2⟩
  refine⟨b::l',?_,by simp[h4],λv hv=>?_⟩
  .rw[x1gw]
   simp only[List.getElem_cons_zero]at h1
   rw[h1,h3];rfl
  .cases v with
   |zero=>exact h2
   |succ v=>
    have:=h5 v (by simpa using hv)
    rw[show k+1+v=k+(v+1) by omega]at this
    exact this
theorem SolMem.frz{us n:Nat}{ev:AV}{l:List Edge}{fl tu ex:List Int}{m:Mem}(h:SolMem us n ev l fl tu ex m)(hi:SolIn n l fl tu ex)(hev:Sl Edge.c ev l):∃S,FrzS S n l fl tu ex/\Go.Ix.frz m.get deep (.ptr (us,21,25) 0 0)=some S:=by
 obtain⟨hs,hf,ht,hx,⟨cells,ha,hal,hac⟩,h1,h2,h3⟩:=h
 obtain⟨F,hF,fF⟩:=x158 (k:=3) hf
 obtain⟨T,hT,fT⟩:=x158 (k:=3) ht
 obtain⟨X,hX,fX⟩:=x158 (k:=3) hx
 obtain⟨cs,c1,c2,c3⟩:=mapM_ex (f:=Go.Ix.frz m.get 4) (P:=λv b=>Ints b (adjI l v)) cells 0 λv hv=>by
  obtain⟨a',g1,g2⟩:=(hac v hv).frz (k:=2) xt2 xvc
  exact⟨a',g2,by simpa using g1⟩
 have fA:Go.Ix.frz m.get 5 (srI (us,19,23) n)=some (.slit cs n false):=by
  rw[x1cg ha (by omega),x1g8,x1gg (by omega),c1]
  rfl
 refine⟨.plit [I n,ev,F,T,X,.slit cs n false],⟨⟨ev,F,T,X,cs,false,rfl,hev,hF,hT,hX,by omega,λv hv=>by have:=c3 v hv;rwa[x1gl]at this⟩,h1,h2,h3,hi.n0,hi.ll,hi.ed,hi.flb,hi.tub⟩,?_⟩
 rw[h1]at fF
 rw[h2]at fT
 rw[h3]at fX
 have fe:Go.Ix.frz m.get 5 ev=some ev:=xzt _ 4 hev.still1
 rw[show deep=5+1 from rfl,x1ch hs]
 have fn:Go.Ix.frz m.get 5 (I n)=some (I n):=rfl
 simp only[x1g8,x1gw,x1hd,fn,fe,fF,fT,fX,fA]
 rfl
def nearM(len ex:List Int):Int->Int->List Int->Int
 |b,_,[]=>b
 |b,k,x::xs=>nearM len ex (if at0 ex k.toNat<0/\x<farM/\(b<0\/x<at0 len b.toNat)then k else b) (k+1) xs
def NearI(len ex:List Int)(k:Nat)(b:Int):Prop:=
 (b=-1/\∀i,i<k->at0 ex i<0->farM<=at0 len i) \/
 (0<=b/\b.toNat<k/\at0 ex b.toNat<0/\at0 len b.toNat<farM/\∀i,i<k->at0 ex i<0->at0 len b.toNat<=at0 len i)
theorem x190{len ex:List Int}:∀(xs:List Int) (k:Nat) (b:Int),len.drop k=xs->k<=len.length->NearI len ex k b->NearI len ex len.length (nearM len ex b k xs)
 |[],k,b,hx,hk,h=>by
  have:=x1ha.mp hx
  have e:k=len.length:=by omega
  rw[<-e]
  exact h
 |x::xs,k,b,hx,hk,h=>by
  obtain⟨hk1,hxe,hx'⟩:=xul hx
  have e1:at0 len k=x:=by rw[xt5 hk1,hxe]
  simp only[nearM,x1gb]
  have:=x190 (len:=len) (ex:=ex) xs (k+1) (if at0 ex k<0/\x<farM/\(b<0\/x<at0 len b.toNat)then(k:Int)else b) hx' (by omega) (by
   split
   .rename_i c
    obtain⟨c1,c2,c3⟩:=c
    right
    refine⟨by omega,by simp,by simpa using c1,by simpa[e1]using c2,λi hi hdi=>?_⟩
    simp only[x1gb,e1]
    by_cases e:i=k
    .subst e;omega
    .rcases h with ⟨h1,h2⟩|⟨h1,h2,h3,h4,h5⟩
     .have:=h2 i (by omega) hdi;omega
     .have:=h5 i (by omega) hdi
      rcases c3 with c3|c3<;>omega
   .rename_i c
    rcases h with ⟨h1,h2⟩|⟨h1,h2,h3,h4,h5⟩
    .left
     refine⟨h1,λi hi hdi=>?_⟩
     by_cases e:i=k
     .subst e
      rw[e1]
      by_cases c2:x<farM
      .exact absurd ⟨hdi,c2,Or.inl (by omega)⟩ c
      .omega
     .exact h2 i (by omega) hdi
    .right
     refine⟨h1,by omega,h3,h4,λi hi hdi=>?_⟩
     by_cases e:i=k
     .subst e
      rw[e1]
      by_cases c2:x<at0 len b.toNat
      .exact absurd ⟨hdi,by omega,Or.inr c2⟩ c
      .omega
     .exact h5 i (by omega) hdi)
  simpa using this
structure TourMem (u sL n:Nat) (t:Tour) (m:Mem):Prop where
 t4:m.get (u,3,4)=some (.row [srL (u+1) sL n,.sref (u+1,16,26) 0 0 n 5 true,.sref (u+1,23,33) 0 0 n 1 true] 0 false)
 len:m.get (u+1+1,sL,30)=some (.row (t.len.flatMap intE) 0 false)
 last:m.get (u+1,16,26)=some (.row (t.last.flatMap Ar.c) 0 false)
 bef:m.get (u+1,23,33)=some (.row (t.bef.flatMap intE) 0 false)
 ll:t.len.length=n
 al:t.last.length=n
 bl:t.bef.length=n
theorem TourMem.frame{u sL n:Nat}{t:Tour}{m m':Mem}(h:TourMem u sL n t m)(hm:∀id:Id,u<=id.1->m'.get id=m.get id):TourMem u sL n t m':=by
 obtain⟨a,b,c,d,e,f,g⟩:=h
 refine⟨?_,?_,?_,?_,e,f,g⟩<;>rw[hm _ (by simp only;omega)]<;>assumption
theorem l_near(d:Nat)(hs:FHs){us u sL n:Nat}{ev:AV}{l:List Edge}{fl tu ex:List Int}{t:Tour}{m:Mem}(hS:SolMem us n ev l fl tu ex m)(hT:TourMem u sL n t m)(hn:n<=200)(fr:Int) :
 ∀(xs:List Int) (k j:Nat) (b:Int) (fc:Nat),t.len.drop k=xs->xs.length<j->(b<0\/(0<=b/\b<n)) ->
 ∃fc',x3n (xsi d) hs u j (.ptr (us,21,25) 0 0) (I fr) (.ptr (u,3,4) 0 0) (I b) (srL (u+1) sL n) (I n) (I k) m fc =
  xbq (xsi d) hs u (.ptr (us,21,25) 0 0) (I fr) (.ptr (u,3,4) 0 0) (I (nearM t.len ex b k xs)) m fc':=by
 intro xs
 induction xs with
 |nil=>
  intro k j b fc hx hj hb
  obtain⟨j,rfl⟩:∃i,j=i+1:=⟨j-1,by simp at hj;omega⟩
  have hk:¬((k:Int)<(n:Int)):=by have:=x1ha.mp hx;have:=hT.ll;omega
  refine⟨fc+1,?_⟩
  simp only[x3n]
  unfold x74
  simp[hk,nearM]
 |cons x xs ih=>
  intro k j b fc hx hj hb
  obtain⟨j,rfl⟩:∃i,j=i+1:=⟨j-1,by simp at hj;omega⟩
  obtain⟨hk,hxe,hx'⟩:=xul hx
  have hkn:k<n:=by have:=hT.ll;omega
  have hkx:k<ex.length:=by rw[hS.exl];exact hkn
  have e1:at0 t.len k=x:=by rw[xt5 hk,hxe]
  have hk':(k:Int)<(n:Int):=by omega
  have i1:sIx 1 (srL (u+1) sL n) (I k)=some (.ptr (u+1+1,sL,30) 0 k):=by simpa using xtu (id:=(u+1+1,sL,30)) (n:=n) (k:=(k:Int)) (by omega) hk'
  have i2:sIx 1 (srI (us,15,19) n) (I k)=some (.ptr (us,15,19) 0 k):=by simpa using xtu (id:=(us,15,19)) (n:=n) (k:=(k:Int)) (by omega) hk'
  obtain⟨nb,hnb⟩:∃nb,nb=(if at0 ex (k:Int).toNat<0/\x<farM/\(b<0\/x<at0 t.len b.toNat)then(k:Int)else b):=⟨_,rfl⟩
  have hnb2:nb<0\/(0<=nb/\nb<n):=by rw[hnb];split<;>omega
  simp only[nearM]
  rw[<-hnb]
  rw[x1gb]at hnb
  have hbl:¬b<0->b.toNat<t.len.length:=λh=>by have:=hT.ll;omega
  have i3:¬b<0->sIx 1 (srL (u+1) sL n) (I b)=some (.ptr (u+1+1,sL,30) 0 b.toNat):=λh=>xtu (by omega) (by omega)
  by_cases c:at0 ex k<0/\x<farM/\(b<0\/x<at0 t.len b.toNat)
  .rw[x1g7 c]at hnb
   obtain⟨fc',h1⟩:=ih (k+1) j nb (fc+1+32+2) hx' (by simp at hj;omega) hnb2
   refine⟨fc',?_⟩
   rw[show((k:Int)+1)=((k+1:Nat):Int)from rfl,<-h1,hnb]
   obtain⟨c1,c2,c3⟩:=c
   simp only[x3n]
   unfold x74 xbr
   by_cases hb0:b<0
   .simp(disch:=omega) [hk',i1,i2,hT.len,hS.s,hS.x,sNil,xum hk,xum hkx,e1,c1,c2,hb0,x1v]
   .have c3':x<at0 t.len b.toNat:=by rcases c3 with c3|c3;exact absurd c3 hb0;exact c3
    simp(disch:=omega) [hk',i1,i2,i3 hb0,hT.len,hT.t4,hS.s,hS.x,sNil,xum hk,xum hkx,xum (hbl hb0),e1,c1,c2,hb0,c3',x1v]
  .rw[x1g6 c]at hnb
   obtain⟨fc',h1⟩:=ih (k+1) j nb (fc+1+30+2) hx' (by simp at hj;omega) hnb2
   refine⟨fc',?_⟩
   rw[show((k:Int)+1)=((k+1:Nat):Int)from rfl,<-h1,hnb]
   simp only[x3n]
   unfold x74 xbr
   by_cases c1:at0 ex k<0
   rotate_left
   .simp(disch:=omega) [hk',i1,i2,hT.len,hS.s,hS.x,sNil,xum hk,xum hkx,e1,c1,x1v]
   by_cases c2:x<farM
   rotate_left
   .simp(disch:=omega) [hk',i1,i2,hT.len,hS.s,hS.x,sNil,xum hk,xum hkx,e1,c1,c2,x1v]
   by_cases hb0:b<0
   .exact absurd ⟨c1,c2,Or.inl hb0⟩ c
   by_cases c3:x<at0 t.len b.toNat
   .exact absurd ⟨c1,c2,Or.inr c3⟩ c
   simp(disch:=omega) [hk',i1,i2,i3 hb0,hT.len,hT.t4,hS.s,hS.x,sNil,xum hk,xum hkx,xum (hbl hb0),e1,c1,c2,hb0,c3,x1v]
def minI(x y:Int):Int:=if y<x then y else x
def lastAt(t:Tour)(v:Nat):Ar:=t.last.getD v a00
theorem x191{t:Tour}{v:Nat}(h:v<t.last.length):lastAt t v=t.last[v]:=by
 unfold lastAt;rw[x1gk,x1gv h];rfl
def PathI(n:Nat)(bef:List Int)(fr:Int):Int->List Nat->Prop
 |a,[]=>a=fr
 |a,v::ps=>a≠fr/\a=(v:Int)/\v<n/\PathI n bef fr (at0 bef v) ps
def amtM(t:Tour)(ps:List Nat)(a:Int):Int:=ps.foldl (λa v=>minI a (lastAt t v).room) a
def flowP(t:Tour)(amt:Int)(ps:List Nat)(fl:List Int):List Int:=ps.foldl (λfl v=>fl.set (lastAt t v).edge.toNat (at0 fl (lastAt t v).edge.toNat+(lastAt t v).sign*amt)) fl
def turnsP(tu len:List Int)(b:Int)(n:Nat):List Int:=(List.range n).map λi=>at0 tu i+minI (at0 len i) b
def ArcsIn(E:Nat)(t:Tour)(ps:List Nat):Prop:=∀v∈ps,0<=(lastAt t v).edge/\(lastAt t v).edge<E/\((lastAt t v).sign=1\/(lastAt t v).sign=-1)/\0<=(lastAt t v).room/\(lastAt t v).room<=1000000
theorem rd_arc{l:List Ar}{k:Nat}(hk:k<l.length) :
 rd false 1 ((l.flatMap Ar.c).drop (k*5))=some (I (l[k]).edge)/\rd false 1 ((l.flatMap Ar.c).drop (k*5+2))=some (I (l[k]).sign)/\rd false 1 ((l.flatMap Ar.c).drop (k*5+3))=some (I (l[k]).room):=by
 have h0:(l.flatMap Ar.c).drop (k*5)=(l.drop k).flatMap Ar.c:=x122 Ar.len l k
 have h1:(l.flatMap Ar.c).drop (k*5)=I (l[k]).edge::I (l[k]).to::I (l[k]).sign::I (l[k]).room::I (l[k]).cost::(l.drop (k+1)).flatMap Ar.c:=by
  rw[h0,xtm hk,x1gy];rfl
 refine⟨?_,?_,?_⟩
 .rw[h1];rfl
 .rw[<-x1lj,h1];rfl
 .rw[<-x1lj,h1];rfl
theorem xun{l:List Int}{k:Nat}(hk:k<l.length):rd false 1 ((l.flatMap intE).drop k)=some (I (at0 l k)):=by
 have:=xum (fz:=false) hk
 rwa[xt1,x1gd,xsr]at this
theorem l_amount(d:Nat)(hs:FHs){us u sL n E:Nat}{t:Tour}{m:Mem}(hT:TourMem u sL n t m)(fr to:Int) :
 ∀(ps:List Nat) (j:Nat) (a at':Int) (fc:Nat),PathI n t.bef fr at' ps->ArcsIn E t ps->ps.length<j ->
 ∃fc',x66 (xsi d) hs u j (.ptr (us,21,25) 0 0) (I fr) (.ptr (u,3,4) 0 0) (I to) (I a) (I at') m fc =
  xbo (xsi d) hs u (.ptr (us,21,25) 0 0) (I fr) (.ptr (u,3,4) 0 0) (I to) (I (amtM t ps a)) m fc':=by
 intro ps
 induction ps with
 |nil=>
  intro j a at' fc hp _ hj
  obtain⟨j,rfl⟩:∃i,j=i+1:=⟨j-1,by simp at hj;omega⟩
  have hp:at'=fr:=hp
  refine⟨fc+3,?_⟩
  simp only[x66]
  unfold xbp
  simp[hp,amtM]
 |cons v ps ih=>
  intro j a at' fc hp hA hj
  obtain⟨j,rfl⟩:∃i,j=i+1:=⟨j-1,by simp at hj;omega⟩
  obtain⟨h1,h2,h3,h4⟩:=hp
  have hvl:v<t.last.length:=by rw[hT.al];exact h3
  have hvb:v<t.bef.length:=by rw[hT.bl];exact h3
  have iA:sIx 5 (.sref (u+1,16,26) 0 0 n 5 true) (I v)=some (.ptr (u+1,16,26) 0 (v*5)):=by simp[sIx,asI,h3]
  have iB:sIx 1 (.sref (u+1,23,33) 0 0 n 1 true) (I v)=some (.ptr (u+1,23,33) 0 v):=by simpa using xtu (id:=(u+1,23,33)) (n:=n) (k:=(v:Int)) (by omega) (by omega)
  obtain⟨q0,q2,q3⟩:=rd_arc hvl
  obtain⟨fc',h5⟩:=ih j (minI a (lastAt t v).room) (at0 t.bef v) (fc+18) h4 (λw hw=>hA w (x1ge _ hw)) (by simp at hj;omega)
  refine⟨fc',?_⟩
  have e:amtM t (v::ps) a=amtM t ps (minI a (lastAt t v).room):=rfl
  rw[e,<-h5]
  subst h2
  simp only[x66]
  unfold xbp
  simp only[xzr,xsn,show((v:Int)=fr)=False from eq_false h1,x1h9,x1ht,xt9,xtn,x1gl,xsv,hT.t4,xt1,x1gd,xsr,x1g8,x1gr,rd_f,iA,iB,x11z,hT.last,hT.bef,q3,xun hvb,x191 hvl]
  rfl
theorem l_flow(d:Nat)(hs:FHs){us u sL n:Nat}{ev:AV}{l:List Edge}{tu ex:List Int}{t:Tour}(fr to amt:Int)(hus:us<u)(ha:0<=amt/\amt<=1000000)(hl:l.length<=600) :
 ∀(ps:List Nat) (j:Nat) (at':Int) (fl:List Int) (b:Int) (m:Mem) (fc:Nat),PathI n t.bef fr at' ps->ArcsIn l.length t ps->ps.length<j->SolMem us n ev l fl tu ex m->TourMem u sL n t m->(∀k,-b<=at0 fl k/\at0 fl k<=b)->0<=b->b+ps.length*1000000<=1000000000000 ->
 ∃m' fc',x65 (xsi d) hs u j (.ptr (us,21,25) 0 0) (I fr) (.ptr (u,3,4) 0 0) (I to) (I amt) (I at') m fc =
  xbm (xsi d) hs u (.ptr (us,21,25) 0 0) (I fr) (.ptr (u,3,4) 0 0) (I to) (I amt) m' fc' /\
  SolMem us n ev l (flowP t amt ps fl) tu ex m'/\TourMem u sL n t m'/\m'.next=m.next/\∀id:Id,id≠(us,7,11)->m'.get id=m.get id:=by
 intro ps
 induction ps with
 |nil=>
  intro j at' fl b m fc hp _ hj hS hT hb hb0 hb1
  obtain⟨j,rfl⟩:∃i,j=i+1:=⟨j-1,by simp at hj;omega⟩
  have hp:at'=fr:=hp
  refine⟨m,fc+3,?_,hS,hT,rfl,λ_ _=>rfl⟩
  simp only[x65]
  unfold xbn
  simp[hp]
 |cons v ps ih=>
  intro j at' fl b m fc hp hA hj hS hT hb hb0 hb1
  obtain⟨j,rfl⟩:∃i,j=i+1:=⟨j-1,by simp at hj;omega⟩
  obtain⟨h1,h2,h3,h4⟩:=hp
  obtain⟨a0,a1,a2,a3,a4⟩:=hA v (x1gf ..)
  have hvl:v<t.last.length:=by rw[hT.al];exact h3
  have hvb:v<t.bef.length:=by rw[hT.bl];exact h3
  have iA:sIx 5 (.sref (u+1,16,26) 0 0 n 5 true) (I v)=some (.ptr (u+1,16,26) 0 (v*5)):=by simp[sIx,asI,h3]
  have iB:sIx 1 (.sref (u+1,23,33) 0 0 n 1 true) (I v)=some (.ptr (u+1,23,33) 0 v):=by simpa using xtu (id:=(u+1,23,33)) (n:=n) (k:=(v:Int)) (by omega) (by omega)
  have iF:sIx 1 (srI (us,7,11) l.length) (I (lastAt t v).edge)=some (.ptr (us,7,11) 0 (lastAt t v).edge.toNat):=xtu a0 a1
  have hfl:(lastAt t v).edge.toNat<fl.length:=by rw[hS.fll];omega
  obtain⟨q0,q2,q3⟩:=rd_arc hvl
  rw[<-x191 hvl]at q0 q2 q3
  have hbe:=hb (lastAt t v).edge.toNat
  have hsa:-1000000<=(lastAt t v).sign*amt/\(lastAt t v).sign*amt<=1000000:=by rcases a2 with h|h<;>rw[h]<;>omega
  simp only[x1gq]at hb1
  obtain⟨fl',hfl'⟩:∃fl',fl'=fl.set (lastAt t v).edge.toNat (at0 fl (lastAt t v).edge.toNat+(lastAt t v).sign*amt):=⟨_,rfl⟩
  obtain⟨M,hM⟩:∃M,M=m.set (us,7,11) (.row (fl'.flatMap intE) 0 false):=⟨_,rfl⟩
  have q:∀id:Id,id≠(us,7,11)->M.get id=m.get id:=λid hid=>by rw[hM,Mem.get_set,x1g6 hid]
  have hSM:SolMem us n ev l fl' tu ex M:=by
   obtain⟨b1,b2,b3,b4,⟨cells,c1,c2,c3⟩,b5,b6,b7⟩:=hS
   refine⟨?_,by rw[hM];simp,?_,?_,⟨cells,?_,c2,λw hw=>(c3 w hw).frame λid hid=>q id (by rintro rfl;rcases hid with ⟨_,h|h⟩<;>simp at h)⟩,by rw[hfl'];simp[b5],b6,b7⟩<;>rw[q _ (by simp)]<;>assumption
  have hTM:TourMem u sL n t M:=hT.frame λid hid=>q id (by rintro rfl;simp at hid;omega)
  obtain⟨m',fc',h5,h6,h7,h8,h9⟩:=ih j (at0 t.bef v) fl' (b+1000000) M (fc+32) h4 (λw hw=>hA w (x1ge _ hw)) (by simp at hj;omega) hSM hTM (by
   intro k
   rw[hfl',xue hfl]
   have:=hb k
   split<;>omega) (by omega) (by omega)
  refine⟨m',fc',?_,?_,h7,by rw[h8,hM];rfl,λid hid=>by rw[h9 id hid,q id hid]⟩
  rotate_left
  .have e:flowP t amt (v::ps) fl=flowP t amt ps fl':=by rw[hfl'];rfl
   rw[e];exact h6
  rw[<-h5]
  subst h2
  simp only[x65]
  unfold xbn
  simp only[xzr,xsn,show((v:Int)=fr)=False from eq_false h1,x1h9,x1ht,xt9,sNil,xtn,x1gl,x1iv,xsv,hS.s,hT.t4,hT.last,xt1,x1gd,xsr,x1g8,x1gr,rd_f,iA]
  simp(disch:=omega)only[q0,q2,xsn,iF,xsv,hS.f,xt1,x1gd,xsr,xun hfl,sMul_I,xux,xso,xtp]
  rw[xvf hfl]
  simp only[xsn]
  rw[<-hfl',<-hM]
  simp only[xsn,xsv,hTM.t4,xt1,x1gd,xsr,x1g8,x1gr,rd_f,iB,hTM.bef,xun hvb]
theorem x192{a b:List Int}{k:Nat}(hk:k<b.length)(ha:k<=a.length):at0 (a.take k++b.drop k) k=at0 b k:=by
 have h1:(a.take k).length=k:=by simp;omega
 rw[xtm hk]
 unfold at0
 rw[x1gk,x1iz (by omega),h1,x1ip]
 rw[x1gk,x1gv hk]
 rfl
theorem x193{a b:List Int}{k:Nat}(hk:k<b.length)(ha:k<a.length):(a.take k++b.drop k).set k a[k]=a.take (k+1)++b.drop (k+1):=by
 have h1:(a.take k).length=k:=by simp;omega
 rw[xtm hk,x1ko _ _ (by omega),h1,x1ip,x1jx,x1gz ha,x1i3]
 rfl
theorem xz9(tu len:List Int)(b:Int)(n:Nat):(turnsP tu len b n).length=n:=by simp[turnsP]
theorem x194{tu len:List Int}{b:Int}{n k:Nat}(h:k<n):(turnsP tu len b n)[k]'(by rw[xz9];exact h)=at0 tu k+minI (at0 len k) b:=by simp[turnsP]
theorem x12p{x b:Int}:minI x b<=b:=by unfold minI;split<;>omega
theorem minI_ge{x b c:Int}(h1:c<=x)(h2:c<=b):c<=minI x b:=by unfold minI;split<;>omega
theorem l_turns(d:Nat)(hs:FHs){us u sL n:Nat}{ev:AV}{l:List Edge}{fl tu ex:List Int}{t:Tour}(hus:us<u)(hn:n<=200)(htl:tu.length=n)(htb:∀k,-1000000<=at0 tu k/\at0 tu k<=1000000)(hL:LenB ((200:Nat)*GB) t.len){to:Int}(to0:0<=to)(to1:to<n)(htf:at0 t.len to.toNat<farM) :
 ∀(s k j:Nat) (m:Mem) (fc:Nat),k+s=n->s<j->SolMem us n ev l fl ((turnsP tu t.len (at0 t.len to.toNat) n).take k++tu.drop k) ex m->TourMem u sL n t m ->
 ∃m',x64 (xsi d) hs u j (.ptr (us,21,25) 0 0) (.ptr (u,3,4) 0 0) (I to) (srL (u+1) sL n) (I n) (I k) m fc=some (.tup [],m') /\
  SolMem us n ev l fl (turnsP tu t.len (at0 t.len to.toNat) n) ex m'/\m'.next=m.next/\∀id:Id,id≠(us,11,15)->m'.get id=m.get id:=by
 have hG:((200:Nat):Int)*GB=400200000:=by rfl
 rw[hG]at hL
 have hbt:=hL to.toNat
 intro s
 induction s with
 |zero=>
  intro k j m fc hk hj hS hT
  obtain⟨j,rfl⟩:∃i,j=i+1:=⟨j-1,by omega⟩
  have hkn:k=n:=by omega
  subst hkn
  rw[x1gg (by rw[xz9];omega),x1kc (by omega),x1hc]at hS
  refine⟨m,?_,hS,rfl,λ_ _=>rfl⟩
  simp only[x64]
  unfold xbl
  simp
 |succ s ih=>
  intro k j m fc hk hj hS hT
  obtain⟨j,rfl⟩:∃i,j=i+1:=⟨j-1,by omega⟩
  have hkn:k<n:=by omega
  have hk':(k:Int)<(n:Int):=by omega
  have hlk:k<t.len.length:=by rw[hT.ll];exact hkn
  have hlt:to.toNat<t.len.length:=by rw[hT.ll];omega
  have iL:sIx 1 (srL (u+1) sL n) (I k)=some (.ptr (u+1+1,sL,30) 0 k):=by simpa using xtu (id:=(u+1+1,sL,30)) (n:=n) (k:=(k:Int)) (by omega) hk'
  have iLt:sIx 1 (srL (u+1) sL n) (I to)=some (.ptr (u+1+1,sL,30) 0 to.toNat):=xtu to0 to1
  have iT:sIx 1 (srI (us,11,15) n) (I k)=some (.ptr (us,11,15) 0 k):=by simpa using xtu (id:=(us,11,15)) (n:=n) (k:=(k:Int)) (by omega) hk'
  obtain⟨cur,hcur⟩:∃cur,cur=(turnsP tu t.len (at0 t.len to.toNat) n).take k++tu.drop k:=⟨_,rfl⟩
  rw[<-hcur]at hS
  have hcl:k<cur.length:=by rw[hcur];simp[xz9];omega
  have hck:at0 cur k=at0 tu k:=by rw[hcur];exact x192 (by omega) (by rw[xz9];omega)
  have hnext:cur.set k (at0 tu k+minI (at0 t.len k) (at0 t.len to.toNat))=(turnsP tu t.len (at0 t.len to.toNat) n).take (k+1)++tu.drop (k+1):=by
   rw[hcur,<-x194 hkn]
   exact x193 (by omega) (by rw[xz9];exact hkn)
  have b1:=htb k
  have b2:=x12p (x:=at0 t.len k) (b:=at0 t.len to.toNat)
  have b3:-400200000<=minI (at0 t.len k) (at0 t.len to.toNat):=minI_ge (by have:=hL k;omega) (by omega)
  obtain⟨M,hM⟩:∃M,M=m.set (us,11,15) (.row ((cur.set k (at0 tu k+minI (at0 t.len k) (at0 t.len to.toNat))).flatMap intE) 0 false):=⟨_,rfl⟩
  have q:∀id:Id,id≠(us,11,15)->M.get id=m.get id:=λid hid=>by rw[hM,Mem.get_set,x1g6 hid]
  have hSM:SolMem us n ev l fl ((turnsP tu t.len (at0 t.len to.toNat) n).take (k+1)++tu.drop (k+1)) ex M:=by
   obtain⟨a1,a2,a3,a4,⟨cells,c1,c2,c3⟩,a5,a6,a7⟩:=hS
   refine⟨?_,?_,by rw[hM,<-hnext];simp,?_,⟨cells,?_,c2,λw hw=>(c3 w hw).frame λid hid=>q id (by rintro rfl;rcases hid with ⟨_,h|h⟩<;>simp at h)⟩,a5,by rw[<-hnext];simp[a6],a7⟩<;>rw[q _ (by simp)]<;>assumption
  have hTM:TourMem u sL n t M:=hT.frame λid hid=>q id (by rintro rfl;simp at hid;omega)
  obtain⟨m',h1,h2,h3,h4⟩:=ih (k+1) j M (fc+25) (by omega) (by omega) hSM hTM
  refine⟨m',?_,h2,by rw[h3,hM];rfl,λid hid=>by rw[h4 id hid,q id hid]⟩
  rw[<-h1]
  simp only[x64]
  unfold xbl
  simp only[xta,xsn,hk',x1gm,xt9,iL,xsv,hT.len,xt1,x1gd,xsr,xun hlk,sNil,xtn,x1gl,hS.s,x1g8,x1gr,rd_f,iT,hS.t,xun hcl,hck,hT.t4,iLt,xun hlt,x11z]
  have e:(if at0 t.len to.toNat<at0 t.len k then at0 t.len to.toNat else at0 t.len k)=minI (at0 t.len k) (at0 t.len to.toNat):=rfl
  rw[e]
  simp(disch:=omega)only[xux,xso,xsn,xtp,hS.t]
  rw[xvf hcl]
  simp(disch:=omega)only[xux,xso,xsn]
  rw[<-hM]
  rfl
theorem w_push(d:Nat)(hs:FHs){us n:Nat}{ev:AV}{l:List Edge}{fl tu ex:List Int}{m:Mem}(hus:us<m.next)(hS:SolMem us n ev l fl tu ex m)(hi:SolIn n l fl tu ex)(hev:Sl Edge.c ev l){fr:Int}(f0:0<=fr)(f1:fr<n){t:Tour}(ht:t=waysF n l fl tu fr){to:Int}(hto:to=nearM t.len ex (-1) 0 t.len)(to0:0<=to)(to1:to<n)(hne:to≠fr)(htf:at0 t.len to.toNat<farM){ps:List Nat}(hp:PathI n t.bef fr to ps)(hA:ArcsIn l.length t ps)(hpl:ps.length<=1000){amt:Int}(hamt:amt=amtM t ps (minI (at0 ex fr.toNat) (-(at0 ex to.toNat))))(a0:0<=amt)(a1:amt<=1000000) :
 ∃m',xsi (d+5) hs x31 [.ptr (us,21,25) 0 0,I fr] m=some (.tup [],m') /\
  SolMem us n ev l (flowP t amt ps fl) (turnsP tu t.len (at0 t.len to.toNat) n) ((ex.set fr.toNat (at0 ex fr.toNat-amt)).set to.toNat (at0 ex to.toNat+amt)) m'/\m.next<=m'.next /\
  ∀id:Id,id.1<m.next->id≠(us,7,11)->id≠(us,11,15)->id≠(us,15,19)->m'.get id=m.get id:=by
 obtain⟨S,hF,hfz⟩:=hS.frz hi hev
 obtain⟨u,hu⟩:∃u,u=m.next:=⟨_,rfl⟩
 obtain⟨m0,hm0⟩:∃m0:Mem,m0=⟨m.hp,m.next+1⟩:=⟨_,rfl⟩
 have g0:∀id,m0.get id=m.get id:=λ_=>by rw[hm0];rfl
 have n0:m0.next=u+1:=by rw[hm0,hu]
 have hfz0:frz m0.get deep (.ptr (us,21,25) 0 0)=some S:=by rw[hm0];exact hfz
 obtain⟨sL,mw,hw,hW,hWL⟩:=w_ways d hF f0 f1 (u+1)
 rw[<-ht]at hW hWL
 have r1:xt3 mw.get 5 (srL (u+1) sL n)=[(u+1+1,sL,30)]:=x155 (k:=4) hW.len (by rw[xwa,x1gj];intro x hx;obtain⟨y,_,rfl⟩:=x1gs.mp hx;rfl)
 have r2:xt3 mw.get 5 (.sref (u+1,16,26) 0 0 n 5 true)=[(u+1,16,26)]:=x155 (k:=4) hW.last (by
  rw[x1gj];intro x hx
  obtain⟨a,_,hx⟩:=x1hj.mp hx
  exact x1gj.mp a.sc x hx)
 have sci:∀k:List Int,(k.flatMap intE).all isSc=true:=λk=>by rw[xwa,x1gj];intro x hx;obtain⟨y,_,rfl⟩:=x1gs.mp hx;rfl
 have r3:xt3 mw.get 5 (.sref (u+1,23,33) 0 0 n 1 true)=[(u+1,23,33)]:=x155 (k:=4) hW.bef (sci _)
 obtain⟨M,hM,hMn,hMg⟩:=call4 (call:=xsi (d+4)) (f:=x24) (l:=[.ptr (us,21,25) 0 0,I fr]) (l':=[S,I fr]) (m:=m0) (m':=mw) (ids:=[(u+1+1,sL,30),(u+1,16,26),(u+1,23,33)])
  (by
   have:frz m0.get deep (I fr)=some (I fr):=rfl
   simp only[x1gw,x1hd,hfz0,this];rfl)
  (by rw[n0];exact hw) rfl (by
   show[srL (u+1) sL n,.sref (u+1,16,26) 0 0 n 5 true,.sref (u+1,23,33) 0 0 n 1 true].flatMap (xt3 mw.get 5)=_
   simp only[x1gy,List.flatMap_nil,r1,r2,r3]
   rfl)
  (by
   intro i hi
   simp only[x1gn,x1ju,or_false]at hi
   rcases hi with rfl|rfl|rfl
   .exact⟨by simp only[n0];omega,_,_,hW.len,sci _⟩
   .exact⟨by simp only[n0];omega,_,_,hW.last,by
     rw[x1gj];intro x hx
     obtain⟨a,_,hx⟩:=x1hj.mp hx
     exact x1gj.mp a.sc x hx⟩
   .exact⟨by simp only[n0];omega,_,_,hW.bef,sci _⟩)
 obtain⟨m2,hm2⟩:∃m2,m2=(M.new (u,3,4) (.row [nilS,nilS,nilS] 0 false)).set (u,3,4) (.row [srL (u+1) sL n,.sref (u+1,16,26) 0 0 n 5 true,.sref (u+1,23,33) 0 0 n 1 true] 0 false):=⟨_,rfl⟩
 have q2:∀id:Id,id≠(u,3,4)->m2.get id=M.get id:=λid hid=>by rw[hm2,Mem.get_set,x1g6 hid,Mem.get_new,x1g6 hid]
 have qlow:∀id:Id,id.1<u->m2.get id=m.get id:=λid hid=>by
  rw[q2 _ (by rintro rfl;simp at hid),hMg,x1g6,g0]
  simp only[x1gn,x1ju,or_false]
  rintro(rfl|rfl|rfl)<;>simp only at hid<;>omega
 have hT:TourMem u sL n t m2:=by
  refine⟨by rw[hm2];simp,?_,?_,?_,hW.ll,hW.al,hW.bl⟩
  .rw[q2 _ (by simp),hMg,x1g7 (by simp)];exact hW.len
  .rw[q2 _ (by simp),hMg,x1g7 (by simp)];exact hW.last
  .rw[q2 _ (by simp),hMg,x1g7 (by simp)];exact hW.bef
 have hS2:SolMem us n ev l fl tu ex m2:=hS.frame λid hid=>qlow id (by omega)
 have hm2n:u+2<m2.next:=by rw[hm2];simp only[Mem.next_set,Mem.next_new,hMn];have:=hW.nx;omega
 have hn:=hi.n0
 obtain⟨f3,e3⟩:=l_near (d+4) hs hS2 hT hn fr t.len 0 NN (-1) (6+4) rfl (by rw[hT.ll,xsu];omega) (Or.inl (by omega))
 rw[show((0:Nat):Int)=0 from rfl,<-hto]at e3
 have ifr:sIx 1 (srI (us,15,19) n) (I fr)=some (.ptr (us,15,19) 0 fr.toNat):=xtu f0 f1
 have ito:sIx 1 (srI (us,15,19) n) (I to)=some (.ptr (us,15,19) 0 to.toNat):=xtu to0 to1
 have lfr:fr.toNat<ex.length:=by rw[hS.exl];omega
 have lto:to.toNat<ex.length:=by rw[hS.exl];omega
 have bf:=hi.exb fr.toNat
 have bt:=hi.exb to.toNat
 obtain⟨f4,e4⟩:=l_amount (d+4) hs (us:=us) hT fr to ps NN (minI (at0 ex fr.toNat) (-(at0 ex to.toNat))) to (f3+17+2) hp hA (by rw[xsu];omega)
 rw[<-hamt]at e4
 obtain⟨m3,f5,e5,S3,T3,n3,q3⟩:=l_flow (d+4) hs (us:=us) fr to amt (by omega:us<u) ⟨a0,a1⟩ hi.ll ps NN to fl 1000 m2 (f4+2) hp hA (by rw[xsu];omega) hS2 hT hi.flb (by omega) (by omega)
 have lfr3:fr.toNat<ex.length:=lfr
 obtain⟨m4,hm4⟩:∃m4,m4=m3.set (us,15,19) (.row ((ex.set fr.toNat (at0 ex fr.toNat-amt)).flatMap intE) 0 false):=⟨_,rfl⟩
 obtain⟨m5,hm5⟩:∃m5,m5=m4.set (us,15,19) (.row (((ex.set fr.toNat (at0 ex fr.toNat-amt)).set to.toNat (at0 ex to.toNat+amt)).flatMap intE) 0 false):=⟨_,rfl⟩
 have q5:∀id:Id,id≠(us,15,19)->m5.get id=m3.get id:=λid hid=>by rw[hm5,Mem.get_set,x1g6 hid,hm4,Mem.get_set,x1g6 hid]
 have q4:∀id:Id,id≠(us,15,19)->m4.get id=m3.get id:=λid hid=>by rw[hm4,Mem.get_set,x1g6 hid]
 have hS5:SolMem us n ev l (flowP t amt ps fl) ((turnsP tu t.len (at0 t.len to.toNat) n).take 0++tu.drop 0) ((ex.set fr.toNat (at0 ex fr.toNat-amt)).set to.toNat (at0 ex to.toNat+amt)) m5:=by
  obtain⟨b1,b2,b3,b4,⟨cells,c1,c2,c3⟩,b5,b6,b7⟩:=S3
  rw[x1hw,x1g8,x1hl]
  refine⟨?_,?_,?_,by rw[hm5];simp,⟨cells,?_,c2,λw hw=>(c3 w hw).frame λid hid=>q5 id (by rintro rfl;rcases hid with ⟨_,h|h⟩<;>simp at h)⟩,b5,b6,by simp[b7]⟩<;>rw[q5 _ (by simp)]<;>assumption
 have hT5:TourMem u sL n t m5:=T3.frame λid hid=>q5 id (by rintro rfl;simp at hid;omega)
 obtain⟨m6,h6,S6,n6,q6⟩:=l_turns (d+4) hs (by omega:us<u) hn hS.tul hi.tub hWL to0 to1 htf n 0 NN m5 (f5+26) (by omega) (by rw[xsu];omega) hS5 hT5
 refine⟨m6,?_,S6,?_,?_⟩
 .rw[xo6]
  unfold xfl xbs
  have hst:∀x y z:AV,x.cells=[x]->y.cells=[y]->z.cells=[z]->x.one=true->y.one=true->z.one=true->xui 3 0 0 (.agg [x,y,z]) (some (.row [nilS,nilS,nilS] 0 false))=some (.row [x,y,z] 0 false):=by
   intro x y z _ _ _ h1 h2 h3
   rw[xvw]
   simp[xth,h1,h2,h3]
  rw[<-hm0]
  simp only[hM,xsn,xvs,z_tour,xtp,Mem.get_new,x1gp]
  rw[<-hu,show(0+3:Nat)=3 from rfl,hst _ _ _ rfl rfl rfl rfl rfl rfl]
  simp only[xsn]
  rw[<-hm2]
  unfold xjq
  have hlen:sLen Tryz.prog x4 (srL (u+1) sL n)=some (I n):=rfl
  simp only[xtn,xsn,x1gl,xsv,hT.t4,xt1,x1gd,xsr,x1g8,rd_f,hlen]
  rw[e3]
  unfold xbq
  simp(disch:=omega)only[sNil,xsn,xtn,x1gl,xsv,hS2.s,hS2.x,xt1,x1gd,xsr,x1g8,x1gr,rd_f,ifr,ito,xun lfr,xun lto,sNeg_I,xso,Int.zero_sub,x11z]
  rw[show(if -(at0 ex to.toNat)<at0 ex fr.toNat then -(at0 ex to.toNat)else at0 ex fr.toNat)=minI (at0 ex fr.toNat) (-(at0 ex to.toNat))from rfl]
  unfold xjp
  rw[e4]
  unfold xbo
  rw[e5]
  unfold xbm
  simp(disch:=omega)only[sNil,xsn,xtn,x1gl,xsv,S3.s,S3.x,xt1,x1gd,xsr,x1g8,x1gr,rd_f,ifr,xun lfr,xvv,xso,xtp]
  rw[xvf lfr]
  simp only[xsn]
  rw[<-hm4]
  have gs4:m4.get (us,21,25)=some (.row [I n,ev,srI (us,7,11) l.length,srI (us,11,15) n,srI (us,15,19) n,srI (us,19,23) n] 0 false):=by rw[q4 _ (by simp)];exact S3.s
  have gx4:m4.get (us,15,19)=some (.row ((ex.set fr.toNat (at0 ex fr.toNat-amt)).flatMap intE) 0 false):=by rw[hm4];simp
  have lto4:to.toNat<(ex.set fr.toNat (at0 ex fr.toNat-amt)).length:=by simpa using lto
  have hx4:at0 (ex.set fr.toNat (at0 ex fr.toNat-amt)) to.toNat=at0 ex to.toNat:=by rw[xue lfr,x1g6 (by omega)]
  simp(disch:=omega)only[sNil,xsn,xtn,x1gl,xsv,gs4,gx4,xt1,x1gd,xsr,x1g8,x1gr,rd_f,ito,xun lto4,hx4,xux,xso,xtp]
  rw[xvf lto4]
  simp only[xsn]
  rw[<-hm5]
  simp only[xtn,xsn,x1gl,xsv,hT5.t4,xt1,x1gd,xsr,x1g8,rd_f,hlen]
  exact h6
 .rw[n6,hm5,hm4]
  simp only[Mem.next_set]
  omega
 .intro id h1 h2 h3 h4
  rw[q6 id h3,q5 id h4,q3 id h2,qlow id (by omega)]
def f0M(e:Edge):Int:=if 0<e.jump then e.wt else if e.jump<0 then -e.wt else 0
def exUp(p:List Int)(e:Edge):List Int:=(p.set e.fr.toNat (at0 p e.fr.toNat-f0M e)).set e.to.toNat (at0 p e.to.toNat+f0M e)
def ex0M(n:Nat)(l:List Edge):List Int:=l.foldl exUp (List.replicate n 0)
theorem x159{l:List Edge}{k i:Nat}(h:i<k):edgeAt (l.take k) i=edgeAt l i:=by
 unfold edgeAt
 simp only[x1gk]
 rw[x1lb h]
theorem adjI_succ{l:List Edge}{k:Nat}{e:Edge}(hk:k<l.length)(he:l[k]=e)(v:Int):adjI (l.take (k+1)) v=adjI (l.take k) v++(if e.fr=v\/e.to=v then[(k:Int)]else[]):=by
 unfold adjI
 have h1:(l.take (k+1)).length=k+1:=by simp;omega
 have h2:(l.take k).length=k:=by simp;omega
 rw[h1,h2,x1jb,x1iq,x1hr]
 congr 1
 .congr 1
  apply x1l9
  intro i hi
  have:=x1h0.mp hi
  rw[x159 (by omega),x159 (by omega)]
 .have h3:edgeAt (l.take (k+1)) k=e:=by rw[x159 (by omega),xwc hk,he]
  simp only[x1ja,List.filter_nil,h3,x1hx,x1ji]
  split<;>rfl
def okid(u fc:Nat)(id:Id):Prop:=id.1=u/\(id.2.2=116\/id.2.2=127)/\id.2.1<fc
structure AtI (u fc:Nat) (cells:List AV) (adj:Nat->List Int) (m:Mem):Prop where
 sh:∃ids:Nat->Id,(∀(v:Nat) (hv:v<cells.length),(cells[v]=nilS/\adj v=[])\/(∃ver,cells[v]=.sref (ids v) ver 0 (adj v).length 1 true/\m.get (ids v)=some (.row ((adj v).flatMap intE) ver false)/\okid u fc (ids v)/\adj v≠[])) /\
  ∀v w,v<cells.length->w<cells.length->adj v≠[]->adj w≠[]->v≠w->ids v≠ids w
theorem AtI.frame{u fc fc':Nat}{cells:List AV}{adj:Nat->List Int}{m m':Mem}(h:AtI u fc cells adj m)(hm:∀id,okid u fc id->m'.get id=m.get id)(hfc:fc<=fc'):AtI u fc' cells adj m':=by
 obtain⟨ids,h1,h2⟩:=h.sh
 refine⟨ids,λv hv=>?_,h2⟩
 rcases h1 v hv with h|⟨ver,a,b,c,d⟩
 .exact Or.inl h
 .exact Or.inr ⟨ver,a,by rw[hm _ c];exact b,⟨c.1,c.2.1,by have:=c.2.2;omega⟩,d⟩
theorem AtI.app{u fc fc':Nat}{cells:List AV}{adj:Nat->List Int}{m:Mem}(h:AtI u fc cells adj m){v:Nat}(hv:v<cells.length)(x:Int){id0:Id}(h1:id0.1=u)(h2:id0.2.2=116\/id0.2.2=127)(h3:fc<=id0.2.1)(h4:id0.2.1<fc')(hr:(adj v).length<=100000) :
 ∃a' m' idA,(∀{R:Type} (k:AV->Mem->Option R),sApp 1 8 id0 (some (intE x,1)) cells[v] m k=k a' m')/\AtI u fc' (cells.set v a') (λw=>if w=v then adj v++[x]else adj w) m'/\a'.cells=[a']/\a'.one=true/\m'.next=m.next/\(∀j:Id,¬okid u fc' j->m'.get j=m.get j) /\
  tA id0 cells[v]=some [idA]/\(idA.2.2=116\/idA.2.2=127)/\idA.1=u:=by
 obtain⟨ids,e1,e2⟩:=h.sh
 have hro:∀k,k<=100001->xt6 k 8:=λk hk=>by unfold xt6;omega
 have others:∀(w:Nat) (hw:w<cells.length),((cells[w]=nilS/\adj w=[])\/(∃ver,cells[w]=.sref (ids w) ver 0 (adj w).length 1 true/\m.get (ids w)=some (.row ((adj w).flatMap intE) ver false)/\okid u fc (ids w)/\adj w≠[])):=e1
 rcases e1 v hv with ⟨c1,c2⟩|⟨ver,c1,c2,c3,c4⟩
 ·
  refine⟨.sref id0 0 0 1 1 true,m.new id0 (.row (intE x) 0 false),id0,λk=>?_,⟨λw=>if w=v then id0 else ids w,λw hw=>?_,λw w' hw hw' n1 n2 hne=>?_⟩,rfl,rfl,rfl,λj hj=>?_,by rw[c1];rfl,h2,h1⟩
  .rw[c1]
   simp only[sApp]
   rw[x1g6 (by omega),x1g7 (hro 1 (by omega))]
  .simp only[x1iu]at hw
   by_cases hwv:w=v
   .subst hwv
    right
    refine⟨0,?_,?_,?_,by simp⟩
    .simp[c2]
    .simp[c2]
    .simp only[x1gp];exact⟨h1,h2,h4⟩
   .rw[x1jz (λe=>hwv e.symm)]
    simp only[x1g6 hwv]
    rcases others w hw with h|⟨ver,a,b,c,d⟩
    .exact Or.inl h
    .refine Or.inr ⟨ver,a,?_,⟨c.1,c.2.1,by have:=c.2.2;omega⟩,d⟩
     rw[Mem.get_new,x1g6 (by rintro e;rw[e]at c;have:=c.2.2;omega)];exact b
  .simp only[x1iu]at hw hw'
   by_cases hwv:w=v
   .have hwv':w'≠v:=by omega
    simp only[x1g7 hwv,x1g6 hwv']
    simp only[x1g6 hwv']at n2
    rcases others w' hw' with ⟨_,h⟩|⟨_,_,_,c,_⟩
    .exact absurd h n2
    .intro e;rw[<-e]at c;have:=c.2.2;omega
   .by_cases hwv':w'=v
    .simp only[x1g6 hwv,x1g7 hwv']
     simp only[x1g6 hwv]at n1
     rcases others w hw with ⟨_,h⟩|⟨_,_,_,c,_⟩
     .exact absurd h n1
     .intro e;rw[e]at c;have:=c.2.2;omega
    .simp only[x1g6 hwv,x1g6 hwv']at n1 n2 ⊢
     exact e2 w w' hw hw' n1 n2 hne
  .rw[Mem.get_new,x1g6 (by rintro rfl;exact hj ⟨h1,h2,h4⟩)]
 .have hl:=xvx (adj v)
  refine⟨.sref (ids v) (ver+1) 0 ((adj v).length+1) 1 true,m.set (ids v) (.row ((adj v).flatMap intE++intE x) (ver+1) false),ids v,λk=>?_,⟨ids,λw hw=>?_,λw w' hw hw' n1 n2 hne=>?_⟩,rfl,rfl,rfl,λj hj=>?_,by rw[c1];rfl,c3.2.1,c3.1⟩
  .rw[c1]
   simp only[sApp,c2]
   rw[x1g7 ⟨trivial,trivial,by omega,hro _ (by omega)⟩,x1g6 (by omega),x1g6 (by omega),x1g8,x1gg (by omega)]
  .simp only[x1iu]at hw
   by_cases hwv:w=v
   .subst hwv
    right
    refine⟨ver+1,by simp,by simp,⟨c3.1,c3.2.1,by have:=c3.2.2;omega⟩,by simp⟩
   .rw[x1jz (λe=>hwv e.symm)]
    simp only[x1g6 hwv]
    rcases others w hw with h|⟨ver',a,b,c,d⟩
    .exact Or.inl h
    .refine Or.inr ⟨ver',a,?_,⟨c.1,c.2.1,by have:=c.2.2;omega⟩,d⟩
     rw[Mem.get_set,x1g6 (e2 w v hw hv d c4 hwv)];exact b
  .simp only[x1iu]at hw hw'
   refine e2 w w' hw hw' ?_ ?_ hne
   .by_cases hwv:w=v
    .subst hwv;exact c4
    .simpa[hwv]using n1
   .by_cases hwv:w'=v
    .subst hwv;exact c4
    .simpa[hwv]using n2
  .rw[Mem.get_set,x1g6 (by rintro rfl;exact hj ⟨c3.1,c3.2.1,by have:=c3.2.2;omega⟩)]
theorem x108{l:List AV}{k:Nat}(hk:k<l.length):rd false 1 (l.drop k)=some l[k]:=by rw[xtm hk];rfl
theorem x12q{l:List AV}{k:Nat}{a:AV}(hk:k<l.length)(h1:a.cells=[a])(h2:a.one=true):xui 1 0 k a (some (.row l 0 false))=some (.row (l.set k a) 0 false):=by
 have h:(0:Nat)=0/\a.cells.length=1/\k+1<=l.length/\(a.cells.all AV.one)=true:=⟨rfl,by rw[h1];rfl,by omega,by rw[h1];simp[h2]⟩
 rw[xvw,x1h6 h,cond_true]
 simp only[xth,h1]
 congr 2
 rw[x1kl,x1g7 hk]
 simp
structure NSInv (u fc n:Nat) (ev:AV) (l:List Edge) (k:Nat) (m:Mem):Prop where
 s:m.get (u,21,25)=some (.row [I n,ev,srI (u,7,11) l.length,srI (u,11,15) n,srI (u,15,19) n,srI (u,19,23) n] 0 false)
 f:m.get (u,7,11)=some (.row (((l.map f0M).take k++List.replicate (l.length-k) 0).flatMap intE) 0 false)
 t:m.get (u,11,15)=some (.row ((List.replicate n (0:Int)).flatMap intE) 0 false)
 x:m.get (u,15,19)=some (.row ((ex0M n (l.take k)).flatMap intE) 0 false)
 a:∃cells,m.get (u,19,23)=some (.row cells 0 false)/\cells.length=n/\AtI u fc cells (adjI (l.take k) ·) m
 nx:u<m.next
theorem x15a(n:Nat)(l:List Edge):(ex0M n l).length=n:=by
 unfold ex0M
 have:∀(l:List Edge) (p:List Int),(l.foldl exUp p).length=p.length:=by
  intro l
  induction l with
  |nil=>intro p;rfl
  |cons e r ih=>intro p;rw[x1ic,ih];simp[exUp]
 rw[this];simp
theorem ex0M_snoc(n:Nat)(l:List Edge)(e:Edge):ex0M n (l++[e])=exUp (ex0M n l) e:=by
 unfold ex0M;rw[x1km];rfl
theorem f0M_in{n:Nat}{e:Edge}(h:EdgeIn n e):-1000<=f0M e/\f0M e<=1000:=by
 have:=h.w0
 have:=h.w1
 unfold f0M
 split
 .omega
 .split<;>omega
theorem ex0M_in{n:Nat}:∀(l:List Edge),(∀e∈l,EdgeIn n e/\e.fr≠e.to)->∀w,-(1000*(l.length:Int))<=at0 (ex0M n l) w/\at0 (ex0M n l) w<=1000*(l.length:Int):=by
 have:∀(l:List Edge) (p:List Int) (b:Int),p.length=n->(∀e∈l,EdgeIn n e/\e.fr≠e.to)->(∀w,-b<=at0 p w/\at0 p w<=b)->∀w,-(b+1000*(l.length:Int))<=at0 (l.foldl exUp p) w/\at0 (l.foldl exUp p) w<=b+1000*(l.length:Int):=by
  intro l
  induction l with
  |nil=>intro p b _ _ h w;have:=h w;simp;omega
  |cons e r ih=>
   intro p b hp he h w
   obtain⟨h1,h2⟩:=he e (x1gf ..)
   have hf:=f0M_in h1
   obtain⟨f0,f1,t0,t1,-⟩:=h1
   have:=ih (exUp p e) (b+1000) (by simp[exUp,hp]) (λx hx=>he x (x1ge _ hx)) (λw=>by
    unfold exUp
    rw[xue (by simp;omega),xue (by omega)]
    have a1:=h w
    have a2:=h e.to.toNat
    have a3:=h e.fr.toNat
    split
    .omega
    .split<;>omega) w
   rw[x1ic]
   simp only[x1gq]
   omega
 intro l he w
 have:=this l (List.replicate n 0) 0 (by simp) he (λw=>by rw[x12c];omega) w
 unfold ex0M
 omega
theorem ns_tail(d:Nat)(hs:FHs){u n:Nat}{ev:AV}{l:List Edge}(hl:l.length<=600)(hn:n<=200)(hed:∀e∈l,EdgeIn n e/\e.fr≠e.to){k:Nat}(hk:k<l.length){e:Edge}(he:l[k]=e){fE fc:Nat}(rec0:AV->AV->AV->AV->Mem->Nat->Option (AV×Mem)){m:Mem}(hs1:m.get (u,21,25)=some (.row [I n,ev,srI (u,7,11) l.length,srI (u,11,15) n,srI (u,15,19) n,srI (u,19,23) n] 0 false))(hf1:m.get (u,7,11)=some (.row (((l.map f0M).take (k+1)++List.replicate (l.length-(k+1)) 0).flatMap intE) 0 false))(ht1:m.get (u,11,15)=some (.row ((List.replicate n (0:Int)).flatMap intE) 0 false))(hx1:m.get (u,15,19)=some (.row ((ex0M n (l.take k)).flatMap intE) 0 false)){cells:List AV}(ha1:m.get (u,19,23)=some (.row cells 0 false))(hcl:cells.length=n)(hA:AtI u fc cells (adjI (l.take k) ·) m)(hnx:u<m.next)(hE:m.get (u,fE,5)=some (.row [I e.fr,I e.to,I e.jump,I e.wt] 0 false)) :
 ∃m',x3m (xsi d) hs u rec0 (.ptr (u,21,25) 0 0) (I k) (.ptr (u,fE,5) 0 0) ev (I l.length) (I k) m fc=rec0 (.ptr (u,21,25) 0 0) ev (I l.length) (I ((k+1:Nat):Int)) m' (fc+76)/\NSInv u (fc+76) n ev l (k+1) m'/\m'.next=m.next:=by
 obtain⟨hee,hne⟩:=hed e (he▸x1go hk)
 have hf:=f0M_in hee
 obtain⟨f0,f1,t0,t1,j0,j1,w0,w1⟩:=hee
 have hbx:=ex0M_in (n:=n) (l.take k) (λx hx=>hed x (x1j3 hx))
 have hlk:((l.take k).length:Int)<=600:=by simp;omega
 obtain⟨ex,hex⟩:∃ex,ex=ex0M n (l.take k):=⟨_,rfl⟩
 rw[<-hex]at hbx hx1
 have hexl:ex.length=n:=by rw[hex];exact x15a n _
 obtain⟨fl,hfl⟩:∃fl,fl=(l.map f0M).take (k+1)++List.replicate (l.length-(k+1)) 0:=⟨_,rfl⟩
 rw[<-hfl]at hf1
 have hfll:fl.length=l.length:=by rw[hfl];simp;omega
 have hfk:at0 fl k=f0M e:=by
  rw[hfl]
  have h1:k<((l.map f0M).take (k+1)).length:=by simp;omega
  rw[at0_left h1,xt5 h1]
  simp[he]
 have lfr:e.fr.toNat<ex.length:=by omega
 have lto:e.to.toNat<ex.length:=by omega
 have lk:k<fl.length:=by omega
 have cfr:e.fr.toNat<cells.length:=by omega
 have cto:e.to.toNat<cells.length:=by omega
 have ifr:sIx 1 (srI (u,15,19) n) (I e.fr)=some (.ptr (u,15,19) 0 e.fr.toNat):=xtu f0 f1
 have ito:sIx 1 (srI (u,15,19) n) (I e.to)=some (.ptr (u,15,19) 0 e.to.toNat):=xtu t0 t1
 have afr:sIx 1 (srI (u,19,23) n) (I e.fr)=some (.ptr (u,19,23) 0 e.fr.toNat):=xtu f0 f1
 have ato:sIx 1 (srI (u,19,23) n) (I e.to)=some (.ptr (u,19,23) 0 e.to.toNat):=xtu t0 t1
 have ifk:sIx 1 (srI (u,7,11) l.length) (I k)=some (.ptr (u,7,11) 0 k):=by simpa using xtu (id:=(u,7,11)) (n:=l.length) (k:=(k:Int)) (by omega) (by omega)
 have bfr:=hbx e.fr.toNat
 have bto:=hbx e.to.toNat
 obtain⟨ex1,hex1⟩:∃ex1,ex1=ex.set e.fr.toNat (at0 ex e.fr.toNat-f0M e):=⟨_,rfl⟩
 have hx1t:at0 ex1 e.to.toNat=at0 ex e.to.toNat:=by rw[hex1,xue lfr,x1g6 (by omega)]
 have lto1:e.to.toNat<ex1.length:=by rw[hex1];simpa using lto
 obtain⟨m1,hm1⟩:∃m1,m1=m.set (u,15,19) (.row (ex1.flatMap intE) 0 false):=⟨_,rfl⟩
 obtain⟨m2,hm2⟩:∃m2,m2=m1.set (u,15,19) (.row ((exUp ex e).flatMap intE) 0 false):=⟨_,rfl⟩
 have q1:∀id:Id,id≠(u,15,19)->m1.get id=m.get id:=λid hid=>by rw[hm1,Mem.get_set,x1g6 hid]
 have q2:∀id:Id,id≠(u,15,19)->m2.get id=m.get id:=λid hid=>by rw[hm2,Mem.get_set,x1g6 hid,q1 id hid]
 have hA2:AtI u (fc+58) cells (adjI (l.take k) ·) m2:=hA.frame (λid hid=>q2 id (by rintro rfl;rcases hid.2.1 with h|h<;>simp at h)) (by omega)
 have adl:∀v,(adjI (l.take k) v).length<=600:=λv=>by
  unfold adjI
  rw[x1ix]
  have:=x1it (λi=>decide ((edgeAt (l.take k) i).fr=v)||decide ((edgeAt (l.take k) i).to=v)) (List.range (l.take k).length)
  rw[x1je]at this
  simp at this ⊢
  omega
 obtain⟨a1,m4,id1,A1,AI1,c11,c12,n4,q4,tA1,ty1,iu1⟩:=hA2.app cfr (k:Int) (id0:=(u,fc+58,116)) (fc':=fc+69) rfl (Or.inl rfl) (x1ga _) (by simp only;omega) (by have:=adl (e.fr.toNat:Int);omega)
 have e24:(cells.set e.fr.toNat a1)[e.to.toNat]'(by simpa using cto)=cells[e.to.toNat]:=by rw[x1jz (by omega)]
 obtain⟨a2,m6,id2,A2,AI2,c21,c22,n6,q6,tA2,ty2,iu2⟩:=AI1.app (v:=e.to.toNat) (by simpa using cto) (k:Int) (id0:=(u,fc+69,127)) (fc':=fc+76) rfl (Or.inr rfl) (x1ga _) (by simp only;omega) (by have h1:=adl (e.fr.toNat:Int);have h2:=adl (e.to.toNat:Int);show(if _ then _ else _:List Int).length<=_;split<;>first|(rw[x1hu,x1ks];omega)|exact x1hh h2 (by omega))
 rw[e24]at A2 tA2
 have nok:∀(s t g:Nat),t≠116->t≠127->¬okid u g (u,s,t):=λs t g h1 h2 h=>by rcases h.2.1 with h|h<;>simp at h<;>omega
 have r6:∀(s t:Nat),t≠116->t≠127->t≠19->m6.get (u,s,t)=m.get (u,s,t):=λs t h1 h2 h3=>by
  rw[q6 _ (nok s t _ h1 h2),q4 _ (nok s t _ h1 h2),q2 _ (by simp;omega)]
 have r4:∀(s t:Nat),t≠116->t≠127->t≠19->m4.get (u,s,t)=m.get (u,s,t):=λs t h1 h2 h3=>by
  rw[q4 _ (nok s t _ h1 h2),q2 _ (by simp;omega)]
 obtain⟨m7,hm7⟩:∃m7,m7=m6.set (u,19,23) (.row (cells.set e.fr.toNat a1) 0 false):=⟨_,rfl⟩
 obtain⟨m8,hm8⟩:∃m8,m8=m7.set (u,19,23) (.row ((cells.set e.fr.toNat a1).set e.to.toNat a2) 0 false):=⟨_,rfl⟩
 have q8:∀id:Id,id≠(u,19,23)->m8.get id=m6.get id:=λid hid=>by rw[hm8,Mem.get_set,x1g6 hid,hm7,Mem.get_set,x1g6 hid]
 have htk:l.take (k+1)=l.take k++[e]:=by rw[x1gz hk,he]
 refine⟨m8,?_,⟨?_,?_,?_,?_,⟨(cells.set e.fr.toNat a1).set e.to.toNat a2,by rw[hm8];simp,by simp[hcl],?_⟩,?_⟩,?_⟩
 .unfold x3m
  simp(disch:=omega)only[sNil,xsn,xtn,x1gl,xsv,hs1,hE,hx1,hf1,xt1,x1gd,xsr,x1g8,x1gr,rd_f,ifr,ifk,xun lfr,xun lk,hfk,xvv,xso,xtp]
  rw[xvf lfr]
  simp only[xsn]
  rw[<-hex1,<-hm1]
  have g1s:m1.get (u,21,25)=some (.row [I n,ev,srI (u,7,11) l.length,srI (u,11,15) n,srI (u,15,19) n,srI (u,19,23) n] 0 false):=by rw[q1 _ (by simp)];exact hs1
  have g1e:m1.get (u,fE,5)=some (.row [I e.fr,I e.to,I e.jump,I e.wt] 0 false):=by rw[q1 _ (by simp)];exact hE
  have g1f:m1.get (u,7,11)=some (.row (fl.flatMap intE) 0 false):=by rw[q1 _ (by simp)];exact hf1
  have g1x:m1.get (u,15,19)=some (.row (ex1.flatMap intE) 0 false):=by rw[hm1];simp
  simp(disch:=omega)only[sNil,xsn,xtn,x1gl,xsv,g1s,g1e,g1x,g1f,xt1,x1gd,xsr,x1g8,x1gr,rd_f,ito,ifk,xun lto1,xun lk,hfk,hx1t,xux,xso,xtp]
  rw[xvf lto1]
  simp only[xsn]
  rw[show ex1.set e.to.toNat (at0 ex e.to.toNat+f0M e)=exUp ex e from by rw[hex1];rfl,<-hm2]
  have g2s:m2.get (u,21,25)=some (.row [I n,ev,srI (u,7,11) l.length,srI (u,11,15) n,srI (u,15,19) n,srI (u,19,23) n] 0 false):=by rw[q2 _ (by simp)];exact hs1
  have g2e:m2.get (u,fE,5)=some (.row [I e.fr,I e.to,I e.jump,I e.wt] 0 false):=by rw[q2 _ (by simp)];exact hE
  have g2a:m2.get (u,19,23)=some (.row cells 0 false):=by rw[q2 _ (by simp)];exact ha1
  have g4s:m4.get (u,21,25)=some (.row [I n,ev,srI (u,7,11) l.length,srI (u,11,15) n,srI (u,15,19) n,srI (u,19,23) n] 0 false):=by rw[r4 _ _ (by simp) (by simp) (by simp)];exact hs1
  have g4e:m4.get (u,fE,5)=some (.row [I e.fr,I e.to,I e.jump,I e.wt] 0 false):=by rw[r4 _ _ (by simp) (by simp) (by simp)];exact hE
  have g4a:m4.get (u,19,23)=some (.row cells 0 false):=by rw[r4 _ _ (by simp) (by simp) (by simp)];exact ha1
  have g6a:m6.get (u,19,23)=some (.row cells 0 false):=by rw[r6 _ _ (by simp) (by simp) (by simp)];exact ha1
  have hel:∀M:Mem,elems M.get 1 (.slit [I (k:Int)] 1 true)=some (intE (k:Int),1):=λ_=>rfl
  simp only[sNil,xsn,xtn,x1gl,xsv,g2s,g2e,g2a,xt1,x1gd,xsr,x1g8,x1gr,rd_f,afr,x108 cfr,xu3,xwn,hel,A1]
  simp only[sNil,xsn,xtn,x1gl,xsv,g4s,g4e,g4a,xt1,x1gd,xsr,x1g8,x1gr,rd_f,ato,x108 cto,xu3,xwn,hel,A2]
  simp only[afr,ato,xsn,xtp,g6a,x12q cfr c11 c12]
  rw[<-hm7]
  have g7a:m7.get (u,19,23)=some (.row (cells.set e.fr.toNat a1) 0 false):=by rw[hm7];simp
  have cto7:e.to.toNat<(cells.set e.fr.toNat a1).length:=by simpa using cto
  simp only[g7a,x12q cto7 c21 c22,xsn]
  rw[<-hm8]
  have ne1:∀s t:Nat,t≠116->t≠127->((u,s,t)=id1)=False:=λs t h1 h2=>eq_false (by rintro h;rw[<-h]at ty1;simp at ty1;omega)
  have ne2:∀s t:Nat,t≠116->t≠127->((u,s,t)=id2)=False:=λs t h1 h2=>eq_false (by rintro h;rw[<-h]at ty2;simp at ty2;omega)
  have ne3:(id1=(u,fc+68,126))=False:=eq_false (by rintro h;rw[h]at ty1;simp at ty1)
  simp[xsm,disj,tR,tS,tX,tA1,tA2,ne1,ne2,ne3]
  unfold xjl
  simp(disch:=omega) [xux,xso]
 .rw[q8 _ (by simp),r6 _ _ (by simp) (by simp) (by simp)];exact hs1
 .rw[q8 _ (by simp),r6 _ _ (by simp) (by simp) (by simp),<-hfl];exact hf1
 .rw[q8 _ (by simp),r6 _ _ (by simp) (by simp) (by simp)];exact ht1
 .rw[q8 _ (by simp),q6 _ (nok _ _ _ (by simp) (by simp)),q4 _ (nok _ _ _ (by simp) (by simp)),hm2,htk,ex0M_snoc,<-hex];simp
 .have:AtI u (fc+76) ((cells.set e.fr.toNat a1).set e.to.toNat a2) (λw=>if w=e.to.toNat then(if e.to.toNat=e.fr.toNat then adjI (l.take k) (e.fr.toNat:Int)++[(k:Int)]else adjI (l.take k) (e.to.toNat:Int))++[(k:Int)]else if w=e.fr.toNat then adjI (l.take k) (e.fr.toNat:Int)++[(k:Int)]else adjI (l.take k) (w:Int)) m8:=by
   refine AtI.frame (fc:=fc+76) ?_ (λid hid=>q8 id (by rintro rfl;rcases hid.2.1 with h|h<;>simp at h)) (x1ga _)
   exact AI2
  have hfe:(λw:Nat=>adjI (l.take (k+1)) (w:Int))=(λw:Nat=>if w=e.to.toNat then(if e.to.toNat=e.fr.toNat then adjI (l.take k) (e.fr.toNat:Int)++[(k:Int)]else adjI (l.take k) (e.to.toNat:Int))++[(k:Int)]else if w=e.fr.toNat then adjI (l.take k) (e.fr.toNat:Int)++[(k:Int)]else adjI (l.take k) (w:Int)):=by
   funext w
   rw[adjI_succ hk he]
   have hw:(e.fr=(w:Int)\/e.to=(w:Int))↔(w=e.fr.toNat\/w=e.to.toNat):=by omega
   have hn':¬(e.to.toNat=e.fr.toNat):=by omega
   simp only[hw,hn',x1gu]
   by_cases h1:w=e.to.toNat
   .simp only[h1,or_true,x1gp]
   .by_cases h2:w=e.fr.toNat
    .have hn'':¬(e.fr.toNat=e.to.toNat):=by omega
     simp only[h2,hn'',true_or,x1gp,x1gu]
    .simp only[h1,h2,or_self,x1gu,x1hc]
  rw[hfe];exact this
 .rw[hm8,hm7];simp only[Mem.next_set,n6,n4,hm2,hm1];exact hnx
 .rw[hm8,hm7];simp only[Mem.next_set,n6,n4,hm2,hm1]
end Go.Ix
