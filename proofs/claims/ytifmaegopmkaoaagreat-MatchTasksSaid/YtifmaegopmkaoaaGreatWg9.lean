import Derived.Test.YtifmaegopmkaoaaGreatWg8
import Derived.Test.YtifmaegopmkaoaaGreatWg5
import Derived.Test.YtifmaegopmkaoaaGreatWg4
set_option linter.unusedSimpArgs false
set_option linter.unusedVariables false
namespace Go.Ix
open Go.Proofs
theorem Gk.len{α:Type}{z:Nat}{enc:α->List AV}{l:List α}{a:AV}{ok:Id->Prop}{m:Mem}{y e:TypeId}(ht:Tryz.prog.underlying y=some (.slice e))(h:Gk z enc ok m a l):sLen Tryz.prog y a=some (I l.length):=by
 rcases h with ⟨rfl,rfl⟩|⟨id,ver,_,rfl,hg⟩
 .exact xm5 ht
 .rfl
theorem Gk.at{a:AV}{l:List Int}{ok:Id->Prop}{m:Mem}(h:Gk 1 intE ok m a l){k:Int}(h0:0<=k)(hk:k<l.length) :
 ∃q,sIx 1 a (I k)=some q/\sLd false 1 q m=some (I (at0 l k.toNat))/\∀v:Int,∃m',(∀{R:Type} (K:Mem->Option R),sSt 1 q (I v) m K=K m')/\Gk 1 intE ok m' a (l.set k.toNat v)/\m'.next=m.next/\∀j,¬ok j->m'.get j=m.get j:=by
 rcases h with ⟨rfl,rfl⟩|⟨id,ver,hok,rfl,hg⟩
 .simp at hk;omega
 .have hkl:k.toNat<l.length:=by omega
  refine⟨.ptr id ver k.toNat,?_,?_,λv=>⟨m.set id (.row ((l.set k.toNat v).flatMap intE) ver false),λK=>?_,Or.inr ⟨id,ver,hok,by simp,by simp⟩,rfl,λj hj=>?_⟩⟩
  .simp[sIx,asI,h0,hk]
  .rw[ld_ptr hg,rd,if_neg (by simp),xk5,<-List.map_drop,xgq hkl,xhm hkl]
   rfl
  .rw[st_ptr (z:=1) (x:=I v) (k:=K) hg rfl (by rw[xrk];omega) rfl]
   congr 3
   simp only[xk5,xfe,cells_I]
   rw[List.map_set,x10f,if_pos (by simpa using hkl)]
   simp
  .rw[Mem.get_set,if_neg (by rintro rfl;exact hj hok)]
def Rng(n:Nat)(P:List Pq)(F:List Int):Prop:=∀i∈F,(0<=i/\i<P.length)/\PqIn n (prAt P i)
theorem Rng.get{n:Nat}{P:List Pq}{F:List Int}(h:Rng n P F){k:Nat}(hk:k<F.length):(0<=at0 F k/\at0 F k<P.length)/\PqIn n (prAt P (at0 F k)):=by
 rw[xhm hk];exact h _ (xxj hk)
def InN(n:Nat)(L:List Int):Prop:=∀x∈L,0<=x/\x<n
theorem InN.get{n:Nat}{L:List Int}(h:InN n L){k:Nat}(hk:k<L.length):0<=at0 L k/\at0 L k<n:=by rw[xhm hk];exact h _ (xxj hk)
theorem InN.set{n:Nat}{L:List Int}(h:InN n L){k:Nat}{x:Int}(hx:0<=x/\x<n):InN n (L.set k x):=λy hy=>by
 rcases List.mem_or_eq_of_mem_set hy with hy|rfl
 .exact h y hy
 .exact hx
theorem Rng.take{n:Nat}{P:List Pq}{F:List Int}(h:Rng n P F)(k:Nat):Rng n P (F.take k):=λi hi=>h i (List.mem_of_mem_take hi)
structure Right7 (l:List Scene) (P:List Pq):Prop where
 ll:l.length<=60
 ib:InB l
 pl:P.length<=200
 pr:∀p∈P,PqIn l.length p
 nd:P.Nodup
theorem Right7.at{l:List Scene}{P:List Pq}(h:Right7 l P){i:Int}(hi:0<=i/\i<P.length):PqIn l.length (prAt P i):=xlb h.pr hi
end Go.Ix
namespace Go.Ix
variable{P:List Pq}{n:Nat}
def sumW(ph:Int->Int):List Sp->Int
 |[]=>0
 |x::r=>x.s*ph x.p+sumW ph r
def PotS(P:List Pq)(F:List Int)(ph φ:Int->Int):Prop:=∀i∈F,φ (prAt P i).b-φ (prAt P i).a=ph i
theorem PotS.step{F:List Int}{ph φ:Int->Int}(h:PotS P F ph φ){x:Sp}(hx:InF F x):x.s*ph x.p=φ (toS P x)-φ (frS P x):=by
 have:=h x.p hx.1
 unfold toS frS
 rcases hx.2 with e|e<;>rw[e]<;>simp<;>omega
theorem PotS.walk{F:List Int}{ph φ:Int->Int}(h:PotS P F ph φ):∀{w:List Sp} {a b:Int},Wk P w a b->AllF F w->sumW ph w=φ b-φ a
 |[],a,b,hw,_=>by cases hw;simp[sumW]
 |x::r,a,b,hw,hF=>by
  rw[sumW,h.step hF.head,h.walk hw.2 hF.tail,<-hw.1]
  omega
structure Pot (n:Nat) (P:List Pq) (F:List Int) (ph φ:Int->Int):Prop where
 st:PotS P F ph φ
 z:∀v,v<n->at0 (joinsM (freshM n) (prs P F)) v=v->φ v=0
open Classical in
theorem xrw{ph:Int->Int}{M:Nat}{F:List Int}(hM:∀i∈F,(ph i).natAbs<=M):∀{w:List Sp},AllF F w->(sumW ph w).natAbs<=w.length*M
 |[],_=>by simp[sumW]
 |x::r,h=>by
  have ih:=xrw hM h.tail
  have h1:=hM x.p h.head.1
  have h2:(x.s*ph x.p).natAbs=(ph x.p).natAbs:=by
   rcases h.head.2 with e|e<;>rw[e]<;>simp
  rw[sumW,xwk,xxg]
  omega
theorem Pot.abs(hP:∀p∈P,PqIn n p){ph φ:Int->Int}{F:List Int}(hF:For n P F)(h:Pot n P F ph φ){M:Nat}(hM:∀i∈F,(ph i).natAbs<=M){v:Nat}(hv:v<n):(φ v).natAbs<=n*M:=by
 have hL:=(Lab.fresh n).joins (xh6 hP hF.rng)
 obtain⟨l0,l1,l2⟩:=hL.ok v hv
 obtain⟨w,hw,hwF⟩:=join_walk hP hF.rng (v:=(at0 (joinsM (freshM n) (prs P F)) v).toNat) (w:=v) (by omega) hv (by unfold Sm;exact l2)
 obtain⟨w2,hw2,hwF2,hN⟩:=nb_of hw hwF
 have hlen:=nb_len (hF.cut hP) hw2 hwF2 hN
 have hlF:=hF.len hP
 have hs:=h.st.walk hw2 hwF2
 have hz:=h.z (at0 (joinsM (freshM n) (prs P F)) v).toNat (by omega) (by rw[l2];omega)
 rw[hz]at hs
 have ha:=xrw hM hwF2
 have:w2.length*M<=n*M:=xx6 M (by omega)
 omega
structure RSt where
 y:List Sp
 k:List Bool
def byA(l:List Sp)(i:Int):Sp:=l.getD i.toNat ⟨0,0⟩
def boA(l:List Bool)(i:Int):Bool:=l.getD i.toNat false
def rstep(P:List Pq)(st:RSt)(x:Sp):RSt:=if boA st.k (frS P x)&&!(boA st.k (toS P x))then⟨st.y.set (toS P x).toNat x,st.k.set (toS P x).toNat true⟩else st
def Bw(P:List Pq)(F:List Int)(st:RSt)(fr:Int):List Sp->Int->Prop
 |[],v=>boA st.k v=true/\v=fr
 |x::r,v=>boA st.k v=true/\v≠fr/\byA st.y v=x/\toS P x=v/\InF F x/\Bw P F st fr r (frS P x)
theorem Bw.seen{F:List Int}{st:RSt}{fr v:Int}{r:List Sp}(h:Bw P F st fr r v):boA st.k v=true:=by
 cases r<;>exact h.1
theorem Bw.one{F:List Int}{st:RSt}{fr:Int}:∀{r s:List Sp} {v:Int},Bw P F st fr r v->Bw P F st fr s v->r=s
 |[],[],_,_,_=>rfl
 |[],x::s,_,h,k=>absurd h.2 k.2.1
 |x::r,[],_,h,k=>absurd k.2 h.2.1
 |x::r,y::s,v,h,k=>by
  have e:x=y:=h.2.2.1.symm.trans k.2.2.1
  subst e
  rw[Bw.one h.2.2.2.2.2 k.2.2.2.2.2]
theorem Bw.walk{F:List Int}{st:RSt}{fr:Int}:∀{r:List Sp} {v:Int},Bw P F st fr r v->Wk P r.reverse fr v/\AllF F r.reverse
 |[],v,h=>⟨h.2.symm,λx hx=>by cases hx⟩
 |x::r,v,h=>by
  obtain⟨i1,i2⟩:=h.2.2.2.2.2.walk
  rw[x10c]
  refine⟨i1.app ⟨rfl,h.2.2.2.1⟩,i2.app λy hy=>?_⟩
  simp at hy
  subst hy
  exact h.2.2.2.2.1
theorem Bw.drop{F:List Int}{st:RSt}{fr:Int}:∀{a b:List Sp} {v:Int},Bw P F st fr (a++b) v->∃w,Bw P F st fr b w
 |[],b,v,h=>⟨v,h⟩
 |x::a,b,v,h=>Bw.drop (a:=a) h.2.2.2.2.2
theorem xrx:∀{w:List Sp} {x:Sp},NB P w->(∀y,w.getLast?=some y->toS P x≠frS P y)->NB P (w++[x])
 |[],_,_,_=>trivial
 |[y],x,_,h=>⟨h y rfl,trivial⟩
 |y::z::r,x,h,hx=>⟨h.1,xrx (w:=z::r) h.2 λq hq=>hx q (by simpa using hq)⟩
theorem Bw.nb{F:List Int}{st:RSt}{fr:Int}:∀{r:List Sp} {v:Int},Bw P F st fr r v->NB P r.reverse
 |[],_,_=>trivial
 |[x],_,_=>trivial
 |x::y::r,v,h=>by
  have h1:=h.2.2.2.2.2
  have ih:=h1.nb
  rw[x10c]
  refine xrx ih λz hz e=>?_
  rw[x10c]at hz
  simp at hz
  subst hz
  have h2:=h1.2.2.2.2.2
  rw[<-e,h.2.2.2.1]at h2
  have:=congrArg List.length (h2.one h)
  simp only[xwk]at this
  omega
structure RInv7 (n:Nat) (P:List Pq) (F:List Int) (f0:Int) (st:RSt):Prop where
 y:st.y.length=n
 k:st.k.length=n
 fr:boA st.k f0=true
 bw:∀v:Int,0<=v->v<n->boA st.k v=true->∃r,Bw P F st f0 r v
theorem xlc{l:List Bool}{b v:Int}(h0:0<=b)(hb:b<l.length)(hv:0<=v):boA (l.set b.toNat true) v=if v=b then true else boA l v:=by
 unfold boA
 rw[xwt,xwt,List.getElem?_set]
 by_cases c:v=b
 .rw[if_pos c,c,if_pos rfl,if_pos (by omega)];rfl
 .rw[if_neg c,if_neg (by omega)]
theorem byA_set{l:List Sp}{b v:Int}{x:Sp}(h0:0<=b)(hb:b<l.length)(hv:0<=v):byA (l.set b.toNat x) v=if v=b then x else byA l v:=by
 unfold byA
 rw[xwt,xwt,List.getElem?_set]
 by_cases c:v=b
 .rw[if_pos c,c,if_pos rfl,if_pos (by omega)];rfl
 .rw[if_neg c,if_neg (by omega)]
theorem ends_in(hP:∀p∈P,PqIn n p){F:List Int}(hr:∀i∈F,0<=i/\i<P.length){x:Sp}(hx:InF F x):(0<=frS P x/\frS P x<n)/\0<=toS P x/\toS P x<n:=by
 obtain⟨h0,h1,h2⟩:=xlb hP (hr x.p hx.1)
 unfold frS toS
 split<;>omega
theorem Bw.set(hP:∀p∈P,PqIn n p){F:List Int}(hr:∀i∈F,0<=i/\i<P.length){st:RSt}{fr b:Int}{x:Sp}(hy:st.y.length=n)(hk:st.k.length=n)(h0:0<=b)(hb:b<n)(hu:boA st.k b=false):∀{r:List Sp} {v:Int},0<=v->Bw P F st fr r v ->
 Bw P F ⟨st.y.set b.toNat x,st.k.set b.toNat true⟩ fr r v
 |[],v,hv,h=>by
  refine⟨?_,h.2⟩
  simp only
  rw[xlc h0 (by omega) hv]
  split
  .rfl
  .exact h.1
 |y::r,v,hv,h=>by
  have hne:v≠b:=by rintro rfl;have:=h.1;rw[hu]at this;cases this
  refine⟨?_,h.2.1,?_,h.2.2.2.1,h.2.2.2.2.1,Bw.set hP hr hy hk h0 hb hu (ends_in hP hr h.2.2.2.2.1).1.1 h.2.2.2.2.2⟩
  .simp only
   rw[xlc h0 (by omega) hv,if_neg hne];exact h.1
  .simp only
   rw[byA_set h0 (by omega) hv,if_neg hne];exact h.2.2.1
theorem RInv7.step(hP:∀p∈P,PqIn n p){F:List Int}(hr:∀i∈F,0<=i/\i<P.length){fr:Int}(hfr:0<=fr){st:RSt}(h:RInv7 n P F fr st){x:Sp}(hx:InF F x) :
 RInv7 n P F fr (rstep P st x)/\(∀v,0<=v->boA st.k v=true->boA (rstep P st x).k v=true)/\(boA st.k (frS P x)=true->boA (rstep P st x).k (toS P x)=true):=by
 obtain⟨⟨a0,a1⟩,b0,b1⟩:=ends_in hP hr hx
 unfold rstep
 cases ca:boA st.k (frS P x)with
 |false=>simp;exact h
 |true=>
  cases cb:boA st.k (toS P x)with
  |true=>simp;exact⟨h,cb⟩
  |false=>
   simp only[xy1,Bool.and_self,xws]
   have hmono:∀v,0<=v->boA st.k v=true->boA (st.k.set (toS P x).toNat true) v=true:=λv hv hs=>by
    rw[xlc b0 (by rw[h.k];exact b1) hv]
    split
    .rfl
    .exact hs
   have hnew:boA (st.k.set (toS P x).toNat true) (toS P x)=true:=by rw[xlc b0 (by rw[h.k];exact b1) b0,if_pos rfl]
   refine⟨⟨by simp[h.y],by simp[h.k],hmono fr hfr h.fr,λv v0 v1 hs=>?_⟩,hmono,λ_=>hnew⟩
   simp only at hs
   rw[xlc b0 (by rw[h.k];exact b1) v0]at hs
   by_cases c:v=toS P x
   .obtain⟨r,hb⟩:=h.bw (frS P x) a0 a1 ca
    refine⟨x::r,?_,?_,?_,c.symm,hx,Bw.set hP hr h.y h.k b0 b1 cb a0 hb⟩
    .rw[c];exact hnew
    .intro e;have:=h.fr;rw[<-e,c,cb]at this;cases this
    .simp only
     rw[byA_set b0 (by rw[h.y];exact b1) v0,if_pos c]
   .rw[if_neg c]at hs
    obtain⟨r,hb⟩:=h.bw v v0 v1 hs
    exact⟨r,Bw.set hP hr h.y h.k b0 b1 cb v0 hb⟩
def r0(n:Nat)(fr:Int):RSt:=⟨List.replicate n ⟨0,0⟩,(List.replicate n false).set fr.toNat true⟩
end Go.Ix
