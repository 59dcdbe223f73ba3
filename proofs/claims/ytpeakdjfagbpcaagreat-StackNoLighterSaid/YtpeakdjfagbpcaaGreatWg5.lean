import Derived.Test.YtpeakdjfagbpcaaGreatWg3
import Derived.Test.YtpeakdjfagbpcaaGreatWg4
set_option linter.unusedSimpArgs false
set_option linter.unusedVariables false
namespace Go.Ix
open Go.Proofs
theorem Gk.sl1{ok:Id->Prop}{m:Mem}{a:AV}{l:List Int}(h:Gk 1 intE ok m a l)(k:Nat):∃a',Ints a' l/\Go.Ix.frz m.get (k+2) a=some a':=h.frz x2hc x2me
def okZ(t:Nat):Id->Prop:=fun id=>id.1=0/\id.2.2=t
def uniM(n:Nat)(P:List Pq)(F:List Int):List Int:=joinsM (freshM n) (prs P F)
theorem x2ob{n:Nat}{P:List Pq}{F:List Int}(h:Rng n P F):Lab n (uniM n P F):=(Lab.fresh n).joins fun p hp=>by
 obtain⟨i,hi,rfl⟩:=List.mem_map.mp hp
 exact(h i hi).2
theorem Rng.take{n:Nat}{P:List Pq}{F:List Int}(h:Rng n P F)(k:Nat):Rng n P (F.take k):=fun i hi=>h i (List.mem_of_mem_take hi)
theorem x2sn{n:Nat}{P:List Pq}{F:List Int}{k:Nat}(hk:k<F.length):uniM n P (F.take (k+1))=x2gx (uniM n P (F.take k)) (prAt P (at0 F k)):=by
 unfold uniM prs
 rw[List.take_succ_eq_append_getElem hk,List.map_append,x2sb,x2gm hk]
 rfl
structure Right7 (l:List Scene) (P:List Pq):Prop where
 ll:l.length<=60
 ib:InB l
 pl:P.length<=200
 pr:∀p∈P,PqIn l.length p
 nd:P.Nodup
theorem x2so{n:Int}{P:List Pq}:∀(suf:List Pq) (k:Nat),P.drop k=suf->(x2jh n P k suf).2=0->(∀p∈suf,(0<=p.a/\p.a<p.b)/\p.b<n)/\((P.take k).Nodup->P.Nodup)
 |[],k,hd,_=>⟨fun p hp=>(by cases hp),fun h=>by
  have:P.length<=k:=List.drop_eq_nil_iff.mp hd
  rwa[List.take_of_length_le this]at h⟩
 |x::r,k,hd,h=>by
  obtain⟨hk,he,hd⟩:=x2je hd
  simp only[x2jh]at h
  cases c1:wi x.a 0 (n-1)with
  |false=>simp[c1]at h
  |true=>
   cases c2:wi x.b 0 (n-1)with
   |false=>simp[c1,c2]at h
   |true=>
    by_cases c3:x.b<=x.a
    .simp[c1,c2,c3]at h
    .cases c4:(P.take k).any fun q=>q.same x with
     |true=>simp[c1,c2,c3,c4]at h
     |false=>
      simp[c1,c2,c3,c4]at h
      obtain⟨i1,i2⟩:=x2so r (k+1) hd h
      refine⟨fun p hp=>?_,fun hn=>i2 ?_⟩
      .have:=wi_t c1
       have:=wi_t c2
       rcases List.mem_cons.mp hp with rfl|hp
       .omega
       .exact i1 p hp
      .rw[List.take_succ_eq_append_getElem hk,List.nodup_append]
       refine⟨hn,by simp,fun a ha b hb e=>?_⟩
       simp at hb
       rw[List.any_eq_false]at c4
       have:=c4 a ha
       rw[e,hb,he,Pq.same_self]at this
       exact this rfl
theorem x2oc{l:List Scene}{P:List Pq}(h:(net7 l P).2=0):Right7 l P:=by
 unfold net7 at h
 by_cases he:(x2hp l).2=0
 .obtain⟨hl,hb⟩:=x2pr he
  simp[he]at h
  by_cases h2:200<P.length
  .simp[h2]at h
  .simp[h2]at h
   obtain⟨i1,i2⟩:=x2so P 0 rfl h
   exact⟨hl,hb,by omega,fun p hp=>by have:=i1 p hp;exact⟨by omega,by omega,by omega⟩,i2 (by simp)⟩
 .simp[he]at h
theorem Right7.at{l:List Scene}{P:List Pq}(h:Right7 l P){i:Int}(hi:0<=i/\i<P.length):PqIn l.length (prAt P i):=x2o1 h.pr hi
def forE(n:Nat)(P:List Pq)(F:List Int):Nat->List Int->Int
 |_,[]=>0
 |k,i::r=>
  bif !(wi i 0 ((P.length:Int)-1))then 6
  else bif decide (0<k)&&decide (i<=at0 F (k-1))then 9
  else bif decide (at0 (uniM n P (F.take k)) (prAt P i).a.toNat=at0 (uniM n P (F.take k)) (prAt P i).b.toNat)then 21
  else forE n P F (k+1) r
def x2la(n:Nat)(P:List Pq)(F:List Int):Bool:=P.any fun p=>!decide (at0 (uniM n P F) p.a.toNat=at0 (uniM n P F) p.b.toNat)
def x2hx(n:Nat)(P:List Pq)(F:List Int):Int:=bif !decide (forE n P F 0 F=0)then forE n P F 0 F else bif x2la n P F then 25 else 0
def fiP(l:List Pq)(q:Pq->Bool):Int:=if l.any q then((l.findIdx q:Nat):Int)else -1
theorem fiP_hit{l:List Pq}{q:Pq->Bool}{k:Nat}(hk:k<l.length)(ht:q l[k]=true)(hI:∀j (hj:j<k) (hjl:j<l.length),q l[j]=false):fiP l q=k:=by
 have h1:l.any q=true:=List.any_eq_true.mpr ⟨_,List.getElem_mem hk,ht⟩
 have h2:l.findIdx q=k:=by
  rw[List.findIdx_eq hk]
  exact⟨ht,fun j hj=>by have:=hI j hj (by omega);simpa using this⟩
 unfold fiP
 rw[if_pos h1,h2]
theorem fiP_none{l:List Pq}{q:Pq->Bool}(hI:∀j (hj:j<l.length),q l[j]=false):fiP l q=-1:=by
 have h1:l.any q=false:=by
  rw[List.any_eq_false]
  intro x hx
  obtain⟨j,hj,rfl⟩:=List.mem_iff_getElem.mp hx
  rw[hI j hj];simp
 unfold fiP
 rw[h1];rfl
theorem fiP_any{l:List Pq}{q:Pq->Bool}:decide (0<=fiP l q)=l.any q:=by
 unfold fiP
 cases h:l.any q<;>simp
theorem x2uu(d:Nat){a:AV}{l:List Pq}{f:FuncId}{caps:List AV}{q:Pq->Bool}(h:Sl Pq.c a l)(hl:l.length<1000000)(hq:∀x∈l,∀hs m,∃m',x2g5 (d+1) hs f (.agg x.c::caps) m=some (B (q x),m'))(hc:still (.clo f caps)=true) :
 ∃m',x2g5 (d+3) [] x4e [a,.clo f caps] mem0=some (B (l.any q),m'):=by
 obtain⟨m',h'⟩:∃m',x2g5 (d+2) [] x5x [a,.clo f caps] mem0=some (I (fiP l q),m'):=by
  rw[x1dk]
  unfold xfr xil xdu
  simp only[mem0,h.len x2it,x2go]
  refine x2hu (N:=l.length) (σ:=Unit) (fun n k _ m fc=>x41 (x2g5 (d+1)) [] 0 n a (.clo f caps) (I l.length) (I k) m fc) (fun k _ m=>∀j (hj:j<k) (hjl:j<l.length),q l[j]=false)
   (fun r=>∃m',r=some (I (fiP l q),m')) ?_ ?_ NN 0 () _ _ (by omega) (by rw[x2gs];omega) (fun j hj=>by omega)
  .rintro n k-m fc hk hI next
   have hk':(k:Int)<(l.length:Int):=by omega
   have ix:=h.ix Pq.len hk
   have ld:=x2ii (m:=m) Pq.len (by omega) hk
   obtain⟨m1,hc⟩:=hq l[k] (List.getElem_mem hk) [] m
   have hinv:x2h8 (x2g5 (d+1)) [] 2 (.clo f caps) [.agg l[k].c] m=some (B (q l[k]),m1):=hc
   simp only[x41]
   unfold xdt
   simp only[x2ho,hk',decide_true,x2i9,x2go,ix,ld,hinv]
   cases ht:q l[k]with
   |true=>
    rw[fiP_hit hk ht hI]
    simp
   |false=>
    simp(disch:=omega) [x2gh]
    refine next () m1 _ fun j hj hjl=>?_
    by_cases e:j=k
    .subst e;exact ht
    .exact hI j (by omega) hjl
  .rintro n-m fc hI
   have hk:¬((l.length:Int)<(l.length:Int)):=by omega
   rw[fiP_none fun j hj=>hI j hj hj]
   simp only[x41]
   unfold xdt x40
   simp
 have hc:=fun m:Mem=>call0 (m:=m) (call:=x2g5 (d+2)) (l:=[a,.clo f caps]) (by simp only[List.all_cons,List.all_nil,h.still,hc,Bool.true_and,Bool.and_true]) h' rfl
 rw[x1d9]
 unfold xfd xhx
 rw[<-fiP_any]
 simp[hc,mem0]
theorem a_apartPq(d:Nat){a:AV}{U:List Int}(ha:Ints a U){x:Pq}(hx:PqIn U.length x)(hs:FHs)(m:Mem):∃m',x2g5 (d+1) hs x39 [.agg x.c,.plit [a]] m=some (B (!decide (at0 U x.a.toNat=at0 U x.b.toNat)),m'):=by
 obtain⟨h0,h1,h2⟩:=hx
 have i1:=ha.ixI x2hc (k:=x.a) h0 (by omega)
 have i2:=ha.ixI x2hc (k:=x.b) (by omega) h2
 have l1:=fun m=>x2k6 (m:=m) (show x.a.toNat<U.length by omega)
 have l2:=fun m=>x2k6 (m:=m) (show x.b.toNat<U.length by omega)
 rw[x1da]
 unfold xfe xhy
 simp[Pq.c,i1,i2,l1,l2]
end Go.Ix
namespace Go.Ix
variable{P:List Pq}{n:Nat}
def PotS(P:List Pq)(F:List Int)(ph φ:Int->Int):Prop:=∀i∈F,φ (prAt P i).b-φ (prAt P i).a=ph i
theorem PotS.step{F:List Int}{ph φ:Int->Int}(h:PotS P F ph φ){x:Sp}(hx:InF F x):x.s*ph x.p=φ (toS P x)-φ (frS P x):=by
 have:=h x.p hx.1
 unfold toS frS
 rcases hx.2 with e|e<;>rw[e]<;>simp<;>omega
open Classical in
structure RSt where
 y:List Sp
 k:List Bool
def byA(l:List Sp)(i:Int):Sp:=l.getD i.toNat ⟨0,0⟩
def boA(l:List Bool)(i:Int):Bool:=l.getD i.toNat false
def rstep(P:List Pq)(st:RSt)(x:Sp):RSt:=if boA st.k (frS P x)&&!(boA st.k (toS P x))then⟨st.y.set (toS P x).toNat x,st.k.set (toS P x).toNat true⟩else st
def Bw(P:List Pq)(F:List Int)(st:RSt)(fr:Int):List Sp->Int->Prop
 |[],v=>boA st.k v=true/\v=fr
 |x::r,v=>boA st.k v=true/\v≠fr/\byA st.y v=x/\toS P x=v/\InF F x/\Bw P F st fr r (frS P x)
theorem Bw.one{F:List Int}{st:RSt}{fr:Int}:∀{r s:List Sp} {v:Int},Bw P F st fr r v->Bw P F st fr s v->r=s
 |[],[],_,_,_=>rfl
 |[],x::s,_,h,k=>absurd h.2 k.2.1
 |x::r,[],_,h,k=>absurd k.2 h.2.1
 |x::r,y::s,v,h,k=>by
  have e:x=y:=h.2.2.1.symm.trans k.2.2.1
  subst e
  rw[Bw.one h.2.2.2.2.2 k.2.2.2.2.2]
theorem Bw.drop{F:List Int}{st:RSt}{fr:Int}:∀{a b:List Sp} {v:Int},Bw P F st fr (a++b) v->∃w,Bw P F st fr b w
 |[],b,v,h=>⟨v,h⟩
 |x::a,b,v,h=>Bw.drop (a:=a) h.2.2.2.2.2
theorem x2sp:∀{w:List Sp} {x:Sp},NB P w->(∀y,w.getLast?=some y->toS P x≠frS P y)->NB P (w++[x])
 |[],_,_,_=>trivial
 |[y],x,_,h=>⟨h y rfl,trivial⟩
 |y::z::r,x,h,hx=>⟨h.1,x2sp (w:=z::r) h.2 fun q hq=>hx q (by simpa using hq)⟩
theorem Bw.nb{F:List Int}{st:RSt}{fr:Int}:∀{r:List Sp} {v:Int},Bw P F st fr r v->NB P r.reverse
 |[],_,_=>trivial
 |[x],_,_=>trivial
 |x::y::r,v,h=>by
  have h1:=h.2.2.2.2.2
  have ih:=h1.nb
  rw[List.reverse_cons]
  refine x2sp ih fun z hz e=>?_
  rw[List.reverse_cons]at hz
  simp at hz
  subst hz
  have h2:=h1.2.2.2.2.2
  rw[<-e,h.2.2.2.1]at h2
  have:=congrArg List.length (h2.one h)
  simp only[List.length_cons]at this
  omega
structure RInv7 (n:Nat) (P:List Pq) (F:List Int) (f0:Int) (st:RSt):Prop where
 y:st.y.length=n
 k:st.k.length=n
 fr:boA st.k f0=true
 bw:∀v:Int,0<=v->v<n->boA st.k v=true->∃r,Bw P F st f0 r v
theorem x2n9{l:List Bool}{b v:Int}(h0:0<=b)(hb:b<l.length)(hv:0<=v):boA (l.set b.toNat true) v=if v=b then true else boA l v:=by
 unfold boA
 rw[List.getD_eq_getElem?_getD,List.getD_eq_getElem?_getD,List.getElem?_set]
 by_cases c:v=b
 .rw[if_pos c,c,if_pos rfl,if_pos (by omega)];rfl
 .rw[if_neg c,if_neg (by omega)]
theorem byA_set{l:List Sp}{b v:Int}{x:Sp}(h0:0<=b)(hb:b<l.length)(hv:0<=v):byA (l.set b.toNat x) v=if v=b then x else byA l v:=by
 unfold byA
 rw[List.getD_eq_getElem?_getD,List.getD_eq_getElem?_getD,List.getElem?_set]
 by_cases c:v=b
 .rw[if_pos c,c,if_pos rfl,if_pos (by omega)];rfl
 .rw[if_neg c,if_neg (by omega)]
theorem x2od(hP:∀p∈P,PqIn n p){F:List Int}(hr:∀i∈F,0<=i/\i<P.length){x:Sp}(hx:InF F x):(0<=frS P x/\frS P x<n)/\0<=toS P x/\toS P x<n:=by
 obtain⟨h0,h1,h2⟩:=x2o1 hP (hr x.p hx.1)
 unfold frS toS
 split<;>omega
theorem Bw.set(hP:∀p∈P,PqIn n p){F:List Int}(hr:∀i∈F,0<=i/\i<P.length){st:RSt}{fr b:Int}{x:Sp}(hy:st.y.length=n)(hk:st.k.length=n)(h0:0<=b)(hb:b<n)(hu:boA st.k b=false):∀{r:List Sp} {v:Int},0<=v->Bw P F st fr r v ->
 Bw P F ⟨st.y.set b.toNat x,st.k.set b.toNat true⟩ fr r v
 |[],v,hv,h=>by
  refine⟨?_,h.2⟩
  simp only
  rw[x2n9 h0 (by omega) hv]
  split
  .rfl
  .exact h.1
 |y::r,v,hv,h=>by
  have hne:v≠b:=by rintro rfl;have:=h.1;rw[hu]at this;cases this
  refine⟨?_,h.2.1,?_,h.2.2.2.1,h.2.2.2.2.1,Bw.set hP hr hy hk h0 hb hu (x2od hP hr h.2.2.2.2.1).1.1 h.2.2.2.2.2⟩
  .simp only
   rw[x2n9 h0 (by omega) hv,if_neg hne];exact h.1
  .simp only
   rw[byA_set h0 (by omega) hv,if_neg hne];exact h.2.2.1
theorem RInv7.step(hP:∀p∈P,PqIn n p){F:List Int}(hr:∀i∈F,0<=i/\i<P.length){fr:Int}(hfr:0<=fr){st:RSt}(h:RInv7 n P F fr st){x:Sp}(hx:InF F x) :
 RInv7 n P F fr (rstep P st x)/\(∀v,0<=v->boA st.k v=true->boA (rstep P st x).k v=true)/\(boA st.k (frS P x)=true->boA (rstep P st x).k (toS P x)=true):=by
 obtain⟨⟨a0,a1⟩,b0,b1⟩:=x2od hP hr hx
 unfold rstep
 cases ca:boA st.k (frS P x)with
 |false=>simp;exact h
 |true=>
  cases cb:boA st.k (toS P x)with
  |true=>simp;exact⟨h,cb⟩
  |false=>
   simp only[Bool.not_false,Bool.and_self,if_true]
   have hmono:∀v,0<=v->boA st.k v=true->boA (st.k.set (toS P x).toNat true) v=true:=fun v hv hs=>by
    rw[x2n9 b0 (by rw[h.k];exact b1) hv]
    split
    .rfl
    .exact hs
   have hnew:boA (st.k.set (toS P x).toNat true) (toS P x)=true:=by rw[x2n9 b0 (by rw[h.k];exact b1) b0,if_pos rfl]
   refine⟨⟨by simp[h.y],by simp[h.k],hmono fr hfr h.fr,fun v v0 v1 hs=>?_⟩,hmono,fun _=>hnew⟩
   simp only at hs
   rw[x2n9 b0 (by rw[h.k];exact b1) v0]at hs
   by_cases c:v=toS P x
   .obtain⟨r,hb⟩:=h.bw (frS P x) a0 a1 ca
    refine⟨x::r,?_,?_,?_,c.symm,hx,Bw.set hP hr h.y h.k b0 b1 cb a0 hb⟩
    .rw[c];exact hnew
    .intro e;have:=h.fr;rw[<-e,c,cb]at this;cases this
    .simp only
     rw[byA_set b0 (by rw[h.y];exact b1) v0,if_pos c]
   .rw[if_neg c]at hs
    obtain⟨r,hb⟩:=h.bw v v0 v1 hs
    exact⟨r,Bw.set hP hr h.y h.k b0 b1 cb v0 hb⟩
def r0(n:Nat)(fr:Int):RSt:=⟨List.replicate n ⟨0,0⟩,(List.replicate n false).set fr.toNat true⟩
theorem asc_last{F:List Int}(h:Asc F){a:Int}(ha:a∈F):a<=at0 F (F.length-1):=by
 obtain⟨k,hk,rfl⟩:=List.mem_iff_getElem.mp ha
 rw[x2gm (by omega)]
 by_cases c:k=F.length-1
 .simp only[c];exact Int.le_refl _
 .have:=List.pairwise_iff_getElem.mp h k (F.length-1) hk (by omega) (by omega)
  omega
theorem x2sq{l:List Scene}{P:List Pq}(h:Right7 l P){F:List Int}:∀(suf:List Int) (k:Nat),F.drop k=suf->Asc (F.take k)->For l.length P (F.take k)->forE l.length P F k suf=0->Asc F/\For l.length P F
 |[],k,hd,h1,h2,_=>by
  have:F.length<=k:=List.drop_eq_nil_iff.mp hd
  rw[List.take_of_length_le this]at h1 h2
  exact⟨h1,h2⟩
 |x::r,k,hd,h1,h2,hE=>by
  obtain⟨hk,he,hd⟩:=x2je hd
  simp only[forE]at hE
  cases c1:wi x 0 ((P.length:Int)-1)with
  |false=>simp[c1]at hE
  |true=>
   have hx:=wi_t c1
   cases c2:decide (0<k)&&decide (x<=at0 F (k-1))with
   |true=>simp[c1,c2]at hE
   |false=>
    simp only[c1,c2,Bool.not_true,cond_false]at hE
    by_cases c3:at0 (uniM l.length P (F.take k)) (prAt P x).a.toNat=at0 (uniM l.length P (F.take k)) (prAt P x).b.toNat
    .simp[c3]at hE
    .simp[c3]at hE
     have hlen:(F.take k).length=k:=by simp;omega
     have hA:Asc (F.take (k+1)):=by
      rw[List.take_succ_eq_append_getElem hk,he]
      unfold Asc
      rw[List.pairwise_append]
      refine⟨h1,by simp,fun a ha b hb=>?_⟩
      simp at hb
      subst hb
      have h3:=asc_last h1 ha
      rw[hlen]at h3
      have h0:0<k:=by
       cases k with
       |zero=>simp at ha
       |succ k=>omega
      have e:at0 (F.take k) (k-1)=at0 F (k-1):=by
       rw[x2gm (by omega),x2gm (by omega),List.getElem_take]
      rw[e]at h3
      simp[h0]at c2
      omega
     refine x2sq h r (k+1) hd hA ⟨fun i hi=>?_,hA.nodup,?_⟩ hE
     .rw[List.take_succ_eq_append_getElem hk,he]at hi
      rcases List.mem_append.mp hi with hi|hi
      .exact h2.rng i hi
      .simp at hi;subst hi;omega
     .rw[List.take_succ_eq_append_getElem hk,he]
      unfold prs
      rw[List.map_append]
      exact Indep.app.mpr ⟨h2.ind,c3,trivial⟩
theorem x2sr{l:List Scene}{P:List Pq}{F:List Int}(hA:Asc F)(hF:For l.length P F):∀(suf:List Int) (k:Nat),F.drop k=suf->forE l.length P F k suf=0
 |[],_,_=>rfl
 |x::r,k,hd=>by
  obtain⟨hk,he,hd⟩:=x2je hd
  have ih:=x2sr hA hF r (k+1) hd
  have hx:=hF.rng x (by rw[<-he];exact List.getElem_mem hk)
  have c1:wi x 0 ((P.length:Int)-1)=true:=by
   unfold wi
   rw[decide_eq_true_iff]
   omega
  have c2:(decide (0<k)&&decide (x<=at0 F (k-1)))=false:=by
   by_cases h0:0<k
   .have:=List.pairwise_iff_getElem.mp hA (k-1) k (by omega) hk (by omega)
    rw[he,<-x2gm (by omega)]at this
    simp[h0];omega
   .simp[h0]
  have c3:¬at0 (uniM l.length P (F.take k)) (prAt P x).a.toNat=at0 (uniM l.length P (F.take k)) (prAt P x).b.toNat:=by
   have:=hF.ind
   rw[<-List.take_append_drop (k+1) F,List.take_succ_eq_append_getElem hk,he]at this
   unfold prs at this
   rw[List.map_append,List.map_append]at this
   exact(Indep.app.mp (Indep.app.mp this).1).2.1
  rw[forE,c1,c2,decide_eq_false c3]
  exact ih
theorem x2ss{l:List Scene}{P:List Pq}(h:Right7 l P){F:List Int}:x2hx l.length P F=0↔Tree l.length P F:=by
 have hopen:x2la l.length P F=false↔∀p∈P,Sm (joinsM (freshM l.length) (prs P F)) p.a.toNat p.b.toNat:=by
  unfold x2la uniM Sm
  rw[List.any_eq_false]
  simp
 unfold x2hx
 constructor
 .intro hE
  by_cases c:forE l.length P F 0 F=0
  .obtain⟨h1,h2⟩:=x2sq h F 0 rfl (by simp[Asc]) ⟨fun i hi=>by simp at hi,by simp,by simp[prs,Indep]⟩ c
   refine⟨h2,h1,hopen.mp ?_⟩
   cases ho:x2la l.length P F with
   |false=>rfl
   |true=>simp[c,ho]at hE
  .simp[c]at hE
 .intro hT
  have:=x2sr hT.asc hT.fo F 0 rfl
  rw[this,hopen.mpr hT.all]
  rfl
open Go.Proofs
theorem frz_ptr1{objs:Id->Option Ob}{id:Id}{cs:List AV}{v off k:Nat}{f:Bool}(h:objs id=some (.row cs v f)):Go.Ix.frz objs (k+1) (.ptr id v off)=((cs.drop off).mapM (Go.Ix.frz objs k)).map AV.plit:=by
 simp only[Go.Ix.frz,h,if_true]
theorem frz_box{objs:Id->Option Ob}{id:Id}{a a':AV}{v k:Nat}{f:Bool}(h:objs id=some (.row [a] v f))(ha:Go.Ix.frz objs k a=some a'):Go.Ix.frz objs (k+1) (.ptr id v 0)=some (.plit [a']):=by
 rw[frz_ptr1 h]
 simp only[List.drop_zero,List.mapM_cons,List.mapM_nil,ha]
 rfl
theorem frz_clo1{objs:Id->Option Ob}{f:FuncId}{a a':AV}{k:Nat}(ha:Go.Ix.frz objs k a=some a'):Go.Ix.frz objs (k+1) (.clo f [a])=some (.clo f [a']):=by
 show(([a].mapM (Go.Ix.frz objs k)).map fun l=>AV.clo f l)=_
 simp only[List.mapM_cons,List.mapM_nil,ha]
 rfl
theorem frz_two{objs:Id->Option Ob}{a b b':AV}(ha:still a=true)(hb:Go.Ix.frz objs deep b=some b'):[a,b].mapM (Go.Ix.frz objs deep)=some [a,b']:=by
 simp only[List.mapM_cons,List.mapM_nil,hb]
 rw[show Go.Ix.frz objs deep a=some a from x2ki objs 4 ha]
 rfl
def cfE(l:List Scene)(P:List Pq)(F:List Int):Int:=bif !decide ((net7 l P).2=0)then(net7 l P).2 else x2hx l.length P F
def cfN(l:List Scene)(P:List Pq)(F:List Int):Int:=bif decide (cfE l P F=0)then sumL l P 0 F else 0
theorem z_graph:x1j=[nilS,nilS]:=by kernel_rfl
theorem z_union:xq4=[nilS]:=by kernel_rfl
theorem rng_snoc{n:Nat}{P:List Pq}{F:List Int}{k:Nat}(hk:k<F.length)(h:Rng n P (F.take k)){x:Int}(hx:F[k]=x)(h1:0<=x/\x<P.length)(h2:PqIn n (prAt P x)):Rng n P (F.take (k+1)):=by
 rw[List.take_succ_eq_append_getElem hk,hx]
 intro i hi
 rcases List.mem_append.mp hi with hi|hi
 .exact h i hi
 .simp at hi;subst hi;exact⟨h1,h2⟩
theorem x2uv(d:Nat){s p f:AV}{l:List Scene}{P:List Pq}{F:List Int}(hs:Sl Scene.c s l)(hp:Sl Pq.c p P)(hf:Ints f F)(hF:F.length<=1000) :
 RetF (fun v=>v=.tup [I (cfN l P F),I (cfE l P F)]) (x2g5 (d+8) [] x2o [.agg [s,p],f] mem0):=by
 rw[x1cv]
 unfold xex xgu
 simp[hs.one,hp.one,mem0,x2ps (d+1) hs hp]
 by_cases he:(net7 l P).2=0
 rotate_left
 .have hE:cfE l P F=(net7 l P).2:=by simp[cfE,he]
  simp[he]
  exact RetF.tup rfl (by rw[show cfN l P F=0 by simp[cfN,hE,he],hE])
 have hR:=x2oc he
 have hE:cfE l P F=x2hx l.length P F:=by simp[cfE,he]
 have hN:cfN l P F=bif decide (x2hx l.length P F=0)then sumL l P 0 F else 0:=by rw[cfN,hE]
 rw[hE,hN]
 obtain⟨a,M,hc,hG,hM,hfr⟩:=x2py (d+6) (n:=l.length) (by have:=hR.ll;omega) ((⟨[],1⟩:Mem).new (0,0,2) (.row [s,p] 0 false))
 simp[he,hs.len x2h9,hc,z_union]
 have hone:=hG.one
 simp[hone.1,hone.2]
 generalize hm1:Mem.set _ _ _=m1
 have hMn:M.next=2:=by rw[hM];rfl
 have hokf:∀j:Id,j.1=1->j.1<m1.next:=fun j hj=>by
  have:m1.next=M.next:=by rw[<-hm1];rfl
  rw[this];omega
 have g2:m1.get (0,0,2)=some (.row [s,p] 0 false):=by
  rw[<-hm1,Mem.get_set,if_neg (by simp),Mem.get_new,if_neg (by simp),hfr _ (by show(0:Nat)<1;omega)]
  simp
 have g7:m1.get (0,12,7)=some (.row [a] 0 false):=by rw[<-hm1];simp
 have hG1:Gk 1 intE (fun id=>id.1=1) m1 a (freshM l.length):=hG.frame fun j hj=>by
  have hj':j.1=1:=hj
  rw[<-hm1,Mem.get_set,if_neg (by rintro rfl;simp at hj'),Mem.get_new,if_neg (by rintro rfl;simp at hj')]
 have hm1n:2<=m1.next:=by rw[<-hm1];show 2<=M.next;omega
 unfold xcd
 simp[hf.len x2hl]
 refine x2hu (N:=F.length) (σ:=Unit) (fun n k _ m fc=>x2v (x2g5 (d+7)) [] 0 n f (.ptr (0,0,2) 0 0) (.ptr (0,12,7) 0 0) f (I F.length) (I k) m fc)
  (fun k _ m=>(m.get (0,0,2)=some (.row [s,p] 0 false)/\m.get (0,12,7)=some (.row [a] 0 false)/\2<=m.next)/\Gk 1 intE (fun id=>id.1=1) m a (uniM l.length P (F.take k))/\Rng l.length P (F.take k)/\forE l.length P F k (F.drop k)=forE l.length P F 0 F) _ ?_ ?_ NN 0 () m1 _ (by omega) (by rw[x2gs];omega)
  ⟨⟨g2,g7,hm1n⟩,by simpa[uniM,prs,joinsM]using hG1,fun i hi=>by simp at hi,by simp⟩
 .rintro n k-m fc hk ⟨⟨g2,g7,hmn⟩,hG,hRk,hT⟩ next
  have hk':(k:Int)<(F.length:Int):=by omega
  have ix:=hf.ix x2hc hk
  have ld:=fun m=>x2k6 (m:=m) hk
  have hpl:=hR.pl
  have hkx:F[k]=at0 F k:=(x2gm hk).symm
  rw[x2hf hk,hkx]at hT
  have hL:=(x2ob hRk).len
  have hus:=x2sn (n:=l.length) (P:=P) hk
  simp only[forE]at hT
  simp only[x2v]
  unfold xcc
  simp[hk',ix,ld,g2,hp.len x2it]
  rw[x2gh (by omega) (by omega)]
  simp[x2n5]
  have fin:∀e:Int,e≠0->forE l.length P F 0 F=e->x2hx l.length P F=e:=fun e h0 h1=>by
   unfold x2hx
   rw[h1]
   simp[h0]
  cases c1:wi (at0 F k) 0 ((P.length:Int)-1)with
  |false=>
   simp[c1]at hT ⊢
   exact RetF.tup rfl (by rw[fin 6 (by omega) hT.symm];rfl)
  |true=>
   have hx:=wi_t c1
   have hq:=hR.at (i:=at0 F k) ⟨hx.1,by omega⟩
   have ip:=hp.ixz Pq.len hx.1 (show at0 F k<P.length by omega)
   have lp:=fun m=>x2ii (m:=m) (enc:=Pq.c) Pq.len (by omega) (show(at0 F k).toNat<P.length by omega)
   rw[<-x2o2 (by omega)]at lp
   have hRs:=rng_snoc hk hRk hkx ⟨hx.1,by omega⟩ hq
   have join:(decide (0<k)&&decide (at0 F k<=at0 F (k-1)))=false->RetF (fun v=>v=.tup [I (bif decide (x2hx l.length P F=0)then sumL l P 0 F else 0),I (x2hx l.length P F)])
    ((sLd false 1 (.ptr (0,12,7) 0 0) m).bind fun t47=>(sIx 2 p (I (at0 F k))).bind fun t51=>(sLd true 2 t51 m).bind fun t52=>(x2g5 (d+7) [] x2s [t47,t52] m).bind fun p53=>(sNot p53.1).bind fun t54=>
      x2g2 t54 (some (AV.tup [(I 0),(I 21)],p53.2)) ((sAdd (I (k:Int)) (I 1)).bind fun t55=>x2v (x2g5 (d+7)) [] 0 n f (.ptr (0,0,2) 0 0) (.ptr (0,12,7) 0 0) f (I F.length) t55 p53.2 (fc+37))):=fun c2=>by
    rw[c1,c2]at hT
    have hq':=hq
    obtain⟨m2,e1,e2,e3,e4⟩:=c_join (d+6) [] hG (fun j hj=>by have hj':j.1=1:=hj;omega) (p:=prAt P (at0 F k)) (by rw[hL];exact hq) (by rw[hL];have:=hR.ll;omega)
    simp only[Pq.c]at lp
    simp[g7,ip,lp,e1]
    by_cases c3:at0 (uniM l.length P (F.take k)) (prAt P (at0 F k)).a.toNat=at0 (uniM l.length P (F.take k)) (prAt P (at0 F k)).b.toNat
    .simp[c3]at hT ⊢
     exact RetF.tup rfl (by rw[fin 21 (by omega) hT.symm];rfl)
    .simp[c3]at hT
     simp(disch:=omega) [c3,x2gh]
     refine next () m2 _ ⟨⟨?_,?_,by omega⟩,by rw[hus];exact e2,hRs,hT⟩
     .rw[e4 _ (by show ¬((0:Nat)=1);omega) (by show 0<m.next;omega)];exact g2
     .rw[e4 _ (by show ¬((0:Nat)=1);omega) (by show 0<m.next;omega)];exact g7
   by_cases h0:0<k
   .have h0':(0:Int)<(k:Int):=by omega
    have ix2:=hf.ix x2hc (show k-1<F.length by omega)
    have ld2:=fun m=>x2k6 (m:=m) (show k-1<F.length by omega)
    have hk1:(k:Int)-1=((k-1:Nat):Int):=by omega
    simp[h0,g2]
    rw[x2gh (by omega) (by omega),hk1]
    simp[ix2,ld2,g2]
    by_cases c2:at0 F k<=at0 F (k-1)
    .simp[c1,c2,h0]at hT
     simp[c2]
     exact RetF.tup rfl (by rw[fin 9 (by omega) hT.symm];rfl)
    .simp[c2]
     have:=join (by simp[c2])
     simpa[g7,ip]using this
   .have h0':¬(0:Int)<(k:Int):=by omega
    simp[h0,g2]
    have:=join (by simp[h0])
    simpa[g7,ip]using this
 .rintro n-m fc ⟨⟨g2,g7,hmn⟩,hG,hRk,hT⟩
  have hk:¬((F.length:Int)<(F.length:Int)):=by omega
  rw[List.take_of_length_le (Nat.le_refl _)]at hG hRk
  rw[List.drop_of_length_le (Nat.le_refl _)]at hT
  have hT0:forE l.length P F 0 F=0:=hT.symm
  have hfo:x2hx l.length P F=bif x2la l.length P F then 25 else 0:=by unfold x2hx;simp[hT0]
  simp only[x2v]
  unfold xcc x3h
  simp[g2]
  obtain⟨a',ha',hfz⟩:=hG.sl1 2
  have hlist:=frz_two (objs:=m.get) (a:=p) hp.still (frz_clo1 (f:=x39) (frz_box (k:=4) g7 hfz))
  obtain⟨m',hcf⟩:=x2uu (d+4) (f:=x39) (caps:=[.plit [a']]) (q:=fun x=>!decide (at0 (uniM l.length P F) x.a.toNat=at0 (uniM l.length P F) x.b.toNat)) hp (by have:=hR.pl;omega)
   (fun x hx hs m=>a_apartPq (d+4) ha' (by rw[(x2ob hRk).len];exact hR.pr x hx) hs m) rfl
  obtain⟨v,m2,hv,hc,hmn2,hrow⟩:=callR (call:=x2g5 (d+7)) (f:=x4e) hlist (T:=fun v=>v=B (x2la l.length P F)) (by rw[hcf];exact RetF.st rfl rfl)
  subst hv
  obtain⟨b',hg2⟩:=hrow _ _ _ _ g2
  simp[hc]
  cases ho:x2la l.length P F with
  |true=>
   simp
   exact RetF.tup rfl (by rw[hfo,ho];rfl)
  |false=>
   simp[hg2,z_graph]
   have hw:=w_total (d+4) hs hp hf hR.ib hRk hF
   simp[hw,x2gg,x2ih]
   exact RetF.tup rfl (by rw[hfo,ho];rfl)
theorem x2st(d:Nat){s p f:AV}{l:List Scene}{P:List Pq}{F:List Int}(hs:Sl Scene.c s l)(hp:Sl Pq.c p P)(hf:Ints f F)(hF:F.length<=1000)(m:Mem) :
 x2g3 (x2g5 (d+8)) x2o [.agg [s,p],f] m=some (.tup [I (cfN l P F),I (cfE l P F)],m):=
 x2is (by simp[hs.still1,hp.still1,hf.still]) (x2uv d hs hp hf hF) m
end Go.Ix
