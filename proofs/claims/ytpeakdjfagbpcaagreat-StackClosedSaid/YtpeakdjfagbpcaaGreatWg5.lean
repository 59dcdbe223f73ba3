import Derived.Test.YtpeakdjfagbpcaaGreatWg3
import Derived.Test.YtpeakdjfagbpcaaGreatWg4
set_option linter.unusedSimpArgs false
set_option linter.unusedVariables false
namespace Go.Ix
open Go.Proofs
theorem Gk.sl1{ok:Id->Prop}{m:Mem}{a:AV}{l:List Int}(h:Gk 1 intE ok m a l)(k:Nat):∃a',Ints a' l/\Go.Ix.frz m.get (k+2) a=some a':=h.frz x2fq x2ji
def okZ(t:Nat):Id->Prop:=fun id=>id.1=0/\id.2.2=t
def uniM(n:Nat)(P:List Pq)(F:List Int):List Int:=joinsM (freshM n) (prs P F)
theorem uni_lab{n:Nat}{P:List Pq}{F:List Int}(h:Rng n P F):Lab n (uniM n P F):=(Lab.fresh n).joins fun p hp=>by
 obtain⟨i,hi,rfl⟩:=List.mem_map.mp hp
 exact(h i hi).2
theorem Rng.take{n:Nat}{P:List Pq}{F:List Int}(h:Rng n P F)(k:Nat):Rng n P (F.take k):=fun i hi=>h i (List.mem_of_mem_take hi)
theorem uni_succ{n:Nat}{P:List Pq}{F:List Int}{k:Nat}(hk:k<F.length):uniM n P (F.take (k+1))=x2ga (uniM n P (F.take k)) (prAt P (at0 F k)):=by
 unfold uniM prs
 rw[List.take_succ_eq_append_getElem hk,List.map_append,x2s0,x2fr hk]
 rfl
structure Right7 (l:List Scene) (P:List Pq):Prop where
 ll:l.length<=60
 ib:InB l
 pl:P.length<=200
 pr:∀p∈P,PqIn l.length p
 nd:P.Nodup
theorem x2sk{n:Int}{P:List Pq}:∀(suf:List Pq) (k:Nat),P.drop k=suf->(x2is n P k suf).2=0->(∀p∈suf,(0<=p.a/\p.a<p.b)/\p.b<n)/\((P.take k).Nodup->P.Nodup)
 |[],k,hd,_=>⟨fun p hp=>(by cases hp),fun h=>by
  have:P.length<=k:=List.drop_eq_nil_iff.mp hd
  rwa[List.take_of_length_le this]at h⟩
 |x::r,k,hd,h=>by
  obtain⟨hk,he,hd⟩:=x2jw hd
  simp only[x2is]at h
  cases c1:wi x.a 0 (n-1)with
  |false=>simp[c1]at h
  |true=>
   cases c2:wi x.b 0 (n-1)with
   |false=>simp[c1,c2]at h
   |true=>
    by_cases c3:x.b<=x.a
    .simp[c1,c2,c3]at h
    .cases c4:(P.take k).any fun q=>q.same x with
     |true=>simp[c1,c2,c3,c4]at h
     |false=>
      simp[c1,c2,c3,c4]at h
      obtain⟨i1,i2⟩:=x2sk r (k+1) hd h
      refine⟨fun p hp=>?_,fun hn=>i2 ?_⟩
      .have:=wi_t c1
       have:=wi_t c2
       rcases List.mem_cons.mp hp with rfl|hp
       .omega
       .exact i1 p hp
      .rw[List.take_succ_eq_append_getElem hk,List.nodup_append]
       refine⟨hn,by simp,fun a ha b hb e=>?_⟩
       simp at hb
       rw[List.any_eq_false]at c4
       have:=c4 a ha
       rw[e,hb,he,Pq.same_self]at this
       exact this rfl
theorem x2sl{l:List Scene}{P:List Pq}(h:(net7 l P).2=0):Right7 l P:=by
 unfold net7 at h
 by_cases he:(x2h0 l).2=0
 .obtain⟨hl,hb⟩:=x2pe he
  simp[he]at h
  by_cases h2:200<P.length
  .simp[h2]at h
  .simp[h2]at h
   obtain⟨i1,i2⟩:=x2sk P 0 rfl h
   exact⟨hl,hb,by omega,fun p hp=>by have:=i1 p hp;exact⟨by omega,by omega,by omega⟩,i2 (by simp)⟩
 .simp[he]at h
theorem Right7.at{l:List Scene}{P:List Pq}(h:Right7 l P){i:Int}(hi:0<=i/\i<P.length):PqIn l.length (prAt P i):=x2mw h.pr hi
end Go.Ix
namespace Go.Ix
variable{P:List Pq}{n:Nat}
def sumW(ph:Int->Int):List Sp->Int
 |[]=>0
 |x::r=>x.s*ph x.p+sumW ph r
theorem x2sm(ph:Int->Int):∀v w:List Sp,sumW ph (v++w)=sumW ph v+sumW ph w
 |[],w=>by simp[sumW]
 |x::r,w=>by rw[List.cons_append,sumW,sumW,x2sm ph r w];omega
def PotS(P:List Pq)(F:List Int)(ph φ:Int->Int):Prop:=∀i∈F,φ (prAt P i).b-φ (prAt P i).a=ph i
theorem PotS.step{F:List Int}{ph φ:Int->Int}(h:PotS P F ph φ){x:Sp}(hx:InF F x):x.s*ph x.p=φ (toS P x)-φ (frS P x):=by
 have:=h x.p hx.1
 unfold toS frS
 rcases hx.2 with e|e<;>rw[e]<;>simp<;>omega
theorem PotS.walk{F:List Int}{ph φ:Int->Int}(h:PotS P F ph φ):∀{w:List Sp} {a b:Int},Wk P w a b->AllF F w->sumW ph w=φ b-φ a
 |[],a,b,hw,_=>by cases hw;simp[sumW]
 |x::r,a,b,hw,hF=>by
  rw[sumW,h.step hF.head,h.walk hw.2 hF.tail,<-hw.1]
  omega
theorem pot_ex(hP:∀p∈P,PqIn n p)(ph:Int->Int):∀(k:Nat) (F:List Int),F.length=k->For n P F->∃φ,PotS P F ph φ:=by
 intro k
 induction k with
 |zero=>intro F hl _;exact⟨fun _=>0,fun i hi=>by rw[List.length_eq_zero_iff.mp hl]at hi;cases hi⟩
 |succ k ih=>
  intro F hl h
  obtain⟨G,q,rfl⟩:∃G q,F=G++[q]:=by
   have hne:F≠[]:=by rintro rfl;simp at hl
   exact⟨F.dropLast,F.getLast hne,(List.dropLast_concat_getLast hne).symm⟩
  have hG:=h.take
  obtain⟨φ,hφ⟩:=ih G (by simpa using hl) hG
  obtain⟨u,hu⟩:∃u,u=joinsM (freshM n) (prs P G):=⟨_,rfl⟩
  have hind:=h.ind
  unfold prs at hind
  rw[List.map_append]at hind
  have hne:¬Sm u (prAt P q).a.toNat (prAt P q).b.toNat:=by
   have:=(Indep.app.mp hind).2
   rw[show List.map (prAt P) [q]=[prAt P q]from rfl]at this
   rw[hu]
   exact this.1
  have hends:∀j∈G,Sm u (prAt P j).a.toNat (prAt P j).b.toNat:=fun j hj=>by
   rw[hu]
   exact x2kp (Lab.fresh n) (x2hk hP hG.rng) _ (List.mem_map.mpr ⟨j,hj,rfl⟩)
  unfold Sm at hne hends
  refine⟨fun v=>φ v+(if at0 u v.toNat=at0 u (prAt P q).b.toNat then ph q-(φ (prAt P q).b-φ (prAt P q).a)else 0),fun i hi=>?_⟩
  rcases List.mem_append.mp hi with hi|hi
  .have h1:=hφ i hi
   have h2:=hends i hi
   simp only
   rw[h2]
   omega
  .simp at hi;subst hi
   simp only
   rw[if_pos trivial,if_neg hne]
   omega
structure Pot (n:Nat) (P:List Pq) (F:List Int) (ph φ:Int->Int):Prop where
 st:PotS P F ph φ
 z:∀v,v<n->at0 (joinsM (freshM n) (prs P F)) v=v->φ v=0
theorem pot_some(hP:∀p∈P,PqIn n p)(ph:Int->Int){F:List Int}(h:For n P F):∃φ,Pot n P F ph φ:=by
 obtain⟨φ,hφ⟩:=pot_ex hP ph F.length F rfl h
 refine⟨fun v=>φ v-φ (at0 (joinsM (freshM n) (prs P F)) v.toNat),fun i hi=>?_,fun v hv e=>?_⟩
 .have h1:=hφ i hi
  have h2:=x2kp (Lab.fresh n) (x2hk hP h.rng) (prAt P i) (List.mem_map.mpr ⟨i,hi,rfl⟩)
  unfold Sm at h2
  rw[h2]
  omega
 .show φ v-φ (at0 (joinsM (freshM n) (prs P F)) (v:Int).toNat)=0
  rw[Int.toNat_natCast,e]
  omega
open Classical in
noncomputable def potM(n:Nat)(P:List Pq)(F:List Int)(ph:Int->Int):Int->Int:=if h:∃φ,Pot n P F ph φ then Classical.choose h else fun _=>0
theorem potM_ok(hP:∀p∈P,PqIn n p)(ph:Int->Int){F:List Int}(h:For n P F):Pot n P F ph (potM n P F ph):=by
 have:=pot_some hP ph h
 unfold potM
 rw[dif_pos this]
 exact Classical.choose_spec this
theorem x2sn{ph:Int->Int}{M:Nat}{F:List Int}(hM:∀i∈F,(ph i).natAbs<=M):∀{w:List Sp},AllF F w->(sumW ph w).natAbs<=w.length*M
 |[],_=>by simp[sumW]
 |x::r,h=>by
  have ih:=x2sn hM h.tail
  have h1:=hM x.p h.head.1
  have h2:(x.s*ph x.p).natAbs=(ph x.p).natAbs:=by
   rcases h.head.2 with e|e<;>rw[e]<;>simp
  rw[sumW,List.length_cons,Nat.succ_mul]
  omega
theorem Pot.abs(hP:∀p∈P,PqIn n p){ph φ:Int->Int}{F:List Int}(hF:For n P F)(h:Pot n P F ph φ){M:Nat}(hM:∀i∈F,(ph i).natAbs<=M){v:Nat}(hv:v<n):(φ v).natAbs<=n*M:=by
 have hL:=(Lab.fresh n).joins (x2hk hP hF.rng)
 obtain⟨l0,l1,l2⟩:=hL.ok v hv
 obtain⟨w,hw,hwF⟩:=x2s3 hP hF.rng (v:=(at0 (joinsM (freshM n) (prs P F)) v).toNat) (w:=v) (by omega) hv (by unfold Sm;exact l2)
 obtain⟨w2,hw2,hwF2,hN⟩:=nb_of hw hwF
 have hlen:=nb_len (hF.cut hP) hw2 hwF2 hN
 have hlF:=hF.len hP
 have hs:=h.st.walk hw2 hwF2
 have hz:=h.z (at0 (joinsM (freshM n) (prs P F)) v).toNat (by omega) (by rw[l2];omega)
 rw[hz]at hs
 have ha:=x2sn hM hwF2
 have:w2.length*M<=n*M:=Nat.mul_le_mul_right M (by omega)
 omega
structure RSt where
 y:List Sp
 k:List Bool
def byA(l:List Sp)(i:Int):Sp:=l.getD i.toNat ⟨0,0⟩
def boA(l:List Bool)(i:Int):Bool:=l.getD i.toNat false
def rstep(P:List Pq)(st:RSt)(x:Sp):RSt:=if boA st.k (frS P x)&&!(boA st.k (toS P x))then⟨st.y.set (toS P x).toNat x,st.k.set (toS P x).toNat true⟩else st
def Bw(P:List Pq)(F:List Int)(st:RSt)(fr:Int):List Sp->Int->Prop
 |[],v=>boA st.k v=true/\v=fr
 |x::r,v=>boA st.k v=true/\v≠fr/\byA st.y v=x/\toS P x=v/\InF F x/\Bw P F st fr r (frS P x)
theorem Bw.one{F:List Int}{st:RSt}{fr:Int}:∀{r s:List Sp} {v:Int},Bw P F st fr r v->Bw P F st fr s v->r=s
 |[],[],_,_,_=>rfl
 |[],x::s,_,h,k=>absurd h.2 k.2.1
 |x::r,[],_,h,k=>absurd k.2 h.2.1
 |x::r,y::s,v,h,k=>by
  have e:x=y:=h.2.2.1.symm.trans k.2.2.1
  subst e
  rw[Bw.one h.2.2.2.2.2 k.2.2.2.2.2]
theorem Bw.walk{F:List Int}{st:RSt}{fr:Int}:∀{r:List Sp} {v:Int},Bw P F st fr r v->Wk P r.reverse fr v/\AllF F r.reverse
 |[],v,h=>⟨h.2.symm,fun x hx=>by cases hx⟩
 |x::r,v,h=>by
  obtain⟨i1,i2⟩:=h.2.2.2.2.2.walk
  rw[List.reverse_cons]
  refine⟨i1.app ⟨rfl,h.2.2.2.1⟩,i2.app fun y hy=>?_⟩
  simp at hy
  subst hy
  exact h.2.2.2.2.1
theorem Bw.drop{F:List Int}{st:RSt}{fr:Int}:∀{a b:List Sp} {v:Int},Bw P F st fr (a++b) v->∃w,Bw P F st fr b w
 |[],b,v,h=>⟨v,h⟩
 |x::a,b,v,h=>Bw.drop (a:=a) h.2.2.2.2.2
theorem x2so:∀{w:List Sp} {x:Sp},NB P w->(∀y,w.getLast?=some y->toS P x≠frS P y)->NB P (w++[x])
 |[],_,_,_=>trivial
 |[y],x,_,h=>⟨h y rfl,trivial⟩
 |y::z::r,x,h,hx=>⟨h.1,x2so (w:=z::r) h.2 fun q hq=>hx q (by simpa using hq)⟩
theorem Bw.nb{F:List Int}{st:RSt}{fr:Int}:∀{r:List Sp} {v:Int},Bw P F st fr r v->NB P r.reverse
 |[],_,_=>trivial
 |[x],_,_=>trivial
 |x::y::r,v,h=>by
  have h1:=h.2.2.2.2.2
  have ih:=h1.nb
  rw[List.reverse_cons]
  refine x2so ih fun z hz e=>?_
  rw[List.reverse_cons]at hz
  simp at hz
  subst hz
  have h2:=h1.2.2.2.2.2
  rw[<-e,h.2.2.2.1]at h2
  have:=congrArg List.length (h2.one h)
  simp only[List.length_cons]at this
  omega
structure RInv7 (n:Nat) (P:List Pq) (F:List Int) (f0:Int) (st:RSt):Prop where
 y:st.y.length=n
 k:st.k.length=n
 fr:boA st.k f0=true
 bw:∀v:Int,0<=v->v<n->boA st.k v=true->∃r,Bw P F st f0 r v
theorem x2m2{l:List Bool}{b v:Int}(h0:0<=b)(hb:b<l.length)(hv:0<=v):boA (l.set b.toNat true) v=if v=b then true else boA l v:=by
 unfold boA
 rw[List.getD_eq_getElem?_getD,List.getD_eq_getElem?_getD,List.getElem?_set]
 by_cases c:v=b
 .rw[if_pos c,c,if_pos rfl,if_pos (by omega)];rfl
 .rw[if_neg c,if_neg (by omega)]
theorem byA_set{l:List Sp}{b v:Int}{x:Sp}(h0:0<=b)(hb:b<l.length)(hv:0<=v):byA (l.set b.toNat x) v=if v=b then x else byA l v:=by
 unfold byA
 rw[List.getD_eq_getElem?_getD,List.getD_eq_getElem?_getD,List.getElem?_set]
 by_cases c:v=b
 .rw[if_pos c,c,if_pos rfl,if_pos (by omega)];rfl
 .rw[if_neg c,if_neg (by omega)]
theorem x2iu(hP:∀p∈P,PqIn n p){F:List Int}(hr:∀i∈F,0<=i/\i<P.length){x:Sp}(hx:InF F x):(0<=frS P x/\frS P x<n)/\0<=toS P x/\toS P x<n:=by
 obtain⟨h0,h1,h2⟩:=x2mw hP (hr x.p hx.1)
 unfold frS toS
 split<;>omega
theorem Bw.set(hP:∀p∈P,PqIn n p){F:List Int}(hr:∀i∈F,0<=i/\i<P.length){st:RSt}{fr b:Int}{x:Sp}(hy:st.y.length=n)(hk:st.k.length=n)(h0:0<=b)(hb:b<n)(hu:boA st.k b=false):∀{r:List Sp} {v:Int},0<=v->Bw P F st fr r v ->
 Bw P F ⟨st.y.set b.toNat x,st.k.set b.toNat true⟩ fr r v
 |[],v,hv,h=>by
  refine⟨?_,h.2⟩
  simp only
  rw[x2m2 h0 (by omega) hv]
  split
  .rfl
  .exact h.1
 |y::r,v,hv,h=>by
  have hne:v≠b:=by rintro rfl;have:=h.1;rw[hu]at this;cases this
  refine⟨?_,h.2.1,?_,h.2.2.2.1,h.2.2.2.2.1,Bw.set hP hr hy hk h0 hb hu (x2iu hP hr h.2.2.2.2.1).1.1 h.2.2.2.2.2⟩
  .simp only
   rw[x2m2 h0 (by omega) hv,if_neg hne];exact h.1
  .simp only
   rw[byA_set h0 (by omega) hv,if_neg hne];exact h.2.2.1
theorem RInv7.step(hP:∀p∈P,PqIn n p){F:List Int}(hr:∀i∈F,0<=i/\i<P.length){fr:Int}(hfr:0<=fr){st:RSt}(h:RInv7 n P F fr st){x:Sp}(hx:InF F x) :
 RInv7 n P F fr (rstep P st x)/\(∀v,0<=v->boA st.k v=true->boA (rstep P st x).k v=true)/\(boA st.k (frS P x)=true->boA (rstep P st x).k (toS P x)=true):=by
 obtain⟨⟨a0,a1⟩,b0,b1⟩:=x2iu hP hr hx
 unfold rstep
 cases ca:boA st.k (frS P x)with
 |false=>simp;exact h
 |true=>
  cases cb:boA st.k (toS P x)with
  |true=>simp;exact⟨h,cb⟩
  |false=>
   simp only[Bool.not_false,Bool.and_self,if_true]
   have hmono:∀v,0<=v->boA st.k v=true->boA (st.k.set (toS P x).toNat true) v=true:=fun v hv hs=>by
    rw[x2m2 b0 (by rw[h.k];exact b1) hv]
    split
    .rfl
    .exact hs
   have hnew:boA (st.k.set (toS P x).toNat true) (toS P x)=true:=by rw[x2m2 b0 (by rw[h.k];exact b1) b0,if_pos rfl]
   refine⟨⟨by simp[h.y],by simp[h.k],hmono fr hfr h.fr,fun v v0 v1 hs=>?_⟩,hmono,fun _=>hnew⟩
   simp only at hs
   rw[x2m2 b0 (by rw[h.k];exact b1) v0]at hs
   by_cases c:v=toS P x
   .obtain⟨r,hb⟩:=h.bw (frS P x) a0 a1 ca
    refine⟨x::r,?_,?_,?_,c.symm,hx,Bw.set hP hr h.y h.k b0 b1 cb a0 hb⟩
    .rw[c];exact hnew
    .intro e;have:=h.fr;rw[<-e,c,cb]at this;cases this
    .simp only
     rw[byA_set b0 (by rw[h.y];exact b1) v0,if_pos c]
   .rw[if_neg c]at hs
    obtain⟨r,hb⟩:=h.bw v v0 v1 hs
    exact⟨r,Bw.set hP hr h.y h.k b0 b1 cb v0 hb⟩
def r0(n:Nat)(fr:Int):RSt:=⟨List.replicate n ⟨0,0⟩,(List.replicate n false).set fr.toNat true⟩
open Go.Proofs
theorem x2sp{objs:Id->Option Ob}{id:Id}{cs:List AV}{v off k:Nat}{f:Bool}(h:objs id=some (.row cs v f)):Go.Ix.frz objs (k+1) (.ptr id v off)=((cs.drop off).mapM (Go.Ix.frz objs k)).map AV.plit:=by
 simp only[Go.Ix.frz,h,if_true]
theorem frz_box{objs:Id->Option Ob}{id:Id}{a a':AV}{v k:Nat}{f:Bool}(h:objs id=some (.row [a] v f))(ha:Go.Ix.frz objs k a=some a'):Go.Ix.frz objs (k+1) (.ptr id v 0)=some (.plit [a']):=by
 rw[x2sp h]
 simp only[List.drop_zero,List.mapM_cons,List.mapM_nil,ha]
 rfl
theorem frz_two{objs:Id->Option Ob}{a b b':AV}(ha:still a=true)(hb:Go.Ix.frz objs deep b=some b'):[a,b].mapM (Go.Ix.frz objs deep)=some [a,b']:=by
 simp only[List.mapM_cons,List.mapM_nil,hb]
 rw[show Go.Ix.frz objs deep a=some a from x2hc objs 4 ha]
 rfl
theorem x2nt:x2s=[nilS,nilS]:=by kernel_rfl
end Go.Ix
