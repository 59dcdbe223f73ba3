import Derived.Test.YtpeakdjfagbpcaaGreatWg4
set_option linter.unusedSimpArgs false
set_option linter.unusedVariables false
namespace Go.Ix
variable{P:List Pq}{n:Nat}
def sumW(ph:Int->Int):List Sp->Int
 |[]=>0
 |x::r=>x.s*ph x.p+sumW ph r
theorem x2ww(ph:Int->Int):∀v w:List Sp,sumW ph (v++w)=sumW ph v+sumW ph w
 |[],w=>by simp[sumW]
 |x::r,w=>by rw[List.cons_append,sumW,sumW,x2ww ph r w];omega
def PotS(P:List Pq)(F:List Int)(ph φ:Int->Int):Prop:=∀i∈F,φ (prAt P i).b-φ (prAt P i).a=ph i
theorem PotS.step{F:List Int}{ph φ:Int->Int}(h:PotS P F ph φ){x:Sp}(hx:InF F x):x.s*ph x.p=φ (toS P x)-φ (frS P x):=by
 have:=h x.p hx.1
 unfold toS frS
 rcases hx.2 with e|e<;>rw[e]<;>simp<;>omega
theorem PotS.walk{F:List Int}{ph φ:Int->Int}(h:PotS P F ph φ):∀{w:List Sp} {a b:Int},Wk P w a b->AllF F w->sumW ph w=φ b-φ a
 |[],a,b,hw,_=>by cases hw;simp[sumW]
 |x::r,a,b,hw,hF=>by
  rw[sumW,h.step hF.head,h.walk hw.2 hF.tail,<-hw.1]
  omega
theorem pot_ex(hP:∀p∈P,PqIn n p)(ph:Int->Int):∀(k:Nat) (F:List Int),F.length=k->For n P F->∃φ,PotS P F ph φ:=by
 intro k
 induction k with
 |zero=>intro F hl _;exact⟨fun _=>0,fun i hi=>by rw[List.length_eq_zero_iff.mp hl]at hi;cases hi⟩
 |succ k ih=>
  intro F hl h
  obtain⟨G,q,rfl⟩:∃G q,F=G++[q]:=by
   have hne:F≠[]:=by rintro rfl;simp at hl
   exact⟨F.dropLast,F.getLast hne,(List.dropLast_concat_getLast hne).symm⟩
  have hG:=h.take
  obtain⟨φ,hφ⟩:=ih G (by simpa using hl) hG
  obtain⟨u,hu⟩:∃u,u=joinsM (freshM n) (prs P G):=⟨_,rfl⟩
  have hind:=h.ind
  unfold prs at hind
  rw[List.map_append]at hind
  have hne:¬Sm u (prAt P q).a.toNat (prAt P q).b.toNat:=by
   have:=(Indep.app.mp hind).2
   rw[show List.map (prAt P) [q]=[prAt P q]from rfl]at this
   rw[hu]
   exact this.1
  have hends:∀j∈G,Sm u (prAt P j).a.toNat (prAt P j).b.toNat:=fun j hj=>by
   rw[hu]
   exact x2no (Lab.fresh n) (x2k4 hP hG.rng) _ (List.mem_map.mpr ⟨j,hj,rfl⟩)
  unfold Sm at hne hends
  refine⟨fun v=>φ v+(if at0 u v.toNat=at0 u (prAt P q).b.toNat then ph q-(φ (prAt P q).b-φ (prAt P q).a)else 0),fun i hi=>?_⟩
  rcases List.mem_append.mp hi with hi|hi
  .have h1:=hφ i hi
   have h2:=hends i hi
   simp only
   rw[h2]
   omega
  .simp at hi;subst hi
   simp only
   rw[if_pos trivial,if_neg hne]
   omega
structure Pot (n:Nat) (P:List Pq) (F:List Int) (ph φ:Int->Int):Prop where
 st:PotS P F ph φ
 z:∀v,v<n->at0 (joinsM (freshM n) (prs P F)) v=v->φ v=0
theorem pot_some(hP:∀p∈P,PqIn n p)(ph:Int->Int){F:List Int}(h:For n P F):∃φ,Pot n P F ph φ:=by
 obtain⟨φ,hφ⟩:=pot_ex hP ph F.length F rfl h
 refine⟨fun v=>φ v-φ (at0 (joinsM (freshM n) (prs P F)) v.toNat),fun i hi=>?_,fun v hv e=>?_⟩
 .have h1:=hφ i hi
  have h2:=x2no (Lab.fresh n) (x2k4 hP h.rng) (prAt P i) (List.mem_map.mpr ⟨i,hi,rfl⟩)
  unfold Sm at h2
  rw[h2]
  omega
 .show φ v-φ (at0 (joinsM (freshM n) (prs P F)) (v:Int).toNat)=0
  rw[Int.toNat_natCast,e]
  omega
open Classical in
noncomputable def potM(n:Nat)(P:List Pq)(F:List Int)(ph:Int->Int):Int->Int:=if h:∃φ,Pot n P F ph φ then Classical.choose h else fun _=>0
theorem x2qs(hP:∀p∈P,PqIn n p)(ph:Int->Int){F:List Int}(h:For n P F):Pot n P F ph (potM n P F ph):=by
 have:=pot_some hP ph h
 unfold potM
 rw[dif_pos this]
 exact Classical.choose_spec this
theorem x2wx{ph:Int->Int}{M:Nat}{F:List Int}(hM:∀i∈F,(ph i).natAbs<=M):∀{w:List Sp},AllF F w->(sumW ph w).natAbs<=w.length*M
 |[],_=>by simp[sumW]
 |x::r,h=>by
  have ih:=x2wx hM h.tail
  have h1:=hM x.p h.head.1
  have h2:(x.s*ph x.p).natAbs=(ph x.p).natAbs:=by
   rcases h.head.2 with e|e<;>rw[e]<;>simp
  rw[sumW,List.length_cons,Nat.succ_mul]
  omega
theorem Pot.abs(hP:∀p∈P,PqIn n p){ph φ:Int->Int}{F:List Int}(hF:For n P F)(h:Pot n P F ph φ){M:Nat}(hM:∀i∈F,(ph i).natAbs<=M){v:Nat}(hv:v<n):(φ v).natAbs<=n*M:=by
 have hL:=(Lab.fresh n).joins (x2k4 hP hF.rng)
 obtain⟨l0,l1,l2⟩:=hL.ok v hv
 obtain⟨w,hw,hwF⟩:=x2ru hP hF.rng (v:=(at0 (joinsM (freshM n) (prs P F)) v).toNat) (w:=v) (by omega) hv (by unfold Sm;exact l2)
 obtain⟨w2,hw2,hwF2,hN⟩:=nb_of hw hwF
 have hlen:=x2ro (hF.cut hP) hw2 hwF2 hN
 have hlF:=hF.len hP
 have hs:=h.st.walk hw2 hwF2
 have hz:=h.z (at0 (joinsM (freshM n) (prs P F)) v).toNat (by omega) (by rw[l2];omega)
 rw[hz]at hs
 have ha:=x2wx hM hwF2
 have:w2.length*M<=n*M:=Nat.mul_le_mul_right M (by omega)
 omega
structure RSt where
 y:List Sp
 k:List Bool
def byA(l:List Sp)(i:Int):Sp:=l.getD i.toNat ⟨0,0⟩
def boA(l:List Bool)(i:Int):Bool:=l.getD i.toNat false
def x2kp(P:List Pq)(st:RSt)(x:Sp):RSt:=if boA st.k (frS P x)&&!(boA st.k (toS P x))then⟨st.y.set (toS P x).toNat x,st.k.set (toS P x).toNat true⟩else st
def x2ns(F:List Int):List Sp:=F.flatMap fun i=>[⟨i,-1⟩,⟨i,1⟩]
theorem mem_rstepsOf{F:List Int}{x:Sp}:x∈x2ns F↔InF F x:=by
 unfold x2ns InF
 rw[List.mem_flatMap]
 constructor
 .rintro⟨i,hi,hx⟩
  simp only[List.mem_cons,List.not_mem_nil,or_false]at hx
  rcases hx with rfl|rfl
  .exact⟨hi,Or.inr rfl⟩
  .exact⟨hi,Or.inl rfl⟩
 .rintro⟨h1,h2⟩
  refine⟨x.p,h1,?_⟩
  cases x
  rcases h2 with e|e<;>simp at e<;>subst e<;>simp
def x2rz(P:List Pq)(F:List Int)(st:RSt):RSt:=(x2ns F).foldl (x2kp P) st
def x2nt(P:List Pq)(F:List Int):Nat->RSt->RSt
 |0,st=>st
 |k+1,st=>x2nt P F k (x2rz P F st)
def Bw(P:List Pq)(F:List Int)(st:RSt)(fr:Int):List Sp->Int->Prop
 |[],v=>boA st.k v=true/\v=fr
 |x::r,v=>boA st.k v=true/\v≠fr/\byA st.y v=x/\toS P x=v/\InF F x/\Bw P F st fr r (frS P x)
theorem Bw.one{F:List Int}{st:RSt}{fr:Int}:∀{r s:List Sp} {v:Int},Bw P F st fr r v->Bw P F st fr s v->r=s
 |[],[],_,_,_=>rfl
 |[],x::s,_,h,k=>absurd h.2 k.2.1
 |x::r,[],_,h,k=>absurd k.2 h.2.1
 |x::r,y::s,v,h,k=>by
  have e:x=y:=h.2.2.1.symm.trans k.2.2.1
  subst e
  rw[Bw.one h.2.2.2.2.2 k.2.2.2.2.2]
theorem Bw.walk{F:List Int}{st:RSt}{fr:Int}:∀{r:List Sp} {v:Int},Bw P F st fr r v->Wk P r.reverse fr v/\AllF F r.reverse
 |[],v,h=>⟨h.2.symm,fun x hx=>by cases hx⟩
 |x::r,v,h=>by
  obtain⟨i1,i2⟩:=h.2.2.2.2.2.walk
  rw[List.reverse_cons]
  refine⟨i1.app ⟨rfl,h.2.2.2.1⟩,i2.app fun y hy=>?_⟩
  simp at hy
  subst hy
  exact h.2.2.2.2.1
theorem Bw.drop{F:List Int}{st:RSt}{fr:Int}:∀{a b:List Sp} {v:Int},Bw P F st fr (a++b) v->∃w,Bw P F st fr b w
 |[],b,v,h=>⟨v,h⟩
 |x::a,b,v,h=>Bw.drop (a:=a) h.2.2.2.2.2
theorem x2wy:∀{w:List Sp} {x:Sp},NB P w->(∀y,w.getLast?=some y->toS P x≠frS P y)->NB P (w++[x])
 |[],_,_,_=>trivial
 |[y],x,_,h=>⟨h y rfl,trivial⟩
 |y::z::r,x,h,hx=>⟨h.1,x2wy (w:=z::r) h.2 fun q hq=>hx q (by simpa using hq)⟩
theorem Bw.nb{F:List Int}{st:RSt}{fr:Int}:∀{r:List Sp} {v:Int},Bw P F st fr r v->NB P r.reverse
 |[],_,_=>trivial
 |[x],_,_=>trivial
 |x::y::r,v,h=>by
  have h1:=h.2.2.2.2.2
  have ih:=h1.nb
  rw[List.reverse_cons]
  refine x2wy ih fun z hz e=>?_
  rw[List.reverse_cons]at hz
  simp at hz
  subst hz
  have h2:=h1.2.2.2.2.2
  rw[<-e,h.2.2.2.1]at h2
  have:=congrArg List.length (h2.one h)
  simp only[List.length_cons]at this
  omega
structure RInv7 (n:Nat) (P:List Pq) (F:List Int) (f0:Int) (st:RSt):Prop where
 y:st.y.length=n
 k:st.k.length=n
 fr:boA st.k f0=true
 bw:∀v:Int,0<=v->v<n->boA st.k v=true->∃r,Bw P F st f0 r v
theorem x2of{l:List Bool}{b v:Int}(h0:0<=b)(hb:b<l.length)(hv:0<=v):boA (l.set b.toNat true) v=if v=b then true else boA l v:=by
 unfold boA
 rw[List.getD_eq_getElem?_getD,List.getD_eq_getElem?_getD,List.getElem?_set]
 by_cases c:v=b
 .rw[if_pos c,c,if_pos rfl,if_pos (by omega)];rfl
 .rw[if_neg c,if_neg (by omega)]
theorem byA_set{l:List Sp}{b v:Int}{x:Sp}(h0:0<=b)(hb:b<l.length)(hv:0<=v):byA (l.set b.toNat x) v=if v=b then x else byA l v:=by
 unfold byA
 rw[List.getD_eq_getElem?_getD,List.getD_eq_getElem?_getD,List.getElem?_set]
 by_cases c:v=b
 .rw[if_pos c,c,if_pos rfl,if_pos (by omega)];rfl
 .rw[if_neg c,if_neg (by omega)]
theorem x2kq(hP:∀p∈P,PqIn n p){F:List Int}(hr:∀i∈F,0<=i/\i<P.length){x:Sp}(hx:InF F x):(0<=frS P x/\frS P x<n)/\0<=toS P x/\toS P x<n:=by
 obtain⟨h0,h1,h2⟩:=x2qp hP (hr x.p hx.1)
 unfold frS toS
 split<;>omega
theorem Bw.set(hP:∀p∈P,PqIn n p){F:List Int}(hr:∀i∈F,0<=i/\i<P.length){st:RSt}{fr b:Int}{x:Sp}(hy:st.y.length=n)(hk:st.k.length=n)(h0:0<=b)(hb:b<n)(hu:boA st.k b=false):∀{r:List Sp} {v:Int},0<=v->Bw P F st fr r v ->
 Bw P F ⟨st.y.set b.toNat x,st.k.set b.toNat true⟩ fr r v
 |[],v,hv,h=>by
  refine⟨?_,h.2⟩
  simp only
  rw[x2of h0 (by omega) hv]
  split
  .rfl
  .exact h.1
 |y::r,v,hv,h=>by
  have hne:v≠b:=by rintro rfl;have:=h.1;rw[hu]at this;cases this
  refine⟨?_,h.2.1,?_,h.2.2.2.1,h.2.2.2.2.1,Bw.set hP hr hy hk h0 hb hu (x2kq hP hr h.2.2.2.2.1).1.1 h.2.2.2.2.2⟩
  .simp only
   rw[x2of h0 (by omega) hv,if_neg hne];exact h.1
  .simp only
   rw[byA_set h0 (by omega) hv,if_neg hne];exact h.2.2.1
theorem RInv7.step(hP:∀p∈P,PqIn n p){F:List Int}(hr:∀i∈F,0<=i/\i<P.length){fr:Int}(hfr:0<=fr){st:RSt}(h:RInv7 n P F fr st){x:Sp}(hx:InF F x) :
 RInv7 n P F fr (x2kp P st x)/\(∀v,0<=v->boA st.k v=true->boA (x2kp P st x).k v=true)/\(boA st.k (frS P x)=true->boA (x2kp P st x).k (toS P x)=true):=by
 obtain⟨⟨a0,a1⟩,b0,b1⟩:=x2kq hP hr hx
 unfold x2kp
 cases ca:boA st.k (frS P x)with
 |false=>simp;exact h
 |true=>
  cases cb:boA st.k (toS P x)with
  |true=>simp;exact⟨h,cb⟩
  |false=>
   simp only[Bool.not_false,Bool.and_self,if_true]
   have hmono:∀v,0<=v->boA st.k v=true->boA (st.k.set (toS P x).toNat true) v=true:=fun v hv hs=>by
    rw[x2of b0 (by rw[h.k];exact b1) hv]
    split
    .rfl
    .exact hs
   have hnew:boA (st.k.set (toS P x).toNat true) (toS P x)=true:=by rw[x2of b0 (by rw[h.k];exact b1) b0,if_pos rfl]
   refine⟨⟨by simp[h.y],by simp[h.k],hmono fr hfr h.fr,fun v v0 v1 hs=>?_⟩,hmono,fun _=>hnew⟩
   simp only at hs
   rw[x2of b0 (by rw[h.k];exact b1) v0]at hs
   by_cases c:v=toS P x
   .obtain⟨r,hb⟩:=h.bw (frS P x) a0 a1 ca
    refine⟨x::r,?_,?_,?_,c.symm,hx,Bw.set hP hr h.y h.k b0 b1 cb a0 hb⟩
    .rw[c];exact hnew
    .intro e;have:=h.fr;rw[<-e,c,cb]at this;cases this
    .simp only
     rw[byA_set b0 (by rw[h.y];exact b1) v0,if_pos c]
   .rw[if_neg c]at hs
    obtain⟨r,hb⟩:=h.bw v v0 v1 hs
    exact⟨r,Bw.set hP hr h.y h.k b0 b1 cb v0 hb⟩
theorem RInv7.steps(hP:∀p∈P,PqIn n p){F:List Int}(hr:∀i∈F,0<=i/\i<P.length){fr:Int}(hfr:0<=fr):∀{l:List Sp} {st:RSt},RInv7 n P F fr st->(∀x∈l,InF F x) ->
 RInv7 n P F fr (l.foldl (x2kp P) st)/\(∀v,0<=v->boA st.k v=true->boA (l.foldl (x2kp P) st).k v=true)/\(∀x∈l,boA st.k (frS P x)=true->boA (l.foldl (x2kp P) st).k (toS P x)=true)
 |[],st,h,_=>⟨h,fun _ _ h=>h,fun x hx=>by cases hx⟩
 |x::l,st,h,hl=>by
  have hx:=hl x (List.mem_cons_self ..)
  obtain⟨i1,i2,i3⟩:=h.step hP hr hfr hx
  obtain⟨j1,j2,j3⟩:=RInv7.steps hP hr hfr (l:=l) i1 fun y hy=>hl y (List.mem_cons_of_mem _ hy)
  rw[List.foldl_cons]
  refine⟨j1,fun v hv hs=>j2 v hv (i2 v hv hs),fun y hy hs=>?_⟩
  rcases List.mem_cons.mp hy with rfl|hy
  .exact j2 _ (x2kq hP hr hx).2.1 (i3 hs)
  .exact j3 y hy (i2 _ (x2kq hP hr (hl y (List.mem_cons_of_mem _ hy))).1.1 hs)
theorem RInv7.rounds(hP:∀p∈P,PqIn n p){F:List Int}(hr:∀i∈F,0<=i/\i<P.length){fr:Int}(hfr:0<=fr):∀{k:Nat} {st:RSt},RInv7 n P F fr st ->
 RInv7 n P F fr (x2nt P F k st)/\∀(w:List Sp) (a b:Int),0<=a->boA st.k a=true->Wk P w a b->AllF F w->w.length<=k->boA (x2nt P F k st).k b=true
 |0,st,h=>⟨h,fun w a b ha hs hw hF hl=>by
  have:=List.length_eq_zero_iff.mp (Nat.le_zero.mp hl)
  subst this
  cases hw
  exact hs⟩
 |k+1,st,h=>by
  obtain⟨i1,i2,i3⟩:=h.steps hP hr hfr (l:=x2ns F) fun x hx=>mem_rstepsOf.mp hx
  obtain⟨j1,j2⟩:=RInv7.rounds hP hr hfr (k:=k) i1
  refine⟨j1,fun w a b ha hs hw hF hl=>?_⟩
  cases w with
  |nil=>cases hw;exact j2 [] a a ha (i2 a ha hs) rfl (fun x hx=>by cases hx) (Nat.zero_le _)
  |cons x w=>
   refine j2 w (toS P x) b (x2kq hP hr hF.head).2.1 (i3 x (mem_rstepsOf.mpr hF.head) (by rw[hw.1];exact hs)) hw.2 hF.tail (by simp at hl;omega)
def r0(n:Nat)(fr:Int):RSt:=⟨List.replicate n ⟨0,0⟩,(List.replicate n false).set fr.toNat true⟩
theorem r0_ok{F:List Int}{fr:Int}(h0:0<=fr)(h1:fr<n):RInv7 n P F fr (r0 n fr):=by
 have hb:∀v:Int,boA (List.replicate n false) v=false:=fun v=>by
  unfold boA
  rw[List.getD_eq_getElem?_getD,List.getElem?_replicate]
  split<;>rfl
 have hs:∀v:Int,0<=v->boA (r0 n fr).k v=if v=fr then true else false:=fun v hv=>by
  unfold r0
  simp only
  rw[x2of h0 (by simpa using h1) hv,hb]
 refine⟨by simp[r0],by simp[r0],by rw[hs fr h0,if_pos rfl],fun v v0 v1 h=>⟨[],?_,?_⟩⟩
 .exact h
 .rw[hs v v0]at h
  exact Classical.byContradiction fun hc=>by rw[if_neg hc]at h;cases h
theorem rway_ok(hP:∀p∈P,PqIn n p){F:List Int}(hF:For n P F){fr b:Int}(h0:0<=fr)(h1:fr<n)(b0:0<=b)(b1:b<n){w:List Sp}(hw:Wk P w fr b)(hwF:AllF F w)(hN:NB P w):Bw P F (x2nt P F n (r0 n fr)) fr w.reverse b:=by
 obtain⟨j1,j2⟩:=(r0_ok (P:=P) (F:=F) h0 h1).rounds hP hF.rng h0 (k:=n)
 have hl:=x2ro (hF.cut hP) hw hwF hN
 have hl2:=hF.len hP
 have hs:=j2 w fr b h0 (r0_ok (P:=P) (F:=F) h0 h1).fr hw hwF (by omega)
 obtain⟨r,hr⟩:=j1.bw b b0 b1 hs
 obtain⟨e1,e2⟩:=hr.walk
 have:=nb_unique (hF.cut hP) hw e1 hwF e2 hN hr.nb
 rw[this,List.reverse_reverse]
 exact hr
theorem x2tx(l:List Scene)(P:List Pq):∀(F:List Int) (s:Int),sumL l P s F=s+(F.map fun i=>lenP l (prAt P i)).sum
 |[],s=>by simp[sumL]
 |i::r,s=>by
  rw[sumL,x2tx l P r,List.map_cons,List.sum_cons]
  omega
open Go.Proofs
theorem x2wz{objs:Id->Option Ob}{id:Id}{cs:List AV}{v off k:Nat}{f:Bool}(h:objs id=some (.row cs v f)):Go.Ix.frz objs (k+1) (.ptr id v off)=((cs.drop off).mapM (Go.Ix.frz objs k)).map AV.plit:=by
 simp only[Go.Ix.frz,h,if_true]
theorem frz_box{objs:Id->Option Ob}{id:Id}{a a':AV}{v k:Nat}{f:Bool}(h:objs id=some (.row [a] v f))(ha:Go.Ix.frz objs k a=some a'):Go.Ix.frz objs (k+1) (.ptr id v 0)=some (.plit [a']):=by
 rw[x2wz h]
 simp only[List.drop_zero,List.mapM_cons,List.mapM_nil,ha]
 rfl
theorem frz_two{objs:Id->Option Ob}{a b b':AV}(ha:still a=true)(hb:Go.Ix.frz objs deep b=some b'):[a,b].mapM (Go.Ix.frz objs deep)=some [a,b']:=by
 simp only[List.mapM_cons,List.mapM_nil,hb]
 rw[show Go.Ix.frz objs deep a=some a from x2kc objs 4 ha]
 rfl
theorem z_graph:x30=[nilS,nilS]:=by kernel_rfl
theorem sumL_in{l:List Scene}{P:List Pq}(hb:InB l):∀{F:List Int},Rng l.length P F->0<=sumL l P 0 F/\sumL l P 0 F<=F.length*300000
 |[],_=>by simp[sumL]
 |i::r,h=>by
  have ih:=sumL_in hb (F:=r) fun j hj=>h j (List.mem_cons_of_mem _ hj)
  have:=x2rw hb (h i (List.mem_cons_self ..)).2
  rw[x2tx]at ih ⊢
  rw[List.map_cons,List.sum_cons,List.length_cons]
  omega
theorem cvt_small:∀n:Nat,n<=12->sCvt Tryz.prog x2ir x9 (I n)=some (.sc (.int .u64 n))
 |0,_=>by kernel_rfl
 |1,_=>by kernel_rfl
 |2,_=>by kernel_rfl
 |3,_=>by kernel_rfl
 |4,_=>by kernel_rfl
 |5,_=>by kernel_rfl
 |6,_=>by kernel_rfl
 |7,_=>by kernel_rfl
 |8,_=>by kernel_rfl
 |9,_=>by kernel_rfl
 |10,_=>by kernel_rfl
 |11,_=>by kernel_rfl
 |12,_=>by kernel_rfl
 |n+13,h=>by omega
theorem a_Len64(call:x2i5):∀n:Nat,n<=12->∃v:Int,xis call [] [.sc (.int .u64 n)] mem0=some (I v,⟨[],1⟩)
 |0,_=>⟨0,by kernel_rfl⟩
 |1,_=>⟨1,by kernel_rfl⟩
 |2,_=>⟨2,by kernel_rfl⟩
 |3,_=>⟨2,by kernel_rfl⟩
 |4,_=>⟨3,by kernel_rfl⟩
 |5,_=>⟨3,by kernel_rfl⟩
 |6,_=>⟨3,by kernel_rfl⟩
 |7,_=>⟨3,by kernel_rfl⟩
 |8,_=>⟨4,by kernel_rfl⟩
 |9,_=>⟨4,by kernel_rfl⟩
 |10,_=>⟨4,by kernel_rfl⟩
 |11,_=>⟨4,by kernel_rfl⟩
 |12,_=>⟨4,by kernel_rfl⟩
 |n+13,h=>by omega
theorem w_bitsLen(d:Nat){n:Nat}(hn:n<=12)(m:Mem):∃v:Int,x2i8 (x2i6 (d+2)) x6b [.sc (.int .u64 n)] m=some (I v,m):=by
 obtain⟨v,hv⟩:=a_Len64 (x2i6 d) n hn
 have h64:∀m,x2i8 (x2i6 (d+1)) x7p [.sc (.int .u64 n)] m=some (I v,m):=fun m=>by
  refine x2ju rfl ?_ m
  rw[x1fp,hv]
  exact RetF.st rfl rfl
 refine⟨v,x2ju rfl ?_ m⟩
 rw[x1fi]
 unfold xim xme
 simp[mem0,h64]
 exact RetF.st rfl rfl
theorem c_Sort(d:Nat)(hs:FHs){a:AV}{ok:Id->Prop}{L:List Int}{m:Mem}(hL:L.length<=12)(hG:Gk 1 intE ok m a L) :
 ∃m',x2i6 (d+5) hs x7k [a] m=some (.tup [],m')/\Gk 1 intE ok m' a (isoM (fun x y=>decide (x<y)) (L.length-1) L)/\m.next<=m'.next/\x2m2 ok m m':=by
 rw[x1fa]
 unfold xie xlq
 obtain⟨v,hv⟩:=w_bitsLen (d+2) hL (⟨m.hp,m.next+1⟩:Mem)
 simp only[hG.len x2il,x2ig,cvt_small _ hL,hv]
 rw[x1fh]
 unfold xil xmd
 obtain⟨NM,hNM⟩:∃NM,NN=NM+1:=⟨NN-1,by have:=x2in;omega⟩
 rw[hNM]
 simp only[x87]
 unfold xg5
 obtain⟨m',e1,e2,e3,e4⟩:=c_insertO d hs (L:=L) (m:=⟨m.hp,m.next+1+1⟩) (by omega) (hG.frame fun _ _=>rfl)
 have h12:(L.length:Int)<=12:=by omega
 simp[e1]
 rw[x2ic (by omega) (by omega)]
 simp[h12]
 exact⟨e2,by have:m'.next=m.next+1+1+1:=e3;omega,fun j hj=>by rw[e4 j hj];rfl⟩
def fW(l:List Scene)(P:List Pq)(i:Int):Int:=lenP l (prAt P i)
theorem x2zi(d:Nat){s p:AV}{l:List Scene}{P:List Pq}(hs:Sl Scene.c s l)(hp:Sl Pq.c p P)(hR:Right7 l P)(id:Id)(hid:id.1=0):Cmps (x2i6 (d+3)) (.clo x67 [.ptr id 0 0]) id (.row [s,p] 0 false) P.length (fun x y=>fW l P x-fW l P y):=by
 intro hh x y m x0 x1 y0 y1 hg
 refine⟨m.next+1,by omega,?_⟩
 show x2i6 (d+3) hh x67 [I x,I y,.ptr id 0 0] m=_
 have hx:=hR.at (i:=x) ⟨x0,x1⟩
 have hy:=hR.at (i:=y) ⟨y0,y1⟩
 have i1:=x2rw hR.ib hx
 have i2:=x2rw hR.ib hy
 rw[x1f9]
 unfold xid xlp
 have hg':(⟨m.hp,m.next+1⟩:Mem).get id=some (.row [s,p] 0 false):=hg
 obtain⟨i,j,k⟩:=id
 simp at hid
 subst hid
 have hb:Nat.ble 1 (m.next+1)=true:=by rw[Nat.ble_eq];omega
 unfold fW
 simp[hb,hg',x2wg d hs hp hR.ib ⟨x0,x1⟩ hx,x2wg d hs hp hR.ib ⟨y0,y1⟩ hy,hs.clean1,hp.clean1,cAp,tR,Nat.blt]
 rw[x2ic (by omega) (by omega)]
theorem ord_rng{f:Int->Int}{N:Nat}:InN N (ordM f N):=fun x hx=>((x2n5 f N).2 x).mp hx
theorem x2qt(f:Int->Int)(N:Nat):(ordM f N).length=N:=by
 have:=x2wk (x2n5 f N).nodup (x2tt N).nodup fun x=>((x2n5 f N).2 x).trans fresh_mem.symm
 rw[this];simp[freshM]
theorem ord_Rng{l:List Scene}{P:List Pq}(hR:Right7 l P)(f:Int->Int)(k:Nat):Rng l.length P ((ordM f P.length).take k):=fun i hi=>by
 have:=ord_rng _ (List.mem_of_mem_take hi)
 exact⟨this,hR.at this⟩
theorem x2zj(d:Nat){s p:AV}{l:List Scene}{P:List Pq}(hs:Sl Scene.c s l)(hp:Sl Pq.c p P)(hR:Right7 l P)(hl:l.length<=8)(hP:P.length<=14) :
 RetF (fun v=>Ints v (x2jb (fW l P) l.length P)) (x2i6 (d+7) [] x3t [.agg [s,p]] mem0):=by
 rw[x1et]
 unfold xhy xl1 xf3
 simp[mem0,hs.one,hp.one,hp.len x2jn]
 refine x2j1 (N:=P.length) (fun n k a m fc=>x57 (x2i6 (d+6)) [] 0 n (.ptr (0,0,1) 0 0) a nilS (I P.length) (I k) m fc)
  (fun k a m=>m.get (0,0,1)=some (.row [s,p] 0 false)/\Gk 1 intE (okZ 19) m a ((freshM P.length).take k)/\m.next=1) _ ?_ ?_ NN 0 nilS _ _ (by omega) (by rw[x2in];omega) ⟨by simp,by simpa using Gk.nil,rfl⟩
 .rintro n k a m fc hk ⟨hg,hG,hn⟩ next
  have hk':(k:Int)<(P.length:Int):=by omega
  have hlt:((freshM P.length).take k).length=k:=by simp[freshM];omega
  obtain⟨a2,m2,e1,e2,-,-,e3,e4⟩:=hG.app (bytes:=8) (id0:=(0,fc+6,19)) x2im (by omega) ⟨rfl,rfl⟩ (by unfold x2ik;omega) (k:Int)
  simp only[x57]
  unfold xf2
  simp(disch:=omega) [hk',x2jy,x2ic]
  rw[show elems m.get 1 (.slit [I (k:Int)] 1 true)=some (intE (k:Int),1)from rfl,e1]
  exact next a2 m2 _ ⟨by rw[e4 _ (by unfold okZ;simp)];exact hg,by rw[<-x2qq hk];exact e2,by omega⟩
 .rintro n a m fc ⟨hg,hG,hn⟩
  have hk:¬((P.length:Int)<(P.length:Int)):=by omega
  rw[List.take_of_length_le (by simp[freshM])]at hG
  have hfl:(freshM P.length).length=P.length:=by simp[freshM]
  obtain⟨m1,c1,c2,c3,c4⟩:=x2zg (d+3) [] (x2zi d hs hp hR (0,0,1) rfl) (ok:=okZ 19) (by unfold okZ;simp) (by omega) (fun x hx=>fresh_mem.mp hx) hG hg
  rw[show(fun x y=>decide (fW l P x-fW l P y<0))=fun x y=>decide (fW l P x<fW l P y)from by funext x y;exact decide_eq_decide.mpr (by omega),iso_ord]at c2
  have hg1:m1.get (0,0,1)=some (.row [s,p] 0 false):=by rw[c4 _ (by unfold okZ;simp)];exact hg
  obtain⟨ua,M,hc,hU,hM,hfr⟩:=x2ze (d+5) (n:=l.length) (by omega) m1
  simp only[x57]
  unfold xf2 x56
  simp[c1,hg1,hs.len x2jk,hc]
  have hgM:M.get (0,0,1)=some (.row [s,p] 0 false):=by rw[hfr _ (by show 0<m1.next;omega)];exact hg1
  have hGM:Gk 1 intE (okZ 19) M a (ordM (fW l P) P.length):=c2.frame fun j hj=>hfr j (by obtain⟨h1,h2⟩:=hj;omega)
  have hol:=x2qt (fW l P) P.length
  unfold xf1
  simp only[hGM.len x2il,x2ig]
  generalize hN1:m1.next=N1 at *
  have hN0:1<=N1:=by omega
  refine x2j1 (N:=(ordM (fW l P) P.length).length) (fun n k o m fc=>x55 (x2i6 (d+6)) [] 0 n (.ptr (0,0,1) 0 0) o ua a (I (ordM (fW l P) P.length).length) (I k) m fc)
   (fun k o m=>(m.get (0,0,1)=some (.row [s,p] 0 false)/\N1<m.next)/\Gk 1 intE (okZ 19) m a (ordM (fW l P) P.length)/\Gk 1 intE (fun id=>id.1=N1) m ua (uniM l.length P ((ordM (fW l P) P.length).take k)) /\
    Gk 1 intE (okZ 46) m o (takeM P (freshM l.length) ((ordM (fW l P) P.length).take k))) _ ?_ ?_ NN 0 nilS _ _ (by omega) (by rw[x2in];omega) ⟨⟨hgM,by omega⟩,hGM,by simpa[uniM,prs,joinsM]using hU,by simpa[takeM]using Gk.nil⟩
  .rintro n k o m fc hk ⟨⟨hg,hmn⟩,hO,hU,hT⟩ next
   have hk':(k:Int)<((ordM (fW l P) P.length).length:Int):=by omega
   obtain⟨q,i1,l1,-⟩:=hO.at (k:=(k:Int)) (by omega) hk'
   rw[Int.toNat_natCast]at l1
   have hx:=ord_rng.get hk
   have hRk:=ord_Rng hR (fW l P) k
   have hL:=(x2tw hRk).len
   have hq:=hR.at hx
   have ip:=hp.ixz Pq.len hx.1 hx.2
   have lp:=fun m=>x2jr (m:=m) (enc:=Pq.c) Pq.len (by omega) (show(at0 (ordM (fW l P) P.length) k).toNat<P.length by omega)
   rw[<-x2nq (by omega)]at lp
   have hus:=x2wt (n:=l.length) (P:=P) hk
   have hts:takeM P (freshM l.length) ((ordM (fW l P) P.length).take (k+1))=takeM P (freshM l.length) ((ordM (fW l P) P.length).take k)++(if at0 (uniM l.length P ((ordM (fW l P) P.length).take k)) (prAt P (at0 (ordM (fW l P) P.length) k)).a.toNat=at0 (uniM l.length P ((ordM (fW l P) P.length).take k)) (prAt P (at0 (ordM (fW l P) P.length) k)).b.toNat then[]else[at0 (ordM (fW l P) P.length) k]):=by
    rw[List.take_succ_eq_append_getElem hk,x2wh,x2io hk]
    rfl
   have htl:(takeM P (freshM l.length) ((ordM (fW l P) P.length).take k)).length<=14:=by
    have h1:=(x2nr (P:=P) ((ordM (fW l P) P.length).take k) (freshM l.length)).length_le
    simp at h1
    omega
   obtain⟨m2,e1,e2,e3,e4⟩:=c_join (d+5) [] hU (fun j hj=>by have hj':j.1=N1:=hj;omega) (p:=prAt P (at0 (ordM (fW l P) P.length) k)) (by rw[hL];exact hq) (by rw[hL];omega)
   have keep:∀j:Id,j.1=0->m2.get j=m.get j:=fun j hj=>e4 j (by show ¬j.1=N1;omega) (by omega)
   simp only[Pq.c]at lp
   simp only[x55]
   unfold xf0 xez
   have hO2:Gk 1 intE (okZ 19) m2 a (ordM (fW l P) P.length):=hO.frame fun j hj=>keep j hj.1
   have hT2:Gk 1 intE (okZ 46) m2 o (takeM P (freshM l.length) ((ordM (fW l P) P.length).take k)):=hT.frame fun j hj=>keep j hj.1
   have hg2:m2.get (0,0,1)=some (.row [s,p] 0 false):=by rw[keep _ rfl];exact hg
   rw[<-hus]at e2
   simp only[x2iv,hk',decide_true,x2iw,x2ig,i1,l1]
   simp[hg,ip,lp,e1]
   by_cases c3:at0 (uniM l.length P ((ordM (fW l P) P.length).take k)) (prAt P (at0 (ordM (fW l P) P.length) k)).a.toNat=at0 (uniM l.length P ((ordM (fW l P) P.length).take k)) (prAt P (at0 (ordM (fW l P) P.length) k)).b.toNat
   .rw[if_pos c3,List.append_nil]at hts
    simp[c3]
    unfold x80
    simp(disch:=omega) [x2ic]
    exact next o m2 _ ⟨⟨hg2,by omega⟩,hO2,e2,by rw[hts];exact hT2⟩
   .rw[if_neg c3]at hts
    obtain⟨o2,m3,a1,a2,-,-,a3,a4⟩:=hT2.app (bytes:=8) (id0:=(0,fc+1+14,46)) x2im (by omega) ⟨rfl,rfl⟩ (by unfold x2ik;omega) (at0 (ordM (fW l P) P.length) k)
    simp[c3,x2jy]
    rw[show ∀x:Int,elems m2.get 1 (.slit [I x] 1 true)=some (intE x,1)from fun _=>rfl,a1]
    unfold x80
    simp(disch:=omega) [x2ic]
    refine next o2 m3 _ ⟨⟨by rw[a4 _ (by unfold okZ;simp)];exact hg2,by omega⟩,hO2.frame fun j hj=>a4 j (by obtain⟨h1,h2⟩:=hj;unfold okZ;omega),e2.frame fun j hj=>a4 j (by have hj':j.1=N1:=hj;unfold okZ;omega),by rw[hts];exact a2⟩
  .rintro n o m fc ⟨⟨hg,hmn⟩,hO,hU,hT⟩
   rw[List.take_of_length_le (Nat.le_refl _)]at hT
   have hTL:takeM P (freshM l.length) (ordM (fW l P) P.length)=x2jg (fW l P) l.length P:=rfl
   rw[hTL]at hT
   have hlen:=(x2tv hR.pr (fW l P)).len hR.pr
   obtain⟨m2,e1,e2,e3,e4⟩:=c_Sort (d+1) [] (by omega) hT
   obtain⟨s1,s2⟩:=iso_asc (x2wr (n:=l.length) (P:=P) (fW l P))
   have hfin:isoM (fun x y=>decide (x<y)) ((x2jg (fW l P) l.length P).length-1) (x2jg (fW l P) l.length P)=x2jb (fW l P) l.length P:=s1.one (x2tu _) fun x=>(s2 x).trans light_mem.symm
   rw[hfin]at e2
   simp only[x55]
   unfold xf0 x1v
   simp[e1]
   obtain⟨v,h1,h2⟩:=e2.sl1 4
   exact RetF.mk h2 h1
theorem x2zk(d:Nat){s p:AV}{l:List Scene}{P:List Pq}(hs:Sl Scene.c s l)(hp:Sl Pq.c p P)(hR:Right7 l P)(hl:l.length<=8)(hP:P.length<=14)(m:Mem) :
 ∃v,Ints v (x2jb (fW l P) l.length P)/\x2i8 (x2i6 (d+7)) x3t [.agg [s,p]] m=some (v,m):=
 x2k6 (by simp[hs.still1,hp.still1]) (x2zj d hs hp hR hl hP) m
end Go.Ix
