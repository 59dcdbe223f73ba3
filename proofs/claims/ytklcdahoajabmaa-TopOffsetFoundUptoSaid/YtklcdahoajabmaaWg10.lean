import Derived.Test.YtklcdahoajabmaaWg9
set_option linter.unusedSimpArgs false
set_option linter.unusedVariables false
namespace Go.Ix
variable{P:List Pq}
theorem xou{u:List Int}{p:Pq}(h:at0 u p.a.toNat=at0 u p.b.toNat):xe7 u p=u:=by
 unfold xe7
 conv=>rhs;rw[<-List.map_id u]
 apply xvk
 intro x _
 show _=x
 rw[h]
 by_cases c:x=at0 u p.b.toNat
 .rw[xta (Or.inl c),c];unfold mn;simp
 .rw[xtb (by simp[c])]
theorem xlu{α:Type}{R:α->α->Prop}(hi:∀a,¬R a a)(ha:∀a b,R a b->R b a->False):∀{l k:List α},l.Pairwise R->k.Pairwise R->(∀x,x∈l↔x∈k)->l=k
 |[],[],_,_,_=>rfl
 |[],y::k,_,_,h=>by have:=(h y).mpr (xtk ..);cases this
 |x::l,[],_,_,h=>by have:=(h x).mp (xtk ..);cases this
 |x::l,y::k,h1,h2,h=>by
  rw[xvm]at h1 h2
  have e:x=y:=by
   rcases xtm.mp ((h x).mp (xtk ..))with e|e
   .exact e
   .rcases xtm.mp ((h y).mpr (xtk ..))with e2|e2
    .exact e2.symm
    .exact(ha _ _ (h2.1 x e) (h1.1 y e2)).elim
  subst e
  have:=xlu hi ha h1.2 h2.2 λz=>by
   constructor
   .intro hz
    rcases xtm.mp ((h z).mp (xti _ hz))with e|e
    .rw[e]at hz;exact(hi _ (h1.1 _ hz)).elim
    .exact e
   .intro hz
    rcases xtm.mp ((h z).mpr (xti _ hz))with e|e
    .rw[e]at hz;exact(hi _ (h2.1 _ hz)).elim
    .exact e
  rw[this]
def lx(f:Int->Int)(i j:Int):Prop:=f i<f j\/(f i=f j/\i<j)
theorem lx_irr{f:Int->Int}(i:Int):¬lx f i i:=by unfold lx;omega
theorem lx_asym{f:Int->Int}(i j:Int)(h:lx f i j)(h2:lx f j i):False:=by unfold lx at *;omega
def Ordd(f:Int->Int)(N:Nat)(L:List Int):Prop:=L.Pairwise (lx f)/\∀x,x∈L↔(0<=x/\x<N)
theorem Ordd.one{f:Int->Int}{N:Nat}{L K:List Int}(h:Ordd f N L)(k:Ordd f N K):L=K:=xlu lx_irr lx_asym h.1 k.1 λx=>(h.2 x).trans (k.2 x).symm
def Asc(F:List Int):Prop:=F.Pairwise (· < ·)
theorem Asc.one{F G:List Int}(h:Asc F)(k:Asc G)(e:∀x,x∈F↔x∈G):F=G:=xlu (λa=>by omega) (λa b=>by omega) h k e
theorem same_len{l k:List Int}(hl:l.Nodup)(hk:k.Nodup)(h:∀x,x∈l↔x∈k):l.length=k.length:=by
 have:=xlj hl λx hx=>(h x).mp hx
 have:=xlj hk λx hx=>(h x).mpr hx
 omega
theorem Asc.filter{F:List Int}(h:Asc F)(p:Int->Bool):Asc (F.filter p):=List.Pairwise.filter p h
variable{n:Nat}
theorem xov{t:List Int}{l:List Pq}(hl:∀p∈l,PqIn n p)(h:∀p∈l,Sm t p.a.toNat p.b.toNat){v w:Nat}(hv:v<n)(hw:w<n)(hs:Sm (joinsM (freshM n) l) v w):Sm t v w:=by
 refine xls (R:=Sm t) (λh=>h.symm) (λh1 h2=>h1.trans h2) (Lab.fresh n) hl h (λa b ha hb e=>?_) v w hv hw hs
 unfold Sm at e
 rw[Lab.get_fresh ha,Lab.get_fresh hb]at e
 have:a=b:=by omega
 rw[this];rfl
theorem xow{l k:List Pq}(hl:∀p∈l,PqIn n p)(hk:∀p∈k,PqIn n p)(h1:∀p∈l,Sm (joinsM (freshM n) k) p.a.toNat p.b.toNat)(h2:∀p∈k,Sm (joinsM (freshM n) l) p.a.toNat p.b.toNat):joinsM (freshM n) l=joinsM (freshM n) k:=
 ((Lab.fresh n).joins hl).ext ((Lab.fresh n).joins hk) λv w hv hw=>⟨xov hl h1 hv hw,xov hk h2 hv hw⟩
theorem joins_mem{l k:List Pq}(hl:∀p∈l,PqIn n p)(hk:∀p∈k,PqIn n p)(h:∀p,p∈l↔p∈k):joinsM (freshM n) l=joinsM (freshM n) k:=
 xow hl hk (λp hp=>xih (Lab.fresh n) hk p ((h p).mp hp)) (λp hp=>xih (Lab.fresh n) hl p ((h p).mpr hp))
theorem xox:∀{l:List Pq} {u:List Int},Lab n u->(∀p∈l,PqIn n p)->xex n u<=xex n (joinsM u l)+l.length
 |[],_,_,_=>xth _
 |p::l,u,h,hp=>by
  have hq:=hp p (xtk ..)
  have ih:=xox (h.join hq) λq hq=>hp q (xti _ hq)
  have e:joinsM u (p::l)=joinsM (xe7 u p) l:=rfl
  rw[e,xtl]
  by_cases c:Sm u p.a.toNat p.b.toNat
  .rw[xou c]at ih ⊢;omega
  .have:=xlt h hq c;omega
theorem xoy:∀{l:List Pq} {u:List Int},Lab n u->(∀p∈l,PqIn n p)->xex n (joinsM u l)+l.length<=xex n u->Indep u l
 |[],_,_,_,_=>trivial
 |p::l,u,h,hp,hr=>by
  have hq:=hp p (xtk ..)
  have hl:∀q∈l,PqIn n q:=λq hq=>hp q (xti _ hq)
  have e:joinsM u (p::l)=joinsM (xe7 u p) l:=rfl
  rw[e,xtl]at hr
  by_cases c:Sm u p.a.toNat p.b.toNat
  .have:=xox (h.join hq) hl
   rw[xou c]at this hr
   omega
  .have:=xlt h hq c
   exact⟨c,xoy (h.join hq) hl (by omega)⟩
theorem For.perm(hP:∀p∈P,PqIn n p){F G:List Int}(h:For n P F)(hG:G.Nodup)(he:∀x,x∈F↔x∈G):For n P G:=by
 have hr:∀i∈G,0<=i/\i<P.length:=λi hi=>h.rng i ((he i).mpr hi)
 refine⟨hr,hG,xoy (Lab.fresh n) (xf8 hP hr) ?_⟩
 have h1:=xjr (Lab.fresh n) (xf8 hP h.rng) h.ind
 have h2:joinsM (freshM n) (prs P G)=joinsM (freshM n) (prs P F):=joins_mem (xf8 hP hr) (xf8 hP h.rng) λp=>by
  unfold prs
  rw[xtz,xtz]
  exact⟨λ⟨i,a,b⟩=>⟨i,(he i).mpr a,b⟩,λ⟨i,a,b⟩=>⟨i,(he i).mp a,b⟩⟩
 have h3:=same_len h.nod hG he
 rw[h2]
 have e1:(prs P F).length=F.length:=by unfold prs;simp
 have e2:(prs P G).length=G.length:=by unfold prs;simp
 omega
theorem For.sub(hP:∀p∈P,PqIn n p){F G:List Int}(h:For n P F)(hG:G.Nodup)(hs:∀x∈G,x∈F):For n P G:=by
 refine(h.perm (G:=G++F.filter λx=>!(G.contains x)) hP ?_ λx=>?_).take
 .rw[xvd]
  refine⟨hG,h.nod.filter _,λa ha b hb e=>?_⟩
  subst e
  have:=(xtx.mp hb).2
  simp at this
  exact this ha
 .rw[xup,xtx]
  by_cases c:x∈G
  .simp[c,hs x c]
  .simp[c]
structure Tree (n:Nat) (P:List Pq) (F:List Int):Prop where
 fo:For n P F
 asc:Asc F
 all:∀p∈P,Sm (joinsM (freshM n) (prs P F)) p.a.toNat p.b.toNat
theorem mem_prs{F':List Int}(hr:∀i∈F',0<=i/\i<P.length):∀p∈prs P F',p∈P:=by
 intro p hp
 obtain⟨i,hi,rfl⟩:=xtz.mp hp
 have:=hr i hi
 have h2:i.toNat<P.length:=by omega
 unfold prAt
 rw[xtu,xtr h2]
 exact xub h2
theorem Tree.uni(hP:∀p∈P,PqIn n p){F:List Int}(h:Tree n P F):joinsM (freshM n) (prs P F)=joinsM (freshM n) P:=
 xow (xf8 hP h.fo.rng) hP (λp hp=>xih (Lab.fresh n) hP p (mem_prs h.fo.rng p hp)) h.all
theorem Tree.len(hP:∀p∈P,PqIn n p){F:List Int}(h:Tree n P F):n=xex n (joinsM (freshM n) P)+F.length:=by
 have:=xjr (Lab.fresh n) (xf8 hP h.fo.rng) h.fo.ind
 rw[xot,h.uni hP]at this
 have e:(prs P F).length=F.length:=by unfold prs;simp
 omega
theorem Ordd.split{f:Int->Int}{N:Nat}{L:List Int}(h:Ordd f N L)(c:Int):L=L.filter (λi=>decide (f i<=c))++L.filter (λi=>!decide (f i<=c)):=by
 refine h.one ⟨?_,λx=>?_⟩
 .rw[List.pairwise_append]
  refine⟨h.1.filter _,h.1.filter _,λa ha b hb=>?_⟩
  have h1:=(xtx.mp ha).2
  have h2:=(xtx.mp hb).2
  simp at h1 h2
  unfold lx
  omega
 .rw[<-h.2,xup,xtx,xtx]
  cases decide (f x<=c)<;>simp
end Go.Ix
