import Derived.Test.YtjdlceelbnaneaaWg11
set_option linter.unusedSimpArgs false
set_option linter.unusedVariables false
namespace Go.Ix
variable{P:List Pq}
theorem xhv{u:List Int}{p:Pq}(h:at0 u p.a.toNat=at0 u p.b.toNat):x8v u p=u:=by
 unfold x8v
 conv=>rhs;rw[<-List.map_id u]
 apply xo1
 intro x _
 show _=x
 rw[h]
 by_cases c:x=at0 u p.b.toNat
 .rw[xkv (Or.inl c),c];unfold mn;simp
 .rw[xkw (by simp[c])]
theorem xfc{α:Type}{R:α->α->Prop}(hi:∀a,¬R a a)(ha:∀a b,R a b->R b a->False):∀{l k:List α},l.Pairwise R->k.Pairwise R->(∀x,x∈l↔x∈k)->l=k
 |[],[],_,_,_=>rfl
 |[],y::k,_,_,h=>by have:=(h y).mpr (xl5 ..);cases this
 |x::l,[],_,_,h=>by have:=(h x).mp (xl5 ..);cases this
 |x::l,y::k,h1,h2,h=>by
  rw[xn1]at h1 h2
  have e:x=y:=by
   rcases xl8.mp ((h x).mp (xl5 ..))with e|e
   .exact e
   .rcases xl8.mp ((h y).mpr (xl5 ..))with e2|e2
    .exact e2.symm
    .exact(ha _ _ (h2.1 x e) (h1.1 y e2)).elim
  subst e
  have:=xfc hi ha h1.2 h2.2 λz=>by
   constructor
   .intro hz
    rcases xl8.mp ((h z).mp (xl2 _ hz))with e|e
    .rw[e]at hz;exact(hi _ (h1.1 _ hz)).elim
    .exact e
   .intro hz
    rcases xl8.mp ((h z).mpr (xl2 _ hz))with e|e
    .rw[e]at hz;exact(hi _ (h2.1 _ hz)).elim
    .exact e
  rw[this]
def lx(f:Int->Int)(i j:Int):Prop:=f i<f j\/(f i=f j/\i<j)
theorem lx_irr{f:Int->Int}(i:Int):¬lx f i i:=by unfold lx;omega
theorem lx_asym{f:Int->Int}(i j:Int)(h:lx f i j)(h2:lx f j i):False:=by unfold lx at *;omega
def Ordd(f:Int->Int)(N:Nat)(L:List Int):Prop:=L.Pairwise (lx f)/\∀x,x∈L↔(0<=x/\x<N)
theorem Ordd.one{f:Int->Int}{N:Nat}{L K:List Int}(h:Ordd f N L)(k:Ordd f N K):L=K:=xfc lx_irr lx_asym h.1 k.1 λx=>(h.2 x).trans (k.2 x).symm
def Asc(F:List Int):Prop:=F.Pairwise (· < ·)
theorem Asc.one{F G:List Int}(h:Asc F)(k:Asc G)(e:∀x,x∈F↔x∈G):F=G:=xfc (λa=>by omega) (λa b=>by omega) h k e
theorem same_len{l k:List Int}(hl:l.Nodup)(hk:k.Nodup)(h:∀x,x∈l↔x∈k):l.length=k.length:=by
 have:=xf0 hl λx hx=>(h x).mp hx
 have:=xf0 hk λx hx=>(h x).mpr hx
 omega
theorem Asc.filter{F:List Int}(h:Asc F)(p:Int->Bool):Asc (F.filter p):=List.Pairwise.filter p h
variable{n:Nat}
theorem xhw{t:List Int}{l:List Pq}(hl:∀p∈l,PqIn n p)(h:∀p∈l,Sm t p.a.toNat p.b.toNat){v w:Nat}(hv:v<n)(hw:w<n)(hs:Sm (joinsM (freshM n) l) v w):Sm t v w:=by
 refine xfa (R:=Sm t) (λh=>h.symm) (λh1 h2=>h1.trans h2) (Lab.fresh n) hl h (λa b ha hb e=>?_) v w hv hw hs
 unfold Sm at e
 rw[Lab.get_fresh ha,Lab.get_fresh hb]at e
 have:a=b:=by omega
 rw[this];rfl
theorem xhx{l k:List Pq}(hl:∀p∈l,PqIn n p)(hk:∀p∈k,PqIn n p)(h1:∀p∈l,Sm (joinsM (freshM n) k) p.a.toNat p.b.toNat)(h2:∀p∈k,Sm (joinsM (freshM n) l) p.a.toNat p.b.toNat):joinsM (freshM n) l=joinsM (freshM n) k:=
 ((Lab.fresh n).joins hl).ext ((Lab.fresh n).joins hk) λv w hv hw=>⟨xhw hl h1 hv hw,xhw hk h2 hv hw⟩
theorem joins_mem{l k:List Pq}(hl:∀p∈l,PqIn n p)(hk:∀p∈k,PqIn n p)(h:∀p,p∈l↔p∈k):joinsM (freshM n) l=joinsM (freshM n) k:=
 xhx hl hk (λp hp=>xcl (Lab.fresh n) hk p ((h p).mp hp)) (λp hp=>xcl (Lab.fresh n) hl p ((h p).mpr hp))
theorem xhy:∀{l:List Pq} {u:List Int},Lab n u->(∀p∈l,PqIn n p)->x9h n u<=x9h n (joinsM u l)+l.length
 |[],_,_,_=>xl3 _
 |p::l,u,h,hp=>by
  have hq:=hp p (xl5 ..)
  have ih:=xhy (h.join hq) λq hq=>hp q (xl2 _ hq)
  have e:joinsM u (p::l)=joinsM (x8v u p) l:=rfl
  rw[e,xl6]
  by_cases c:Sm u p.a.toNat p.b.toNat
  .rw[xhv c]at ih ⊢;omega
  .have:=xfb h hq c;omega
theorem xhz:∀{l:List Pq} {u:List Int},Lab n u->(∀p∈l,PqIn n p)->x9h n (joinsM u l)+l.length<=x9h n u->Indep u l
 |[],_,_,_,_=>trivial
 |p::l,u,h,hp,hr=>by
  have hq:=hp p (xl5 ..)
  have hl:∀q∈l,PqIn n q:=λq hq=>hp q (xl2 _ hq)
  have e:joinsM u (p::l)=joinsM (x8v u p) l:=rfl
  rw[e,xl6]at hr
  by_cases c:Sm u p.a.toNat p.b.toNat
  .have:=xhy (h.join hq) hl
   rw[xhv c]at this hr
   omega
  .have:=xfb h hq c
   exact⟨c,xhz (h.join hq) hl (by omega)⟩
theorem For.perm(hP:∀p∈P,PqIn n p){F G:List Int}(h:For n P F)(hG:G.Nodup)(he:∀x,x∈F↔x∈G):For n P G:=by
 have hr:∀i∈G,0<=i/\i<P.length:=λi hi=>h.rng i ((he i).mpr hi)
 refine⟨hr,hG,xhz (Lab.fresh n) (x9q hP hr) ?_⟩
 have h1:=xdp (Lab.fresh n) (x9q hP h.rng) h.ind
 have h2:joinsM (freshM n) (prs P G)=joinsM (freshM n) (prs P F):=joins_mem (x9q hP hr) (x9q hP h.rng) λp=>by
  unfold prs
  rw[xlm,xlm]
  exact⟨λ⟨i,a,b⟩=>⟨i,(he i).mpr a,b⟩,λ⟨i,a,b⟩=>⟨i,(he i).mp a,b⟩⟩
 have h3:=same_len h.nod hG he
 rw[h2]
 have e1:(prs P F).length=F.length:=by unfold prs;simp
 have e2:(prs P G).length=G.length:=by unfold prs;simp
 omega
theorem For.sub(hP:∀p∈P,PqIn n p){F G:List Int}(h:For n P F)(hG:G.Nodup)(hs:∀x∈G,x∈F):For n P G:=by
 refine(h.perm (G:=G++F.filter λx=>!(G.contains x)) hP ?_ λx=>?_).take
 .rw[xmt]
  refine⟨hG,h.nod.filter _,λa ha b hb e=>?_⟩
  subst e
  have:=(xlg.mp hb).2
  simp at this
  exact this ha
 .rw[xm0,xlg]
  by_cases c:x∈G
  .simp[c,hs x c]
  .simp[c]
structure Tree (n:Nat) (P:List Pq) (F:List Int):Prop where
 fo:For n P F
 asc:Asc F
 all:∀p∈P,Sm (joinsM (freshM n) (prs P F)) p.a.toNat p.b.toNat
theorem mem_prs{F':List Int}(hr:∀i∈F',0<=i/\i<P.length):∀p∈prs P F',p∈P:=by
 intro p hp
 obtain⟨i,hi,rfl⟩:=xlm.mp hp
 have:=hr i hi
 have h2:i.toNat<P.length:=by omega
 unfold prAt
 rw[xld,xla h2]
 exact xln h2
theorem Tree.uni(hP:∀p∈P,PqIn n p){F:List Int}(h:Tree n P F):joinsM (freshM n) (prs P F)=joinsM (freshM n) P:=
 xhx (x9q hP h.fo.rng) hP (λp hp=>xcl (Lab.fresh n) hP p (mem_prs h.fo.rng p hp)) h.all
theorem Tree.len(hP:∀p∈P,PqIn n p){F:List Int}(h:Tree n P F):n=x9h n (joinsM (freshM n) P)+F.length:=by
 have:=xdp (Lab.fresh n) (x9q hP h.fo.rng) h.fo.ind
 rw[xhu,h.uni hP]at this
 have e:(prs P F).length=F.length:=by unfold prs;simp
 omega
theorem Ordd.split{f:Int->Int}{N:Nat}{L:List Int}(h:Ordd f N L)(c:Int):L=L.filter (λi=>decide (f i<=c))++L.filter (λi=>!decide (f i<=c)):=by
 refine h.one ⟨?_,λx=>?_⟩
 .rw[List.pairwise_append]
  refine⟨h.1.filter _,h.1.filter _,λa ha b hb=>?_⟩
  have h1:=(xlg.mp ha).2
  have h2:=(xlg.mp hb).2
  simp at h1 h2
  unfold lx
  omega
 .rw[<-h.2,xm0,xlg,xlg]
  cases decide (f x<=c)<;>simp
end Go.Ix
