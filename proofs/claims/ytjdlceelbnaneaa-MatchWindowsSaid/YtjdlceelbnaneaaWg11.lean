import Derived.Test.YtjdlceelbnaneaaWg10
set_option linter.unusedSimpArgs false
set_option linter.unusedVariables false
namespace Go.Ix
variable{P:List Pq}
theorem xgu{u:List Int}{p:Pq}(h:at0 u p.a.toNat=at0 u p.b.toNat):x84 u p=u:=by
 unfold x84
 conv=>rhs;rw[<-List.map_id u]
 apply xme
 intro x _
 show _=x
 rw[h]
 by_cases c:x=at0 u p.b.toNat
 .rw[xjr (Or.inl c),c];unfold mn;simp
 .rw[xjs (by simp[c])]
theorem xea{α:Type}{R:α->α->Prop}(hi:∀a,¬R a a)(ha:∀a b,R a b->R b a->False):∀{l k:List α},l.Pairwise R->k.Pairwise R->(∀x,x∈l↔x∈k)->l=k
 |[],[],_,_,_=>rfl
 |[],y::k,_,_,h=>by have:=(h y).mpr (xk1 ..);cases this
 |x::l,[],_,_,h=>by have:=(h x).mp (xk1 ..);cases this
 |x::l,y::k,h1,h2,h=>by
  rw[xlu]at h1 h2
  have e:x=y:=by
   rcases xk4.mp ((h x).mp (xk1 ..))with e|e
   .exact e
   .rcases xk4.mp ((h y).mpr (xk1 ..))with e2|e2
    .exact e2.symm
    .exact(ha _ _ (h2.1 x e) (h1.1 y e2)).elim
  subst e
  have:=xea hi ha h1.2 h2.2 λz=>by
   constructor
   .intro hz
    rcases xk4.mp ((h z).mp (xjy _ hz))with e|e
    .rw[e]at hz;exact(hi _ (h1.1 _ hz)).elim
    .exact e
   .intro hz
    rcases xk4.mp ((h z).mpr (xjy _ hz))with e|e
    .rw[e]at hz;exact(hi _ (h2.1 _ hz)).elim
    .exact e
  rw[this]
def lx(f:Int->Int)(i j:Int):Prop:=f i<f j\/(f i=f j/\i<j)
theorem lx_irr{f:Int->Int}(i:Int):¬lx f i i:=by unfold lx;omega
theorem lx_asym{f:Int->Int}(i j:Int)(h:lx f i j)(h2:lx f j i):False:=by unfold lx at *;omega
def Ordd(f:Int->Int)(N:Nat)(L:List Int):Prop:=L.Pairwise (lx f)/\∀x,x∈L↔(0<=x/\x<N)
theorem Ordd.one{f:Int->Int}{N:Nat}{L K:List Int}(h:Ordd f N L)(k:Ordd f N K):L=K:=xea lx_irr lx_asym h.1 k.1 λx=>(h.2 x).trans (k.2 x).symm
def Asc(F:List Int):Prop:=F.Pairwise (· < ·)
theorem Asc.one{F G:List Int}(h:Asc F)(k:Asc G)(e:∀x,x∈F↔x∈G):F=G:=xea (λa=>by omega) (λa b=>by omega) h k e
theorem same_len{l k:List Int}(hl:l.Nodup)(hk:k.Nodup)(h:∀x,x∈l↔x∈k):l.length=k.length:=by
 have:=xdz hl λx hx=>(h x).mp hx
 have:=xdz hk λx hx=>(h x).mpr hx
 omega
theorem Asc.filter{F:List Int}(h:Asc F)(p:Int->Bool):Asc (F.filter p):=List.Pairwise.filter p h
variable{n:Nat}
theorem xgv{t:List Int}{l:List Pq}(hl:∀p∈l,PqIn n p)(h:∀p∈l,Sm t p.a.toNat p.b.toNat){v w:Nat}(hv:v<n)(hw:w<n)(hs:Sm (joinsM (freshM n) l) v w):Sm t v w:=by
 refine xe8 (R:=Sm t) (λh=>h.symm) (λh1 h2=>h1.trans h2) (Lab.fresh n) hl h (λa b ha hb e=>?_) v w hv hw hs
 unfold Sm at e
 rw[Lab.get_fresh ha,Lab.get_fresh hb]at e
 have:a=b:=by omega
 rw[this];rfl
theorem xgw{l k:List Pq}(hl:∀p∈l,PqIn n p)(hk:∀p∈k,PqIn n p)(h1:∀p∈l,Sm (joinsM (freshM n) k) p.a.toNat p.b.toNat)(h2:∀p∈k,Sm (joinsM (freshM n) l) p.a.toNat p.b.toNat):joinsM (freshM n) l=joinsM (freshM n) k:=
 ((Lab.fresh n).joins hl).ext ((Lab.fresh n).joins hk) λv w hv hw=>⟨xgv hl h1 hv hw,xgv hk h2 hv hw⟩
theorem joins_mem{l k:List Pq}(hl:∀p∈l,PqIn n p)(hk:∀p∈k,PqIn n p)(h:∀p,p∈l↔p∈k):joinsM (freshM n) l=joinsM (freshM n) k:=
 xgw hl hk (λp hp=>xbp (Lab.fresh n) hk p ((h p).mp hp)) (λp hp=>xbp (Lab.fresh n) hl p ((h p).mpr hp))
theorem xgx:∀{l:List Pq} {u:List Int},Lab n u->(∀p∈l,PqIn n p)->x8o n u<=x8o n (joinsM u l)+l.length
 |[],_,_,_=>xjz _
 |p::l,u,h,hp=>by
  have hq:=hp p (xk1 ..)
  have ih:=xgx (h.join hq) λq hq=>hp q (xjy _ hq)
  have e:joinsM u (p::l)=joinsM (x84 u p) l:=rfl
  rw[e,xk9]
  by_cases c:Sm u p.a.toNat p.b.toNat
  .rw[xgu c]at ih ⊢;omega
  .have:=xe9 h hq c;omega
theorem xgy:∀{l:List Pq} {u:List Int},Lab n u->(∀p∈l,PqIn n p)->x8o n (joinsM u l)+l.length<=x8o n u->Indep u l
 |[],_,_,_,_=>trivial
 |p::l,u,h,hp,hr=>by
  have hq:=hp p (xk1 ..)
  have hl:∀q∈l,PqIn n q:=λq hq=>hp q (xjy _ hq)
  have e:joinsM u (p::l)=joinsM (x84 u p) l:=rfl
  rw[e,xk9]at hr
  by_cases c:Sm u p.a.toNat p.b.toNat
  .have:=xgx (h.join hq) hl
   rw[xgu c]at this hr
   omega
  .have:=xe9 h hq c
   exact⟨c,xgy (h.join hq) hl (by omega)⟩
theorem For.perm(hP:∀p∈P,PqIn n p){F G:List Int}(h:For n P F)(hG:G.Nodup)(he:∀x,x∈F↔x∈G):For n P G:=by
 have hr:∀i∈G,0<=i/\i<P.length:=λi hi=>h.rng i ((he i).mpr hi)
 refine⟨hr,hG,xgy (Lab.fresh n) (x8z hP hr) ?_⟩
 have h1:=xcp (Lab.fresh n) (x8z hP h.rng) h.ind
 have h2:joinsM (freshM n) (prs P G)=joinsM (freshM n) (prs P F):=joins_mem (x8z hP hr) (x8z hP h.rng) λp=>by
  unfold prs
  rw[xkj,xkj]
  exact⟨λ⟨i,a,b⟩=>⟨i,(he i).mpr a,b⟩,λ⟨i,a,b⟩=>⟨i,(he i).mp a,b⟩⟩
 have h3:=same_len h.nod hG he
 rw[h2]
 have e1:(prs P F).length=F.length:=by unfold prs;simp
 have e2:(prs P G).length=G.length:=by unfold prs;simp
 omega
theorem For.sub(hP:∀p∈P,PqIn n p){F G:List Int}(h:For n P F)(hG:G.Nodup)(hs:∀x∈G,x∈F):For n P G:=by
 refine(h.perm (G:=G++F.filter λx=>!(G.contains x)) hP ?_ λx=>?_).take
 .rw[xlm]
  refine⟨hG,h.nod.filter _,λa ha b hb e=>?_⟩
  subst e
  have:=(xkc.mp hb).2
  simp at this
  exact this ha
 .rw[xl1,xkc]
  by_cases c:x∈G
  .simp[c,hs x c]
  .simp[c]
structure Tree (n:Nat) (P:List Pq) (F:List Int):Prop where
 fo:For n P F
 asc:Asc F
 all:∀p∈P,Sm (joinsM (freshM n) (prs P F)) p.a.toNat p.b.toNat
theorem mem_prs{F':List Int}(hr:∀i∈F',0<=i/\i<P.length):∀p∈prs P F',p∈P:=by
 intro p hp
 obtain⟨i,hi,rfl⟩:=xkj.mp hp
 have:=hr i hi
 have h2:i.toNat<P.length:=by omega
 unfold prAt
 rw[xka,xk6 h2]
 exact xks h2
theorem Tree.uni(hP:∀p∈P,PqIn n p){F:List Int}(h:Tree n P F):joinsM (freshM n) (prs P F)=joinsM (freshM n) P:=
 xgw (x8z hP h.fo.rng) hP (λp hp=>xbp (Lab.fresh n) hP p (mem_prs h.fo.rng p hp)) h.all
theorem Tree.len(hP:∀p∈P,PqIn n p){F:List Int}(h:Tree n P F):n=x8o n (joinsM (freshM n) P)+F.length:=by
 have:=xcp (Lab.fresh n) (x8z hP h.fo.rng) h.fo.ind
 rw[xgt,h.uni hP]at this
 have e:(prs P F).length=F.length:=by unfold prs;simp
 omega
theorem Ordd.split{f:Int->Int}{N:Nat}{L:List Int}(h:Ordd f N L)(c:Int):L=L.filter (λi=>decide (f i<=c))++L.filter (λi=>!decide (f i<=c)):=by
 refine h.one ⟨?_,λx=>?_⟩
 .rw[List.pairwise_append]
  refine⟨h.1.filter _,h.1.filter _,λa ha b hb=>?_⟩
  have h1:=(xkc.mp ha).2
  have h2:=(xkc.mp hb).2
  simp at h1 h2
  unfold lx
  omega
 .rw[<-h.2,xl1,xkc,xkc]
  cases decide (f x<=c)<;>simp
end Go.Ix
