import Derived.Test.YtjdlceelbnaneaaWg10
set_option linter.unusedSimpArgs false
set_option linter.unusedVariables false
namespace Go.Ix
variable{P:List Pq}
theorem xkd{u:List Int}{p:Pq}(h:at0 u p.a.toNat=at0 u p.b.toNat):xb3 u p=u:=by
 unfold xb3
 conv=>rhs;rw[<-List.map_id u]
 apply xr0
 intro x _
 show _=x
 rw[h]
 by_cases c:x=at0 u p.b.toNat
 .rw[xns (Or.inl c),c];unfold mn;simp
 .rw[xnt (by simp[c])]
theorem xhs{α:Type}{R:α->α->Prop}(hi:∀a,¬R a a)(ha:∀a b,R a b->R b a->False):∀{l k:List α},l.Pairwise R->k.Pairwise R->(∀x,x∈l↔x∈k)->l=k
 |[],[],_,_,_=>rfl
 |[],y::k,_,_,h=>by have:=(h y).mpr (xo2 ..);cases this
 |x::l,[],_,_,h=>by have:=(h x).mp (xo2 ..);cases this
 |x::l,y::k,h1,h2,h=>by
  rw[xq0]at h1 h2
  have e:x=y:=by
   rcases xo5.mp ((h x).mp (xo2 ..))with e|e
   .exact e
   .rcases xo5.mp ((h y).mpr (xo2 ..))with e2|e2
    .exact e2.symm
    .exact(ha _ _ (h2.1 x e) (h1.1 y e2)).elim
  subst e
  have:=xhs hi ha h1.2 h2.2 λz=>by
   constructor
   .intro hz
    rcases xo5.mp ((h z).mp (xnz _ hz))with e|e
    .rw[e]at hz;exact(hi _ (h1.1 _ hz)).elim
    .exact e
   .intro hz
    rcases xo5.mp ((h z).mpr (xnz _ hz))with e|e
    .rw[e]at hz;exact(hi _ (h2.1 _ hz)).elim
    .exact e
  rw[this]
def lx(f:Int->Int)(i j:Int):Prop:=f i<f j\/(f i=f j/\i<j)
theorem lx_irr{f:Int->Int}(i:Int):¬lx f i i:=by unfold lx;omega
theorem lx_asym{f:Int->Int}(i j:Int)(h:lx f i j)(h2:lx f j i):False:=by unfold lx at *;omega
def Ordd(f:Int->Int)(N:Nat)(L:List Int):Prop:=L.Pairwise (lx f)/\∀x,x∈L↔(0<=x/\x<N)
theorem Ordd.one{f:Int->Int}{N:Nat}{L K:List Int}(h:Ordd f N L)(k:Ordd f N K):L=K:=xhs lx_irr lx_asym h.1 k.1 λx=>(h.2 x).trans (k.2 x).symm
def Asc(F:List Int):Prop:=F.Pairwise (· < ·)
theorem Asc.one{F G:List Int}(h:Asc F)(k:Asc G)(e:∀x,x∈F↔x∈G):F=G:=xhs (λa=>by omega) (λa b=>by omega) h k e
theorem same_len{l k:List Int}(hl:l.Nodup)(hk:k.Nodup)(h:∀x,x∈l↔x∈k):l.length=k.length:=by
 have:=xhg hl λx hx=>(h x).mp hx
 have:=xhg hk λx hx=>(h x).mpr hx
 omega
theorem Asc.filter{F:List Int}(h:Asc F)(p:Int->Bool):Asc (F.filter p):=List.Pairwise.filter p h
variable{n:Nat}
theorem xke{t:List Int}{l:List Pq}(hl:∀p∈l,PqIn n p)(h:∀p∈l,Sm t p.a.toNat p.b.toNat){v w:Nat}(hv:v<n)(hw:w<n)(hs:Sm (joinsM (freshM n) l) v w):Sm t v w:=by
 refine xhq (R:=Sm t) (λh=>h.symm) (λh1 h2=>h1.trans h2) (Lab.fresh n) hl h (λa b ha hb e=>?_) v w hv hw hs
 unfold Sm at e
 rw[Lab.get_fresh ha,Lab.get_fresh hb]at e
 have:a=b:=by omega
 rw[this];rfl
theorem xkf{l k:List Pq}(hl:∀p∈l,PqIn n p)(hk:∀p∈k,PqIn n p)(h1:∀p∈l,Sm (joinsM (freshM n) k) p.a.toNat p.b.toNat)(h2:∀p∈k,Sm (joinsM (freshM n) l) p.a.toNat p.b.toNat):joinsM (freshM n) l=joinsM (freshM n) k:=
 ((Lab.fresh n).joins hl).ext ((Lab.fresh n).joins hk) λv w hv hw=>⟨xke hl h1 hv hw,xke hk h2 hv hw⟩
theorem joins_mem{l k:List Pq}(hl:∀p∈l,PqIn n p)(hk:∀p∈k,PqIn n p)(h:∀p,p∈l↔p∈k):joinsM (freshM n) l=joinsM (freshM n) k:=
 xkf hl hk (λp hp=>xf0 (Lab.fresh n) hk p ((h p).mp hp)) (λp hp=>xf0 (Lab.fresh n) hl p ((h p).mpr hp))
theorem xkg:∀{l:List Pq} {u:List Int},Lab n u->(∀p∈l,PqIn n p)->xbq n u<=xbq n (joinsM u l)+l.length
 |[],_,_,_=>xo0 _
 |p::l,u,h,hp=>by
  have hq:=hp p (xo2 ..)
  have ih:=xkg (h.join hq) λq hq=>hp q (xnz _ hq)
  have e:joinsM u (p::l)=joinsM (xb3 u p) l:=rfl
  rw[e,xo3]
  by_cases c:Sm u p.a.toNat p.b.toNat
  .rw[xkd c]at ih ⊢;omega
  .have:=xhr h hq c;omega
theorem xkh:∀{l:List Pq} {u:List Int},Lab n u->(∀p∈l,PqIn n p)->xbq n (joinsM u l)+l.length<=xbq n u->Indep u l
 |[],_,_,_,_=>trivial
 |p::l,u,h,hp,hr=>by
  have hq:=hp p (xo2 ..)
  have hl:∀q∈l,PqIn n q:=λq hq=>hp q (xnz _ hq)
  have e:joinsM u (p::l)=joinsM (xb3 u p) l:=rfl
  rw[e,xo3]at hr
  by_cases c:Sm u p.a.toNat p.b.toNat
  .have:=xkg (h.join hq) hl
   rw[xkd c]at this hr
   omega
  .have:=xhr h hq c
   exact⟨c,xkh (h.join hq) hl (by omega)⟩
theorem For.perm(hP:∀p∈P,PqIn n p){F G:List Int}(h:For n P F)(hG:G.Nodup)(he:∀x,x∈F↔x∈G):For n P G:=by
 have hr:∀i∈G,0<=i/\i<P.length:=λi hi=>h.rng i ((he i).mpr hi)
 refine⟨hr,hG,xkh (Lab.fresh n) (xc1 hP hr) ?_⟩
 have h1:=xg7 (Lab.fresh n) (xc1 hP h.rng) h.ind
 have h2:joinsM (freshM n) (prs P G)=joinsM (freshM n) (prs P F):=joins_mem (xc1 hP hr) (xc1 hP h.rng) λp=>by
  unfold prs
  rw[xoj,xoj]
  exact⟨λ⟨i,a,b⟩=>⟨i,(he i).mpr a,b⟩,λ⟨i,a,b⟩=>⟨i,(he i).mp a,b⟩⟩
 have h3:=same_len h.nod hG he
 rw[h2]
 have e1:(prs P F).length=F.length:=by unfold prs;simp
 have e2:(prs P G).length=G.length:=by unfold prs;simp
 omega
theorem For.sub(hP:∀p∈P,PqIn n p){F G:List Int}(h:For n P F)(hG:G.Nodup)(hs:∀x∈G,x∈F):For n P G:=by
 refine(h.perm (G:=G++F.filter λx=>!(G.contains x)) hP ?_ λx=>?_).take
 .rw[xps]
  refine⟨hG,h.nod.filter _,λa ha b hb e=>?_⟩
  subst e
  have:=(xod.mp hb).2
  simp at this
  exact this ha
 .rw[xoy,xod]
  by_cases c:x∈G
  .simp[c,hs x c]
  .simp[c]
structure Tree (n:Nat) (P:List Pq) (F:List Int):Prop where
 fo:For n P F
 asc:Asc F
 all:∀p∈P,Sm (joinsM (freshM n) (prs P F)) p.a.toNat p.b.toNat
theorem mem_prs{F':List Int}(hr:∀i∈F',0<=i/\i<P.length):∀p∈prs P F',p∈P:=by
 intro p hp
 obtain⟨i,hi,rfl⟩:=xoj.mp hp
 have:=hr i hi
 have h2:i.toNat<P.length:=by omega
 unfold prAt
 rw[xoa,xo8 h2]
 exact xol h2
theorem Tree.uni(hP:∀p∈P,PqIn n p){F:List Int}(h:Tree n P F):joinsM (freshM n) (prs P F)=joinsM (freshM n) P:=
 xkf (xc1 hP h.fo.rng) hP (λp hp=>xf0 (Lab.fresh n) hP p (mem_prs h.fo.rng p hp)) h.all
theorem Tree.len(hP:∀p∈P,PqIn n p){F:List Int}(h:Tree n P F):n=xbq n (joinsM (freshM n) P)+F.length:=by
 have:=xg7 (Lab.fresh n) (xc1 hP h.fo.rng) h.fo.ind
 rw[xkc,h.uni hP]at this
 have e:(prs P F).length=F.length:=by unfold prs;simp
 omega
theorem Ordd.split{f:Int->Int}{N:Nat}{L:List Int}(h:Ordd f N L)(c:Int):L=L.filter (λi=>decide (f i<=c))++L.filter (λi=>!decide (f i<=c)):=by
 refine h.one ⟨?_,λx=>?_⟩
 .rw[List.pairwise_append]
  refine⟨h.1.filter _,h.1.filter _,λa ha b hb=>?_⟩
  have h1:=(xod.mp ha).2
  have h2:=(xod.mp hb).2
  simp at h1 h2
  unfold lx
  omega
 .rw[<-h.2,xoy,xod,xod]
  cases decide (f x<=c)<;>simp
end Go.Ix
