import Derived.Test.YtpeakdjfagbpcaaGreatWg3
set_option linter.unusedSimpArgs false
set_option linter.unusedVariables false
namespace Go.Ix
variable{P:List Pq}
theorem x2pr{u:List Int}{p:Pq}(h:at0 u p.a.toNat=at0 u p.b.toNat):x2f3 u p=u:=by
 unfold x2f3
 conv=>rhs;rw[<-List.map_id u]
 apply List.map_congr_left
 intro x _
 show _=x
 rw[h]
 by_cases c:x=at0 u p.b.toNat
 .rw[if_pos (Or.inl c),c];unfold mn;simp
 .rw[if_neg (by simp[c])]
theorem x2nh{α:Type}{R:α->α->Prop}(hi:∀a,¬R a a)(ha:∀a b,R a b->R b a->False):∀{l k:List α},l.Pairwise R->k.Pairwise R->(∀x,x∈l↔x∈k)->l=k
 |[],[],_,_,_=>rfl
 |[],y::k,_,_,h=>by have:=(h y).mpr (List.mem_cons_self ..);cases this
 |x::l,[],_,_,h=>by have:=(h x).mp (List.mem_cons_self ..);cases this
 |x::l,y::k,h1,h2,h=>by
  rw[List.pairwise_cons]at h1 h2
  have e:x=y:=by
   rcases List.mem_cons.mp ((h x).mp (List.mem_cons_self ..))with e|e
   .exact e
   .rcases List.mem_cons.mp ((h y).mpr (List.mem_cons_self ..))with e2|e2
    .exact e2.symm
    .exact(ha _ _ (h2.1 x e) (h1.1 y e2)).elim
  subst e
  have:=x2nh hi ha h1.2 h2.2 fun z=>by
   constructor
   .intro hz
    rcases List.mem_cons.mp ((h z).mp (List.mem_cons_of_mem _ hz))with e|e
    .rw[e]at hz;exact(hi _ (h1.1 _ hz)).elim
    .exact e
   .intro hz
    rcases List.mem_cons.mp ((h z).mpr (List.mem_cons_of_mem _ hz))with e|e
    .rw[e]at hz;exact(hi _ (h2.1 _ hz)).elim
    .exact e
  rw[this]
theorem x2ps{α:Type}{R:α->α->Prop}(hi:∀a,¬R a a){l:List α}(h:l.Pairwise R):l.Nodup:=List.Pairwise.imp (S:=fun a b=>a≠b) (fun{a b} hr (e:a=b)=>hi a (by rw[<-e]at hr;exact hr)) h
def lx(f:Int->Int)(i j:Int):Prop:=f i<f j\/(f i=f j/\i<j)
theorem lx_irr{f:Int->Int}(i:Int):¬lx f i i:=by unfold lx;omega
theorem lx_asym{f:Int->Int}(i j:Int)(h:lx f i j)(h2:lx f j i):False:=by unfold lx at *;omega
theorem lx_trans{f:Int->Int}{i j k:Int}(h:lx f i j)(h2:lx f j k):lx f i k:=by unfold lx at *;omega
theorem lx_tot{f:Int->Int}{i j:Int}(h:i≠j):lx f i j\/lx f j i:=by unfold lx;omega
def Ordd(f:Int->Int)(N:Nat)(L:List Int):Prop:=L.Pairwise (lx f)/\∀x,x∈L↔(0<=x/\x<N)
theorem Ordd.one{f:Int->Int}{N:Nat}{L K:List Int}(h:Ordd f N L)(k:Ordd f N K):L=K:=x2nh lx_irr lx_asym h.1 k.1 fun x=>(h.2 x).trans (k.2 x).symm
theorem Ordd.nodup{f:Int->Int}{N:Nat}{L:List Int}(h:Ordd f N L):L.Nodup:=x2ps lx_irr h.1
def Asc(F:List Int):Prop:=F.Pairwise (· < ·)
theorem Asc.one{F G:List Int}(h:Asc F)(k:Asc G)(e:∀x,x∈F↔x∈G):F=G:=x2nh (fun a=>by omega) (fun a b=>by omega) h k e
theorem Asc.nodup{F:List Int}(h:Asc F):F.Nodup:=x2ps (fun a=>by omega) h
theorem x2pt{l k:List Int}(hl:l.Nodup)(hk:k.Nodup)(h:∀x,x∈l↔x∈k):l.length=k.length:=by
 have:=x2ph hl fun x hx=>(h x).mp hx
 have:=x2ph hk fun x hx=>(h x).mpr hx
 omega
theorem fresh_mem{N:Nat}{x:Int}:x∈freshM N↔(0<=x/\x<N):=by
 unfold freshM
 rw[List.mem_map]
 constructor
 .rintro⟨i,hi,rfl⟩
  have:=List.mem_range.mp hi
  omega
 .rintro⟨h0,h1⟩
  exact⟨x.toNat,List.mem_range.mpr (by omega),by omega⟩
theorem x2pu(N:Nat):Asc (freshM N):=by
 unfold Asc freshM
 rw[List.pairwise_map]
 exact List.pairwise_lt_range.imp fun h=>by omega
theorem Asc.filter{F:List Int}(h:Asc F)(p:Int->Bool):Asc (F.filter p):=List.Pairwise.filter p h
variable{n:Nat}
theorem x2pv{t:List Int}{l:List Pq}(hl:∀p∈l,PqIn n p)(h:∀p∈l,Sm t p.a.toNat p.b.toNat){v w:Nat}(hv:v<n)(hw:w<n)(hs:Sm (joinsM (freshM n) l) v w):Sm t v w:=by
 refine x2pp (R:=Sm t) (fun h=>h.symm) (fun h1 h2=>h1.trans h2) (Lab.fresh n) hl h (fun a b ha hb e=>?_) v w hv hw hs
 unfold Sm at e
 rw[Lab.get_fresh ha,Lab.get_fresh hb]at e
 have:a=b:=by omega
 rw[this];rfl
theorem x2pw{l k:List Pq}(hl:∀p∈l,PqIn n p)(hk:∀p∈k,PqIn n p)(h1:∀p∈l,Sm (joinsM (freshM n) k) p.a.toNat p.b.toNat)(h2:∀p∈k,Sm (joinsM (freshM n) l) p.a.toNat p.b.toNat):joinsM (freshM n) l=joinsM (freshM n) k:=
 ((Lab.fresh n).joins hl).ext ((Lab.fresh n).joins hk) fun v w hv hw=>⟨x2pv hl h1 hv hw,x2pv hk h2 hv hw⟩
theorem joins_mem{l k:List Pq}(hl:∀p∈l,PqIn n p)(hk:∀p∈k,PqIn n p)(h:∀p,p∈l↔p∈k):joinsM (freshM n) l=joinsM (freshM n) k:=
 x2pw hl hk (fun p hp=>x2l2 (Lab.fresh n) hk p ((h p).mp hp)) (fun p hp=>x2l2 (Lab.fresh n) hl p ((h p).mpr hp))
theorem x2px:∀{l:List Pq} {u:List Int},Lab n u->(∀p∈l,PqIn n p)->x2gv n u<=x2gv n (joinsM u l)+l.length
 |[],_,_,_=>Nat.le_refl _
 |p::l,u,h,hp=>by
  have hq:=hp p (List.mem_cons_self ..)
  have ih:=x2px (h.join hq) fun q hq=>hp q (List.mem_cons_of_mem _ hq)
  have e:joinsM u (p::l)=joinsM (x2f3 u p) l:=rfl
  rw[e,List.length_cons]
  by_cases c:Sm u p.a.toNat p.b.toNat
  .rw[x2pr c]at ih ⊢;omega
  .have:=x2nf h hq c;omega
theorem x2py:∀{l:List Pq} {u:List Int},Lab n u->(∀p∈l,PqIn n p)->x2gv n (joinsM u l)+l.length<=x2gv n u->Indep u l
 |[],_,_,_,_=>trivial
 |p::l,u,h,hp,hr=>by
  have hq:=hp p (List.mem_cons_self ..)
  have hl:∀q∈l,PqIn n q:=fun q hq=>hp q (List.mem_cons_of_mem _ hq)
  have e:joinsM u (p::l)=joinsM (x2f3 u p) l:=rfl
  rw[e,List.length_cons]at hr
  by_cases c:Sm u p.a.toNat p.b.toNat
  .have:=x2px (h.join hq) hl
   rw[x2pr c]at this hr
   omega
  .have:=x2nf h hq c
   exact⟨c,x2py (h.join hq) hl (by omega)⟩
theorem For.perm(hP:∀p∈P,PqIn n p){F G:List Int}(h:For n P F)(hG:G.Nodup)(he:∀x,x∈F↔x∈G):For n P G:=by
 have hr:∀i∈G,0<=i/\i<P.length:=fun i hi=>h.rng i ((he i).mpr hi)
 refine⟨hr,hG,x2py (Lab.fresh n) (x2ic hP hr) ?_⟩
 have h1:=x2lw (Lab.fresh n) (x2ic hP h.rng) h.ind
 have h2:joinsM (freshM n) (prs P G)=joinsM (freshM n) (prs P F):=joins_mem (x2ic hP hr) (x2ic hP h.rng) fun p=>by
  unfold prs
  rw[List.mem_map,List.mem_map]
  exact⟨fun⟨i,a,b⟩=>⟨i,(he i).mpr a,b⟩,fun⟨i,a,b⟩=>⟨i,(he i).mp a,b⟩⟩
 have h3:=x2pt h.nod hG he
 rw[h2]
 have e1:(prs P F).length=F.length:=by unfold prs;simp
 have e2:(prs P G).length=G.length:=by unfold prs;simp
 omega
theorem For.sub(hP:∀p∈P,PqIn n p){F G:List Int}(h:For n P F)(hG:G.Nodup)(hs:∀x∈G,x∈F):For n P G:=by
 refine(h.perm (G:=G++F.filter fun x=>!(G.contains x)) hP ?_ fun x=>?_).take
 .rw[List.nodup_append]
  refine⟨hG,h.nod.filter _,fun a ha b hb e=>?_⟩
  subst e
  have:=(List.mem_filter.mp hb).2
  simp at this
  exact this ha
 .rw[List.mem_append,List.mem_filter]
  by_cases c:x∈G
  .simp[c,hs x c]
  .simp[c]
theorem prs_fresh:prs P (freshM P.length)=P:=by
 apply List.ext_getElem
 .simp[prs,freshM]
 .intro k h1 h2
  have h3:k<P.length:=h2
  simp[prs,freshM,prAt,List.getD_eq_getElem?_getD,h3]
structure Tree (n:Nat) (P:List Pq) (F:List Int):Prop where
 fo:For n P F
 asc:Asc F
 all:∀p∈P,Sm (joinsM (freshM n) (prs P F)) p.a.toNat p.b.toNat
theorem mem_prs{F':List Int}(hr:∀i∈F',0<=i/\i<P.length):∀p∈prs P F',p∈P:=by
 intro p hp
 obtain⟨i,hi,rfl⟩:=List.mem_map.mp hp
 have:=hr i hi
 have h2:i.toNat<P.length:=by omega
 unfold prAt
 rw[List.getD_eq_getElem?_getD,List.getElem?_eq_getElem h2]
 exact List.getElem_mem h2
theorem Tree.uni(hP:∀p∈P,PqIn n p){F:List Int}(h:Tree n P F):joinsM (freshM n) (prs P F)=joinsM (freshM n) P:=
 x2pw (x2ic hP h.fo.rng) hP (fun p hp=>x2l2 (Lab.fresh n) hP p (mem_prs h.fo.rng p hp)) h.all
theorem Tree.len(hP:∀p∈P,PqIn n p){F:List Int}(h:Tree n P F):n=x2gv n (joinsM (freshM n) P)+F.length:=by
 have:=x2lw (Lab.fresh n) (x2ic hP h.fo.rng) h.fo.ind
 rw[x2pq,h.uni hP]at this
 have e:(prs P F).length=F.length:=by unfold prs;simp
 omega
def insM(f:Int->Int)(x:Int):List Int->List Int
 |[]=>[x]
 |y::r=>if f x<f y\/(f x=f y/\x<y)then x::y::r else y::insM f x r
theorem ins_mem{f:Int->Int}{x z:Int}:∀{l:List Int},z∈insM f x l↔z=x\/z∈l
 |[]=>by simp[insM]
 |y::r=>by
  rw[insM]
  split
  .simp
  .rw[List.mem_cons,ins_mem,List.mem_cons]
   constructor
   .rintro(h|h|h)<;>simp[h]
   .rintro(h|h|h)<;>simp[h]
theorem ins_srt{f:Int->Int}{x:Int}:∀{l:List Int},l.Pairwise (lx f)->x∉l->(insM f x l).Pairwise (lx f)
 |[],_,_=>by simp[insM]
 |y::r,h,hx=>by
  rw[insM]
  rw[List.pairwise_cons]at h
  split
  .rename_i c
   rw[List.pairwise_cons]
   refine⟨fun z hz=>?_,List.pairwise_cons.mpr h⟩
   rcases List.mem_cons.mp hz with rfl|hz
   .exact c
   .exact lx_trans c (h.1 z hz)
  .rename_i c
   rw[List.pairwise_cons]
   refine⟨fun z hz=>?_,ins_srt h.2 fun hm=>hx (List.mem_cons_of_mem _ hm)⟩
   rcases ins_mem.mp hz with rfl|hz
   .rcases lx_tot (f:=f) (i:=z) (j:=y) (fun e=>hx (by rw[e];exact List.mem_cons_self ..))with e|e
    .exact absurd e c
    .exact e
   .exact h.1 z hz
def ordM(f:Int->Int)(N:Nat):List Int:=(freshM N).foldr (insM f) []
theorem x2ly(f:Int->Int)(N:Nat):Ordd f N (ordM f N):=by
 have main:∀l:List Int,l.Nodup->(l.foldr (insM f) []).Pairwise (lx f)/\∀x,x∈l.foldr (insM f) []↔x∈l:=by
  intro l
  induction l with
  |nil=>intro _;simp
  |cons y r ih=>
   intro h
   rw[List.nodup_cons]at h
   obtain⟨h1,h2⟩:=ih h.2
   rw[List.foldr_cons]
   exact⟨ins_srt h1 fun hm=>h.1 ((h2 y).mp hm),fun x=>by rw[ins_mem,h2,List.mem_cons]⟩
 obtain⟨h1,h2⟩:=main (freshM N) (x2pu N).nodup
 exact⟨h1,fun x=>(h2 x).trans fresh_mem⟩
theorem Ordd.split{f:Int->Int}{N:Nat}{L:List Int}(h:Ordd f N L)(c:Int):L=L.filter (fun i=>decide (f i<=c))++L.filter (fun i=>!decide (f i<=c)):=by
 refine h.one ⟨?_,fun x=>?_⟩
 .rw[List.pairwise_append]
  refine⟨h.1.filter _,h.1.filter _,fun a ha b hb=>?_⟩
  have h1:=(List.mem_filter.mp ha).2
  have h2:=(List.mem_filter.mp hb).2
  simp at h1 h2
  unfold lx
  omega
 .rw[<-h.2,List.mem_append,List.mem_filter,List.mem_filter]
  cases decide (f x<=c)<;>simp
open Go.Proofs
def InN(n:Nat)(L:List Int):Prop:=∀x∈L,0<=x/\x<n
theorem InN.get{n:Nat}{L:List Int}(h:InN n L){k:Nat}(hk:k<L.length):0<=at0 L k/\at0 L k<n:=by rw[x2fa hk];exact h _ (List.getElem_mem hk)
theorem InN.set{n:Nat}{L:List Int}(h:InN n L){k:Nat}{x:Int}(hx:0<=x/\x<n):InN n (L.set k x):=fun y hy=>by
 rcases List.mem_or_eq_of_mem_set hy with hy|rfl
 .exact h y hy
 .exact hx
end Go.Ix
