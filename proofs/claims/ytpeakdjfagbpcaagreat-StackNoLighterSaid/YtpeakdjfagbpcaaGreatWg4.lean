import Derived.Test.YtpeakdjfagbpcaaGreatWg3
set_option linter.unusedSimpArgs false
set_option linter.unusedVariables false
namespace Go.Ix
variable{P:List Pq}
theorem x2o5{u:List Int}{p:Pq}(h:at0 u p.a.toNat=at0 u p.b.toNat):x2gx u p=u:=by
 unfold x2gx
 conv=>rhs;rw[<-List.map_id u]
 apply List.map_congr_left
 intro x _
 show _=x
 rw[h]
 by_cases c:x=at0 u p.b.toNat
 .rw[if_pos (Or.inl c),c];unfold mn;simp
 .rw[if_neg (by simp[c])]
def x2gv(P:List Pq):List Int->List Int->List Int
 |_,[]=>[]
 |u,i::r=>if at0 u (prAt P i).a.toNat=at0 u (prAt P i).b.toNat then x2gv P u r else i::x2gv P (x2gx u (prAt P i)) r
theorem x2o6:∀(l u:List Int),joinsM u (prs P (x2gv P u l))=joinsM u (prs P l)
 |[],_=>rfl
 |i::r,u=>by
  rw[x2gv]
  by_cases c:at0 u (prAt P i).a.toNat=at0 u (prAt P i).b.toNat
  .rw[if_pos c,x2o6 r u]
   show _=joinsM (x2gx u (prAt P i)) (prs P r)
   rw[x2o5 c]
  .rw[if_neg c]
   exact x2o6 r (x2gx u (prAt P i))
theorem x2o7:∀(l u:List Int),Indep u (prs P (x2gv P u l))
 |[],_=>trivial
 |i::r,u=>by
  rw[x2gv]
  by_cases c:at0 u (prAt P i).a.toNat=at0 u (prAt P i).b.toNat
  .rw[if_pos c];exact x2o7 r u
  .rw[if_neg c];exact⟨c,x2o7 r _⟩
theorem x2kn:∀(l u:List Int),(x2gv P u l).Sublist l
 |[],_=>List.Sublist.slnil
 |i::r,u=>by
  rw[x2gv]
  by_cases c:at0 u (prAt P i).a.toNat=at0 u (prAt P i).b.toNat
  .rw[if_pos c];exact(x2kn r u).cons i
  .rw[if_neg c];exact(x2kn r _).cons_cons i
theorem x2o8:∀(l k u:List Int),x2gv P u (l++k)=x2gv P u l++x2gv P (joinsM u (prs P l)) k
 |[],_,_=>rfl
 |i::r,k,u=>by
  rw[List.cons_append,x2gv,x2gv]
  by_cases c:at0 u (prAt P i).a.toNat=at0 u (prAt P i).b.toNat
  .rw[if_pos c,if_pos c,x2o8 r k u]
   show _=x2gv P u r++x2gv P (joinsM (x2gx u (prAt P i)) (prs P r)) k
   rw[x2o5 c]
  .rw[if_neg c,if_neg c,x2o8 r k _]
   rfl
theorem take_one(l u:List Int)(i:Int):x2gv P u (l++[i])=x2gv P u l++(if at0 (joinsM u (prs P l)) (prAt P i).a.toNat=at0 (joinsM u (prs P l)) (prAt P i).b.toNat then[]else[i]):=by
 rw[x2o8]
 congr 1
theorem x2q0{α:Type}{R:α->α->Prop}(hi:∀a,¬R a a)(ha:∀a b,R a b->R b a->False):∀{l k:List α},l.Pairwise R->k.Pairwise R->(∀x,x∈l↔x∈k)->l=k
 |[],[],_,_,_=>rfl
 |[],y::k,_,_,h=>by have:=(h y).mpr (List.mem_cons_self ..);cases this
 |x::l,[],_,_,h=>by have:=(h x).mp (List.mem_cons_self ..);cases this
 |x::l,y::k,h1,h2,h=>by
  rw[List.pairwise_cons]at h1 h2
  have e:x=y:=by
   rcases List.mem_cons.mp ((h x).mp (List.mem_cons_self ..))with e|e
   .exact e
   .rcases List.mem_cons.mp ((h y).mpr (List.mem_cons_self ..))with e2|e2
    .exact e2.symm
    .exact(ha _ _ (h2.1 x e) (h1.1 y e2)).elim
  subst e
  have:=x2q0 hi ha h1.2 h2.2 fun z=>by
   constructor
   .intro hz
    rcases List.mem_cons.mp ((h z).mp (List.mem_cons_of_mem _ hz))with e|e
    .rw[e]at hz;exact(hi _ (h1.1 _ hz)).elim
    .exact e
   .intro hz
    rcases List.mem_cons.mp ((h z).mpr (List.mem_cons_of_mem _ hz))with e|e
    .rw[e]at hz;exact(hi _ (h2.1 _ hz)).elim
    .exact e
  rw[this]
theorem x2se{α:Type}{R:α->α->Prop}(hi:∀a,¬R a a){l:List α}(h:l.Pairwise R):l.Nodup:=List.Pairwise.imp (S:=fun a b=>a≠b) (fun{a b} hr (e:a=b)=>hi a (by rw[<-e]at hr;exact hr)) h
def lx(f:Int->Int)(i j:Int):Prop:=f i<f j\/(f i=f j/\i<j)
theorem lx_irr{f:Int->Int}(i:Int):¬lx f i i:=by unfold lx;omega
theorem lx_asym{f:Int->Int}(i j:Int)(h:lx f i j)(h2:lx f j i):False:=by unfold lx at *;omega
theorem x2sf{f:Int->Int}{i j k:Int}(h:lx f i j)(h2:lx f j k):lx f i k:=by unfold lx at *;omega
theorem lx_tot{f:Int->Int}{i j:Int}(h:i≠j):lx f i j\/lx f j i:=by unfold lx;omega
def Ordd(f:Int->Int)(N:Nat)(L:List Int):Prop:=L.Pairwise (lx f)/\∀x,x∈L↔(0<=x/\x<N)
theorem Ordd.one{f:Int->Int}{N:Nat}{L K:List Int}(h:Ordd f N L)(k:Ordd f N K):L=K:=x2q0 lx_irr lx_asym h.1 k.1 fun x=>(h.2 x).trans (k.2 x).symm
theorem Ordd.nodup{f:Int->Int}{N:Nat}{L:List Int}(h:Ordd f N L):L.Nodup:=x2se lx_irr h.1
def Asc(F:List Int):Prop:=F.Pairwise (· < ·)
theorem Asc.one{F G:List Int}(h:Asc F)(k:Asc G)(e:∀x,x∈F↔x∈G):F=G:=x2q0 (fun a=>by omega) (fun a b=>by omega) h k e
theorem Asc.nodup{F:List Int}(h:Asc F):F.Nodup:=x2se (fun a=>by omega) h
theorem x2q1{l k:List Int}(hl:l.Nodup)(hk:k.Nodup)(h:∀x,x∈l↔x∈k):l.length=k.length:=by
 have:=x2s5 hl fun x hx=>(h x).mp hx
 have:=x2s5 hk fun x hx=>(h x).mpr hx
 omega
theorem fresh_mem{N:Nat}{x:Int}:x∈freshM N↔(0<=x/\x<N):=by
 unfold freshM
 rw[List.mem_map]
 constructor
 .rintro⟨i,hi,rfl⟩
  have:=List.mem_range.mp hi
  omega
 .rintro⟨h0,h1⟩
  exact⟨x.toNat,List.mem_range.mpr (by omega),by omega⟩
theorem x2q2(N:Nat):Asc (freshM N):=by
 unfold Asc freshM
 rw[List.pairwise_map]
 exact List.pairwise_lt_range.imp fun h=>by omega
theorem Asc.filter{F:List Int}(h:Asc F)(p:Int->Bool):Asc (F.filter p):=List.Pairwise.filter p h
variable{n:Nat}
theorem x2q3{t:List Int}{l:List Pq}(hl:∀p∈l,PqIn n p)(h:∀p∈l,Sm t p.a.toNat p.b.toNat){v w:Nat}(hv:v<n)(hw:w<n)(hs:Sm (joinsM (freshM n) l) v w):Sm t v w:=by
 refine x2sd (R:=Sm t) (fun h=>h.symm) (fun h1 h2=>h1.trans h2) (Lab.fresh n) hl h (fun a b ha hb e=>?_) v w hv hw hs
 unfold Sm at e
 rw[Lab.get_fresh ha,Lab.get_fresh hb]at e
 have:a=b:=by omega
 rw[this];rfl
theorem x2sg{l k:List Pq}(hl:∀p∈l,PqIn n p)(hk:∀p∈k,PqIn n p)(h1:∀p∈l,Sm (joinsM (freshM n) k) p.a.toNat p.b.toNat)(h2:∀p∈k,Sm (joinsM (freshM n) l) p.a.toNat p.b.toNat):joinsM (freshM n) l=joinsM (freshM n) k:=
 ((Lab.fresh n).joins hl).ext ((Lab.fresh n).joins hk) fun v w hv hw=>⟨x2q3 hl h1 hv hw,x2q3 hk h2 hv hw⟩
theorem x2sh{l k:List Pq}(hl:∀p∈l,PqIn n p)(hk:∀p∈k,PqIn n p)(h:∀p,p∈l↔p∈k):joinsM (freshM n) l=joinsM (freshM n) k:=
 x2sg hl hk (fun p hp=>x2l9 (Lab.fresh n) hk p ((h p).mp hp)) (fun p hp=>x2l9 (Lab.fresh n) hl p ((h p).mpr hp))
theorem x2si:∀{l:List Pq} {u:List Int},Lab n u->(∀p∈l,PqIn n p)->x2hw n u<=x2hw n (joinsM u l)+l.length
 |[],_,_,_=>Nat.le_refl _
 |p::l,u,h,hp=>by
  have hq:=hp p (List.mem_cons_self ..)
  have ih:=x2si (h.join hq) fun q hq=>hp q (List.mem_cons_of_mem _ hq)
  have e:joinsM u (p::l)=joinsM (x2gx u p) l:=rfl
  rw[e,List.length_cons]
  by_cases c:Sm u p.a.toNat p.b.toNat
  .rw[x2o5 c]at ih ⊢;omega
  .have:=x2pw h hq c;omega
theorem x2sj:∀{l:List Pq} {u:List Int},Lab n u->(∀p∈l,PqIn n p)->x2hw n (joinsM u l)+l.length<=x2hw n u->Indep u l
 |[],_,_,_,_=>trivial
 |p::l,u,h,hp,hr=>by
  have hq:=hp p (List.mem_cons_self ..)
  have hl:∀q∈l,PqIn n q:=fun q hq=>hp q (List.mem_cons_of_mem _ hq)
  have e:joinsM u (p::l)=joinsM (x2gx u p) l:=rfl
  rw[e,List.length_cons]at hr
  by_cases c:Sm u p.a.toNat p.b.toNat
  .have:=x2si (h.join hq) hl
   rw[x2o5 c]at this hr
   omega
  .have:=x2pw h hq c
   exact⟨c,x2sj (h.join hq) hl (by omega)⟩
theorem For.perm(hP:∀p∈P,PqIn n p){F G:List Int}(h:For n P F)(hG:G.Nodup)(he:∀x,x∈F↔x∈G):For n P G:=by
 have hr:∀i∈G,0<=i/\i<P.length:=fun i hi=>h.rng i ((he i).mpr hi)
 refine⟨hr,hG,x2sj (Lab.fresh n) (x2hm hP hr) ?_⟩
 have h1:=x2mg (Lab.fresh n) (x2hm hP h.rng) h.ind
 have h2:joinsM (freshM n) (prs P G)=joinsM (freshM n) (prs P F):=x2sh (x2hm hP hr) (x2hm hP h.rng) fun p=>by
  unfold prs
  rw[List.mem_map,List.mem_map]
  exact⟨fun⟨i,a,b⟩=>⟨i,(he i).mpr a,b⟩,fun⟨i,a,b⟩=>⟨i,(he i).mp a,b⟩⟩
 have h3:=x2q1 h.nod hG he
 rw[h2]
 have e1:(prs P F).length=F.length:=by unfold prs;simp
 have e2:(prs P G).length=G.length:=by unfold prs;simp
 omega
theorem For.sub(hP:∀p∈P,PqIn n p){F G:List Int}(h:For n P F)(hG:G.Nodup)(hs:∀x∈G,x∈F):For n P G:=by
 refine(h.perm (G:=G++F.filter fun x=>!(G.contains x)) hP ?_ fun x=>?_).take
 .rw[List.nodup_append]
  refine⟨hG,h.nod.filter _,fun a ha b hb e=>?_⟩
  subst e
  have:=(List.mem_filter.mp hb).2
  simp at this
  exact this ha
 .rw[List.mem_append,List.mem_filter]
  by_cases c:x∈G
  .simp[c,hs x c]
  .simp[c]
theorem prs_fresh:prs P (freshM P.length)=P:=by
 apply List.ext_getElem
 .simp[prs,freshM]
 .intro k h1 h2
  have h3:k<P.length:=h2
  simp[prs,freshM,prAt,List.getD_eq_getElem?_getD,h3]
structure Tree (n:Nat) (P:List Pq) (F:List Int):Prop where
 fo:For n P F
 asc:Asc F
 all:∀p∈P,Sm (joinsM (freshM n) (prs P F)) p.a.toNat p.b.toNat
theorem mem_prs{F':List Int}(hr:∀i∈F',0<=i/\i<P.length):∀p∈prs P F',p∈P:=by
 intro p hp
 obtain⟨i,hi,rfl⟩:=List.mem_map.mp hp
 have:=hr i hi
 have h2:i.toNat<P.length:=by omega
 unfold prAt
 rw[List.getD_eq_getElem?_getD,List.getElem?_eq_getElem h2]
 exact List.getElem_mem h2
theorem Tree.uni(hP:∀p∈P,PqIn n p){F:List Int}(h:Tree n P F):joinsM (freshM n) (prs P F)=joinsM (freshM n) P:=
 x2sg (x2hm hP h.fo.rng) hP (fun p hp=>x2l9 (Lab.fresh n) hP p (mem_prs h.fo.rng p hp)) h.all
theorem Tree.len(hP:∀p∈P,PqIn n p){F:List Int}(h:Tree n P F):n=x2hw n (joinsM (freshM n) P)+F.length:=by
 have:=x2mg (Lab.fresh n) (x2hm hP h.fo.rng) h.fo.ind
 rw[x2o0,h.uni hP]at this
 have e:(prs P F).length=F.length:=by unfold prs;simp
 omega
def insM(f:Int->Int)(x:Int):List Int->List Int
 |[]=>[x]
 |y::r=>if f x<f y\/(f x=f y/\x<y)then x::y::r else y::insM f x r
theorem ins_mem{f:Int->Int}{x z:Int}:∀{l:List Int},z∈insM f x l↔z=x\/z∈l
 |[]=>by simp[insM]
 |y::r=>by
  rw[insM]
  split
  .simp
  .rw[List.mem_cons,ins_mem,List.mem_cons]
   constructor
   .rintro(h|h|h)<;>simp[h]
   .rintro(h|h|h)<;>simp[h]
theorem ins_srt{f:Int->Int}{x:Int}:∀{l:List Int},l.Pairwise (lx f)->x∉l->(insM f x l).Pairwise (lx f)
 |[],_,_=>by simp[insM]
 |y::r,h,hx=>by
  rw[insM]
  rw[List.pairwise_cons]at h
  split
  .rename_i c
   rw[List.pairwise_cons]
   refine⟨fun z hz=>?_,List.pairwise_cons.mpr h⟩
   rcases List.mem_cons.mp hz with rfl|hz
   .exact c
   .exact x2sf c (h.1 z hz)
  .rename_i c
   rw[List.pairwise_cons]
   refine⟨fun z hz=>?_,ins_srt h.2 fun hm=>hx (List.mem_cons_of_mem _ hm)⟩
   rcases ins_mem.mp hz with rfl|hz
   .rcases lx_tot (f:=f) (i:=z) (j:=y) (fun e=>hx (by rw[e];exact List.mem_cons_self ..))with e|e
    .exact absurd e c
    .exact e
   .exact h.1 z hz
def ordM(f:Int->Int)(N:Nat):List Int:=(freshM N).foldr (insM f) []
theorem x2ij(f:Int->Int)(N:Nat):Ordd f N (ordM f N):=by
 have main:∀l:List Int,l.Nodup->(l.foldr (insM f) []).Pairwise (lx f)/\∀x,x∈l.foldr (insM f) []↔x∈l:=by
  intro l
  induction l with
  |nil=>intro _;simp
  |cons y r ih=>
   intro h
   rw[List.nodup_cons]at h
   obtain⟨h1,h2⟩:=ih h.2
   rw[List.foldr_cons]
   exact⟨ins_srt h1 fun hm=>h.1 ((h2 y).mp hm),fun x=>by rw[ins_mem,h2,List.mem_cons]⟩
 obtain⟨h1,h2⟩:=main (freshM N) (x2q2 N).nodup
 exact⟨h1,fun x=>(h2 x).trans fresh_mem⟩
def x2i5(f:Int->Int)(n:Nat)(P:List Pq):List Int:=x2gv P (freshM n) (ordM f P.length)
def x2h3(f:Int->Int)(n:Nat)(P:List Pq):List Int:=(freshM P.length).filter fun i=>(x2i5 f n P).contains i
theorem x2o9{f:Int->Int}{x:Int}(h:x∈x2i5 f n P):0<=x/\x<P.length:=((x2ij f P.length).2 x).mp ((x2kn _ _).subset h)
theorem x2oa(f:Int->Int):(x2i5 f n P).Nodup:=(x2kn _ _).nodup (x2ij f P.length).nodup
theorem light_mem{f:Int->Int}{x:Int}:x∈x2h3 f n P↔x∈x2i5 f n P:=by
 unfold x2h3
 rw[List.mem_filter,fresh_mem]
 constructor
 .rintro⟨_,h⟩;simpa using h
 .intro h;exact⟨x2o9 h,by simpa using h⟩
theorem x2n7(f:Int->Int):Asc (x2h3 f n P):=(x2q2 _).filter _
theorem x2q4(hP:∀p∈P,PqIn n p)(f:Int->Int):For n P (x2i5 f n P):=⟨fun i hi=>x2o9 hi,x2oa f,x2o7 _ _⟩
theorem x2sk(hP:∀p∈P,PqIn n p)(f:Int->Int):For n P (x2h3 f n P):=(x2q4 hP f).perm hP (x2n7 f).nodup fun x=>light_mem.symm
theorem x2sl(hP:∀p∈P,PqIn n p)(f:Int->Int):Tree n P (x2h3 f n P):=by
 refine⟨x2sk hP f,x2n7 f,fun p hp=>?_⟩
 have hO:∀i∈ordM f P.length,0<=i/\i<P.length:=fun i hi=>((x2ij f P.length).2 i).mp hi
 have e:joinsM (freshM n) (prs P (x2h3 f n P))=joinsM (freshM n) (prs P (ordM f P.length)):=by
  rw[<-x2o6 (P:=P) (ordM f P.length)]
  refine x2sh (x2hm hP (x2sk hP f).rng) (x2hm hP (x2q4 hP f).rng) fun q=>?_
  unfold prs
  rw[List.mem_map,List.mem_map]
  exact⟨fun⟨i,a,b⟩=>⟨i,light_mem.mp a,b⟩,fun⟨i,a,b⟩=>⟨i,light_mem.mpr a,b⟩⟩
 rw[e]
 refine x2l9 (Lab.fresh n) (x2hm hP hO) p ?_
 unfold prs
 rw[List.mem_map]
 obtain⟨k,hk,rfl⟩:=List.mem_iff_getElem.mp hp
 refine⟨(k:Int),((x2ij f P.length).2 _).mpr (by omega),?_⟩
 unfold prAt
 simp[List.getD_eq_getElem?_getD,hk]
def cntM(f:Int->Int)(c:Int)(F:List Int):Nat:=(F.filter fun i=>decide (f i<=c)).length
theorem Ordd.split{f:Int->Int}{N:Nat}{L:List Int}(h:Ordd f N L)(c:Int):L=L.filter (fun i=>decide (f i<=c))++L.filter (fun i=>!decide (f i<=c)):=by
 refine h.one ⟨?_,fun x=>?_⟩
 .rw[List.pairwise_append]
  refine⟨h.1.filter _,h.1.filter _,fun a ha b hb=>?_⟩
  have h1:=(List.mem_filter.mp ha).2
  have h2:=(List.mem_filter.mp hb).2
  simp at h1 h2
  unfold lx
  omega
 .rw[<-h.2,List.mem_append,List.mem_filter,List.mem_filter]
  cases decide (f x<=c)<;>simp
theorem light_cnt(hP:∀p∈P,PqIn n p)(f:Int->Int)(c:Int):n=x2hw n (joinsM (freshM n) (prs P ((ordM f P.length).filter fun i=>decide (f i<=c))))+cntM f c (x2i5 f n P):=by
 obtain⟨O1,hO1⟩:∃O1,O1=(ordM f P.length).filter fun i=>decide (f i<=c):=⟨_,rfl⟩
 obtain⟨O2,hO2⟩:∃O2,O2=(ordM f P.length).filter fun i=>!decide (f i<=c):=⟨_,rfl⟩
 have hO:ordM f P.length=O1++O2:=by rw[hO1,hO2];exact(x2ij f P.length).split c
 have hr:∀i∈x2gv P (freshM n) O1,0<=i/\i<P.length:=fun i hi=>((x2ij f P.length).2 i).mp (by rw[hO];exact List.mem_append_left _ ((x2kn _ _).subset hi))
 have e1:(x2i5 f n P).filter (fun i=>decide (f i<=c))=x2gv P (freshM n) O1:=by
  unfold x2i5
  rw[hO,x2o8,List.filter_append,List.filter_eq_self.mpr,List.filter_eq_nil_iff.mpr,List.append_nil]
  .intro a ha
   have:=(x2kn _ _).subset ha
   rw[hO2]at this
   have:=(List.mem_filter.mp this).2
   simpa using this
  .intro a ha
   have:=(x2kn _ _).subset ha
   rw[hO1]at this
   exact(List.mem_filter.mp this).2
 have h:=x2mg (Lab.fresh n) (x2hm hP hr) (x2o7 (P:=P) O1 (freshM n))
 rw[x2o0,x2o6]at h
 unfold cntM
 rw[e1,<-hO1]
 have e:(prs P (x2gv P (freshM n) O1)).length=(x2gv P (freshM n) O1).length:=by unfold prs;simp
 omega
theorem tree_cnt(hP:∀p∈P,PqIn n p)(f:Int->Int)(c:Int){F:List Int}(h:For n P F):cntM f c F<=cntM f c (x2i5 f n P):=by
 have h1:=light_cnt hP f c
 have hG:For n P (F.filter fun i=>decide (f i<=c)):=h.sub hP (h.nod.filter _) fun x hx=>(List.mem_filter.mp hx).1
 have h2:=x2mg (Lab.fresh n) (x2hm hP hG.rng) hG.ind
 rw[x2o0]at h2
 have hO:∀i∈(ordM f P.length).filter (fun i=>decide (f i<=c)),0<=i/\i<P.length:=fun i hi=>((x2ij f P.length).2 i).mp (List.mem_filter.mp hi).1
 have h3:=roots_le ((Lab.fresh n).joins (x2hm hP hG.rng)) ((Lab.fresh n).joins (x2hm hP hO)) fun v w hv hw hs=>x2q3 (x2hm hP hG.rng) (fun p hp=>by
  obtain⟨i,hi,rfl⟩:=List.mem_map.mp hp
  refine x2l9 (Lab.fresh n) (x2hm hP hO) _ (List.mem_map.mpr ⟨i,List.mem_filter.mpr ⟨((x2ij f P.length).2 i).mpr (hG.rng i hi),(List.mem_filter.mp hi).2⟩,rfl⟩)) hv hw hs
 unfold cntM at *
 have e:(prs P (F.filter fun i=>decide (f i<=c))).length=(F.filter fun i=>decide (f i<=c)).length:=by unfold prs;simp
 omega
theorem sum_mn(f:Int->Int)(m:Nat):∀F:List Int,(F.map fun i=>mn (f i) ((m+1:Nat):Int)).sum+cntM f m F=(F.map fun i=>mn (f i) (m:Int)).sum+F.length
 |[]=>by simp[cntM]
 |i::r=>by
  have:=sum_mn f m r
  unfold cntM at *
  simp only[List.map_cons,List.sum_cons,List.filter_cons,List.length_cons]
  have h1:=x2l8 (f i) ((m+1:Nat):Int)
  have h2:=x2l8 (f i) (m:Int)
  by_cases c:f i<=m
  .simp only[c,decide_true,if_true,List.length_cons]
   omega
  .simp only[c,decide_false,if_false]
   have:((false=true)=False):=by simp
   simp only[this,if_false]
   omega
theorem sum_le{f:Int->Int}{F G:List Int}(hf:∀i∈F,0<=f i)(hg:∀i∈G,0<=f i)(hl:F.length=G.length)(h:∀c,cntM f c F<=cntM f c G):∀m:Nat,(G.map fun i=>mn (f i) (m:Int)).sum<=(F.map fun i=>mn (f i) (m:Int)).sum
 |0=>by
  have z:∀H:List Int,(∀i∈H,0<=f i)->(H.map fun i=>mn (f i) ((0:Nat):Int)).sum=0:=by
   intro H
   induction H with
   |nil=>intro _;rfl
   |cons i r ih=>
    intro hH
    rw[List.map_cons,List.sum_cons,ih fun j hj=>hH j (List.mem_cons_of_mem _ hj)]
    have:=x2l8 (f i) ((0:Nat):Int)
    have:=hH i (List.mem_cons_self ..)
    omega
  rw[z F hf,z G hg]
  exact Int.le_refl _
 |m+1=>by
  have ih:=sum_le hf hg hl h m
  have h1:=sum_mn f m F
  have h2:=sum_mn f m G
  have:=h m
  omega
theorem x2q5{f:Int->Int}{m:Int}:∀{F:List Int},(∀i∈F,f i<=m)->(F.map fun i=>mn (f i) m).sum=(F.map f).sum
 |[],_=>rfl
 |i::r,h=>by
  rw[List.map_cons,List.map_cons,List.sum_cons,List.sum_cons,x2q5 fun j hj=>h j (List.mem_cons_of_mem _ hj)]
  have:=x2l8 (f i) m
  have:=h i (List.mem_cons_self ..)
  omega
theorem sum_perm{f:Int->Int}{F G:List Int}(h:F.Perm G):(F.map f).sum=(G.map f).sum:=by
 induction h with
 |nil=>rfl
 |cons x _ ih=>simp[ih]
 |swap x y l=>simp;omega
 |trans _ _ h1 h2=>rw[h1,h2]
theorem sum_mem{f:Int->Int}{F G:List Int}(hF:F.Nodup)(hG:G.Nodup)(h:∀x,x∈F↔x∈G):(F.map f).sum=(G.map f).sum:=sum_perm ((List.perm_ext_iff_of_nodup hF hG).mpr h)
theorem x2us(hP:∀p∈P,PqIn n p){f:Int->Int}{M:Nat}(hf:∀i:Int,0<=i->i<P.length->0<=f i/\f i<=M){F:List Int}(h:Tree n P F):((x2h3 f n P).map f).sum<=(F.map f).sum/\F.length=(x2h3 f n P).length:=by
 have h1:=h.len hP
 have h2:=(x2sl hP f).len hP
 have e:(x2h3 f n P).length=(x2i5 f n P).length:=x2q1 (x2n7 f).nodup (x2oa f) fun x=>light_mem
 refine⟨?_,by omega⟩
 have hT:=fun i (hi:i∈x2i5 f n P)=>hf i (x2o9 hi).1 (x2o9 hi).2
 have hF:=fun i (hi:i∈F)=>hf i (h.fo.rng i hi).1 (h.fo.rng i hi).2
 rw[sum_mem (x2n7 f).nodup (x2oa f) fun x=>light_mem,<-x2q5 (m:=(M:Int)) fun i hi=>(hT i hi).2,<-x2q5 (F:=F) (m:=(M:Int)) fun i hi=>(hF i hi).2]
 exact sum_le (fun i hi=>(hF i hi).1) (fun i hi=>(hT i hi).1) (by omega) (fun c=>tree_cnt hP f c h.fo) M
def bubM(lt:Int->Int->Bool):Nat->List Int->List Int
 |0,L=>L
 |j+1,L=>if lt (at0 L (j+1)) (at0 L j)=true then bubM lt j ((L.set (j+1) (at0 L j)).set j (at0 L (j+1)))else L
theorem bub_len(lt:Int->Int->Bool):∀(j:Nat) (L:List Int),(bubM lt j L).length=L.length
 |0,_=>rfl
 |j+1,L=>by
  rw[bubM]
  split
  .rw[bub_len lt j];simp
  .rfl
theorem bub_ok{R:Int->Int->Prop}(ht:∀{a b c},R a b->R b c->R a c){lt:Int->Int->Bool}{x:Int}:∀(A B:List Int),A.Pairwise R->(∀v∈A,(lt x v=true->R x v)/\(lt x v=false->R v x)) ->
 ∃C,bubM lt A.length (A++x::B)=C++B/\C.Pairwise R/\C.Perm (A++[x]):=by
 intro A
 generalize hn:A.length=n
 induction n generalizing A with
 |zero=>
  intro B _ _
  have:=List.length_eq_zero_iff.mp hn
  subst this
  exact⟨[x],rfl,by simp,List.Perm.refl _⟩
 |succ n ih=>
  intro B hA hx
  obtain⟨A',y,rfl⟩:∃A' y,A=A'++[y]:=by
   have hne:A≠[]:=by rintro rfl;simp at hn
   exact⟨A.dropLast,A.getLast hne,(List.dropLast_concat_getLast hne).symm⟩
  have hn':A'.length=n:=by simpa using hn
  have e0:A'++[y]++x::B=A'++y::x::B:=by simp
  have g1:at0 (A'++y::x::B) (n+1)=x:=by
   rw[x2gm (by simp;omega),List.getElem_append_right (by omega)]
   simp[hn']
  have g0:at0 (A'++y::x::B) n=y:=by
   rw[x2gm (by simp;omega),List.getElem_append_right (by omega)]
   simp[hn']
  have hs:((A'++y::x::B).set (n+1) y).set n x=A'++x::y::B:=by
   rw[List.set_append_right _ _ (by omega),List.set_append_right _ _ (by omega)]
   simp[hn']
  rw[List.pairwise_append]at hA
  obtain⟨c1,c2⟩:=hx y (by simp)
  rw[e0,bubM,g1,g0,hs]
  by_cases c:lt x y=true
  .rw[if_pos c]
   obtain⟨C,h1,h2,h3⟩:=ih A' hn' (y::B) hA.1 fun v hv=>hx v (by simp[hv])
   refine⟨C++[y],by rw[h1];simp,?_,?_⟩
   .rw[List.pairwise_append]
    refine⟨h2,by simp,fun a ha b hb=>?_⟩
    simp at hb
    subst hb
    rcases List.mem_append.mp (h3.mem_iff.mp ha)with ha|ha
    .exact hA.2.2 a ha b (by simp)
    .simp at ha;subst ha;exact c1 c
   .refine(h3.append_right [y]).trans ?_
    rw[List.append_assoc,List.append_assoc]
    exact List.Perm.append_left A' (List.Perm.swap y x [])
  .rw[if_neg c]
   have c':lt x y=false:=by simpa using c
   refine⟨A'++[y]++[x],by simp,?_,List.Perm.refl _⟩
   rw[List.pairwise_append]
   refine⟨List.pairwise_append.mpr hA,by simp,fun a ha b hb=>?_⟩
   simp at hb
   subst hb
   rcases List.mem_append.mp ha with ha|ha
   .exact ht (hA.2.2 a ha y (by simp)) (c2 c')
   .simp at ha;subst ha;exact c2 c'
def isoM(lt:Int->Int->Bool)(k:Nat)(L:List Int):List Int:=(List.range' 1 k).foldl (fun L i=>bubM lt i L) L
theorem x2n8(lt:Int->Int->Bool)(k:Nat)(L:List Int):isoM lt (k+1) L=bubM lt (k+1) (isoM lt k L):=by
 unfold isoM
 rw[List.range'_concat,List.foldl_append]
 simp[Nat.add_comm]
theorem iso_len(lt:Int->Int->Bool)(k:Nat)(L:List Int):(isoM lt k L).length=L.length:=by
 induction k with
 |zero=>rfl
 |succ k ih=>rw[x2n8,bub_len,ih]
theorem iso_ok{R:Int->Int->Prop}(ht:∀{a b c},R a b->R b c->R a c){lt:Int->Int->Bool}{L:List Int}(h:∀(i:Nat) (hi:i<L.length),∀v∈L.take i,(lt L[i] v=true->R L[i] v)/\(lt L[i] v=false->R v L[i])) :
 ∀k,k<L.length->∃C,isoM lt k L=C++L.drop (k+1)/\C.Pairwise R/\C.Perm (L.take (k+1)):=by
 intro k
 induction k with
 |zero=>
  intro hk
  refine⟨L.take 1,?_,?_,List.Perm.refl _⟩
  .exact(List.take_append_drop 1 L).symm
  .cases L with
   |nil=>simp
   |cons a l=>simp
 |succ k ih=>
  intro hk
  obtain⟨C,h1,h2,h3⟩:=ih (by omega)
  have hlen:C.length=k+1:=by rw[h3.length_eq];simp;omega
  rw[x2n8,h1,x2hf hk]
  obtain⟨D,d1,d2,d3⟩:=bub_ok (R:=R) ht (lt:=lt) (x:=L[k+1]) C (L.drop (k+1+1)) h2 fun v hv=>h (k+1) hk v (h3.mem_iff.mp hv)
  rw[hlen]at d1
  refine⟨D,d1,d2,d3.trans ?_⟩
  rw[List.take_succ_eq_append_getElem hk]
  exact h3.append_right _
theorem iso_all{R:Int->Int->Prop}(ht:∀{a b c},R a b->R b c->R a c){lt:Int->Int->Bool}{L:List Int}(h:∀(i:Nat) (hi:i<L.length),∀v∈L.take i,(lt L[i] v=true->R L[i] v)/\(lt L[i] v=false->R v L[i])) :
 (isoM lt (L.length-1) L).Pairwise R/\(isoM lt (L.length-1) L).Perm L:=by
 by_cases h0:L.length=0
 .have:=List.length_eq_zero_iff.mp h0
  subst this
  exact⟨List.Pairwise.nil,List.Perm.refl _⟩
 .obtain⟨C,h1,h2,h3⟩:=iso_ok (R:=R) (lt:=lt) (L:=L) ht h (L.length-1) (by omega)
  have e:L.length-1+1=L.length:=by omega
  rw[e,List.drop_of_length_le (Nat.le_refl _),List.append_nil]at h1
  rw[e,List.take_of_length_le (Nat.le_refl _)]at h3
  rw[h1]
  exact⟨h2,h3⟩
theorem x2sm{N i:Nat}(h:i<(freshM N).length):(freshM N)[i]=i:=by simp[freshM]
theorem iso_ord(f:Int->Int)(N:Nat):isoM (fun x y=>decide (f x<f y)) ((freshM N).length-1) (freshM N)=ordM f N:=by
 obtain⟨h1,h2⟩:=iso_all (R:=lx f) x2sf (lt:=fun x y=>decide (f x<f y)) (L:=freshM N) fun i hi v hv=>by
  rw[x2sm hi]
  obtain⟨j,hj,rfl⟩:=List.mem_iff_getElem.mp hv
  rw[List.getElem_take,x2sm]
  simp at hj
  constructor
  .intro h;simp at h;exact .inl h
  .intro h;simp at h;unfold lx;omega
 exact Ordd.one ⟨h1,fun x=>by rw[h2.mem_iff,fresh_mem]⟩ (x2ij f N)
theorem iso_asc{L:List Int}(hn:L.Nodup):Asc (isoM (fun x y=>decide (x<y)) (L.length-1) L)/\∀x,x∈isoM (fun x y=>decide (x<y)) (L.length-1) L↔x∈L:=by
 obtain⟨h1,h2⟩:=iso_all (R:=fun a b:Int=>a<b) (fun h k=>by omega) (lt:=fun x y=>decide (x<y)) (L:=L) fun i hi v hv=>by
  have hne:v≠L[i]:=by
   rintro rfl
   obtain⟨j,hj,e⟩:=List.mem_iff_getElem.mp hv
   rw[List.getElem_take]at e
   simp at hj
   have:=List.pairwise_iff_getElem.mp hn j i (by omega) hi (by omega)
   exact this e
  constructor
  .intro h;simpa using h
  .intro h;simp at h;omega
 exact⟨h1,fun x=>h2.mem_iff⟩
open Go.Proofs
def x2ji(ok:Id->Prop)(m m':Mem):Prop:=∀j:Id,¬ok j->m'.get j=m.get j
def Cmps(call:x2g1)(f:AV)(b:Id)(o:Ob)(n:Nat)(c:Int->Int->Int):Prop:=∀(hs:FHs) (x y:Int) (m:Mem),0<=x->x<n->0<=y->y<n->m.get b=some o->∃n',m.next<=n'/\x2h8 call hs 2 f [I x,I y] m=some (I (c x y),⟨m.hp,n'⟩)
def InN(n:Nat)(L:List Int):Prop:=∀x∈L,0<=x/\x<n
theorem InN.get{n:Nat}{L:List Int}(h:InN n L){k:Nat}(hk:k<L.length):0<=at0 L k/\at0 L k<n:=by rw[x2gm hk];exact h _ (List.getElem_mem hk)
theorem InN.set{n:Nat}{L:List Int}(h:InN n L){k:Nat}{x:Int}(hx:0<=x/\x<n):InN n (L.set k x):=fun y hy=>by
 rcases List.mem_or_eq_of_mem_set hy with hy|rfl
 .exact h y hy
 .exact hx
theorem l_bubF(call:x2g1)(hs:FHs)(u:Nat){a f:AV}{b:Id}{o:Ob}{n:Nat}{c:Int->Int->Int}(hf:Cmps call f b o n c){ok:Id->Prop}(hb:¬ok b)(rec0:AV->AV->AV->AV->AV->Mem->Nat->O2)(e8:Int)(t2:AV)(Q:O2->Prop){m0:Mem}{LL:Nat}(hLL:LL<=1000)(h8:0<=e8/\e8<=1000)(F:List Int)(hQ:∀m fc,Gk 1 intE ok m a F->(∀j,¬ok j->m.get j=m0.get j)->m0.next<=m.next->Q (rec0 a (I 0) t2 f (I (e8+1)) m fc)) :
 ∀(j k:Nat) (L:List Int) (m:Mem) (fc:Nat),L.length=LL->j<L.length->j<k->InN n L->bubM (fun x y=>decide (c x y<0)) j L=F->Gk 1 intE ok m a L->(∀i,¬ok i->m.get i=m0.get i)->m0.next<=m.next->m0.get b=some o ->
 Q (x45 call hs u rec0 k a (I 0) t2 f (I e8) (I j) m fc):=by
 intro j
 induction j with
 |zero=>
  intro k L m fc hL hj hk hn hB hG hm hn0 hbm
  obtain⟨k,rfl⟩:∃i,k=i+1:=⟨k-1,by omega⟩
  simp only[x45]
  unfold xeb x19
  simp(disch:=omega) [x2gh]
  rw[bubM]at hB
  subst hB
  exact hQ m _ hG hm hn0
 |succ j ih=>
  intro k L m fc hL hj hk hn hB hG hm hn0 hbm
  obtain⟨k,rfl⟩:∃i,k=i+1:=⟨k-1,by omega⟩
  obtain⟨q1,i1,l1,-⟩:=hG.at (k:=((j+1:Nat):Int)) (by omega) (by omega)
  obtain⟨q0,i0,l0,-⟩:=hG.at (k:=(j:Int)) (by omega) (by omega)
  rw[Int.toNat_natCast]at l1 l0
  have hx1:=hn.get (k:=j+1) (by omega)
  have hx0:=hn.get (k:=j) (by omega)
  obtain⟨n',hn',hc⟩:=hf hs (at0 L (j+1)) (at0 L j) m hx1.1 hx1.2 hx0.1 hx0.2 (by rw[hm b hb];exact hbm)
  have hj1:((j+1:Nat):Int)-1=(j:Int):=by omega
  have hjp:(0:Int)<((j+1:Nat):Int):=by omega
  have hw:w64 (((j+1:Nat):Int)-1)=(j:Int):=by rw[x2gh (by omega) (by omega),hj1]
  have hG':Gk 1 intE ok (⟨m.hp,n'⟩:Mem) a L:=hG.frame fun id _=>rfl
  obtain⟨p1,j1,r1,-⟩:=hG'.at (k:=((j+1:Nat):Int)) (by omega) (by omega)
  obtain⟨p0,j0,r0,-⟩:=hG'.at (k:=(j:Int)) (by omega) (by omega)
  rw[Int.toNat_natCast]at r1 r0
  obtain⟨p2,j2,-,st2⟩:=hG'.at (k:=((j+1:Nat):Int)) (by omega) (by omega)
  obtain⟨m2,e1,e2,e3,e4⟩:=st2 (at0 L j)
  rw[Int.toNat_natCast]at e2
  obtain⟨p3,j3,-,st3⟩:=e2.at (k:=(j:Int)) (by omega) (by simp;omega)
  obtain⟨m3,f1,f2,f3,f4⟩:=st3 (at0 L (j+1))
  rw[Int.toNat_natCast]at f2
  obtain rfl:p1=q1:=by rw[j1]at i1;cases i1;rfl
  obtain rfl:p0=q0:=by rw[j0]at i0;cases i0;rfl
  obtain rfl:p2=p1:=by rw[j2]at i1;cases i1;rfl
  obtain rfl:p3=p0:=by rw[j3]at i0;cases i0;rfl
  rw[bubM]at hB
  simp only[x45]
  unfold xeb
  simp only[x2mb,hjp,decide_true,x2jf,sW_t,x2go,i1,l1,x2ma]
  rw[x2gh (by omega) (by omega),hj1]
  simp only[x2mb,hjp,decide_true,x2jf,sW_t,x2go,i0,l0,hc,x2ho,sPick_B,i0,r0,i1,r1,x2ma]
  by_cases ct:c (at0 L (j+1)) (at0 L j)<0
  .rw[if_pos (by simpa using ct)]at hB
   simp only[ct,decide_true,x2i9,x2go,i0,i1,e1,f1,x2ma,hw]
   exact ih k _ m3 _ (by simpa using hL) (by simp;omega) (by omega) ((hn.set hx0).set hx1) hB f2 (fun i hi=>by rw[f4 i hi,e4 i hi];exact hm i hi) (by rw[f3,e3];show m0.next<=n';omega) hbm
  .rw[if_neg (by simpa using ct)]at hB
   subst hB
   simp only[ct,decide_false,x2n2]
   unfold x19
   simp(disch:=omega) [x2gh]
   exact hQ _ _ hG' (fun i hi=>by rw[<-hm i hi];rfl) (by show m0.next<=n';omega)
theorem bub_in{n:Nat}{lt:Int->Int->Bool}:∀(j:Nat) (L:List Int),j<L.length->InN n L->InN n (bubM lt j L)
 |0,_,_,h=>h
 |j+1,L,hj,h=>by
  rw[bubM]
  split
  .exact bub_in j _ (by simp;omega) ((h.set (h.get (by omega))).set (h.get (by omega)))
  .exact h
theorem c_insertF(d:Nat)(hs:FHs){a f:AV}{b:Id}{o:Ob}{n:Nat}{c:Int->Int->Int}(hf:Cmps (x2g5 d) f b o n c){ok:Id->Prop}(hb:¬ok b){L:List Int}{m:Mem}(hL:L.length<=1000)(hn:InN n L)(hG:Gk 1 intE ok m a L)(hbm:m.get b=some o) :
 ∃m',x2g5 (d+1) hs x4n [a,I 0,I L.length,f] m=some (.tup [],m')/\Gk 1 intE ok m' a (isoM (fun x y=>decide (c x y<0)) (L.length-1) L)/\m.next<=m'.next/\x2ji ok m m':=by
 rw[x1dt]
 unfold xg0 xjr
 simp(disch:=omega) [x2gh]
 have hone:isoM (fun x y=>decide (c x y<0)) 0 L=L:=rfl
 by_cases h0:L.length=0
 .obtain⟨NM,hNM⟩:∃NM,NN=NM+1:=⟨NN-1,by have:=x2gs;omega⟩
  rw[hNM]
  simp only[x2e]
  unfold x9p
  have:¬((1:Int)<(L.length:Int)):=by omega
  simp[h0]
  exact⟨hG.frame fun _ _=>rfl,fun j _=>rfl⟩
 .refine x2hu (N:=L.length-1) (σ:=Unit) (fun j k _ m' fc=>x2e (x2g5 d) hs m.next j a (I 0) (I L.length) f (I ((k+1:Nat):Int)) m' fc)
   (fun k _ m'=>Gk 1 intE ok m' a (isoM (fun x y=>decide (c x y<0)) k L)/\InN n (isoM (fun x y=>decide (c x y<0)) k L)/\m.next<=m'.next/\x2ji ok m m')
   (fun r=>∃m',r=some (.tup [],m')/\Gk 1 intE ok m' a (isoM (fun x y=>decide (c x y<0)) (L.length-1) L)/\m.next<=m'.next/\x2ji ok m m') ?_ ?_ NN 0 () _ _ (by omega) (by rw[x2gs];omega) ⟨hG.frame fun _ _=>rfl,hn,by show m.next<=m.next+1;omega,fun j _=>rfl⟩
  .rintro j k-m1 fc hk ⟨h1,h2,h3,h4⟩ next
   have hk':(((k+1:Nat):Int))<(L.length:Int):=by omega
   simp only[x2e]
   unfold x9p x9o
   simp only[x2ho,hk',decide_true,x2i9,x2go]
   have hil:=iso_len (fun x y=>decide (c x y<0)) k L
   refine l_bubF (x2g5 d) hs m.next hf hb (x2e (x2g5 d) hs m.next j) ((k+1:Nat):Int) (I L.length) (fun r=>∃m',r=some (.tup [],m')/\Gk 1 intE ok m' a (isoM (fun x y=>decide (c x y<0)) (L.length-1) L)/\m.next<=m'.next/\x2ji ok m m') (m0:=m1) (LL:=L.length) hL (by omega) (isoM (fun x y=>decide (c x y<0)) (k+1) L) (fun m2 fc2 g1 g2 g3=>?_) (k+1) NN (isoM (fun x y=>decide (c x y<0)) k L) m1 _ hil (by omega) (by rw[x2gs];omega) h2 (x2n8 _ k L).symm h1 (fun _ _=>rfl) (Nat.le_refl _) (by rw[h4 b hb];exact hbm)
   exact next () m2 fc2 ⟨g1,by rw[x2n8];exact bub_in _ _ (by omega) h2,by omega,fun j hj=>by rw[g2 j hj,h4 j hj]⟩
  .rintro j-m1 fc ⟨h1,h2,h3,h4⟩
   have hk':¬(((L.length-1+1:Nat):Int))<(L.length:Int):=by omega
   simp only[x2e]
   unfold x9p
   simp only[x2ho,hk',decide_false,x2n2,x2go]
   exact⟨m1,rfl,h1,h3,h4⟩
theorem x2ut(d:Nat)(hs:FHs){a f:AV}{b:Id}{o:Ob}{n:Nat}{c:Int->Int->Int}(hf:Cmps (x2g5 d) f b o n c){ok:Id->Prop}(hb:¬ok b){L:List Int}{m:Mem}(hL:L.length<20)(hn:InN n L)(hG:Gk 1 intE ok m a L)(hbm:m.get b=some o) :
 ∃m',x2g5 (d+3) hs x5z [a,f] m=some (.tup [],m')/\Gk 1 intE ok m' a (isoM (fun x y=>decide (c x y<0)) (L.length-1) L)/\m.next<=m'.next/\x2ji ok m m':=by
 rw[x1dm]
 unfold xft xit
 simp[hG.len x2hl]
 rw[x1dq]
 unfold xfx xjd
 obtain⟨NM,hNM⟩:∃NM,NN=NM+1:=⟨NN-1,by have:=x2gs;omega⟩
 rw[hNM]
 simp only[x5g]
 have h20:¬(20:Int)<=(L.length:Int):=by omega
 have h20':¬(20:Int)<(L.length:Int):=by omega
 obtain⟨m',e1,e2,e3,e4⟩:=c_insertF d hs hf hb (m:=⟨m.hp,m.next+1+1⟩) (by omega) hn (hG.frame fun _ _=>rfl) (by rw[<-hbm];rfl)
 unfold xjc x5f
 simp[h20,e1]
 obtain⟨NM,hNM⟩:∃NM,NN=NM+1:=⟨NN-1,by have:=x2gs;omega⟩
 rw[hNM]
 simp only[x6g]
 unfold xjb
 simp[h20']
 exact⟨e2,by have:m.next+1+1<=m'.next:=e3;omega,fun j hj=>by rw[e4 j hj];rfl⟩
theorem w_Less(d:Nat)(x y:Int)(m:Mem):x2g3 (x2g5 (d+2)) xf [I x,I y] m=some (B (decide (x<y)),m):=by
 have h1:∀(x:Int) (m:Mem),x2g3 (x2g5 (d+1)) x4p [I x] m=some (B false,m):=fun x m=>by
  refine x2is rfl ?_ m
  rw[x1dx]
  unfold xg4 xk7
  simp[mem0]
  exact RetF.st rfl rfl
 refine x2is rfl ?_ m
 rw[x1dv]
 unfold xg2 xk2
 simp[mem0,h1]
 exact RetF.st rfl rfl
theorem l_bubO(d:Nat)(hs:FHs)(u:Nat){a:AV}{ok:Id->Prop}(rec0:AV->AV->AV->AV->Mem->Nat->O2)(e8:Int)(t2:AV)(Q:O2->Prop){m0:Mem}{LL:Nat}(hLL:LL<=1000)(h8:0<=e8/\e8<=1000)(F:List Int)(hQ:∀m fc,Gk 1 intE ok m a F->(∀j,¬ok j->m.get j=m0.get j)->m.next=m0.next->Q (rec0 a (I 0) t2 (I (e8+1)) m fc)) :
 ∀(j k:Nat) (L:List Int) (m:Mem) (fc:Nat),L.length=LL->j<L.length->j<k->bubM (fun x y=>decide (x<y)) j L=F->Gk 1 intE ok m a L->(∀i,¬ok i->m.get i=m0.get i)->m.next=m0.next ->
 Q (x46 (x2g5 (d+2)) hs u rec0 k a (I 0) t2 (I e8) (I j) m fc):=by
 intro j
 induction j with
 |zero=>
  intro k L m fc hL hj hk hB hG hm hn0
  obtain⟨k,rfl⟩:∃i,k=i+1:=⟨k-1,by omega⟩
  simp only[x46]
  unfold xee x1a
  simp(disch:=omega) [x2gh]
  rw[bubM]at hB
  subst hB
  exact hQ m _ hG hm hn0
 |succ j ih=>
  intro k L m fc hL hj hk hB hG hm hn0
  obtain⟨k,rfl⟩:∃i,k=i+1:=⟨k-1,by omega⟩
  obtain⟨q1,i1,l1,st2⟩:=hG.at (k:=((j+1:Nat):Int)) (by omega) (by omega)
  obtain⟨q0,i0,l0,-⟩:=hG.at (k:=(j:Int)) (by omega) (by omega)
  rw[Int.toNat_natCast]at l1 l0
  have hj1:((j+1:Nat):Int)-1=(j:Int):=by omega
  have hjp:(0:Int)<((j+1:Nat):Int):=by omega
  have hw:w64 (((j+1:Nat):Int)-1)=(j:Int):=by rw[x2gh (by omega) (by omega),hj1]
  obtain⟨m2,e1,e2,e3,e4⟩:=st2 (at0 L j)
  rw[Int.toNat_natCast]at e2
  obtain⟨p3,j3,-,st3⟩:=e2.at (k:=(j:Int)) (by omega) (by simp;omega)
  obtain⟨m3,f1,f2,f3,f4⟩:=st3 (at0 L (j+1))
  rw[Int.toNat_natCast]at f2
  obtain rfl:p3=q0:=by rw[j3]at i0;cases i0;rfl
  rw[bubM]at hB
  simp only[x46]
  unfold xee
  simp only[x2mb,hjp,decide_true,x2jf,sW_t,x2go,i1,l1,x2ma]
  rw[x2gh (by omega) (by omega),hj1]
  simp only[x2mb,hjp,decide_true,x2jf,sW_t,x2go,i0,l0,w_Less d,x2ho,sPick_B,i1,l1,x2ma]
  by_cases ct:at0 L (j+1)<at0 L j
  .rw[if_pos (by simpa using ct)]at hB
   simp only[ct,decide_true,x2i9,x2go,i0,i1,e1,f1,x2ma,hw]
   exact ih k _ m3 _ (by simpa using hL) (by simp;omega) (by omega) hB f2 (fun i hi=>by rw[f4 i hi,e4 i hi];exact hm i hi) (by rw[f3,e3];exact hn0)
  .rw[if_neg (by simpa using ct)]at hB
   subst hB
   simp only[ct,decide_false,x2n2]
   unfold x1a
   simp(disch:=omega) [x2gh]
   exact hQ _ _ hG hm hn0
theorem c_insertO(d:Nat)(hs:FHs){a:AV}{ok:Id->Prop}{L:List Int}{m:Mem}(hL:L.length<=1000)(hG:Gk 1 intE ok m a L) :
 ∃m',x2g5 (d+3) hs x62 [a,I 0,I L.length] m=some (.tup [],m')/\Gk 1 intE ok m' a (isoM (fun x y=>decide (x<y)) (L.length-1) L)/\m'.next=m.next+1/\x2ji ok m m':=by
 rw[x1du]
 unfold xg1 xjv
 simp(disch:=omega) [x2gh]
 by_cases h0:L.length=0
 .obtain⟨NM,hNM⟩:∃NM,NN=NM+1:=⟨NN-1,by have:=x2gs;omega⟩
  rw[hNM]
  simp only[x2g]
  unfold x9u
  simp[h0]
  exact⟨hG.frame fun _ _=>rfl,fun j _=>rfl⟩
 .refine x2hu (N:=L.length-1) (σ:=Unit) (fun j k _ m' fc=>x2g (x2g5 (d+2)) hs m.next j a (I 0) (I L.length) (I ((k+1:Nat):Int)) m' fc)
   (fun k _ m'=>Gk 1 intE ok m' a (isoM (fun x y=>decide (x<y)) k L)/\m'.next=m.next+1/\x2ji ok m m')
   (fun r=>∃m',r=some (.tup [],m')/\Gk 1 intE ok m' a (isoM (fun x y=>decide (x<y)) (L.length-1) L)/\m'.next=m.next+1/\x2ji ok m m') ?_ ?_ NN 0 () _ _ (by omega) (by rw[x2gs];omega) ⟨hG.frame fun _ _=>rfl,rfl,fun j _=>rfl⟩
  .rintro j k-m1 fc hk ⟨h1,h3,h4⟩ next
   have hk':(((k+1:Nat):Int))<(L.length:Int):=by omega
   simp only[x2g]
   unfold x9u x9t
   simp only[x2ho,hk',decide_true,x2i9,x2go]
   have hil:=iso_len (fun x y=>decide (x<y)) k L
   refine l_bubO d hs m.next (x2g (x2g5 (d+2)) hs m.next j) ((k+1:Nat):Int) (I L.length) (fun r=>∃m',r=some (.tup [],m')/\Gk 1 intE ok m' a (isoM (fun x y=>decide (x<y)) (L.length-1) L)/\m'.next=m.next+1/\x2ji ok m m') (m0:=m1) (LL:=L.length) hL (by omega) (isoM (fun x y=>decide (x<y)) (k+1) L) (fun m2 fc2 g1 g2 g3=>?_) (k+1) NN (isoM (fun x y=>decide (x<y)) k L) m1 _ hil (by omega) (by rw[x2gs];omega) (x2n8 _ k L).symm h1 (fun _ _=>rfl) rfl
   exact next () m2 fc2 ⟨g1,by omega,fun j hj=>by rw[g2 j hj,h4 j hj]⟩
  .rintro j-m1 fc ⟨h1,h3,h4⟩
   have hk':¬(((L.length-1+1:Nat):Int))<(L.length:Int):=by omega
   simp only[x2g]
   unfold x9u
   simp only[x2ho,hk',decide_false,x2n2,x2go]
   exact⟨m1,rfl,h1,h3,h4⟩
end Go.Ix
