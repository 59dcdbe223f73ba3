import Derived.Test.YtpeakdjfagbpcaaGreatWg3
set_option linter.unusedSimpArgs false
set_option linter.unusedVariables false
namespace Go.Ix
variable{P:List Pq}
theorem x2rx{u:List Int}{p:Pq}(h:at0 u p.a.toNat=at0 u p.b.toNat):x2j4 u p=u:=by
 unfold x2j4
 conv=>rhs;rw[<-List.map_id u]
 apply List.map_congr_left
 intro x _
 show _=x
 rw[h]
 by_cases c:x=at0 u p.b.toNat
 .rw[if_pos (Or.inl c),c];unfold mn;simp
 .rw[if_neg (by simp[c])]
def takeM(P:List Pq):List Int->List Int->List Int
 |_,[]=>[]
 |u,i::r=>if at0 u (prAt P i).a.toNat=at0 u (prAt P i).b.toNat then takeM P u r else i::takeM P (x2j4 u (prAt P i)) r
theorem x2ry:∀(l u:List Int),joinsM u (prs P (takeM P u l))=joinsM u (prs P l)
 |[],_=>rfl
 |i::r,u=>by
  rw[takeM]
  by_cases c:at0 u (prAt P i).a.toNat=at0 u (prAt P i).b.toNat
  .rw[if_pos c,x2ry r u]
   show _=joinsM (x2j4 u (prAt P i)) (prs P r)
   rw[x2rx c]
  .rw[if_neg c]
   exact x2ry r (x2j4 u (prAt P i))
theorem x2tq:∀(l u:List Int),Indep u (prs P (takeM P u l))
 |[],_=>trivial
 |i::r,u=>by
  rw[takeM]
  by_cases c:at0 u (prAt P i).a.toNat=at0 u (prAt P i).b.toNat
  .rw[if_pos c];exact x2tq r u
  .rw[if_neg c];exact⟨c,x2tq r _⟩
theorem x2nr:∀(l u:List Int),(takeM P u l).Sublist l
 |[],_=>List.Sublist.slnil
 |i::r,u=>by
  rw[takeM]
  by_cases c:at0 u (prAt P i).a.toNat=at0 u (prAt P i).b.toNat
  .rw[if_pos c];exact(x2nr r u).cons i
  .rw[if_neg c];exact(x2nr r _).cons_cons i
theorem x2tr:∀(l k u:List Int),takeM P u (l++k)=takeM P u l++takeM P (joinsM u (prs P l)) k
 |[],_,_=>rfl
 |i::r,k,u=>by
  rw[List.cons_append,takeM,takeM]
  by_cases c:at0 u (prAt P i).a.toNat=at0 u (prAt P i).b.toNat
  .rw[if_pos c,if_pos c,x2tr r k u]
   show _=takeM P u r++takeM P (joinsM (x2j4 u (prAt P i)) (prs P r)) k
   rw[x2rx c]
  .rw[if_neg c,if_neg c,x2tr r k _]
   rfl
theorem x2wh(l u:List Int)(i:Int):takeM P u (l++[i])=takeM P u l++(if at0 (joinsM u (prs P l)) (prAt P i).a.toNat=at0 (joinsM u (prs P l)) (prAt P i).b.toNat then[]else[i]):=by
 rw[x2tr]
 congr 1
theorem x2ts{α:Type}{R:α->α->Prop}(hi:∀a,¬R a a)(ha:∀a b,R a b->R b a->False):∀{l k:List α},l.Pairwise R->k.Pairwise R->(∀x,x∈l↔x∈k)->l=k
 |[],[],_,_,_=>rfl
 |[],y::k,_,_,h=>by have:=(h y).mpr (List.mem_cons_self ..);cases this
 |x::l,[],_,_,h=>by have:=(h x).mp (List.mem_cons_self ..);cases this
 |x::l,y::k,h1,h2,h=>by
  rw[List.pairwise_cons]at h1 h2
  have e:x=y:=by
   rcases List.mem_cons.mp ((h x).mp (List.mem_cons_self ..))with e|e
   .exact e
   .rcases List.mem_cons.mp ((h y).mpr (List.mem_cons_self ..))with e2|e2
    .exact e2.symm
    .exact(ha _ _ (h2.1 x e) (h1.1 y e2)).elim
  subst e
  have:=x2ts hi ha h1.2 h2.2 fun z=>by
   constructor
   .intro hz
    rcases List.mem_cons.mp ((h z).mp (List.mem_cons_of_mem _ hz))with e|e
    .rw[e]at hz;exact(hi _ (h1.1 _ hz)).elim
    .exact e
   .intro hz
    rcases List.mem_cons.mp ((h z).mpr (List.mem_cons_of_mem _ hz))with e|e
    .rw[e]at hz;exact(hi _ (h2.1 _ hz)).elim
    .exact e
  rw[this]
theorem x2wi{α:Type}{R:α->α->Prop}(hi:∀a,¬R a a){l:List α}(h:l.Pairwise R):l.Nodup:=List.Pairwise.imp (S:=fun a b=>a≠b) (fun{a b} hr (e:a=b)=>hi a (by rw[<-e]at hr;exact hr)) h
def lx(f:Int->Int)(i j:Int):Prop:=f i<f j\/(f i=f j/\i<j)
theorem lx_irr{f:Int->Int}(i:Int):¬lx f i i:=by unfold lx;omega
theorem lx_asym{f:Int->Int}(i j:Int)(h:lx f i j)(h2:lx f j i):False:=by unfold lx at *;omega
theorem x2wj{f:Int->Int}{i j k:Int}(h:lx f i j)(h2:lx f j k):lx f i k:=by unfold lx at *;omega
theorem lx_tot{f:Int->Int}{i j:Int}(h:i≠j):lx f i j\/lx f j i:=by unfold lx;omega
def Ordd(f:Int->Int)(N:Nat)(L:List Int):Prop:=L.Pairwise (lx f)/\∀x,x∈L↔(0<=x/\x<N)
theorem Ordd.one{f:Int->Int}{N:Nat}{L K:List Int}(h:Ordd f N L)(k:Ordd f N K):L=K:=x2ts lx_irr lx_asym h.1 k.1 fun x=>(h.2 x).trans (k.2 x).symm
theorem Ordd.nodup{f:Int->Int}{N:Nat}{L:List Int}(h:Ordd f N L):L.Nodup:=x2wi lx_irr h.1
def Asc(F:List Int):Prop:=F.Pairwise (· < ·)
theorem Asc.one{F G:List Int}(h:Asc F)(k:Asc G)(e:∀x,x∈F↔x∈G):F=G:=x2ts (fun a=>by omega) (fun a b=>by omega) h k e
theorem Asc.nodup{F:List Int}(h:Asc F):F.Nodup:=x2wi (fun a=>by omega) h
theorem x2wk{l k:List Int}(hl:l.Nodup)(hk:k.Nodup)(h:∀x,x∈l↔x∈k):l.length=k.length:=by
 have:=x2ti hl fun x hx=>(h x).mp hx
 have:=x2ti hk fun x hx=>(h x).mpr hx
 omega
theorem fresh_mem{N:Nat}{x:Int}:x∈freshM N↔(0<=x/\x<N):=by
 unfold freshM
 rw[List.mem_map]
 constructor
 .rintro⟨i,hi,rfl⟩
  have:=List.mem_range.mp hi
  omega
 .rintro⟨h0,h1⟩
  exact⟨x.toNat,List.mem_range.mpr (by omega),by omega⟩
theorem x2tt(N:Nat):Asc (freshM N):=by
 unfold Asc freshM
 rw[List.pairwise_map]
 exact List.pairwise_lt_range.imp fun h=>by omega
theorem Asc.filter{F:List Int}(h:Asc F)(p:Int->Bool):Asc (F.filter p):=List.Pairwise.filter p h
variable{n:Nat}
theorem x2wl{t:List Int}{l:List Pq}(hl:∀p∈l,PqIn n p)(h:∀p∈l,Sm t p.a.toNat p.b.toNat){v w:Nat}(hv:v<n)(hw:w<n)(hs:Sm (joinsM (freshM n) l) v w):Sm t v w:=by
 refine x2tl (R:=Sm t) (fun h=>h.symm) (fun h1 h2=>h1.trans h2) (Lab.fresh n) hl h (fun a b ha hb e=>?_) v w hv hw hs
 unfold Sm at e
 rw[Lab.get_fresh ha,Lab.get_fresh hb]at e
 have:a=b:=by omega
 rw[this];rfl
theorem x2wm{l k:List Pq}(hl:∀p∈l,PqIn n p)(hk:∀p∈k,PqIn n p)(h1:∀p∈l,Sm (joinsM (freshM n) k) p.a.toNat p.b.toNat)(h2:∀p∈k,Sm (joinsM (freshM n) l) p.a.toNat p.b.toNat):joinsM (freshM n) l=joinsM (freshM n) k:=
 ((Lab.fresh n).joins hl).ext ((Lab.fresh n).joins hk) fun v w hv hw=>⟨x2wl hl h1 hv hw,x2wl hk h2 hv hw⟩
theorem x2wn{l k:List Pq}(hl:∀p∈l,PqIn n p)(hk:∀p∈k,PqIn n p)(h:∀p,p∈l↔p∈k):joinsM (freshM n) l=joinsM (freshM n) k:=
 x2wm hl hk (fun p hp=>x2no (Lab.fresh n) hk p ((h p).mp hp)) (fun p hp=>x2no (Lab.fresh n) hl p ((h p).mpr hp))
theorem x2wo:∀{l:List Pq} {u:List Int},Lab n u->(∀p∈l,PqIn n p)->x2lm n u<=x2lm n (joinsM u l)+l.length
 |[],_,_,_=>Nat.le_refl _
 |p::l,u,h,hp=>by
  have hq:=hp p (List.mem_cons_self ..)
  have ih:=x2wo (h.join hq) fun q hq=>hp q (List.mem_cons_of_mem _ hq)
  have e:joinsM u (p::l)=joinsM (x2j4 u p) l:=rfl
  rw[e,List.length_cons]
  by_cases c:Sm u p.a.toNat p.b.toNat
  .rw[x2rx c]at ih ⊢;omega
  .have:=x2tm h hq c;omega
theorem x2wp:∀{l:List Pq} {u:List Int},Lab n u->(∀p∈l,PqIn n p)->x2lm n (joinsM u l)+l.length<=x2lm n u->Indep u l
 |[],_,_,_,_=>trivial
 |p::l,u,h,hp,hr=>by
  have hq:=hp p (List.mem_cons_self ..)
  have hl:∀q∈l,PqIn n q:=fun q hq=>hp q (List.mem_cons_of_mem _ hq)
  have e:joinsM u (p::l)=joinsM (x2j4 u p) l:=rfl
  rw[e,List.length_cons]at hr
  by_cases c:Sm u p.a.toNat p.b.toNat
  .have:=x2wo (h.join hq) hl
   rw[x2rx c]at this hr
   omega
  .have:=x2tm h hq c
   exact⟨c,x2wp (h.join hq) hl (by omega)⟩
theorem For.perm(hP:∀p∈P,PqIn n p){F G:List Int}(h:For n P F)(hG:G.Nodup)(he:∀x,x∈F↔x∈G):For n P G:=by
 have hr:∀i∈G,0<=i/\i<P.length:=fun i hi=>h.rng i ((he i).mpr hi)
 refine⟨hr,hG,x2wp (Lab.fresh n) (x2k4 hP hr) ?_⟩
 have h1:=x2rt (Lab.fresh n) (x2k4 hP h.rng) h.ind
 have h2:joinsM (freshM n) (prs P G)=joinsM (freshM n) (prs P F):=x2wn (x2k4 hP hr) (x2k4 hP h.rng) fun p=>by
  unfold prs
  rw[List.mem_map,List.mem_map]
  exact⟨fun⟨i,a,b⟩=>⟨i,(he i).mpr a,b⟩,fun⟨i,a,b⟩=>⟨i,(he i).mp a,b⟩⟩
 have h3:=x2wk h.nod hG he
 rw[h2]
 have e1:(prs P F).length=F.length:=by unfold prs;simp
 have e2:(prs P G).length=G.length:=by unfold prs;simp
 omega
theorem For.sub(hP:∀p∈P,PqIn n p){F G:List Int}(h:For n P F)(hG:G.Nodup)(hs:∀x∈G,x∈F):For n P G:=by
 refine(h.perm (G:=G++F.filter fun x=>!(G.contains x)) hP ?_ fun x=>?_).take
 .rw[List.nodup_append]
  refine⟨hG,h.nod.filter _,fun a ha b hb e=>?_⟩
  subst e
  have:=(List.mem_filter.mp hb).2
  simp at this
  exact this ha
 .rw[List.mem_append,List.mem_filter]
  by_cases c:x∈G
  .simp[c,hs x c]
  .simp[c]
theorem prs_fresh:prs P (freshM P.length)=P:=by
 apply List.ext_getElem
 .simp[prs,freshM]
 .intro k h1 h2
  have h3:k<P.length:=h2
  simp[prs,freshM,prAt,List.getD_eq_getElem?_getD,h3]
structure Tree (n:Nat) (P:List Pq) (F:List Int):Prop where
 fo:For n P F
 asc:Asc F
 all:∀p∈P,Sm (joinsM (freshM n) (prs P F)) p.a.toNat p.b.toNat
theorem mem_prs{F':List Int}(hr:∀i∈F',0<=i/\i<P.length):∀p∈prs P F',p∈P:=by
 intro p hp
 obtain⟨i,hi,rfl⟩:=List.mem_map.mp hp
 have:=hr i hi
 have h2:i.toNat<P.length:=by omega
 unfold prAt
 rw[List.getD_eq_getElem?_getD,List.getElem?_eq_getElem h2]
 exact List.getElem_mem h2
theorem Tree.uni(hP:∀p∈P,PqIn n p){F:List Int}(h:Tree n P F):joinsM (freshM n) (prs P F)=joinsM (freshM n) P:=
 x2wm (x2k4 hP h.fo.rng) hP (fun p hp=>x2no (Lab.fresh n) hP p (mem_prs h.fo.rng p hp)) h.all
theorem Tree.len(hP:∀p∈P,PqIn n p){F:List Int}(h:Tree n P F):n=x2lm n (joinsM (freshM n) P)+F.length:=by
 have:=x2rt (Lab.fresh n) (x2k4 hP h.fo.rng) h.fo.ind
 rw[x2we,h.uni hP]at this
 have e:(prs P F).length=F.length:=by unfold prs;simp
 omega
def insM(f:Int->Int)(x:Int):List Int->List Int
 |[]=>[x]
 |y::r=>if f x<f y\/(f x=f y/\x<y)then x::y::r else y::insM f x r
theorem ins_mem{f:Int->Int}{x z:Int}:∀{l:List Int},z∈insM f x l↔z=x\/z∈l
 |[]=>by simp[insM]
 |y::r=>by
  rw[insM]
  split
  .simp
  .rw[List.mem_cons,ins_mem,List.mem_cons]
   constructor
   .rintro(h|h|h)<;>simp[h]
   .rintro(h|h|h)<;>simp[h]
theorem ins_srt{f:Int->Int}{x:Int}:∀{l:List Int},l.Pairwise (lx f)->x∉l->(insM f x l).Pairwise (lx f)
 |[],_,_=>by simp[insM]
 |y::r,h,hx=>by
  rw[insM]
  rw[List.pairwise_cons]at h
  split
  .rename_i c
   rw[List.pairwise_cons]
   refine⟨fun z hz=>?_,List.pairwise_cons.mpr h⟩
   rcases List.mem_cons.mp hz with rfl|hz
   .exact c
   .exact x2wj c (h.1 z hz)
  .rename_i c
   rw[List.pairwise_cons]
   refine⟨fun z hz=>?_,ins_srt h.2 fun hm=>hx (List.mem_cons_of_mem _ hm)⟩
   rcases ins_mem.mp hz with rfl|hz
   .rcases lx_tot (f:=f) (i:=z) (j:=y) (fun e=>hx (by rw[e];exact List.mem_cons_self ..))with e|e
    .exact absurd e c
    .exact e
   .exact h.1 z hz
def ordM(f:Int->Int)(N:Nat):List Int:=(freshM N).foldr (insM f) []
theorem x2n5(f:Int->Int)(N:Nat):Ordd f N (ordM f N):=by
 have main:∀l:List Int,l.Nodup->(l.foldr (insM f) []).Pairwise (lx f)/\∀x,x∈l.foldr (insM f) []↔x∈l:=by
  intro l
  induction l with
  |nil=>intro _;simp
  |cons y r ih=>
   intro h
   rw[List.nodup_cons]at h
   obtain⟨h1,h2⟩:=ih h.2
   rw[List.foldr_cons]
   exact⟨ins_srt h1 fun hm=>h.1 ((h2 y).mp hm),fun x=>by rw[ins_mem,h2,List.mem_cons]⟩
 obtain⟨h1,h2⟩:=main (freshM N) (x2tt N).nodup
 exact⟨h1,fun x=>(h2 x).trans fresh_mem⟩
def x2jg(f:Int->Int)(n:Nat)(P:List Pq):List Int:=takeM P (freshM n) (ordM f P.length)
def x2jb(f:Int->Int)(n:Nat)(P:List Pq):List Int:=(freshM P.length).filter fun i=>(x2jg f n P).contains i
theorem x2wq{f:Int->Int}{x:Int}(h:x∈x2jg f n P):0<=x/\x<P.length:=((x2n5 f P.length).2 x).mp ((x2nr _ _).subset h)
theorem x2wr(f:Int->Int):(x2jg f n P).Nodup:=(x2nr _ _).nodup (x2n5 f P.length).nodup
theorem light_mem{f:Int->Int}{x:Int}:x∈x2jb f n P↔x∈x2jg f n P:=by
 unfold x2jb
 rw[List.mem_filter,fresh_mem]
 constructor
 .rintro⟨_,h⟩;simpa using h
 .intro h;exact⟨x2wq h,by simpa using h⟩
theorem x2tu(f:Int->Int):Asc (x2jb f n P):=(x2tt _).filter _
theorem x2tv(hP:∀p∈P,PqIn n p)(f:Int->Int):For n P (x2jg f n P):=⟨fun i hi=>x2wq hi,x2wr f,x2tq _ _⟩
theorem x2oe(hP:∀p∈P,PqIn n p)(f:Int->Int):For n P (x2jb f n P):=(x2tv hP f).perm hP (x2tu f).nodup fun x=>light_mem.symm
theorem x2zf(hP:∀p∈P,PqIn n p)(f:Int->Int):Tree n P (x2jb f n P):=by
 refine⟨x2oe hP f,x2tu f,fun p hp=>?_⟩
 have hO:∀i∈ordM f P.length,0<=i/\i<P.length:=fun i hi=>((x2n5 f P.length).2 i).mp hi
 have e:joinsM (freshM n) (prs P (x2jb f n P))=joinsM (freshM n) (prs P (ordM f P.length)):=by
  rw[<-x2ry (P:=P) (ordM f P.length)]
  refine x2wn (x2k4 hP (x2oe hP f).rng) (x2k4 hP (x2tv hP f).rng) fun q=>?_
  unfold prs
  rw[List.mem_map,List.mem_map]
  exact⟨fun⟨i,a,b⟩=>⟨i,light_mem.mp a,b⟩,fun⟨i,a,b⟩=>⟨i,light_mem.mpr a,b⟩⟩
 rw[e]
 refine x2no (Lab.fresh n) (x2k4 hP hO) p ?_
 unfold prs
 rw[List.mem_map]
 obtain⟨k,hk,rfl⟩:=List.mem_iff_getElem.mp hp
 refine⟨(k:Int),((x2n5 f P.length).2 _).mpr (by omega),?_⟩
 unfold prAt
 simp[List.getD_eq_getElem?_getD,hk]
theorem Ordd.split{f:Int->Int}{N:Nat}{L:List Int}(h:Ordd f N L)(c:Int):L=L.filter (fun i=>decide (f i<=c))++L.filter (fun i=>!decide (f i<=c)):=by
 refine h.one ⟨?_,fun x=>?_⟩
 .rw[List.pairwise_append]
  refine⟨h.1.filter _,h.1.filter _,fun a ha b hb=>?_⟩
  have h1:=(List.mem_filter.mp ha).2
  have h2:=(List.mem_filter.mp hb).2
  simp at h1 h2
  unfold lx
  omega
 .rw[<-h.2,List.mem_append,List.mem_filter,List.mem_filter]
  cases decide (f x<=c)<;>simp
def bubM(lt:Int->Int->Bool):Nat->List Int->List Int
 |0,L=>L
 |j+1,L=>if lt (at0 L (j+1)) (at0 L j)=true then bubM lt j ((L.set (j+1) (at0 L j)).set j (at0 L (j+1)))else L
theorem bub_len(lt:Int->Int->Bool):∀(j:Nat) (L:List Int),(bubM lt j L).length=L.length
 |0,_=>rfl
 |j+1,L=>by
  rw[bubM]
  split
  .rw[bub_len lt j];simp
  .rfl
theorem bub_ok{R:Int->Int->Prop}(ht:∀{a b c},R a b->R b c->R a c){lt:Int->Int->Bool}{x:Int}:∀(A B:List Int),A.Pairwise R->(∀v∈A,(lt x v=true->R x v)/\(lt x v=false->R v x)) ->
 ∃C,bubM lt A.length (A++x::B)=C++B/\C.Pairwise R/\C.Perm (A++[x]):=by
 intro A
 generalize hn:A.length=n
 induction n generalizing A with
 |zero=>
  intro B _ _
  have:=List.length_eq_zero_iff.mp hn
  subst this
  exact⟨[x],rfl,by simp,List.Perm.refl _⟩
 |succ n ih=>
  intro B hA hx
  obtain⟨A',y,rfl⟩:∃A' y,A=A'++[y]:=by
   have hne:A≠[]:=by rintro rfl;simp at hn
   exact⟨A.dropLast,A.getLast hne,(List.dropLast_concat_getLast hne).symm⟩
  have hn':A'.length=n:=by simpa using hn
  have e0:A'++[y]++x::B=A'++y::x::B:=by simp
  have g1:at0 (A'++y::x::B) (n+1)=x:=by
   rw[x2io (by simp;omega),List.getElem_append_right (by omega)]
   simp[hn']
  have g0:at0 (A'++y::x::B) n=y:=by
   rw[x2io (by simp;omega),List.getElem_append_right (by omega)]
   simp[hn']
  have hs:((A'++y::x::B).set (n+1) y).set n x=A'++x::y::B:=by
   rw[List.set_append_right _ _ (by omega),List.set_append_right _ _ (by omega)]
   simp[hn']
  rw[List.pairwise_append]at hA
  obtain⟨c1,c2⟩:=hx y (by simp)
  rw[e0,bubM,g1,g0,hs]
  by_cases c:lt x y=true
  .rw[if_pos c]
   obtain⟨C,h1,h2,h3⟩:=ih A' hn' (y::B) hA.1 fun v hv=>hx v (by simp[hv])
   refine⟨C++[y],by rw[h1];simp,?_,?_⟩
   .rw[List.pairwise_append]
    refine⟨h2,by simp,fun a ha b hb=>?_⟩
    simp at hb
    subst hb
    rcases List.mem_append.mp (h3.mem_iff.mp ha)with ha|ha
    .exact hA.2.2 a ha b (by simp)
    .simp at ha;subst ha;exact c1 c
   .refine(h3.append_right [y]).trans ?_
    rw[List.append_assoc,List.append_assoc]
    exact List.Perm.append_left A' (List.Perm.swap y x [])
  .rw[if_neg c]
   have c':lt x y=false:=by simpa using c
   refine⟨A'++[y]++[x],by simp,?_,List.Perm.refl _⟩
   rw[List.pairwise_append]
   refine⟨List.pairwise_append.mpr hA,by simp,fun a ha b hb=>?_⟩
   simp at hb
   subst hb
   rcases List.mem_append.mp ha with ha|ha
   .exact ht (hA.2.2 a ha y (by simp)) (c2 c')
   .simp at ha;subst ha;exact c2 c'
def isoM(lt:Int->Int->Bool)(k:Nat)(L:List Int):List Int:=(List.range' 1 k).foldl (fun L i=>bubM lt i L) L
theorem x2qr(lt:Int->Int->Bool)(k:Nat)(L:List Int):isoM lt (k+1) L=bubM lt (k+1) (isoM lt k L):=by
 unfold isoM
 rw[List.range'_concat,List.foldl_append]
 simp[Nat.add_comm]
theorem iso_len(lt:Int->Int->Bool)(k:Nat)(L:List Int):(isoM lt k L).length=L.length:=by
 induction k with
 |zero=>rfl
 |succ k ih=>rw[x2qr,bub_len,ih]
theorem iso_ok{R:Int->Int->Prop}(ht:∀{a b c},R a b->R b c->R a c){lt:Int->Int->Bool}{L:List Int}(h:∀(i:Nat) (hi:i<L.length),∀v∈L.take i,(lt L[i] v=true->R L[i] v)/\(lt L[i] v=false->R v L[i])) :
 ∀k,k<L.length->∃C,isoM lt k L=C++L.drop (k+1)/\C.Pairwise R/\C.Perm (L.take (k+1)):=by
 intro k
 induction k with
 |zero=>
  intro hk
  refine⟨L.take 1,?_,?_,List.Perm.refl _⟩
  .exact(List.take_append_drop 1 L).symm
  .cases L with
   |nil=>simp
   |cons a l=>simp
 |succ k ih=>
  intro hk
  obtain⟨C,h1,h2,h3⟩:=ih (by omega)
  have hlen:C.length=k+1:=by rw[h3.length_eq];simp;omega
  rw[x2qr,h1,x2j9 hk]
  obtain⟨D,d1,d2,d3⟩:=bub_ok (R:=R) ht (lt:=lt) (x:=L[k+1]) C (L.drop (k+1+1)) h2 fun v hv=>h (k+1) hk v (h3.mem_iff.mp hv)
  rw[hlen]at d1
  refine⟨D,d1,d2,d3.trans ?_⟩
  rw[List.take_succ_eq_append_getElem hk]
  exact h3.append_right _
theorem iso_all{R:Int->Int->Prop}(ht:∀{a b c},R a b->R b c->R a c){lt:Int->Int->Bool}{L:List Int}(h:∀(i:Nat) (hi:i<L.length),∀v∈L.take i,(lt L[i] v=true->R L[i] v)/\(lt L[i] v=false->R v L[i])) :
 (isoM lt (L.length-1) L).Pairwise R/\(isoM lt (L.length-1) L).Perm L:=by
 by_cases h0:L.length=0
 .have:=List.length_eq_zero_iff.mp h0
  subst this
  exact⟨List.Pairwise.nil,List.Perm.refl _⟩
 .obtain⟨C,h1,h2,h3⟩:=iso_ok (R:=R) (lt:=lt) (L:=L) ht h (L.length-1) (by omega)
  have e:L.length-1+1=L.length:=by omega
  rw[e,List.drop_of_length_le (Nat.le_refl _),List.append_nil]at h1
  rw[e,List.take_of_length_le (Nat.le_refl _)]at h3
  rw[h1]
  exact⟨h2,h3⟩
theorem x2ws{N i:Nat}(h:i<(freshM N).length):(freshM N)[i]=i:=by simp[freshM]
theorem iso_ord(f:Int->Int)(N:Nat):isoM (fun x y=>decide (f x<f y)) ((freshM N).length-1) (freshM N)=ordM f N:=by
 obtain⟨h1,h2⟩:=iso_all (R:=lx f) x2wj (lt:=fun x y=>decide (f x<f y)) (L:=freshM N) fun i hi v hv=>by
  rw[x2ws hi]
  obtain⟨j,hj,rfl⟩:=List.mem_iff_getElem.mp hv
  rw[List.getElem_take,x2ws]
  simp at hj
  constructor
  .intro h;simp at h;exact .inl h
  .intro h;simp at h;unfold lx;omega
 exact Ordd.one ⟨h1,fun x=>by rw[h2.mem_iff,fresh_mem]⟩ (x2n5 f N)
theorem iso_asc{L:List Int}(hn:L.Nodup):Asc (isoM (fun x y=>decide (x<y)) (L.length-1) L)/\∀x,x∈isoM (fun x y=>decide (x<y)) (L.length-1) L↔x∈L:=by
 obtain⟨h1,h2⟩:=iso_all (R:=fun a b:Int=>a<b) (fun h k=>by omega) (lt:=fun x y=>decide (x<y)) (L:=L) fun i hi v hv=>by
  have hne:v≠L[i]:=by
   rintro rfl
   obtain⟨j,hj,e⟩:=List.mem_iff_getElem.mp hv
   rw[List.getElem_take]at e
   simp at hj
   have:=List.pairwise_iff_getElem.mp hn j i (by omega) hi (by omega)
   exact this e
  constructor
  .intro h;simpa using h
  .intro h;simp at h;omega
 exact⟨h1,fun x=>h2.mem_iff⟩
open Go.Proofs
def x2m2(ok:Id->Prop)(m m':Mem):Prop:=∀j:Id,¬ok j->m'.get j=m.get j
def Cmps(call:x2i5)(f:AV)(b:Id)(o:Ob)(n:Nat)(c:Int->Int->Int):Prop:=∀(hs:FHs) (x y:Int) (m:Mem),0<=x->x<n->0<=y->y<n->m.get b=some o->∃n',m.next<=n'/\x2jj call hs 2 f [I x,I y] m=some (I (c x y),⟨m.hp,n'⟩)
def InN(n:Nat)(L:List Int):Prop:=∀x∈L,0<=x/\x<n
theorem InN.get{n:Nat}{L:List Int}(h:InN n L){k:Nat}(hk:k<L.length):0<=at0 L k/\at0 L k<n:=by rw[x2io hk];exact h _ (List.getElem_mem hk)
theorem InN.set{n:Nat}{L:List Int}(h:InN n L){k:Nat}{x:Int}(hx:0<=x/\x<n):InN n (L.set k x):=fun y hy=>by
 rcases List.mem_or_eq_of_mem_set hy with hy|rfl
 .exact h y hy
 .exact hx
theorem l_bubF(call:x2i5)(hs:FHs)(u:Nat){a f:AV}{b:Id}{o:Ob}{n:Nat}{c:Int->Int->Int}(hf:Cmps call f b o n c){ok:Id->Prop}(hb:¬ok b)(rec0:AV->AV->AV->AV->AV->Mem->Nat->O2)(e8:Int)(t2:AV)(Q:O2->Prop){m0:Mem}{LL:Nat}(hLL:LL<=1000)(h8:0<=e8/\e8<=1000)(F:List Int)(hQ:∀m fc,Gk 1 intE ok m a F->(∀j,¬ok j->m.get j=m0.get j)->m0.next<=m.next->Q (rec0 a (I 0) t2 f (I (e8+1)) m fc)) :
 ∀(j k:Nat) (L:List Int) (m:Mem) (fc:Nat),L.length=LL->j<L.length->j<k->InN n L->bubM (fun x y=>decide (c x y<0)) j L=F->Gk 1 intE ok m a L->(∀i,¬ok i->m.get i=m0.get i)->m0.next<=m.next->m0.get b=some o ->
 Q (x5n call hs u rec0 k a (I 0) t2 f (I e8) (I j) m fc):=by
 intro j
 induction j with
 |zero=>
  intro k L m fc hL hj hk hn hB hG hm hn0 hbm
  obtain⟨k,rfl⟩:∃i,k=i+1:=⟨k-1,by omega⟩
  simp only[x5n]
  unfold xg7 x1b
  simp(disch:=omega) [x2ic]
  rw[bubM]at hB
  subst hB
  exact hQ m _ hG hm hn0
 |succ j ih=>
  intro k L m fc hL hj hk hn hB hG hm hn0 hbm
  obtain⟨k,rfl⟩:∃i,k=i+1:=⟨k-1,by omega⟩
  obtain⟨q1,i1,l1,-⟩:=hG.at (k:=((j+1:Nat):Int)) (by omega) (by omega)
  obtain⟨q0,i0,l0,-⟩:=hG.at (k:=(j:Int)) (by omega) (by omega)
  rw[Int.toNat_natCast]at l1 l0
  have hx1:=hn.get (k:=j+1) (by omega)
  have hx0:=hn.get (k:=j) (by omega)
  obtain⟨n',hn',hc⟩:=hf hs (at0 L (j+1)) (at0 L j) m hx1.1 hx1.2 hx0.1 hx0.2 (by rw[hm b hb];exact hbm)
  have hj1:((j+1:Nat):Int)-1=(j:Int):=by omega
  have hjp:(0:Int)<((j+1:Nat):Int):=by omega
  have hw:w64 (((j+1:Nat):Int)-1)=(j:Int):=by rw[x2ic (by omega) (by omega),hj1]
  have hG':Gk 1 intE ok (⟨m.hp,n'⟩:Mem) a L:=hG.frame fun id _=>rfl
  obtain⟨p1,j1,r1,-⟩:=hG'.at (k:=((j+1:Nat):Int)) (by omega) (by omega)
  obtain⟨p0,j0,r0,-⟩:=hG'.at (k:=(j:Int)) (by omega) (by omega)
  rw[Int.toNat_natCast]at r1 r0
  obtain⟨p2,j2,-,st2⟩:=hG'.at (k:=((j+1:Nat):Int)) (by omega) (by omega)
  obtain⟨m2,e1,e2,e3,e4⟩:=st2 (at0 L j)
  rw[Int.toNat_natCast]at e2
  obtain⟨p3,j3,-,st3⟩:=e2.at (k:=(j:Int)) (by omega) (by simp;omega)
  obtain⟨m3,f1,f2,f3,f4⟩:=st3 (at0 L (j+1))
  rw[Int.toNat_natCast]at f2
  obtain rfl:p1=q1:=by rw[j1]at i1;cases i1;rfl
  obtain rfl:p0=q0:=by rw[j0]at i0;cases i0;rfl
  obtain rfl:p2=p1:=by rw[j2]at i1;cases i1;rfl
  obtain rfl:p3=p0:=by rw[j3]at i0;cases i0;rfl
  rw[bubM]at hB
  simp only[x5n]
  unfold xg7
  simp only[x2pj,hjp,decide_true,x2jf,sW_t,x2ig,i1,l1,x2ni]
  rw[x2ic (by omega) (by omega),hj1]
  simp only[x2pj,hjp,decide_true,x2jf,sW_t,x2ig,i0,l0,hc,x2iv,sPick_B,i0,r0,i1,r1,x2ni]
  by_cases ct:c (at0 L (j+1)) (at0 L j)<0
  .rw[if_pos (by simpa using ct)]at hB
   simp only[ct,decide_true,x2iw,x2ig,i0,i1,e1,f1,x2ni,hw]
   exact ih k _ m3 _ (by simpa using hL) (by simp;omega) (by omega) ((hn.set hx0).set hx1) hB f2 (fun i hi=>by rw[f4 i hi,e4 i hi];exact hm i hi) (by rw[f3,e3];show m0.next<=n';omega) hbm
  .rw[if_neg (by simpa using ct)]at hB
   subst hB
   simp only[ct,decide_false,x2ky]
   unfold x1b
   simp(disch:=omega) [x2ic]
   exact hQ _ _ hG' (fun i hi=>by rw[<-hm i hi];rfl) (by show m0.next<=n';omega)
theorem bub_in{n:Nat}{lt:Int->Int->Bool}:∀(j:Nat) (L:List Int),j<L.length->InN n L->InN n (bubM lt j L)
 |0,_,_,h=>h
 |j+1,L,hj,h=>by
  rw[bubM]
  split
  .exact bub_in j _ (by simp;omega) ((h.set (h.get (by omega))).set (h.get (by omega)))
  .exact h
theorem c_insertF(d:Nat)(hs:FHs){a f:AV}{b:Id}{o:Ob}{n:Nat}{c:Int->Int->Int}(hf:Cmps (x2i6 d) f b o n c){ok:Id->Prop}(hb:¬ok b){L:List Int}{m:Mem}(hL:L.length<=1000)(hn:InN n L)(hG:Gk 1 intE ok m a L)(hbm:m.get b=some o) :
 ∃m',x2i6 (d+1) hs x6c [a,I 0,I L.length,f] m=some (.tup [],m')/\Gk 1 intE ok m' a (isoM (fun x y=>decide (c x y<0)) (L.length-1) L)/\m.next<=m'.next/\x2m2 ok m m':=by
 rw[x1fm]
 unfold xip xmr
 simp(disch:=omega) [x2ic]
 have hone:isoM (fun x y=>decide (c x y<0)) 0 L=L:=rfl
 by_cases h0:L.length=0
 .obtain⟨NM,hNM⟩:∃NM,NN=NM+1:=⟨NN-1,by have:=x2in;omega⟩
  rw[hNM]
  simp only[x2k]
  unfold xar
  have:¬((1:Int)<(L.length:Int)):=by omega
  simp[h0]
  exact⟨hG.frame fun _ _=>rfl,fun j _=>rfl⟩
 .refine x2j1 (N:=L.length-1) (σ:=Unit) (fun j k _ m' fc=>x2k (x2i6 d) hs m.next j a (I 0) (I L.length) f (I ((k+1:Nat):Int)) m' fc)
   (fun k _ m'=>Gk 1 intE ok m' a (isoM (fun x y=>decide (c x y<0)) k L)/\InN n (isoM (fun x y=>decide (c x y<0)) k L)/\m.next<=m'.next/\x2m2 ok m m')
   (fun r=>∃m',r=some (.tup [],m')/\Gk 1 intE ok m' a (isoM (fun x y=>decide (c x y<0)) (L.length-1) L)/\m.next<=m'.next/\x2m2 ok m m') ?_ ?_ NN 0 () _ _ (by omega) (by rw[x2in];omega) ⟨hG.frame fun _ _=>rfl,hn,by show m.next<=m.next+1;omega,fun j _=>rfl⟩
  .rintro j k-m1 fc hk ⟨h1,h2,h3,h4⟩ next
   have hk':(((k+1:Nat):Int))<(L.length:Int):=by omega
   simp only[x2k]
   unfold xar xaq
   simp only[x2iv,hk',decide_true,x2iw,x2ig]
   have hil:=iso_len (fun x y=>decide (c x y<0)) k L
   refine l_bubF (x2i6 d) hs m.next hf hb (x2k (x2i6 d) hs m.next j) ((k+1:Nat):Int) (I L.length) (fun r=>∃m',r=some (.tup [],m')/\Gk 1 intE ok m' a (isoM (fun x y=>decide (c x y<0)) (L.length-1) L)/\m.next<=m'.next/\x2m2 ok m m') (m0:=m1) (LL:=L.length) hL (by omega) (isoM (fun x y=>decide (c x y<0)) (k+1) L) (fun m2 fc2 g1 g2 g3=>?_) (k+1) NN (isoM (fun x y=>decide (c x y<0)) k L) m1 _ hil (by omega) (by rw[x2in];omega) h2 (x2qr _ k L).symm h1 (fun _ _=>rfl) (Nat.le_refl _) (by rw[h4 b hb];exact hbm)
   exact next () m2 fc2 ⟨g1,by rw[x2qr];exact bub_in _ _ (by omega) h2,by omega,fun j hj=>by rw[g2 j hj,h4 j hj]⟩
  .rintro j-m1 fc ⟨h1,h2,h3,h4⟩
   have hk':¬(((L.length-1+1:Nat):Int))<(L.length:Int):=by omega
   simp only[x2k]
   unfold xar
   simp only[x2iv,hk',decide_false,x2ky,x2ig]
   exact⟨m1,rfl,h1,h3,h4⟩
theorem x2zg(d:Nat)(hs:FHs){a f:AV}{b:Id}{o:Ob}{n:Nat}{c:Int->Int->Int}(hf:Cmps (x2i6 d) f b o n c){ok:Id->Prop}(hb:¬ok b){L:List Int}{m:Mem}(hL:L.length<20)(hn:InN n L)(hG:Gk 1 intE ok m a L)(hbm:m.get b=some o) :
 ∃m',x2i6 (d+3) hs x7j [a,f] m=some (.tup [],m')/\Gk 1 intE ok m' a (isoM (fun x y=>decide (c x y<0)) (L.length-1) L)/\m.next<=m'.next/\x2m2 ok m m':=by
 rw[x1f8]
 unfold xic xlo
 simp[hG.len x2il]
 rw[x1fg]
 unfold xik xma
 obtain⟨NM,hNM⟩:∃NM,NN=NM+1:=⟨NN-1,by have:=x2in;omega⟩
 rw[hNM]
 simp only[x6w]
 have h20:¬(20:Int)<=(L.length:Int):=by omega
 have h20':¬(20:Int)<(L.length:Int):=by omega
 obtain⟨m',e1,e2,e3,e4⟩:=c_insertF d hs hf hb (m:=⟨m.hp,m.next+1+1⟩) (by omega) hn (hG.frame fun _ _=>rfl) (by rw[<-hbm];rfl)
 unfold xm9 x6v
 simp[h20,e1]
 obtain⟨NM,hNM⟩:∃NM,NN=NM+1:=⟨NN-1,by have:=x2in;omega⟩
 rw[hNM]
 simp only[x86]
 unfold xm8
 simp[h20']
 exact⟨e2,by have:m.next+1+1<=m'.next:=e3;omega,fun j hj=>by rw[e4 j hj];rfl⟩
theorem w_Less(d:Nat)(x y:Int)(m:Mem):x2i8 (x2i6 (d+2)) xh [I x,I y] m=some (B (decide (x<y)),m):=by
 have h1:∀(x:Int) (m:Mem),x2i8 (x2i6 (d+1)) x6e [I x] m=some (B false,m):=fun x m=>by
  refine x2ju rfl ?_ m
  rw[x1fq]
  unfold xit xn7
  simp[mem0]
  exact RetF.st rfl rfl
 refine x2ju rfl ?_ m
 rw[x1fo]
 unfold xir xn2
 simp[mem0,h1]
 exact RetF.st rfl rfl
theorem l_bubO(d:Nat)(hs:FHs)(u:Nat){a:AV}{ok:Id->Prop}(rec0:AV->AV->AV->AV->Mem->Nat->O2)(e8:Int)(t2:AV)(Q:O2->Prop){m0:Mem}{LL:Nat}(hLL:LL<=1000)(h8:0<=e8/\e8<=1000)(F:List Int)(hQ:∀m fc,Gk 1 intE ok m a F->(∀j,¬ok j->m.get j=m0.get j)->m.next=m0.next->Q (rec0 a (I 0) t2 (I (e8+1)) m fc)) :
 ∀(j k:Nat) (L:List Int) (m:Mem) (fc:Nat),L.length=LL->j<L.length->j<k->bubM (fun x y=>decide (x<y)) j L=F->Gk 1 intE ok m a L->(∀i,¬ok i->m.get i=m0.get i)->m.next=m0.next ->
 Q (x5o (x2i6 (d+2)) hs u rec0 k a (I 0) t2 (I e8) (I j) m fc):=by
 intro j
 induction j with
 |zero=>
  intro k L m fc hL hj hk hB hG hm hn0
  obtain⟨k,rfl⟩:∃i,k=i+1:=⟨k-1,by omega⟩
  simp only[x5o]
  unfold xga x1c
  simp(disch:=omega) [x2ic]
  rw[bubM]at hB
  subst hB
  exact hQ m _ hG hm hn0
 |succ j ih=>
  intro k L m fc hL hj hk hB hG hm hn0
  obtain⟨k,rfl⟩:∃i,k=i+1:=⟨k-1,by omega⟩
  obtain⟨q1,i1,l1,st2⟩:=hG.at (k:=((j+1:Nat):Int)) (by omega) (by omega)
  obtain⟨q0,i0,l0,-⟩:=hG.at (k:=(j:Int)) (by omega) (by omega)
  rw[Int.toNat_natCast]at l1 l0
  have hj1:((j+1:Nat):Int)-1=(j:Int):=by omega
  have hjp:(0:Int)<((j+1:Nat):Int):=by omega
  have hw:w64 (((j+1:Nat):Int)-1)=(j:Int):=by rw[x2ic (by omega) (by omega),hj1]
  obtain⟨m2,e1,e2,e3,e4⟩:=st2 (at0 L j)
  rw[Int.toNat_natCast]at e2
  obtain⟨p3,j3,-,st3⟩:=e2.at (k:=(j:Int)) (by omega) (by simp;omega)
  obtain⟨m3,f1,f2,f3,f4⟩:=st3 (at0 L (j+1))
  rw[Int.toNat_natCast]at f2
  obtain rfl:p3=q0:=by rw[j3]at i0;cases i0;rfl
  rw[bubM]at hB
  simp only[x5o]
  unfold xga
  simp only[x2pj,hjp,decide_true,x2jf,sW_t,x2ig,i1,l1,x2ni]
  rw[x2ic (by omega) (by omega),hj1]
  simp only[x2pj,hjp,decide_true,x2jf,sW_t,x2ig,i0,l0,w_Less d,x2iv,sPick_B,i1,l1,x2ni]
  by_cases ct:at0 L (j+1)<at0 L j
  .rw[if_pos (by simpa using ct)]at hB
   simp only[ct,decide_true,x2iw,x2ig,i0,i1,e1,f1,x2ni,hw]
   exact ih k _ m3 _ (by simpa using hL) (by simp;omega) (by omega) hB f2 (fun i hi=>by rw[f4 i hi,e4 i hi];exact hm i hi) (by rw[f3,e3];exact hn0)
  .rw[if_neg (by simpa using ct)]at hB
   subst hB
   simp only[ct,decide_false,x2ky]
   unfold x1c
   simp(disch:=omega) [x2ic]
   exact hQ _ _ hG hm hn0
theorem c_insertO(d:Nat)(hs:FHs){a:AV}{ok:Id->Prop}{L:List Int}{m:Mem}(hL:L.length<=1000)(hG:Gk 1 intE ok m a L) :
 ∃m',x2i6 (d+3) hs x7o [a,I 0,I L.length] m=some (.tup [],m')/\Gk 1 intE ok m' a (isoM (fun x y=>decide (x<y)) (L.length-1) L)/\m'.next=m.next+1/\x2m2 ok m m':=by
 rw[x1fn]
 unfold xiq xmv
 simp(disch:=omega) [x2ic]
 by_cases h0:L.length=0
 .obtain⟨NM,hNM⟩:∃NM,NN=NM+1:=⟨NN-1,by have:=x2in;omega⟩
  rw[hNM]
  simp only[x2m]
  unfold xaw
  simp[h0]
  exact⟨hG.frame fun _ _=>rfl,fun j _=>rfl⟩
 .refine x2j1 (N:=L.length-1) (σ:=Unit) (fun j k _ m' fc=>x2m (x2i6 (d+2)) hs m.next j a (I 0) (I L.length) (I ((k+1:Nat):Int)) m' fc)
   (fun k _ m'=>Gk 1 intE ok m' a (isoM (fun x y=>decide (x<y)) k L)/\m'.next=m.next+1/\x2m2 ok m m')
   (fun r=>∃m',r=some (.tup [],m')/\Gk 1 intE ok m' a (isoM (fun x y=>decide (x<y)) (L.length-1) L)/\m'.next=m.next+1/\x2m2 ok m m') ?_ ?_ NN 0 () _ _ (by omega) (by rw[x2in];omega) ⟨hG.frame fun _ _=>rfl,rfl,fun j _=>rfl⟩
  .rintro j k-m1 fc hk ⟨h1,h3,h4⟩ next
   have hk':(((k+1:Nat):Int))<(L.length:Int):=by omega
   simp only[x2m]
   unfold xaw xav
   simp only[x2iv,hk',decide_true,x2iw,x2ig]
   have hil:=iso_len (fun x y=>decide (x<y)) k L
   refine l_bubO d hs m.next (x2m (x2i6 (d+2)) hs m.next j) ((k+1:Nat):Int) (I L.length) (fun r=>∃m',r=some (.tup [],m')/\Gk 1 intE ok m' a (isoM (fun x y=>decide (x<y)) (L.length-1) L)/\m'.next=m.next+1/\x2m2 ok m m') (m0:=m1) (LL:=L.length) hL (by omega) (isoM (fun x y=>decide (x<y)) (k+1) L) (fun m2 fc2 g1 g2 g3=>?_) (k+1) NN (isoM (fun x y=>decide (x<y)) k L) m1 _ hil (by omega) (by rw[x2in];omega) (x2qr _ k L).symm h1 (fun _ _=>rfl) rfl
   exact next () m2 fc2 ⟨g1,by omega,fun j hj=>by rw[g2 j hj,h4 j hj]⟩
  .rintro j-m1 fc ⟨h1,h3,h4⟩
   have hk':¬(((L.length-1+1:Nat):Int))<(L.length:Int):=by omega
   simp only[x2m]
   unfold xaw
   simp only[x2iv,hk',decide_false,x2ky,x2ig]
   exact⟨m1,rfl,h1,h3,h4⟩
theorem Gk.sl1{ok:Id->Prop}{m:Mem}{a:AV}{l:List Int}(h:Gk 1 intE ok m a l)(k:Nat):∃a',Ints a' l/\Go.Ix.frz m.get (k+2) a=some a':=h.frz x2im x2l8
def okZ(t:Nat):Id->Prop:=fun id=>id.1=0/\id.2.2=t
theorem joinM_max{l:List Int}{p:Pq}{k:Nat}(hk:k<l.length):at0 (x2j4 l p) k=if at0 l k=(if at0 l p.b.toNat > at0 l p.a.toNat then at0 l p.b.toNat else at0 l p.a.toNat)then mn (at0 l p.a.toNat) (at0 l p.b.toNat)else at0 l k:=by
 rw[x2n4 hk]
 unfold mn
 generalize at0 l k=x
 generalize at0 l p.a.toNat=a
 generalize at0 l p.b.toNat=b
 by_cases h1:x=a<;>by_cases h2:x=b<;>by_cases h3:b > a<;>by_cases h4:b<a<;>simp[h1,h2,h3,h4]<;>omega
def Oth(u:Nat)(m m':Mem):Prop:=∀j:Id,¬j.1=u->m'.get j=m.get j
def okU7(u t:Nat):Id->Prop:=fun id=>id.1=u/\id.2.2=t
theorem l_rjoin1(d u:Nat)(hs:FHs){f s p a:AV}{l:List Int}{q:Pq}(t7:AV)(rec0:AV->AV->AV->AV->Mem->Nat->O2)(Q:O2->Prop)(hl:l.length<=1000){m0:Mem}(hQ:∀m fc,Gk 1 intE (okU7 u 22) m a (x2j4 l q)->m.get (u,0,2)=some (.row [s,p] 0 false)->(m.next=m0.next/\Oth u m0 m)->Q (rec0 f (.ptr (u,0,2) 0 0) a t7 m fc))(t7':AV)(ht:sAdd t7' (I 1)=some t7) :
 ∀(n k:Nat) (x:Unit) (m:Mem) (fc:Nat),k<=l.length->l.length<n+k->(Gk 1 intE (okU7 u 22) m a ((x2j4 l q).take k++l.drop k)/\m.get (u,0,2)=some (.row [s,p] 0 false)/\(m.next=m0.next/\Oth u m0 m)) ->
 Q (x39 (x2i6 d) hs u rec0 n f (.ptr (u,0,2) 0 0) a t7' (I (at0 l q.a.toNat)) (I (at0 l q.b.toNat)) (I k) m fc):=by
 have hX:(x2j4 l q).length=l.length:=x2rs l q
 refine x2j1 (fun n k _ m fc=>x39 (x2i6 d) hs u rec0 n f (.ptr (u,0,2) 0 0) a t7' (I (at0 l q.a.toNat)) (I (at0 l q.b.toNat)) (I k) m fc)
  (fun k _ m=>Gk 1 intE (okU7 u 22) m a ((x2j4 l q).take k++l.drop k)/\m.get (u,0,2)=some (.row [s,p] 0 false)/\(m.next=m0.next/\Oth u m0 m)) Q ?_ ?_
 .rintro n k-m1 fc hk ⟨h1,h2,h3⟩ next
  have hk':(k:Int)<(l.length:Int):=by omega
  have hml:=x2np (l:=l) (X:=x2j4 l q) hX (k:=k) (by omega)
  have hlen:=h1.len (y:=x2) x2il
  rw[hml]at hlen
  obtain⟨c,i3,l3,st⟩:=h1.at (k:=(k:Int)) (by omega) (by omega)
  rw[Int.toNat_natCast,x2rv hX hk]at l3
  have hj:=joinM_max (p:=q) hk
  simp only[x39]
  unfold xep xeo x9u
  by_cases c1:at0 l k=(if at0 l q.b.toNat > at0 l q.a.toNat then at0 l q.b.toNat else at0 l q.a.toNat)
  .rw[if_pos c1]at hj
   obtain⟨m2,e1,e2,e3,e4⟩:=st (mn (at0 l q.a.toNat) (at0 l q.b.toNat))
   rw[Int.toNat_natCast,<-hj,x2tn hX hk]at e2
   unfold mn at e1
   simp only[hlen,x2ig,x2iv,hk',decide_true,x2iw,i3,l3,sMax_I,sEq_I,c1,sMin_I,e1]
   simp(disch:=omega) [x2ic]
   exact next () m2 _ ⟨e2,by rw[e4 _ (by unfold okU7;simp)];exact h2,by rw[e3];exact h3.1,fun j hj=>by rw[e4 j (by unfold okU7;exact fun h=>hj h.1)];exact h3.2 j hj⟩
  .rw[if_neg c1]at hj
   simp only[hlen,x2ig,x2iv,hk',decide_true,x2iw,i3,l3,sMax_I,sEq_I,decide_eq_false c1,x2ky]
   simp(disch:=omega) [x2ic]
   exact next () m1 _ ⟨by rw[<-mix_id hX hk hj];exact h1,h2,h3⟩
 .rintro n-m1 fc ⟨h1,h2,h3⟩
  have hml:=x2np (l:=l) (X:=x2j4 l q) hX (k:=l.length) (by omega)
  have hlen:=h1.len (y:=x2) x2il
  rw[hml]at hlen
  rw[List.drop_of_length_le (Nat.le_refl _),List.take_of_length_le (by omega),List.append_nil]at h1
  simp only[x39]
  unfold xep xi
  simp[hlen,ht]
  exact hQ _ _ h1 h2 h3
def uniM(n:Nat)(P:List Pq)(F:List Int):List Int:=joinsM (freshM n) (prs P F)
theorem x2tw{n:Nat}{P:List Pq}{F:List Int}(h:Rng n P F):Lab n (uniM n P F):=(Lab.fresh n).joins fun p hp=>by
 obtain⟨i,hi,rfl⟩:=List.mem_map.mp hp
 exact(h i hi).2
theorem Rng.take{n:Nat}{P:List Pq}{F:List Int}(h:Rng n P F)(k:Nat):Rng n P (F.take k):=fun i hi=>h i (List.mem_of_mem_take hi)
theorem x2wt{n:Nat}{P:List Pq}{F:List Int}{k:Nat}(hk:k<F.length):uniM n P (F.take (k+1))=x2j4 (uniM n P (F.take k)) (prAt P (at0 F k)):=by
 unfold uniM prs
 rw[List.take_succ_eq_append_getElem hk,List.map_append,joins_app,x2io hk]
 rfl
theorem x2wu(d:Nat)(hh:FHs){s p f:AV}{l:List Scene}{P:List Pq}{F:List Int}{m0:Mem}(hs:Sl Scene.c s l)(hp:Sl Pq.c p P)(hfl:sLen Tryz.prog x2 f=some (I F.length))(hfr:∀m:Mem,(Oth m0.next m0 m)->∀k,k<F.length->∃q,sIx 1 f (I (k:Int))=some q/\sLd false 1 q m=some (I (at0 F k))/\∀a b:Nat,x2i9 (tR q) (some [],some [(m0.next,a,b)])=true)(hR:Rng l.length P F)(hl:l.length<=60)(hF:F.length<=1000) :
 ∃a m',x2i6 (d+1) hh x1i [.agg [s,p],f] m0=some (a,m')/\Gk 1 intE (okU7 m0.next 22) m' a (uniM l.length P F)/\(m'.next=m0.next+1/\Oth m0.next m0 m'):=by
 rw[x1ej]
 unfold xho xkp xes
 obtain⟨u,hu⟩:∃u,m0.next=u:=⟨_,rfl⟩
 simp only[hu]at *
 simp[hs.one,hp.one]
 refine x2j1 (N:=l.length) (fun n k a m fc=>x53 (x2i6 d) hh u n f (.ptr (u,0,2) 0 0) a (I k) m fc)
  (fun k a m=>m.get (u,0,2)=some (.row [s,p] 0 false)/\Gk 1 intE (okU7 u 22) m a ((freshM l.length).take k)/\(m.next=u+1/\Oth u m0 m))
  (fun r=>∃a m',r=some (a,m')/\Gk 1 intE (okU7 u 22) m' a (uniM l.length P F)/\(m'.next=u+1/\Oth u m0 m')) ?_ ?_ NN 0 nilS _ _ (by omega) (by rw[x2in];omega)
  ⟨by simp,by simpa using Gk.nil,rfl,fun j hj=>by rw[Mem.get_new,if_neg (by rintro rfl;exact hj rfl)];rfl⟩
 .rintro n k a m fc hk ⟨hg,hG,hn,hj⟩ next
  have hk':(k:Int)<(l.length:Int):=by omega
  have hlt:((freshM l.length).take k).length=k:=by simp[freshM];omega
  obtain⟨a2,m2,e1,e2,-,-,e3,e4⟩:=hG.app (bytes:=8) (id0:=(u,fc+8,22)) x2im (by omega) ⟨rfl,rfl⟩ (by unfold x2ik;omega) (k:Int)
  simp only[x53]
  unfold xer
  simp(disch:=omega) [hg,hs.len x2jk,hk',x2jy,x2ic]
  rw[show elems m.get 1 (.slit [I (k:Int)] 1 true)=some (intE (k:Int),1)from rfl,e1]
  exact next a2 m2 _ ⟨by rw[e4 _ (by unfold okU7;simp)];exact hg,by rw[<-x2qq hk];exact e2,by omega,fun j hj2=>by rw[e4 j (by unfold okU7;exact fun h=>hj2 h.1)];exact hj j hj2⟩
 .rintro n a m fc ⟨hg,hG,hn,hj⟩
  have hk:¬((l.length:Int)<(l.length:Int)):=by omega
  rw[List.take_of_length_le (by simp[freshM])]at hG
  simp only[x53]
  unfold xer x3b
  simp[hg,hs.len x2jk]
  refine x2j1 (N:=F.length) (σ:=Unit) (fun n k _ m fc=>x3a (x2i6 d) hh u n f (.ptr (u,0,2) 0 0) a (I k) m fc)
   (fun k _ m=>m.get (u,0,2)=some (.row [s,p] 0 false)/\Gk 1 intE (okU7 u 22) m a (uniM l.length P (F.take k))/\(m.next=u+1/\Oth u m0 m))
   (fun r=>∃a m',r=some (a,m')/\Gk 1 intE (okU7 u 22) m' a (uniM l.length P F)/\(m'.next=u+1/\Oth u m0 m')) ?_ ?_ NN 0 () m _ (by omega) (by rw[x2in];omega) ⟨hg,by simpa[uniM,prs,joinsM]using hG,hn,hj⟩
  .rintro n k-m fc hk ⟨hg,hG,hn,hj⟩ next
   have hk':(k:Int)<(F.length:Int):=by omega
   obtain⟨⟨r0,r1⟩,hq⟩:=hR.get hk
   have hq':=hq
   obtain⟨q0,q1,q2⟩:=hq
   have hL:=(x2tw (hR.take k)).len
   obtain⟨qa,ix,ld,hap⟩:=hfr m hj k hk
   have ip:=hp.ixz Pq.len r0 r1
   have lp:=fun m=>x2jr (m:=m) (enc:=Pq.c) Pq.len (by omega) (show(at0 F k).toNat<P.length by omega)
   rw[<-x2nq (by omega)]at lp
   have hus:=x2wt (n:=l.length) (P:=P) hk
   generalize uniM l.length P (F.take k)=cur at *
   generalize prAt P (at0 F k)=q at *
   simp only[Pq.c]at lp
   simp only[x3a]
   unfold xeq x9v
   simp[hfl,hk',hg,ix,ld,ip,lp,x2l9,hap]
   simp[tR,x2i9,disj]
   generalize hm1:Mem.set _ _ _=m1
   have g1:m1.get (u,0,2)=some (.row [s,p] 0 false):=by rw[<-hm1];simp[hg]
   have g8:m1.get (u,fc+4+8,8)=some (.row [I q.a,I q.b] 0 false):=by rw[<-hm1];simp
   have hj1:m1.next=u+1/\Oth u m0 m1:=by
    refine⟨by rw[<-hm1];exact hn,fun j hj2=>?_⟩
    rw[<-hm1,Mem.get_set,if_neg (by rintro rfl;exact hj2 rfl),Mem.get_new,if_neg (by rintro rfl;exact hj2 rfl)]
    exact hj j hj2
   have hG1:Gk 1 intE (okU7 u 22) m1 a cur:=hG.frame fun j hj=>by
    obtain⟨h1,h2⟩:=hj
    rw[<-hm1,Mem.get_set,if_neg,Mem.get_new,if_neg]<;>(rintro rfl;simp at h2)
   obtain⟨c1,i1,l1,-⟩:=hG1.at (k:=q.a) (by omega) (by omega)
   obtain⟨c2,i2,l2,-⟩:=hG1.at (k:=q.b) (by omega) (by omega)
   simp[g8,i1,l1,i2,l2]
   refine l_rjoin1 d u hh (f:=f) (s:=s) (p:=p) (a:=a) (l:=cur) (q:=q) (I ((k:Int)+1)) (x3a (x2i6 d) hh u n) (fun r=>∃a m',r=some (a,m')/\Gk 1 intE (okU7 u 22) m' a (uniM l.length P F)/\(m'.next=u+1/\Oth u m0 m')) (by omega) (m0:=m1) (fun m fc h1 h2 h3=>?_) (I k) (by simp(disch:=omega) [x2ic]) NN 0 () m1 _ (by omega) (by rw[x2in];omega) ⟨by simpa using hG1,g1,rfl,fun _ _=>rfl⟩
   exact next () m fc ⟨h2,by rw[hus];exact h1,by rw[h3.1];exact hj1.1,fun j hj2=>by rw[h3.2 j hj2];exact hj1.2 j hj2⟩
  .rintro n-m fc ⟨hg,hG,hn,hj⟩
   have hk:¬((F.length:Int)<(F.length:Int)):=by omega
   rw[List.take_of_length_le (Nat.le_refl _)]at hG
   simp only[x3a]
   unfold xeq xo
   simp[hfl]
   exact⟨a,m,⟨rfl,rfl⟩,hG,hn,hj⟩
theorem a_joined(d:Nat){s p f:AV}{l:List Scene}{P:List Pq}{F:List Int}(hs:Sl Scene.c s l)(hp:Sl Pq.c p P)(hf:Ints f F)(hR:Rng l.length P F)(hl:l.length<=60)(hF:F.length<=1000) :
 RetF (fun v=>Ints v (uniM l.length P F)) (x2i6 (d+1) [] x1i [.agg [s,p],f] mem0):=by
 obtain⟨a,m',h1,h2,-⟩:=x2wu d [] (m0:=mem0) hs hp (hf.len x2il) (fun m _ k hk=>⟨_,hf.ix x2im hk,x2j0 hk,fun _ _=>rfl⟩) hR hl hF
 obtain⟨a',h3,h4⟩:=h2.sl1 4
 rw[h1]
 exact RetF.mk h4 h3
theorem w_joined(d:Nat){s p f:AV}{l:List Scene}{P:List Pq}{F:List Int}(hs:Sl Scene.c s l)(hp:Sl Pq.c p P)(hf:Ints f F)(hR:Rng l.length P F)(hl:l.length<=60)(hF:F.length<=1000)(m:Mem) :
 ∃a,Ints a (uniM l.length P F)/\x2i8 (x2i6 (d+1)) x1i [.agg [s,p],f] m=some (a,m):=
 x2k6 (by simp[hs.still1,hp.still1,hf.still]) (a_joined d hs hp hf hR hl hF) m
structure Right7 (l:List Scene) (P:List Pq):Prop where
 ll:l.length<=60
 ib:InB l
 pl:P.length<=200
 pr:∀p∈P,PqIn l.length p
 nd:P.Nodup
theorem x2wv{n:Int}{P:List Pq}:∀(suf:List Pq) (k:Nat),P.drop k=suf->(x2mi n P k suf).2=0->(∀p∈suf,(0<=p.a/\p.a<p.b)/\p.b<n)/\((P.take k).Nodup->P.Nodup)
 |[],k,hd,_=>⟨fun p hp=>(by cases hp),fun h=>by
  have:P.length<=k:=List.drop_eq_nil_iff.mp hd
  rwa[List.take_of_length_le this]at h⟩
 |x::r,k,hd,h=>by
  obtain⟨hk,he,hd⟩:=x2l7 hd
  simp only[x2mi]at h
  cases c1:wi x.a 0 (n-1)with
  |false=>simp[c1]at h
  |true=>
   cases c2:wi x.b 0 (n-1)with
   |false=>simp[c1,c2]at h
   |true=>
    by_cases c3:x.b<=x.a
    .simp[c1,c2,c3]at h
    .cases c4:(P.take k).any fun q=>q.same x with
     |true=>simp[c1,c2,c3,c4]at h
     |false=>
      simp[c1,c2,c3,c4]at h
      obtain⟨i1,i2⟩:=x2wv r (k+1) hd h
      refine⟨fun p hp=>?_,fun hn=>i2 ?_⟩
      .have:=wi_t c1
       have:=wi_t c2
       rcases List.mem_cons.mp hp with rfl|hp
       .omega
       .exact i1 p hp
      .rw[List.take_succ_eq_append_getElem hk,List.nodup_append]
       refine⟨hn,by simp,fun a ha b hb e=>?_⟩
       simp at hb
       rw[List.any_eq_false]at c4
       have:=c4 a ha
       rw[e,hb,he,Pq.same_self]at this
       exact this rfl
theorem x2zh{l:List Scene}{P:List Pq}(h:(net7 l P).2=0):Right7 l P:=by
 unfold net7 at h
 by_cases he:(x2k7 l).2=0
 .obtain⟨hl,hb⟩:=x2tf he
  simp[he]at h
  by_cases h2:200<P.length
  .simp[h2]at h
  .simp[h2]at h
   obtain⟨i1,i2⟩:=x2wv P 0 rfl h
   exact⟨hl,hb,by omega,fun p hp=>by have:=i1 p hp;exact⟨by omega,by omega,by omega⟩,i2 (by simp)⟩
 .simp[he]at h
theorem Right7.at{l:List Scene}{P:List Pq}(h:Right7 l P){i:Int}(hi:0<=i/\i<P.length):PqIn l.length (prAt P i):=x2qp h.pr hi
end Go.Ix
