import Derived.Test.YtpeakdjfagbpcaaGreatM7Way
import Derived.Test.YtpeakdjfagbpcaaGreatWMut
set_option linter.unusedSimpArgs false
set_option linter.unusedVariables false
namespace Go.Ix
def mn(x y:Int):Int:=if y<x then y else x
def x1zc(u:List Int)(p:Pq):List Int:=u.map fun x=>if x=at0 u p.a.toNat\/x=at0 u p.b.toNat then mn (at0 u p.a.toNat) (at0 u p.b.toNat)else x
def joinsM(u:List Int)(l:List Pq):List Int:=l.foldl x1zc u
def freshM(n:Nat):List Int:=(List.range n).map fun(i:Nat)=>(i:Int)
def PqIn(n:Nat)(p:Pq):Prop:=0<=p.a/\p.a<p.b/\p.b<n
structure Lab (n:Nat) (u:List Int):Prop where
 len:u.length=n
 ok:∀v,v<n->0<=at0 u v/\at0 u v<=v/\at0 u (at0 u v).toNat=at0 u v
theorem x289(u:List Int)(p:Pq):(x1zc u p).length=u.length:=by unfold x1zc;simp
theorem x225{u:List Int}{p:Pq}{v:Nat}(h:v<u.length):at0 (x1zc u p) v=if at0 u v=at0 u p.a.toNat\/at0 u v=at0 u p.b.toNat then mn (at0 u p.a.toNat) (at0 u p.b.toNat)else at0 u v:=by
 rw[x1yt (by rw[x289];exact h),x1yt h]
 unfold x1zc
 rw[List.getElem_map]
theorem mn_or(a b:Int):mn a b=a/\a<=b\/mn a b=b/\b<a:=by
 unfold mn
 split
 .right;exact⟨rfl,by assumption⟩
 .left;exact⟨rfl,by omega⟩
theorem Lab.fresh(n:Nat):Lab n (freshM n):=by
 refine⟨by simp[freshM],fun v hv=>?_⟩
 have:∀w,w<n->at0 (freshM n) w=w:=fun w hw=>by
  rw[x1yt (by simpa[freshM]using hw)]
  simp[freshM]
 rw[this v hv]
 refine⟨by omega,by omega,?_⟩
 rw[Int.toNat_natCast,this v hv]
theorem Lab.get_fresh{n v:Nat}(h:v<n):at0 (freshM n) v=v:=by
 rw[x1yt (by simpa[freshM]using h)]
 simp[freshM]
theorem Lab.lt{n:Nat}{u:List Int}(h:Lab n u){v:Nat}(hv:v<n):(at0 u v).toNat<n:=by
 have:=h.ok v hv
 omega
theorem Lab.join{n:Nat}{u:List Int}(h:Lab n u){p:Pq}(hp:PqIn n p):Lab n (x1zc u p):=by
 obtain⟨h0,h1,h2⟩:=hp
 have ea:=h.ok p.a.toNat (by omega)
 have eb:=h.ok p.b.toNat (by omega)
 refine⟨by rw[x289];exact h.len,fun v hv=>?_⟩
 have ev:=h.ok v hv
 rw[x225 (by rw[h.len];exact hv)]
 obtain⟨m,hm⟩:∃m,m=mn (at0 u p.a.toNat) (at0 u p.b.toNat):=⟨_,rfl⟩
 have hmo:=mn_or (at0 u p.a.toNat) (at0 u p.b.toNat)
 rw[<-hm]at hmo ⊢
 by_cases c:at0 u v=at0 u p.a.toNat\/at0 u v=at0 u p.b.toNat
 .rw[if_pos c]
  refine⟨by omega,by omega,?_⟩
  rw[x225 (by rw[h.len];omega),<-hm]
  have:at0 u m.toNat=at0 u p.a.toNat\/at0 u m.toNat=at0 u p.b.toNat:=by
   rcases hmo with ⟨e,-⟩|⟨e,-⟩
   .rw[e,ea.2.2];exact Or.inl rfl
   .rw[e,eb.2.2];exact Or.inr rfl
  rw[if_pos this]
 .rw[if_neg c]
  refine⟨ev.1,ev.2.1,?_⟩
  rw[x225 (by rw[h.len];omega),ev.2.2,if_neg c]
theorem Lab.joins{n:Nat}:∀{l:List Pq} {u:List Int},Lab n u->(∀p∈l,PqIn n p)->Lab n (joinsM u l)
 |[],_,h,_=>h
 |p::l,u,h,hp=>Lab.joins (l:=l) (h.join (hp p (List.mem_cons_self ..))) fun q hq=>hp q (List.mem_cons_of_mem _ hq)
def Sm(u:List Int)(v w:Nat):Prop:=at0 u v=at0 u w
theorem join_aux(x y a b m:Int)(hmo:m=a/\a<=b\/m=b/\b<a):((if x=a\/x=b then m else x)=(if y=a\/y=b then m else y))↔(x=y\/(x=a/\y=b)\/(x=b/\y=a)):=by
 by_cases c1:x=a\/x=b<;>by_cases c2:y=a\/y=b<;>(first|rw[if_pos c1]|rw[if_neg c1])<;>(first|rw[if_pos c2]|rw[if_neg c2])<;>omega
theorem x261{n:Nat}{u:List Int}{p:Pq}(h:Lab n u){v w:Nat}(hv:v<n)(hw:w<n) :
 Sm (x1zc u p) v w↔Sm u v w\/(Sm u v p.a.toNat/\Sm u w p.b.toNat)\/(Sm u v p.b.toNat/\Sm u w p.a.toNat):=by
 unfold Sm
 rw[x225 (by rw[h.len];exact hv),x225 (by rw[h.len];exact hw)]
 exact join_aux _ _ _ _ _ (mn_or _ _)
theorem join_mono{n:Nat}{u:List Int}{p:Pq}(h:Lab n u){v w:Nat}(hv:v<n)(hw:w<n)(e:Sm u v w):Sm (x1zc u p) v w:=(x261 h hv hw).mpr (Or.inl e)
theorem x28a{n:Nat}:∀{l:List Pq} {u:List Int},Lab n u->(∀p∈l,PqIn n p)->∀{v w:Nat},v<n->w<n->Sm u v w->Sm (joinsM u l) v w
 |[],_,_,_,_,_,_,_,e=>e
 |p::l,u,h,hp,v,w,hv,hw,e=>x28a (l:=l) (h.join (hp p (List.mem_cons_self ..))) (fun q hq=>hp q (List.mem_cons_of_mem _ hq)) hv hw (join_mono h hv hw e)
theorem join_ends{n:Nat}{u:List Int}{p:Pq}(h:Lab n u)(hp:PqIn n p):Sm (x1zc u p) p.a.toNat p.b.toNat:=by
 obtain⟨h0,h1,h2⟩:=hp
 exact(x261 h (by omega) (by omega)).mpr (Or.inr (Or.inl ⟨rfl,rfl⟩))
theorem x23u{n:Nat}:∀{l:List Pq} {u:List Int},Lab n u->(∀p∈l,PqIn n p)->∀p∈l,Sm (joinsM u l) p.a.toNat p.b.toNat
 |[],_,_,_,p,hp=>by cases hp
 |q::l,u,h,hp,p,hm=>by
  have hq:=hp q (List.mem_cons_self ..)
  have hl:∀p∈l,PqIn n p:=fun p h=>hp p (List.mem_cons_of_mem _ h)
  rcases List.mem_cons.mp hm with rfl|hm
  .have:PqIn n p:=hq
   obtain⟨h0,h1,h2⟩:=hq
   exact x28a (l:=l) (h.join this) hl (by omega) (by omega) (join_ends h this)
  .exact x23u (h.join hq) hl p hm
theorem x28b{n:Nat}{R:Nat->Nat->Prop}(hs:∀{a b},R a b->R b a)(ht:∀{a b c},R a b->R b c->R a c):∀{l:List Pq} {u:List Int},Lab n u->(∀p∈l,PqIn n p)->(∀p∈l,R p.a.toNat p.b.toNat)->(∀v w,v<n->w<n->Sm u v w->R v w)->∀v w,v<n->w<n->Sm (joinsM u l) v w->R v w
 |[],_,_,_,_,h=>h
 |p::l,u,h,hp,hR,hu=>by
  have hq:=hp p (List.mem_cons_self ..)
  refine x28b (R:=R) hs ht (l:=l) (h.join hq) (fun q hq=>hp q (List.mem_cons_of_mem _ hq)) (fun q hq=>hR q (List.mem_cons_of_mem _ hq)) fun v w hv hw e=>?_
  obtain⟨h0,h1,h2⟩:=hq
  have hr:=hR p (List.mem_cons_self ..)
  rcases(x261 h hv hw).mp e with e|⟨e1,e2⟩|⟨e1,e2⟩
  .exact hu v w hv hw e
  .exact ht (hu v _ hv (by omega) e1) (ht hr (hs (hu w _ hw (by omega) e2)))
  .exact ht (hu v _ hv (by omega) e1) (ht (hs hr) (hs (hu w _ hw (by omega) e2)))
theorem Lab.ext{n:Nat}{u t:List Int}(h:Lab n u)(k:Lab n t)(he:∀v w,v<n->w<n->(Sm u v w↔Sm t v w)):u=t:=by
 apply List.ext_getElem
 .rw[h.len,k.len]
 .intro v hv hv'
  rw[h.len]at hv
  rw[<-x1yt,<-x1yt]
  have a:=h.ok v hv
  have b:=k.ok v hv
  have e1:at0 t (at0 u v).toNat=at0 t v:=(he _ v (by omega) hv).mp (by unfold Sm;exact a.2.2)
  have e2:at0 u (at0 t v).toNat=at0 u v:=(he _ v (by omega) hv).mpr (by unfold Sm;exact b.2.2)
  have a2:=k.ok (at0 u v).toNat (by omega)
  have b2:=h.ok (at0 t v).toNat (by omega)
  omega
def Indep(u:List Int):List Pq->Prop
 |[]=>True
 |p::l=>¬Sm u p.a.toNat p.b.toNat/\Indep (x1zc u p) l
theorem Indep.app{u:List Int}:∀{l k:List Pq} ,Indep u (l++k)↔Indep u l/\Indep (joinsM u l) k:=by
 intro l
 induction l generalizing u with
 |nil=>intro k;simp[Indep,joinsM]
 |cons p l ih=>
  intro k
  simp only[List.cons_append,Indep]
  rw[ih]
  simp[joinsM,and_assoc]
def x200(n:Nat)(u:List Int):Nat:=((List.range n).filter fun(v:Nat)=>decide (at0 u v=(v:Int))).length
theorem count_ne{n:Nat}{p q:Nat->Bool}{w:Nat}(hw:w<n)(h1:p w=true)(h2:q w=false)(h:∀v,v<n->v≠w->p v=q v):((List.range n).filter p).length=((List.range n).filter q).length+1:=by
 induction n with
 |zero=>omega
 |succ n ih=>
  rw[List.range_succ,List.filter_append,List.filter_append,List.length_append,List.length_append]
  by_cases c:w=n
  .subst c
   have e:(List.range w).filter p=(List.range w).filter q:=by
    apply List.filter_congr
    intro v hv
    have:=List.mem_range.mp hv
    exact h v (by omega) (by omega)
   rw[e]
   simp[h1,h2]
  .have:=ih (by omega) fun v hv=>h v (by omega)
   have e:=h n (by omega) (by omega)
   simp only[List.filter_cons,e,List.filter_nil]
   omega
theorem x262{n:Nat}{u:List Int}{p:Pq}(h:Lab n u)(hp:PqIn n p)(hne:¬Sm u p.a.toNat p.b.toNat):x200 n u=x200 n (x1zc u p)+1:=by
 have hp':=hp
 obtain⟨h0,h1,h2⟩:=hp
 have ea:=h.ok p.a.toNat (by omega)
 have eb:=h.ok p.b.toNat (by omega)
 unfold Sm at hne
 have hmo:=mn_or (at0 u p.a.toNat) (at0 u p.b.toNat)
 obtain⟨w,hw⟩:∃w:Int,w=if at0 u p.b.toNat<at0 u p.a.toNat then at0 u p.a.toNat else at0 u p.b.toNat:=⟨_,rfl⟩
 have hwor:w=at0 u p.a.toNat/\at0 u p.b.toNat<at0 u p.a.toNat\/w=at0 u p.b.toNat/\at0 u p.a.toNat<at0 u p.b.toNat:=by
  rw[hw];split<;>omega
 unfold x200
 refine count_ne (w:=w.toNat) (by omega) ?_ ?_ fun v hv hne'=>?_
 .rw[decide_eq_true_iff]
  rcases hwor with ⟨e,-⟩|⟨e,-⟩
  .rw[e,ea.2.2];omega
  .rw[e,eb.2.2];omega
 .rw[decide_eq_false_iff_not,x225 (by rw[h.len];omega)]
  have:at0 u w.toNat=w:=by
   rcases hwor with ⟨e,-⟩|⟨e,-⟩
   .rw[e];exact ea.2.2
   .rw[e];exact eb.2.2
  rw[this,if_pos (by omega)]
  omega
 .rw[Bool.eq_iff_iff,decide_eq_true_iff,decide_eq_true_iff,x225 (by rw[h.len];omega)]
  have ev:=h.ok v hv
  by_cases c:at0 u v=at0 u p.a.toNat\/at0 u v=at0 u p.b.toNat
  .rw[if_pos c]
   constructor
   .intro e
    omega
   .intro e
    rcases hmo with ⟨q,-⟩|⟨q,-⟩
    .rw[q]at e;rw[e]at ea;have:=ea.2.2;simpa using this
    .rw[q]at e;rw[e]at eb;have:=eb.2.2;simpa using this
  .rw[if_neg c]
theorem x24m{n:Nat}:∀{l:List Pq} {u:List Int},Lab n u->(∀p∈l,PqIn n p)->Indep u l->x200 n u=x200 n (joinsM u l)+l.length
 |[],_,_,_,_=>rfl
 |p::l,u,h,hp,hi=>by
  have hq:=hp p (List.mem_cons_self ..)
  have:=x24m (h.join hq) (fun q hq=>hp q (List.mem_cons_of_mem _ hq)) hi.2
  have h1:=x262 h hq hi.1
  have e:joinsM u (p::l)=joinsM (x1zc u p) l:=rfl
  rw[e,List.length_cons]
  omega
theorem x28c(n:Nat):x200 n (freshM n)=n:=by
 unfold x200
 have:(List.range n).filter (fun(v:Nat)=>decide (at0 (freshM n) v=(v:Int)))=List.range n:=by
  rw[List.filter_eq_self]
  intro v hv
  rw[Lab.get_fresh (List.mem_range.mp hv)]
  simp
 rw[this,List.length_range]
variable{P:List Pq}
def prs(P:List Pq)(F:List Int):List Pq:=F.map (prAt P)
structure For (n:Nat) (P:List Pq) (F:List Int):Prop where
 rng:∀i∈F,0<=i/\i<P.length
 nod:F.Nodup
 ind:Indep (freshM n) (prs P F)
theorem x24n{n:Nat}(hP:∀p∈P,PqIn n p){i:Int}(h:0<=i/\i<P.length):PqIn n (prAt P i):=by
 unfold prAt
 have:i.toNat<P.length:=by omega
 rw[List.getD_eq_getElem?_getD,List.getElem?_eq_getElem this]
 exact hP _ (List.getElem_mem this)
theorem x217{n:Nat}(hP:∀p∈P,PqIn n p){F:List Int}(h:∀i∈F,0<=i/\i<P.length):∀p∈prs P F,PqIn n p:=fun p hp=>by
 obtain⟨i,hi,rfl⟩:=List.mem_map.mp hp
 exact x24n hP (h i hi)
theorem For.take{n:Nat}{F G:List Int}(h:For n P (F++G)):For n P F:=by
 refine⟨fun i hi=>h.rng i (List.mem_append_left _ hi),(List.nodup_append.mp h.nod).1,?_⟩
 have:=h.ind
 unfold prs at this
 rw[List.map_append]at this
 exact(Indep.app.mp this).1
theorem For.cut{n:Nat}(hP:∀p∈P,PqIn n p){F:List Int}(h:For n P F):Cut P F:=by
 have main:∀(k:Nat) (F:List Int),F.length=k->For n P F->Cut P F:=by
  intro k
  induction k with
  |zero=>intro F hl _ i hi;rw[List.length_eq_zero_iff.mp hl]at hi;cases hi
  |succ k ih=>
   intro F hl h
   obtain⟨G,q,rfl⟩:∃G q,F=G++[q]:=by
    have hne:F≠[]:=by rintro rfl;simp at hl
    exact⟨F.dropLast,F.getLast hne,(List.dropLast_concat_getLast hne).symm⟩
   have hG:=h.take
   have hc:=ih G (by simpa using hl) hG
   have hq:=x24n hP (h.rng q (by simp))
   obtain⟨u,hu⟩:∃u,u=joinsM (freshM n) (prs P G):=⟨_,rfl⟩
   have hL:Lab n u:=by rw[hu];exact(Lab.fresh n).joins (x217 hP hG.rng)
   have hind:=h.ind
   unfold prs at hind
   rw[List.map_append]at hind
   have hne:¬Sm u (prAt P q).a.toNat (prAt P q).b.toNat:=by
    have:=(Indep.app.mp hind).2
    rw[show List.map (prAt P) [q]=[prAt P q]from rfl]at this
    rw[hu]
    exact this.1
   have hqG:q∉G:=fun hm=>(List.nodup_append.mp h.nod).2.2 q hm q (by simp) rfl
   have hends:∀j∈G,Sm u (prAt P j).a.toNat (prAt P j).b.toNat:=fun j hj=>by
    rw[hu]
    exact x23u (Lab.fresh n) (x217 hP hG.rng) _ (List.mem_map.mpr ⟨j,hj,rfl⟩)
   unfold Sm at hne hends
   intro i hi
   rcases List.mem_append.mp hi with hi|hi
   .obtain⟨s,h1,h2⟩:=hc i hi
    by_cases c:s (prAt P q).a=s (prAt P q).b
    .refine⟨s,h1,fun j hj hji=>?_⟩
     rcases List.mem_append.mp hj with hj|hj
     .exact h2 j hj hji
     .simp at hj;subst hj;exact c
    .refine⟨fun v=>if at0 u v.toNat=at0 u (prAt P q).b.toNat then !(s v)else s v,?_,fun j hj hji=>?_⟩
     .have:=hends i hi
      simp only
      rw[this]
      split
      .simpa using h1
      .exact h1
     .simp only
      rcases List.mem_append.mp hj with hj|hj
      .have:=hends j hj
       rw[this,h2 j hj hji]
      .simp at hj;subst hj
       rw[if_neg hne,if_pos rfl]
       cases h3:s (prAt P j).a<;>cases h4:s (prAt P j).b<;>simp_all
   .simp at hi;subst hi
    refine⟨fun v=>decide (at0 u v.toNat=at0 u (prAt P i).a.toNat),?_,fun j hj hji=>?_⟩
    .simp[Ne.symm hne]
    .rcases List.mem_append.mp hj with hj|hj
     .simp only;rw[hends j hj]
     .simp at hj;exact absurd hj hji
 exact main _ F rfl h
theorem For.len{n:Nat}(hP:∀p∈P,PqIn n p){F:List Int}(h:For n P F):F.length<=n:=by
 have:=x24m (Lab.fresh n) (x217 hP h.rng) h.ind
 rw[x28c]at this
 have e:(prs P F).length=F.length:=by unfold prs;simp
 omega
end Go.Ix
