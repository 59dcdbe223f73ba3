import Derived.Test.YtpeakdjfagbpcaaGreatWg0
import Derived.Test.YtpeakdjfagbpcaaGreatWg2
import Derived.Test.YtpeakdjfagbpcaaGreatWg1
import Derived.Test.YtpeakdjfagbpcaaGreatFxSound
set_option linter.unusedSimpArgs false
namespace Go.Ix
open Go.Proofs
theorem Edge.still(e:Edge):e.c.all still1=true:=rfl
def fewE:List Edge->Bool
 |[]=>true
 |e::r=>bif decide (20<e.wt)||decide (5<(e.jump.natAbs:Int))then false else fewE r
def few(n:Int)(l:List Edge):Bool:=
 bif !decide ((checkNet n l).2=0)then decide ((l.length:Int)<=16)||(decide (600<(l.length:Int))&&decide ((l.length:Int)<=602))
 else bif decide (10<n)||decide (16<(l.length:Int))then false else fewE l
end Go.Ix
set_option linter.unusedVariables false
namespace Go.Ix
open Go.Proofs
theorem x1b4{α:Type}{enc:α->List AV}{z bytes:Nat}(hz:∀x,(enc x).length=z){a:AV}{l:List α}(h:Sl enc a l)(hr:x13o l.length bytes)(id:Id)(m:Mem) :
 (l=[]/\∀{R:Type} (k:AV->Mem->Option R),sApp z bytes id (elems m.get z a) (.slit [] 0 true) m k=k (.slit [] 0 true) m) \/
 (l≠[]/\∀{R:Type} (k:AV->Mem->Option R),sApp z bytes id (elems m.get z a) (.slit [] 0 true) m k=k (.sref id 0 0 l.length z true) (m.new id (.row (l.flatMap enc) 0 false))):=by
 have he:=h.elems hz m.get
 by_cases hq:l.length=0
 .refine .inl ⟨List.length_eq_zero_iff.mp hq,fun k=>?_⟩
  rw[he,x1f6 hr,decide_eq_true hq]
  rfl
 .refine .inr ⟨fun e=>hq (by rw[e];rfl),fun k=>?_⟩
  rw[he,x1f6 hr,decide_eq_false hq]
  rfl
theorem x172{α:Type}{enc:α->List AV}{z k:Nat}(hz:∀x,(enc x).length=z)(hs:∀x,(enc x).all still1=true){objs:Id->Option Ob}{id:Id}{l:List α}{x:Bool}(hg:objs id=some (.row (l.flatMap enc) 0 false)) :
 frz objs (k+2) (.sref id 0 0 l.length z x)=some (.slit (l.flatMap enc) l.length false):=by
 have hl:=x15l hz l
 have:=x194 (objs:=objs) (id:=id) (cs:=l.flatMap enc) (ver:=0) (off:=0) (n:=l.length) (z:=z) (k:=k) (f:=false) (x:=x) hg (by omega) (by
  rw[List.drop_zero,List.take_of_length_le (by omega)];exact x185 hs l)
 rw[List.drop_zero,List.take_of_length_le (by omega)]at this
 exact this
theorem x1cs{objs:Id->Option Ob}{a b a' b':AV}{k:Nat}(ha:frz objs (k+1) a=some a')(hb:frz objs (k+1) b=some b'):frz objs (k+2) (.agg [a,b])=some (.agg [a',b']):=by
 show([a,b].mapM (frz objs (k+1))).map AV.agg=_
 simp only[List.mapM_cons,List.mapM_nil,ha,hb]
 rfl
theorem z_snet:xb1=[nilS,nilS]:=by kernel_rfl
theorem x1ic(d:Nat){s p:AV}{l:List Scene}{P:List Pq}(hs:Sl Scene.c s l)(hp:Sl Pq.c p P)(hl:l.length<=1000000)(hP:P.length<=1000000)(m:Mem) :
 ∃s' p',Sl Scene.c s' l/\Sl Pq.c p' P/\x13f (x13e (d+1)) x3g [.agg [s,p]] m=some (.agg [s',p'],m):=by
 have hr:x13o l.length 32:=by unfold x13o;omega
 have hr2:x13o P.length 16:=by unfold x13o;omega
 have key:RetF (fun v=>∃s' p',v=.agg [s',p']/\Sl Scene.c s' l/\Sl Pq.c p' P) (x13e (d+1) [] x3g [.agg [s,p]] mem0):=by
  rw[xli]
  unfold x93 xb0
  have a1:=fun m=>x1b4 Scene.len hs hr (0,5,6) m
  have a2:=fun m=>x1b4 Pq.len hp hr2 (0,9,10) m
  have hx:=hs.tX
  have hx2:=hp.tX
  simp[mem0,hs.one,hp.one,z_snet]
  generalize hm1:Mem.new _ _ _=m1
  rcases a1 m1 with ⟨rfl,h1⟩|⟨h0,h1⟩
  .simp only[h1]
   simp[<-hm1]
   rcases a2 m1 with ⟨rfl,h2⟩|⟨h02,h2⟩<;>rw[<-hm1]at h2
   .simp[h2,x13z,x14k,sLdP,tR,tA,hx,hx2,x13i,disj,<-hm1]
    exact RetF.st rfl ⟨_,_,rfl,Sl.lit [] true,Sl.lit [] true⟩
   .simp[h2,x13z,x14k,sLdP,tR,tA,hx,hx2,x13i,disj,<-hm1]
    refine RetF.mk (x1cs rfl (x172 (k:=3) Pq.len Pq.still (x:=true) (l:=P) ?_)) ⟨_,_,rfl,Sl.lit [] true,Sl.lit P false⟩
    simp
  .simp only[h1]
   simp[<-hm1]
   generalize hm2:Mem.new (Mem.new _ _ _) (0,5,6) _=m2
   rcases a2 m2 with ⟨rfl,h2⟩|⟨h02,h2⟩
   .simp only[h2]
    simp[x13z,x14k,sLdP,tR,tA,hx,hx2,x13i,disj,<-hm2]
    refine RetF.mk (x1cs (x172 (k:=3) Scene.len Scene.stillA (x:=true) (l:=l) ?_) rfl) ⟨_,_,rfl,Sl.lit l false,Sl.lit [] true⟩
    simp
   .simp only[h2]
    simp[x13z,x14k,sLdP,tR,tA,hx,hx2,x13i,disj,<-hm2]
    refine RetF.mk (x1cs (x172 (k:=3) Scene.len Scene.stillA (x:=true) (l:=l) ?_) (x172 (k:=3) Pq.len Pq.still (x:=true) (l:=P) ?_)) ⟨_,_,rfl,Sl.lit l false,Sl.lit P false⟩<;>simp
 obtain⟨v,⟨s',p',rfl,h1,h2⟩,hc⟩:=x15c (by simp[hs.still1,hp.still1]) key m
 exact⟨s',p',h1,h2,hc⟩
end Go.Ix
namespace Go.Ix
variable{R:Type}{m:Mem}
theorem x18a:∀l:List Int,l.flatMap intE=l.map I
 |[]=>rfl
 |x::l=>by rw[List.flatMap_cons,x18a l];rfl
theorem x17k(l:List Int):(l.flatMap intE).length=l.length:=by rw[x18a];simp
abbrev srI(id:Id)(n:Nat):AV:=.sref id 0 0 n 1 true
@[simp high] theorem ldRow_int{l:List Int}{k:Nat}{fz:Bool}(hk:k<l.length):x193 false 1 0 k (some (.row (l.flatMap intE) 0 fz))=some (I (at0 l k)):=by
  simp only[x193,Nat.beq_refl,cond_true,rd,Bool.false_eq_true,if_false]
  rw[x18a,<-List.map_drop,x14f hk,x13s hk]
  rfl
@[simp high] theorem stRow_int{l:List Int}{k:Nat}{v:Int}(hk:k<l.length):stRow 1 0 k (I v) (some (.row (l.flatMap intE) 0 false))=some (.row ((l.set k v).flatMap intE) 0 false):=by
  have h:(0:Nat)=0/\(I v).cells.length=1/\k+1<=(l.flatMap intE).length/\((I v).cells.all AV.one)=true:=⟨rfl,rfl,by rw[x17k];omega,rfl⟩
  rw[x1a2,decide_eq_true h,cond_true]
  simp only[x18a,x13y,cells_I]
  congr 2
  rw[List.map_set,List.set_eq_take_append_cons_drop,if_pos (by simpa using hk)]
  simp
def mn(x y:Int):Int:=if y<x then y else x
def x140(u:List Int)(p:Pq):List Int:=u.map fun x=>if x=at0 u p.a.toNat\/x=at0 u p.b.toNat then mn (at0 u p.a.toNat) (at0 u p.b.toNat)else x
def joinsM(u:List Int)(l:List Pq):List Int:=l.foldl x140 u
def freshM(n:Nat):List Int:=(List.range n).map fun(i:Nat)=>(i:Int)
def PqIn(n:Nat)(p:Pq):Prop:=0<=p.a/\p.a<p.b/\p.b<n
structure Lab (n:Nat) (u:List Int):Prop where
 len:u.length=n
 ok:∀v,v<n->0<=at0 u v/\at0 u v<=v/\at0 u (at0 u v).toNat=at0 u v
theorem x1b5(u:List Int)(p:Pq):(x140 u p).length=u.length:=by unfold x140;simp
theorem x173{u:List Int}{p:Pq}{v:Nat}(h:v<u.length):at0 (x140 u p) v=if at0 u v=at0 u p.a.toNat\/at0 u v=at0 u p.b.toNat then mn (at0 u p.a.toNat) (at0 u p.b.toNat)else at0 u v:=by
 rw[x13s (by rw[x1b5];exact h),x13s h]
 unfold x140
 rw[List.getElem_map]
theorem mn_or(a b:Int):mn a b=a/\a<=b\/mn a b=b/\b<a:=by
 unfold mn
 split
 .right;exact⟨rfl,by assumption⟩
 .left;exact⟨rfl,by omega⟩
theorem Lab.fresh(n:Nat):Lab n (freshM n):=by
 refine⟨by simp[freshM],fun v hv=>?_⟩
 have:∀w,w<n->at0 (freshM n) w=w:=fun w hw=>by
  rw[x13s (by simpa[freshM]using hw)]
  simp[freshM]
 rw[this v hv]
 refine⟨by omega,by omega,?_⟩
 rw[Int.toNat_natCast,this v hv]
theorem Lab.get_fresh{n v:Nat}(h:v<n):at0 (freshM n) v=v:=by
 rw[x13s (by simpa[freshM]using h)]
 simp[freshM]
theorem Lab.lt{n:Nat}{u:List Int}(h:Lab n u){v:Nat}(hv:v<n):(at0 u v).toNat<n:=by
 have:=h.ok v hv
 omega
theorem Lab.join{n:Nat}{u:List Int}(h:Lab n u){p:Pq}(hp:PqIn n p):Lab n (x140 u p):=by
 obtain⟨h0,h1,h2⟩:=hp
 have ea:=h.ok p.a.toNat (by omega)
 have eb:=h.ok p.b.toNat (by omega)
 refine⟨by rw[x1b5];exact h.len,fun v hv=>?_⟩
 have ev:=h.ok v hv
 rw[x173 (by rw[h.len];exact hv)]
 obtain⟨m,hm⟩:∃m,m=mn (at0 u p.a.toNat) (at0 u p.b.toNat):=⟨_,rfl⟩
 have hmo:=mn_or (at0 u p.a.toNat) (at0 u p.b.toNat)
 rw[<-hm]at hmo ⊢
 by_cases c:at0 u v=at0 u p.a.toNat\/at0 u v=at0 u p.b.toNat
 .rw[if_pos c]
  refine⟨by omega,by omega,?_⟩
  rw[x173 (by rw[h.len];omega),<-hm]
  have:at0 u m.toNat=at0 u p.a.toNat\/at0 u m.toNat=at0 u p.b.toNat:=by
   rcases hmo with ⟨e,-⟩|⟨e,-⟩
   .rw[e,ea.2.2];exact Or.inl rfl
   .rw[e,eb.2.2];exact Or.inr rfl
  rw[if_pos this]
 .rw[if_neg c]
  refine⟨ev.1,ev.2.1,?_⟩
  rw[x173 (by rw[h.len];omega),ev.2.2,if_neg c]
theorem Lab.joins{n:Nat}:∀{l:List Pq} {u:List Int},Lab n u->(∀p∈l,PqIn n p)->Lab n (joinsM u l)
 |[],_,h,_=>h
 |p::l,u,h,hp=>Lab.joins (l:=l) (h.join (hp p (List.mem_cons_self ..))) fun q hq=>hp q (List.mem_cons_of_mem _ hq)
def Sm(u:List Int)(v w:Nat):Prop:=at0 u v=at0 u w
theorem join_aux(x y a b m:Int)(hmo:m=a/\a<=b\/m=b/\b<a):((if x=a\/x=b then m else x)=(if y=a\/y=b then m else y))↔(x=y\/(x=a/\y=b)\/(x=b/\y=a)):=by
 by_cases c1:x=a\/x=b<;>by_cases c2:y=a\/y=b<;>(first|rw[if_pos c1]|rw[if_neg c1])<;>(first|rw[if_pos c2]|rw[if_neg c2])<;>omega
theorem x1ct{n:Nat}{u:List Int}{p:Pq}(h:Lab n u){v w:Nat}(hv:v<n)(hw:w<n) :
 Sm (x140 u p) v w↔Sm u v w\/(Sm u v p.a.toNat/\Sm u w p.b.toNat)\/(Sm u v p.b.toNat/\Sm u w p.a.toNat):=by
 unfold Sm
 rw[x173 (by rw[h.len];exact hv),x173 (by rw[h.len];exact hw)]
 exact join_aux _ _ _ _ _ (mn_or _ _)
theorem joins_app(u:List Int)(l k:List Pq):joinsM u (l++k)=joinsM (joinsM u l) k:=by unfold joinsM;rw[List.foldl_append]
theorem join_mono{n:Nat}{u:List Int}{p:Pq}(h:Lab n u){v w:Nat}(hv:v<n)(hw:w<n)(e:Sm u v w):Sm (x140 u p) v w:=(x1ct h hv hw).mpr (Or.inl e)
theorem x1fp{n:Nat}:∀{l:List Pq} {u:List Int},Lab n u->(∀p∈l,PqIn n p)->∀{v w:Nat},v<n->w<n->Sm u v w->Sm (joinsM u l) v w
 |[],_,_,_,_,_,_,_,e=>e
 |p::l,u,h,hp,v,w,hv,hw,e=>x1fp (l:=l) (h.join (hp p (List.mem_cons_self ..))) (fun q hq=>hp q (List.mem_cons_of_mem _ hq)) hv hw (join_mono h hv hw e)
theorem join_ends{n:Nat}{u:List Int}{p:Pq}(h:Lab n u)(hp:PqIn n p):Sm (x140 u p) p.a.toNat p.b.toNat:=by
 obtain⟨h0,h1,h2⟩:=hp
 exact(x1ct h (by omega) (by omega)).mpr (Or.inr (Or.inl ⟨rfl,rfl⟩))
theorem x199{n:Nat}:∀{l:List Pq} {u:List Int},Lab n u->(∀p∈l,PqIn n p)->∀p∈l,Sm (joinsM u l) p.a.toNat p.b.toNat
 |[],_,_,_,p,hp=>by cases hp
 |q::l,u,h,hp,p,hm=>by
  have hq:=hp q (List.mem_cons_self ..)
  have hl:∀p∈l,PqIn n p:=fun p h=>hp p (List.mem_cons_of_mem _ h)
  rcases List.mem_cons.mp hm with rfl|hm
  .have:PqIn n p:=hq
   obtain⟨h0,h1,h2⟩:=hq
   exact x1fp (l:=l) (h.join this) hl (by omega) (by omega) (join_ends h this)
  .exact x199 (h.join hq) hl p hm
theorem x1cu{n:Nat}{R:Nat->Nat->Prop}(hs:∀{a b},R a b->R b a)(ht:∀{a b c},R a b->R b c->R a c):∀{l:List Pq} {u:List Int},Lab n u->(∀p∈l,PqIn n p)->(∀p∈l,R p.a.toNat p.b.toNat)->(∀v w,v<n->w<n->Sm u v w->R v w)->∀v w,v<n->w<n->Sm (joinsM u l) v w->R v w
 |[],_,_,_,_,h=>h
 |p::l,u,h,hp,hR,hu=>by
  have hq:=hp p (List.mem_cons_self ..)
  refine x1cu (R:=R) hs ht (l:=l) (h.join hq) (fun q hq=>hp q (List.mem_cons_of_mem _ hq)) (fun q hq=>hR q (List.mem_cons_of_mem _ hq)) fun v w hv hw e=>?_
  obtain⟨h0,h1,h2⟩:=hq
  have hr:=hR p (List.mem_cons_self ..)
  rcases(x1ct h hv hw).mp e with e|⟨e1,e2⟩|⟨e1,e2⟩
  .exact hu v w hv hw e
  .exact ht (hu v _ hv (by omega) e1) (ht hr (hs (hu w _ hw (by omega) e2)))
  .exact ht (hu v _ hv (by omega) e1) (ht (hs hr) (hs (hu w _ hw (by omega) e2)))
theorem Lab.ext{n:Nat}{u t:List Int}(h:Lab n u)(k:Lab n t)(he:∀v w,v<n->w<n->(Sm u v w↔Sm t v w)):u=t:=by
 apply List.ext_getElem
 .rw[h.len,k.len]
 .intro v hv hv'
  rw[h.len]at hv
  rw[<-x13s,<-x13s]
  have a:=h.ok v hv
  have b:=k.ok v hv
  have e1:at0 t (at0 u v).toNat=at0 t v:=(he _ v (by omega) hv).mp (by unfold Sm;exact a.2.2)
  have e2:at0 u (at0 t v).toNat=at0 u v:=(he _ v (by omega) hv).mpr (by unfold Sm;exact b.2.2)
  have a2:=k.ok (at0 u v).toNat (by omega)
  have b2:=h.ok (at0 t v).toNat (by omega)
  omega
def Indep(u:List Int):List Pq->Prop
 |[]=>True
 |p::l=>¬Sm u p.a.toNat p.b.toNat/\Indep (x140 u p) l
theorem Indep.app{u:List Int}:∀{l k:List Pq} ,Indep u (l++k)↔Indep u l/\Indep (joinsM u l) k:=by
 intro l
 induction l generalizing u with
 |nil=>intro k;simp[Indep,joinsM]
 |cons p l ih=>
  intro k
  simp only[List.cons_append,Indep]
  rw[ih]
  simp[joinsM,and_assoc]
def x15x(n:Nat)(u:List Int):Nat:=((List.range n).filter fun(v:Nat)=>decide (at0 u v=(v:Int))).length
theorem count_ne{n:Nat}{p q:Nat->Bool}{w:Nat}(hw:w<n)(h1:p w=true)(h2:q w=false)(h:∀v,v<n->v≠w->p v=q v):((List.range n).filter p).length=((List.range n).filter q).length+1:=by
 induction n with
 |zero=>omega
 |succ n ih=>
  rw[List.range_succ,List.filter_append,List.filter_append,List.length_append,List.length_append]
  by_cases c:w=n
  .subst c
   have e:(List.range w).filter p=(List.range w).filter q:=by
    apply List.filter_congr
    intro v hv
    have:=List.mem_range.mp hv
    exact h v (by omega) (by omega)
   rw[e]
   simp[h1,h2]
  .have:=ih (by omega) fun v hv=>h v (by omega)
   have e:=h n (by omega) (by omega)
   simp only[List.filter_cons,e,List.filter_nil]
   omega
theorem x1cv{n:Nat}{u:List Int}{p:Pq}(h:Lab n u)(hp:PqIn n p)(hne:¬Sm u p.a.toNat p.b.toNat):x15x n u=x15x n (x140 u p)+1:=by
 have hp':=hp
 obtain⟨h0,h1,h2⟩:=hp
 have ea:=h.ok p.a.toNat (by omega)
 have eb:=h.ok p.b.toNat (by omega)
 unfold Sm at hne
 have hmo:=mn_or (at0 u p.a.toNat) (at0 u p.b.toNat)
 obtain⟨w,hw⟩:∃w:Int,w=if at0 u p.b.toNat<at0 u p.a.toNat then at0 u p.a.toNat else at0 u p.b.toNat:=⟨_,rfl⟩
 have hwor:w=at0 u p.a.toNat/\at0 u p.b.toNat<at0 u p.a.toNat\/w=at0 u p.b.toNat/\at0 u p.a.toNat<at0 u p.b.toNat:=by
  rw[hw];split<;>omega
 unfold x15x
 refine count_ne (w:=w.toNat) (by omega) ?_ ?_ fun v hv hne'=>?_
 .rw[decide_eq_true_iff]
  rcases hwor with ⟨e,-⟩|⟨e,-⟩
  .rw[e,ea.2.2];omega
  .rw[e,eb.2.2];omega
 .rw[decide_eq_false_iff_not,x173 (by rw[h.len];omega)]
  have:at0 u w.toNat=w:=by
   rcases hwor with ⟨e,-⟩|⟨e,-⟩
   .rw[e];exact ea.2.2
   .rw[e];exact eb.2.2
  rw[this,if_pos (by omega)]
  omega
 .rw[Bool.eq_iff_iff,decide_eq_true_iff,decide_eq_true_iff,x173 (by rw[h.len];omega)]
  have ev:=h.ok v hv
  by_cases c:at0 u v=at0 u p.a.toNat\/at0 u v=at0 u p.b.toNat
  .rw[if_pos c]
   constructor
   .intro e
    omega
   .intro e
    rcases hmo with ⟨q,-⟩|⟨q,-⟩
    .rw[q]at e;rw[e]at ea;have:=ea.2.2;simpa using this
    .rw[q]at e;rw[e]at eb;have:=eb.2.2;simpa using this
  .rw[if_neg c]
theorem x1b6{n:Nat}:∀{l:List Pq} {u:List Int},Lab n u->(∀p∈l,PqIn n p)->Indep u l->x15x n u=x15x n (joinsM u l)+l.length
 |[],_,_,_,_=>rfl
 |p::l,u,h,hp,hi=>by
  have hq:=hp p (List.mem_cons_self ..)
  have:=x1b6 (h.join hq) (fun q hq=>hp q (List.mem_cons_of_mem _ hq)) hi.2
  have h1:=x1cv h hq hi.1
  have e:joinsM u (p::l)=joinsM (x140 u p) l:=rfl
  rw[e,List.length_cons]
  omega
theorem x1fq(n:Nat):x15x n (freshM n)=n:=by
 unfold x15x
 have:(List.range n).filter (fun(v:Nat)=>decide (at0 (freshM n) v=(v:Int)))=List.range n:=by
  rw[List.filter_eq_self]
  intro v hv
  rw[Lab.get_fresh (List.mem_range.mp hv)]
  simp
 rw[this,List.length_range]
variable{P:List Pq}
def prs(P:List Pq)(F:List Int):List Pq:=F.map (prAt P)
structure For (n:Nat) (P:List Pq) (F:List Int):Prop where
 rng:∀i∈F,0<=i/\i<P.length
 nod:F.Nodup
 ind:Indep (freshM n) (prs P F)
theorem x18b{n:Nat}(hP:∀p∈P,PqIn n p){i:Int}(h:0<=i/\i<P.length):PqIn n (prAt P i):=by
 unfold prAt
 have:i.toNat<P.length:=by omega
 rw[List.getD_eq_getElem?_getD,List.getElem?_eq_getElem this]
 exact hP _ (List.getElem_mem this)
theorem x15h{n:Nat}(hP:∀p∈P,PqIn n p){F:List Int}(h:∀i∈F,0<=i/\i<P.length):∀p∈prs P F,PqIn n p:=fun p hp=>by
 obtain⟨i,hi,rfl⟩:=List.mem_map.mp hp
 exact x18b hP (h i hi)
theorem For.take{n:Nat}{F G:List Int}(h:For n P (F++G)):For n P F:=by
 refine⟨fun i hi=>h.rng i (List.mem_append_left _ hi),(List.nodup_append.mp h.nod).1,?_⟩
 have:=h.ind
 unfold prs at this
 rw[List.map_append]at this
 exact(Indep.app.mp this).1
theorem For.cut{n:Nat}(hP:∀p∈P,PqIn n p){F:List Int}(h:For n P F):Cut P F:=by
 have main:∀(k:Nat) (F:List Int),F.length=k->For n P F->Cut P F:=by
  intro k
  induction k with
  |zero=>intro F hl _ i hi;rw[List.length_eq_zero_iff.mp hl]at hi;cases hi
  |succ k ih=>
   intro F hl h
   obtain⟨G,q,rfl⟩:∃G q,F=G++[q]:=by
    have hne:F≠[]:=by rintro rfl;simp at hl
    exact⟨F.dropLast,F.getLast hne,(List.dropLast_concat_getLast hne).symm⟩
   have hG:=h.take
   have hc:=ih G (by simpa using hl) hG
   have hq:=x18b hP (h.rng q (by simp))
   obtain⟨u,hu⟩:∃u,u=joinsM (freshM n) (prs P G):=⟨_,rfl⟩
   have hL:Lab n u:=by rw[hu];exact(Lab.fresh n).joins (x15h hP hG.rng)
   have hind:=h.ind
   unfold prs at hind
   rw[List.map_append]at hind
   have hne:¬Sm u (prAt P q).a.toNat (prAt P q).b.toNat:=by
    have:=(Indep.app.mp hind).2
    rw[show List.map (prAt P) [q]=[prAt P q]from rfl]at this
    rw[hu]
    exact this.1
   have hqG:q∉G:=fun hm=>(List.nodup_append.mp h.nod).2.2 q hm q (by simp) rfl
   have hends:∀j∈G,Sm u (prAt P j).a.toNat (prAt P j).b.toNat:=fun j hj=>by
    rw[hu]
    exact x199 (Lab.fresh n) (x15h hP hG.rng) _ (List.mem_map.mpr ⟨j,hj,rfl⟩)
   unfold Sm at hne hends
   intro i hi
   rcases List.mem_append.mp hi with hi|hi
   .obtain⟨s,h1,h2⟩:=hc i hi
    by_cases c:s (prAt P q).a=s (prAt P q).b
    .refine⟨s,h1,fun j hj hji=>?_⟩
     rcases List.mem_append.mp hj with hj|hj
     .exact h2 j hj hji
     .simp at hj;subst hj;exact c
    .refine⟨fun v=>if at0 u v.toNat=at0 u (prAt P q).b.toNat then !(s v)else s v,?_,fun j hj hji=>?_⟩
     .have:=hends i hi
      simp only
      rw[this]
      split
      .simpa using h1
      .exact h1
     .simp only
      rcases List.mem_append.mp hj with hj|hj
      .have:=hends j hj
       rw[this,h2 j hj hji]
      .simp at hj;subst hj
       rw[if_neg hne,if_pos rfl]
       cases h3:s (prAt P j).a<;>cases h4:s (prAt P j).b<;>simp_all
   .simp at hi;subst hi
    refine⟨fun v=>decide (at0 u v.toNat=at0 u (prAt P i).a.toNat),?_,fun j hj hji=>?_⟩
    .simp[Ne.symm hne]
    .rcases List.mem_append.mp hj with hj|hj
     .simp only;rw[hends j hj]
     .simp at hj;exact absurd hj hji
 exact main _ F rfl h
theorem x1fr{n:Nat}(hP:∀p∈P,PqIn n p){F:List Int}(hr:∀i∈F,0<=i/\i<P.length):∀{v w:Nat},v<n->w<n->Sm (joinsM (freshM n) (prs P F)) v w->∃l,Wk P l v w/\AllF F l:=by
 intro v w hv hw hs
 let R:Nat->Nat->Prop:=fun v w=>∃l,Wk P l v w/\AllF F l
 have hsym:∀{a b},R a b->R b a:=fun⟨l,h1,h2⟩=>by
  obtain⟨v,h3,h4⟩:=h1.back h2
  exact⟨v,h3,h4⟩
 have htr:∀{a b c},R a b->R b c->R a c:=fun⟨l,h1,h2⟩ ⟨k,h3,h4⟩=>⟨l++k,h1.app h3,h2.app h4⟩
 refine x1cu (R:=R) hsym htr (Lab.fresh n) (x15h hP hr) (fun p hp=>?_) (fun v w hv hw e=>?_) v w hv hw hs
 .obtain⟨i,hi,rfl⟩:=List.mem_map.mp hp
  have hq:=x18b hP (hr i hi)
  obtain⟨h0,h1,h2⟩:=hq
  refine⟨[⟨i,1⟩],⟨?_,?_⟩,fun x hx=>?_⟩
  .unfold frS;simp;omega
  .show toS P ⟨i,1⟩=_
   unfold toS;simp;omega
  .simp at hx;subst hx;exact⟨hi,Or.inl rfl⟩
 .unfold Sm at e
  rw[Lab.get_fresh hv,Lab.get_fresh hw]at e
  exact⟨[],by show(v:Int)=w;exact e,fun _ h=>by cases h⟩
theorem For.len{n:Nat}(hP:∀p∈P,PqIn n p){F:List Int}(h:For n P F):F.length<=n:=by
 have:=x1b6 (Lab.fresh n) (x15h hP h.rng) h.ind
 rw[x1fq]at this
 have e:(prs P F).length=F.length:=by unfold prs;simp
 omega
end Go.Ix
namespace Go.Ix
open Go.Proofs
variable{α:Type}{z:Nat}{enc:α->List AV}{l:List α}{a:AV}
def Gq{α:Type}(z:Nat)(enc:α->List AV)(u:Nat)(T:List Nat)(m:Mem)(a:AV)(l:List α):Prop:=
 (a=nilS/\l=[])\/∃s t ver,t∈T/\a=.sref (u,s,t) ver 0 l.length z true/\m.get (u,s,t)=some (.row (l.flatMap enc) ver false)
theorem Gq.nil{u:Nat}{T:List Nat}{m:Mem}:Gq z enc u T m nilS []:=Or.inl ⟨rfl,rfl⟩
theorem Gq.frame{u:Nat}{T:List Nat}{m m':Mem}(h:Gq z enc u T m a l)(hm:∀s t,t∈T->m'.get (u,s,t)=m.get (u,s,t)):Gq z enc u T m' a l:=by
 rcases h with h|⟨s,t,ver,h0,h1,h2⟩
 .exact Or.inl h
 .exact Or.inr ⟨s,t,ver,h0,h1,by rw[hm _ _ h0];exact h2⟩
theorem Gq.app(hz:∀x,(enc x).length=z)(h0:0<z){u t0 s0 bytes:Nat}{T:List Nat}{m:Mem}(ht:t0∈T)(hr:x13o (l.length+1) bytes)(h:Gq z enc u T m a l)(x:α) :
 ∃a' m',(∀{R:Type} (k:AV->Mem->Option R),sApp z bytes (u,s0,t0) (some (enc x,1)) a m k=k a' m')/\Gq z enc u T m' a' (l++[x])/\m'.next=m.next/\∀j:Id,j.2.2∉T->m'.get j=m.get j:=by
 rcases h with ⟨rfl,rfl⟩|⟨s,t,ver,h1,rfl,hg⟩
 .refine⟨.sref (u,s0,t0) 0 0 1 z true,m.new (u,s0,t0) (.row (enc x) 0 false),fun k=>?_,Or.inr ⟨s0,t0,0,ht,rfl,by simp⟩,rfl,fun j hj=>?_⟩
  .simp only[sApp]
   rw[if_neg (by omega),if_pos (by simpa using hr)]
  .rw[Mem.get_new,if_neg (by rintro rfl;exact hj ht)]
 .have hl:=x15l hz l
  refine⟨.sref (u,s,t) (ver+1) 0 (l.length+1) z true,m.set (u,s,t) (.row (l.flatMap enc++enc x) (ver+1) false),fun k=>?_,Or.inr ⟨s,t,ver+1,h1,by simp,by simp⟩,rfl,fun j hj=>?_⟩
  .simp only[sApp,hg]
   rw[if_pos ⟨trivial,trivial,by omega,hr⟩,if_neg (by omega),if_neg (by rw[hl,Nat.succ_mul];omega),List.drop_zero,List.take_of_length_le (by omega)]
  .rw[Mem.get_set,if_neg (by rintro rfl;exact hj h1)]
theorem Gq.frz(hz:∀x,(enc x).length=z)(hs:∀x,(enc x).all still1=true){u:Nat}{T:List Nat}{m:Mem}(h:Gq z enc u T m a l):∃a',Sl enc a' l/\Go.Ix.frz m.get deep a=some a':=by
 rcases h with ⟨rfl,rfl⟩|⟨s,t,ver,_,rfl,hg⟩
 .exact⟨nilS,Or.inl ⟨rfl,rfl⟩,rfl⟩
 .have hl:=x15l hz l
  refine⟨.slit (l.flatMap enc) l.length false,Sl.lit l false,?_⟩
  have:=x194 (objs:=m.get) (id:=(u,s,t)) (cs:=l.flatMap enc) (ver:=ver) (off:=0) (n:=l.length) (z:=z) (k:=4) (f:=false) (x:=true) hg (by omega) (by
   rw[List.drop_zero,List.take_of_length_le (by omega)];exact x185 hs l)
  rw[List.drop_zero,List.take_of_length_le (by omega)]at this
  exact this
theorem Gq.len{u:Nat}{T:List Nat}{m:Mem}{t e:TypeId}(ht:Tryz.prog.underlying t=some (.slice e))(h:Gq z enc u T m a l):sLen Tryz.prog t a=some (I l.length):=by
 rcases h with ⟨rfl,rfl⟩|⟨s,t,ver,_,rfl,hg⟩
 .exact x1a1 ht
 .rfl
end Go.Ix
namespace Go.Ix
open Go.Proofs
variable{α:Type}{z:Nat}{enc:α->List AV}{l:List α}{a:AV}
def Gk{α:Type}(z:Nat)(enc:α->List AV)(ok:Id->Prop)(m:Mem)(a:AV)(l:List α):Prop:=
 (a=nilS/\l=[])\/∃id ver,ok id/\a=.sref id ver 0 l.length z true/\m.get id=some (.row (l.flatMap enc) ver false)
theorem Gk.nil{ok:Id->Prop}{m:Mem}:Gk z enc ok m nilS []:=Or.inl ⟨rfl,rfl⟩
theorem Gk.frame{ok:Id->Prop}{m m':Mem}(h:Gk z enc ok m a l)(hm:∀id,ok id->m'.get id=m.get id):Gk z enc ok m' a l:=by
 rcases h with h|⟨id,ver,h0,h1,h2⟩
 .exact Or.inl h
 .exact Or.inr ⟨id,ver,h0,h1,by rw[hm _ h0];exact h2⟩
theorem Gk.app(hz:∀x,(enc x).length=z)(h0:0<z){bytes:Nat}{ok:Id->Prop}{id0:Id}{m:Mem}(ht:ok id0)(hr:x13o (l.length+1) bytes)(h:Gk z enc ok m a l)(x:α) :
 ∃a' m',(∀{R:Type} (k:AV->Mem->Option R),sApp z bytes id0 (some (enc x,1)) a m k=k a' m')/\Gk z enc ok m' a' (l++[x])/\a'.cells=[a']/\a'.one=true/\m'.next=m.next/\∀j:Id,¬ok j->m'.get j=m.get j:=by
 rcases h with ⟨rfl,rfl⟩|⟨id,ver,h1,rfl,hg⟩
 .refine⟨.sref id0 0 0 1 z true,m.new id0 (.row (enc x) 0 false),fun k=>?_,Or.inr ⟨id0,0,ht,rfl,by simp⟩,rfl,rfl,rfl,fun j hj=>?_⟩
  .simp only[sApp]
   rw[if_neg (by omega),if_pos (by simpa using hr)]
  .rw[Mem.get_new,if_neg (by rintro rfl;exact hj ht)]
 .have hl:=x15l hz l
  refine⟨.sref id (ver+1) 0 (l.length+1) z true,m.set id (.row (l.flatMap enc++enc x) (ver+1) false),fun k=>?_,Or.inr ⟨id,ver+1,h1,by simp,by simp⟩,rfl,rfl,rfl,fun j hj=>?_⟩
  .simp only[sApp,hg]
   rw[if_pos ⟨trivial,trivial,by omega,hr⟩,if_neg (by omega),if_neg (by rw[hl,Nat.succ_mul];omega),List.drop_zero,List.take_of_length_le (by omega)]
  .rw[Mem.get_set,if_neg (by rintro rfl;exact hj h1)]
theorem Gk.one{ok:Id->Prop}{m:Mem}(h:Gk z enc ok m a l):a.cells=[a]/\a.one=true:=by
 rcases h with ⟨rfl,rfl⟩|⟨id,ver,h1,rfl,hg⟩<;>exact⟨rfl,rfl⟩
theorem Gk.frz(hz:∀x,(enc x).length=z)(hs:∀x,(enc x).all still1=true){ok:Id->Prop}{k:Nat}{m:Mem}(h:Gk z enc ok m a l):∃a',Sl enc a' l/\Go.Ix.frz m.get (k+2) a=some a':=by
 rcases h with ⟨rfl,rfl⟩|⟨id,ver,_,rfl,hg⟩
 .exact⟨nilS,Or.inl ⟨rfl,rfl⟩,rfl⟩
 .have hl:=x15l hz l
  refine⟨.slit (l.flatMap enc) l.length false,Sl.lit l false,?_⟩
  have:=x194 (objs:=m.get) (id:=id) (cs:=l.flatMap enc) (ver:=ver) (off:=0) (n:=l.length) (z:=z) (k:=k) (f:=false) (x:=true) hg (by omega) (by
   rw[List.drop_zero,List.take_of_length_le (by omega)];exact x185 hs l)
  rw[List.drop_zero,List.take_of_length_le (by omega)]at this
  exact this
theorem call1{call:x13d}{f:FuncId}{l:List AV}{m m':Mem}{r:AV}(hl:l.all clean=true)(h:call [] f l ⟨[],m.next⟩=some (r,m')) :
 ∃M:Mem,x16w call f l m=some (r,M)/\M.next=m'.next/\∀i:Id,M.get i=if m.next<=i.1 then m'.get i else m.get i:=by
 refine⟨⟨(m'.hp.filter fun e=>Nat.ble m.next e.1)++(m.hp.filter fun e=>Nat.blt e.1 m.next),m'.next⟩,?_,rfl,fun i=>congrFun (x1ex m'.hp m.hp m.next) i⟩
 unfold x16w
 rw[if_pos hl,h]
theorem x1fs:∃i,Tryz.prog.info? x13x=some i/\i.size=1:=by
 have h:(Tryz.prog.info? x13x).map (fun i=>i.size)=some 1:=by kernel_rfl
 obtain⟨i,h1,h2⟩:=Option.map_eq_some_iff.mp h
 exact⟨i,h1,h2⟩
theorem slice_lo{id:Id}{ver off n:Nat}{full:Bool}{lo:Int}(h0:0<=lo)(h2:lo<=n):x16j Tryz.prog x2 (.sref id ver off n 1 full) (some (I lo)) none=some (.sref id ver (off+lo.toNat) (n-lo.toNat) 1 full):=by
 obtain⟨i,e1,e2⟩:=x1fs
 simp only[x16j,x13t,x13w,e1,asI,Option.getD_some,Option.getD_none]
 rw[if_pos ⟨h0,by omega,by omega,e2.symm⟩,Nat.mul_one,show((n:Int)-lo).toNat=n-lo.toNat by omega]
theorem Gk.len{α:Type}{z:Nat}{enc:α->List AV}{l:List α}{a:AV}{ok:Id->Prop}{m:Mem}{y e:TypeId}(ht:Tryz.prog.underlying y=some (.slice e))(h:Gk z enc ok m a l):sLen Tryz.prog y a=some (I l.length):=by
 rcases h with ⟨rfl,rfl⟩|⟨id,ver,_,rfl,hg⟩
 .exact x1a1 ht
 .rfl
theorem Gk.at{a:AV}{l:List Int}{ok:Id->Prop}{m:Mem}(h:Gk 1 intE ok m a l){k:Int}(h0:0<=k)(hk:k<l.length) :
 ∃q,sIx 1 a (I k)=some q/\sLd false 1 q m=some (I (at0 l k.toNat))/\∀v:Int,∃m',(∀{R:Type} (K:Mem->Option R),sSt 1 q (I v) m K=K m')/\Gk 1 intE ok m' a (l.set k.toNat v)/\m'.next=m.next/\∀j,¬ok j->m'.get j=m.get j:=by
 rcases h with ⟨rfl,rfl⟩|⟨id,ver,hok,rfl,hg⟩
 .simp at hk;omega
 .have hkl:k.toNat<l.length:=by omega
  refine⟨.ptr id ver k.toNat,?_,?_,fun v=>⟨m.set id (.row ((l.set k.toNat v).flatMap intE) ver false),fun K=>?_,Or.inr ⟨id,ver,hok,by simp,by simp⟩,rfl,fun j hj=>?_⟩⟩
  .simp[sIx,asI,h0,hk]
  .rw[ld_ptr hg,rd,if_neg (by simp),x18a,<-List.map_drop,x14f hkl,x13s hkl]
   rfl
  .rw[st_ptr (z:=1) (x:=I v) (k:=K) hg rfl (by rw[x17k];omega) rfl]
   congr 3
   simp only[x18a,x13y,cells_I]
   rw[List.map_set,List.set_eq_take_append_cons_drop,if_pos (by simpa using hkl)]
   simp
  .rw[Mem.get_set,if_neg (by rintro rfl;exact hj hok)]
theorem mix_at{l X:List Int}(hX:X.length=l.length){k:Nat}(hk:k<l.length):at0 (X.take k++l.drop k) k=at0 l k:=by
 rw[x13s (by simp;omega),x13s hk,List.getElem_append_right (by simp;omega)]
 simp[hX,Nat.min_eq_left (Nat.le_of_lt hk)]
theorem mix_set{l X:List Int}(hX:X.length=l.length){k:Nat}(hk:k<l.length):(X.take k++l.drop k).set k (at0 X k)=X.take (k+1)++l.drop (k+1):=by
 have hl:(X.take k).length=k:=by simp;omega
 rw[List.set_append,if_neg (by omega),hl,Nat.sub_self,x14f hk,List.set_cons_zero,List.take_succ_eq_append_getElem (by omega),x13s (by omega),List.append_assoc]
 rfl
theorem mix_id{l X:List Int}(hX:X.length=l.length){k:Nat}(hk:k<l.length)(h:at0 X k=at0 l k):X.take k++l.drop k=X.take (k+1)++l.drop (k+1):=by
 rw[x14f hk,List.take_succ_eq_append_getElem (by omega),<-x13s (show k<X.length by omega),h,x13s hk]
 simp
theorem x1cw{l X:List Int}(hX:X.length=l.length){k:Nat}(hk:k<=l.length):(X.take k++l.drop k).length=l.length:=by
 simp;omega
theorem u_union:Tryz.prog.underlying xey=some (.slice x13x):=by kernel_rfl
def Keep(ok:Id->Prop)(m m':Mem):Prop:=∀j:Id,¬ok j->j.1<m.next->m'.get j=m.get j
theorem c_join(d:Nat)(hs:FHs){ok:Id->Prop}{m:Mem}{a:AV}{l:List Int}{p:Pq}(hG:Gk 1 intE ok m a l)(hok:∀j,ok j->j.1<m.next)(hp:PqIn l.length p)(hl:l.length<=1000) :
 ∃m',x13e (d+1) hs x4j [a,.agg [I p.a,I p.b]] m=some (B (!decide (at0 l p.a.toNat=at0 l p.b.toNat)),m')/\Gk 1 intE ok m' a (x140 l p)/\m'.next=m.next+1/\Keep ok m m':=by
 obtain⟨p0,p1,p2⟩:=hp
 rw[xm5]
 unfold x9p xbo
 obtain⟨m0,hm0⟩:∃m0,m0=(⟨m.hp,m.next+1⟩:Mem).new (m.next,0,3) (.row [I p.a,I p.b] 0 false):=⟨_,rfl⟩
 have hf0:∀j:Id,j.1<m.next->m0.get j=m.get j:=fun j hj=>by
  rw[hm0,Mem.get_new,if_neg (by rintro rfl;exact Nat.lt_irrefl _ hj)];rfl
 have hn0:m0.next=m.next+1:=by rw[hm0];rfl
 have hg:m0.get (m.next,0,3)=some (.row [I p.a,I p.b] 0 false):=by rw[hm0];simp
 have hG0:Gk 1 intE ok m0 a l:=hG.frame fun j hj=>hf0 j (hok j hj)
 obtain⟨q1,i1,l1,-⟩:=hG0.at (k:=p.a) p0 (by omega)
 obtain⟨q2,i2,l2,-⟩:=hG0.at (k:=p.b) (by omega) p2
 simp only[x1a3,x1a0,List.all_cons,List.all_nil,one_I,Bool.and_self,x14t,<-hm0]
 simp[hg,i1,l1,i2,l2]
 unfold x7h
 simp[hG0.len u_union]
 have hX:(x140 l p).length=l.length:=x1b5 l p
 refine x142 (N:=l.length) (σ:=Unit) (fun n k _ m' fc=>x2t (x13e d) hs m.next n a (I (at0 l p.a.toNat)) (I (at0 l p.b.toNat)) a (I l.length) (I k) m' fc)
  (fun k _ m'=>Gk 1 intE ok m' a ((x140 l p).take k++l.drop k)/\m'.next=m.next+1/\Keep ok m m')
  (fun r=>∃m',r=some (B (!decide (at0 l p.a.toNat=at0 l p.b.toNat)),m')/\Gk 1 intE ok m' a (x140 l p)/\m'.next=m.next+1/\Keep ok m m') ?_ ?_ NN 0 () m0 _ (by omega) (by rw[x13p];omega) ⟨by simpa using hG0,hn0,fun j _ hj=>hf0 j hj⟩
 .rintro n k-m1 fc hk ⟨h1,h2,h3⟩ next
  have hk':(k:Int)<(l.length:Int):=by omega
  have hml:=x1cw (l:=l) (X:=x140 l p) hX (k:=k) (by omega)
  obtain⟨q,i3,l3,st⟩:=h1.at (k:=(k:Int)) (by omega) (by omega)
  rw[Int.toNat_natCast,mix_at hX hk]at l3
  have hj:=x173 (u:=l) (p:=p) hk
  simp only[x2t]
  unfold x7g x7f x5m
  by_cases c:at0 l k=at0 l p.a.toNat\/at0 l k=at0 l p.b.toNat
  .rw[if_pos c]at hj
   obtain⟨m2,e1,e2,e3,e4⟩:=st (mn (at0 l p.a.toNat) (at0 l p.b.toNat))
   rw[Int.toNat_natCast,<-hj,mix_set hX hk]at e2
   unfold mn at e1
   by_cases c1:at0 l k=at0 l p.a.toNat
   .simp(disch:=omega) [hk',i3,l3,c1,x13j]
    rw[e1]
    exact next () m2 _ ⟨e2,by omega,fun j hj hj2=>by rw[e4 j hj];exact h3 j hj hj2⟩
   .have c2:at0 l k=at0 l p.b.toNat:=c.resolve_left c1
    rw[c2]at l3 c1
    simp(disch:=omega) [hk',i3,l3,c1,x13j]
    rw[e1]
    exact next () m2 _ ⟨e2,by omega,fun j hj hj2=>by rw[e4 j hj];exact h3 j hj hj2⟩
  .rw[if_neg c]at hj
   have c1:¬at0 l k=at0 l p.a.toNat:=fun h=>c (Or.inl h)
   have c2:¬at0 l k=at0 l p.b.toNat:=fun h=>c (Or.inr h)
   simp(disch:=omega) [hk',i3,l3,c1,c2,x13j]
   exact next () m1 _ ⟨by rw[<-mix_id hX hk hj];exact h1,h2,h3⟩
 .rintro n-m1 fc ⟨h1,h2,h3⟩
  have hk:¬((l.length:Int)<(l.length:Int)):=by omega
  simp only[x2t]
  unfold x7g x11
  simp[hk]
  rw[List.drop_of_length_le (Nat.le_refl _),List.take_of_length_le (by omega),List.append_nil]at h1
  exact⟨h1,h2,h3⟩
theorem x18c{n k:Nat}(h:k<n):(freshM n).take k++[(k:Int)]=(freshM n).take (k+1):=by
 rw[List.take_succ_eq_append_getElem (by simpa[freshM]using h)]
 simp[freshM]
theorem x1id(d:Nat){n:Nat}(hn:n<=1000)(m:Mem):∃a M,x16w (x13e (d+1)) x3n [I n] m=some (a,M)/\Gk 1 intE (fun id=>id.1=m.next) M a (freshM n)/\M.next=m.next+1/\∀j:Id,j.1<m.next->M.get j=m.get j:=by
 obtain⟨a,m',h1,h2,h3⟩:∃a m',x13e (d+1) [] x3n [I n] ⟨[],m.next⟩=some (a,m')/\Gk 1 intE (fun id=>id.1=m.next) m' a (freshM n)/\m'.next=m.next+1:=by
  rw[xm4]
  unfold x9o xbn x7e
  refine x142 (N:=n) (fun j k a m' fc=>x2s (x13e d) [] m.next j a (I n) (I k) m' fc) (fun k a m'=>Gk 1 intE (fun id=>id.1=m.next) m' a ((freshM n).take k)/\m'.next=m.next+1)
   (fun r=>∃a m',r=some (a,m')/\Gk 1 intE (fun id=>id.1=m.next) m' a (freshM n)/\m'.next=m.next+1) ?_ ?_ NN 0 nilS _ _ (by omega) (by rw[x13p];omega) ⟨by simpa using Gk.nil,rfl⟩
  .rintro j k a m1 fc hk ⟨hG,hN⟩ next
   have hk':(k:Int)<(n:Int):=by omega
   have hlt:((freshM n).take k).length=k:=by simp[freshM];omega
   obtain⟨a2,m2,e1,e2,-,-,e3,-⟩:=Gk.app (ok:=fun id=>id.1=m.next) (bytes:=8) (id0:=(m.next,fc+6,12)) x14m (by omega) rfl (by unfold x13o;omega) hG (k:Int)
   simp only[x2s]
   unfold x7d
   simp(disch:=omega) [hk',x17h,x13j]
   rw[show elems m1.get 1 (.slit [I (k:Int)] 1 true)=some ([I (k:Int)],1)from rfl]
   rw[show[I (k:Int)]=intE k from rfl,e1]
   exact next a2 m2 _ ⟨by rw[<-x18c hk];exact e2,by omega⟩
  .rintro j a m1 fc ⟨hG,hN⟩
   have hk:¬((n:Int)<(n:Int)):=by omega
   simp only[x2s]
   unfold x7d x2r
   simp[hk]
   exact⟨a,m1,⟨rfl,rfl⟩,by rw[List.take_of_length_le (by simp[freshM])]at hG;exact hG,hN⟩
 obtain⟨M,hc,hM,hj⟩:=call1 (l:=[I n]) rfl h1
 refine⟨a,M,hc,h2.frame fun j hjj=>?_,by omega,fun j hlt=>?_⟩
 .rw[hj j,if_pos (by omega)]
 .rw[hj j,if_neg (by omega)]
def scAt(l:List Scene)(i:Int):Scene:=l.getD i.toNat ⟨⟨#[]⟩,0,0⟩
def lenP(l:List Scene)(p:Pq):Int:=(((scAt l p.a).day-(scAt l p.b).day).natAbs:Int)+(((scAt l p.a).bl-(scAt l p.b).bl).natAbs:Int)
theorem x1cx{l:List Scene}{i:Int}(h:i.toNat<l.length):scAt l i=l[i.toNat]:=by
 unfold scAt;rw[List.getD_eq_getElem?_getD,List.getElem?_eq_getElem h];rfl
theorem x18d{P:List Pq}{i:Int}(h:i.toNat<P.length):prAt P i=P[i.toNat]:=by
 unfold prAt;rw[List.getD_eq_getElem?_getD,List.getElem?_eq_getElem h];rfl
theorem x19a{l:List Scene}(hb:InB l){i:Int}(h0:0<=i)(h:i<l.length):(0<=(scAt l i).day/\(scAt l i).day<=100000)/\(-100000<=(scAt l i).bl/\(scAt l i).bl<=100000):=by
 rw[x1cx (by omega)]
 exact hb.get (by omega)
theorem x1b7{l:List Scene}(hb:InB l){p:Pq}(hp:PqIn l.length p):0<=lenP l p/\lenP l p<=300000:=by
 obtain⟨h0,h1,h2⟩:=hp
 have a:=x19a hb (i:=p.a) h0 (by omega)
 have b:=x19a hb (i:=p.b) (by omega) h2
 unfold lenP
 omega
theorem Sl.ixz{α:Type}{enc:α->List AV}{z:Nat}{a:AV}{l:List α}(hz:∀x,(enc x).length=z)(h:Sl enc a l){k:Int}(h0:0<=k)(hk:k<l.length):sIx z a (I k)=some (.plit ((l.drop k.toNat).flatMap enc)):=by
 have:=h.ix hz (k:=k.toNat) (by omega)
 rwa[Int.toNat_of_nonneg h0]at this
theorem x1ft(d:Nat){s p:AV}{l:List Scene}{P:List Pq}(hs:Sl Scene.c s l)(hp:Sl Pq.c p P)(hb:InB l){i:Int}(hi:0<=i/\i<P.length)(hP:PqIn l.length (prAt P i))(m:Mem) :
 x13f (x13e (d+2)) x3v [.agg [s,p],I i] m=some (I (lenP l (prAt P i)),m):=by
 refine x14g (by simp[hs.still1,hp.still1]) ?_ m
 obtain⟨h0,h1,h2⟩:=hP
 have ba:=x19a hb (i:=(prAt P i).a) h0 (by omega)
 have bb:=x19a hb (i:=(prAt P i).b) (by omega) h2
 have ip:=hp.ixz Pq.len hi.1 hi.2
 have lp:=fun m=>x14s (m:=m) (enc:=Pq.c) Pq.len (by omega) (show i.toNat<P.length by omega)
 rw[<-x18d (by omega)]at lp
 have ia:=hs.ixz Scene.len h0 (show(prAt P i).a<l.length by omega)
 have ib:=hs.ixz Scene.len (show 0<=(prAt P i).b by omega) h2
 have la:=fun m=>x14s (m:=m) (enc:=Scene.c) Scene.len (by omega) (show(prAt P i).a.toNat<l.length by omega)
 have lb:=fun m=>x14s (m:=m) (enc:=Scene.c) Scene.len (by omega) (show(prAt P i).b.toNat<l.length by omega)
 rw[<-x1cx (by omega)]at la lb
 unfold lenP
 rw[xmq]
 unfold xaa xca
 generalize scAt l (prAt P i).a=x at *
 generalize scAt l (prAt P i).b=y at *
 generalize prAt P i=e at *
 simp only[Pq.c]at lp
 simp only[Scene.c]at la lb
 simp(disch:=omega) [mem0,hs.one,hp.one,ip,lp,ia,ib,la,lb,x16m,x1b0,tR,tS,x13i,disj,x13j,w_size7,cAp,show Nat.blt 0 1=true from rfl]
 refine RetF.st ?_ ?_<;>rfl
theorem x1cy(d:Nat){s p:AV}{l:List Scene}{P:List Pq}(hs:Sl Scene.c s l)(hp:Sl Pq.c p P)(hb:InB l){i:Int}(hi:0<=i/\i<P.length)(hP:PqIn l.length (prAt P i))(m:Mem) :
 x13f (x13e (d+2)) x1x [.agg [s,p],I i] m=some (I (lenP l (prAt P i)),m):=by
 refine x14g (by simp[hs.still1,hp.still1]) ?_ m
 obtain⟨h0,h1,h2⟩:=hP
 have ba:=x19a hb (i:=(prAt P i).a) h0 (by omega)
 have bb:=x19a hb (i:=(prAt P i).b) (by omega) h2
 have ip:=hp.ixz Pq.len hi.1 hi.2
 have l0:=fun m=>x171 (m:=m) (enc:=Pq.c) (show i.toNat<P.length by omega) 0 rfl
 have l1:=fun m=>x171 (m:=m) (enc:=Pq.c) (show i.toNat<P.length by omega) 1 rfl
 rw[<-x18d (by omega)]at l0 l1
 simp only[List.drop_zero]at l0
 simp only[List.drop_one]at l1
 have ia:=hs.ixz Scene.len h0 (show(prAt P i).a<l.length by omega)
 have ib:=hs.ixz Scene.len (show 0<=(prAt P i).b by omega) h2
 have la:=fun m=>x14s (m:=m) (enc:=Scene.c) Scene.len (by omega) (show(prAt P i).a.toNat<l.length by omega)
 have lb:=fun m=>x14s (m:=m) (enc:=Scene.c) Scene.len (by omega) (show(prAt P i).b.toNat<l.length by omega)
 rw[<-x1cx (by omega)]at la lb
 unfold lenP
 rw[xlq]
 unfold x9a xb9
 generalize scAt l (prAt P i).a=x at *
 generalize scAt l (prAt P i).b=y at *
 generalize prAt P i=e at *
 simp only[Scene.c]at la lb
 simp(disch:=omega) [mem0,hs.one,hp.one,ip,l0,l1,ia,ib,la,lb,x16m,x1b0,tR,tS,x13i,disj,x13j,w_Size,cAp,show Nat.blt 0 1=true from rfl]
 refine RetF.st ?_ ?_<;>rfl
def sumL(l:List Scene)(P:List Pq):Int->List Int->Int
 |s,[]=>s
 |s,i::r=>sumL l P (s+lenP l (prAt P i)) r
def Rng(n:Nat)(P:List Pq)(F:List Int):Prop:=∀i∈F,(0<=i/\i<P.length)/\PqIn n (prAt P i)
theorem Rng.get{n:Nat}{P:List Pq}{F:List Int}(h:Rng n P F){k:Nat}(hk:k<F.length):(0<=at0 F k/\at0 F k<P.length)/\PqIn n (prAt P (at0 F k)):=by
 rw[x13s hk];exact h _ (List.getElem_mem hk)
end Go.Ix
