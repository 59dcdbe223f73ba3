import Derived.Test.YtpeakdjfagbpcaaGreatWg1
import Derived.Test.YtpeakdjfagbpcaaGreatWg2
import Derived.Test.YtpeakdjfagbpcaaGreatWg0
import Derived.Test.YtpeakdjfagbpcaaGreatFxSound
set_option linter.unusedSimpArgs false
set_option linter.unusedVariables false
namespace Go.Ix
def mn(x y:Int):Int:=if y<x then y else x
def xsm(u:List Int)(p:Pq):List Int:=u.map λx=>if x=at0 u p.a.toNat\/x=at0 u p.b.toNat then mn (at0 u p.a.toNat) (at0 u p.b.toNat)else x
def joinsM(u:List Int)(l:List Pq):List Int:=l.foldl xsm u
def freshM(n:Nat):List Int:=(List.range n).map λ(i:Nat)=>(i:Int)
def PqIn(n:Nat)(p:Pq):Prop:=0<=p.a/\p.a<p.b/\p.b<n
structure Lab (n:Nat) (u:List Int):Prop where
 len:u.length=n
 ok:∀v,v<n->0<=at0 u v/\at0 u v<=v/\at0 u (at0 u v).toNat=at0 u v
theorem x117(u:List Int)(p:Pq):(xsm u p).length=u.length:=by unfold xsm;simp
theorem xwi{u:List Int}{p:Pq}{v:Nat}(h:v<u.length):at0 (xsm u p) v=if at0 u v=at0 u p.a.toNat\/at0 u v=at0 u p.b.toNat then mn (at0 u p.a.toNat) (at0 u p.b.toNat)else at0 u v:=by
 rw[xrn (by rw[x117];exact h),xrn h]
 unfold xsm
 rw[x1ix]
theorem mn_or(a b:Int):mn a b=a/\a<=b\/mn a b=b/\b<a:=by
 unfold mn
 split
 .right;exact⟨rfl,by assumption⟩
 .left;exact⟨rfl,by omega⟩
theorem Lab.fresh(n:Nat):Lab n (freshM n):=by
 refine⟨by simp[freshM],λv hv=>?_⟩
 have:∀w,w<n->at0 (freshM n) w=w:=λw hw=>by
  rw[xrn (by simpa[freshM]using hw)]
  simp[freshM]
 rw[this v hv]
 refine⟨by omega,by omega,?_⟩
 rw[x1f1,this v hv]
theorem Lab.get_fresh{n v:Nat}(h:v<n):at0 (freshM n) v=v:=by
 rw[xrn (by simpa[freshM]using h)]
 simp[freshM]
theorem Lab.lt{n:Nat}{u:List Int}(h:Lab n u){v:Nat}(hv:v<n):(at0 u v).toNat<n:=by
 have:=h.ok v hv
 omega
theorem Lab.join{n:Nat}{u:List Int}(h:Lab n u){p:Pq}(hp:PqIn n p):Lab n (xsm u p):=by
 obtain⟨h0,h1,h2⟩:=hp
 have ea:=h.ok p.a.toNat (by omega)
 have eb:=h.ok p.b.toNat (by omega)
 refine⟨by rw[x117];exact h.len,λv hv=>?_⟩
 have ev:=h.ok v hv
 rw[xwi (by rw[h.len];exact hv)]
 obtain⟨m,hm⟩:∃m,m=mn (at0 u p.a.toNat) (at0 u p.b.toNat):=⟨_,rfl⟩
 have hmo:=mn_or (at0 u p.a.toNat) (at0 u p.b.toNat)
 rw[<-hm]at hmo ⊢
 by_cases c:at0 u v=at0 u p.a.toNat\/at0 u v=at0 u p.b.toNat
 .rw[x1ez c]
  refine⟨by omega,by omega,?_⟩
  rw[xwi (by rw[h.len];omega),<-hm]
  have:at0 u m.toNat=at0 u p.a.toNat\/at0 u m.toNat=at0 u p.b.toNat:=by
   rcases hmo with ⟨e,-⟩|⟨e,-⟩
   .rw[e,ea.2.2];exact Or.inl rfl
   .rw[e,eb.2.2];exact Or.inr rfl
  rw[x1ez this]
 .rw[x1ey c]
  refine⟨ev.1,ev.2.1,?_⟩
  rw[xwi (by rw[h.len];omega),ev.2.2,x1ey c]
theorem Lab.joins{n:Nat}:∀{l:List Pq} {u:List Int},Lab n u->(∀p∈l,PqIn n p)->Lab n (joinsM u l)
 |[],_,h,_=>h
 |p::l,u,h,hp=>Lab.joins (l:=l) (h.join (hp p (x1f7 ..))) λq hq=>hp q (x1f6 _ hq)
def Sm(u:List Int)(v w:Nat):Prop:=at0 u v=at0 u w
theorem join_aux(x y a b m:Int)(hmo:m=a/\a<=b\/m=b/\b<a):((if x=a\/x=b then m else x)=(if y=a\/y=b then m else y))↔(x=y\/(x=a/\y=b)\/(x=b/\y=a)):=by
 by_cases c1:x=a\/x=b<;>by_cases c2:y=a\/y=b<;>(first|rw[x1ez c1]|rw[x1ey c1])<;>(first|rw[x1ez c2]|rw[x1ey c2])<;>omega
theorem x13f{n:Nat}{u:List Int}{p:Pq}(h:Lab n u){v w:Nat}(hv:v<n)(hw:w<n) :
 Sm (xsm u p) v w↔Sm u v w\/(Sm u v p.a.toNat/\Sm u w p.b.toNat)\/(Sm u v p.b.toNat/\Sm u w p.a.toNat):=by
 unfold Sm
 rw[xwi (by rw[h.len];exact hv),xwi (by rw[h.len];exact hw)]
 exact join_aux _ _ _ _ _ (mn_or _ _)
theorem joins_app(u:List Int)(l k:List Pq):joinsM u (l++k)=joinsM (joinsM u l) k:=by unfold joinsM;rw[x1ji]
theorem join_mono{n:Nat}{u:List Int}{p:Pq}(h:Lab n u){v w:Nat}(hv:v<n)(hw:w<n)(e:Sm u v w):Sm (xsm u p) v w:=(x13f h hv hw).mpr (Or.inl e)
theorem x16r{n:Nat}:∀{l:List Pq} {u:List Int},Lab n u->(∀p∈l,PqIn n p)->∀{v w:Nat},v<n->w<n->Sm u v w->Sm (joinsM u l) v w
 |[],_,_,_,_,_,_,_,e=>e
 |p::l,u,h,hp,v,w,hv,hw,e=>x16r (l:=l) (h.join (hp p (x1f7 ..))) (λq hq=>hp q (x1f6 _ hq)) hv hw (join_mono h hv hw e)
theorem join_ends{n:Nat}{u:List Int}{p:Pq}(h:Lab n u)(hp:PqIn n p):Sm (xsm u p) p.a.toNat p.b.toNat:=by
 obtain⟨h0,h1,h2⟩:=hp
 exact(x13f h (by omega) (by omega)).mpr (Or.inr (Or.inl ⟨rfl,rfl⟩))
theorem xx6{n:Nat}:∀{l:List Pq} {u:List Int},Lab n u->(∀p∈l,PqIn n p)->∀p∈l,Sm (joinsM u l) p.a.toNat p.b.toNat
 |[],_,_,_,p,hp=>by cases hp
 |q::l,u,h,hp,p,hm=>by
  have hq:=hp q (x1f7 ..)
  have hl:∀p∈l,PqIn n p:=λp h=>hp p (x1f6 _ h)
  rcases x1fe.mp hm with rfl|hm
  .have:PqIn n p:=hq
   obtain⟨h0,h1,h2⟩:=hq
   exact x16r (l:=l) (h.join this) hl (by omega) (by omega) (join_ends h this)
  .exact xx6 (h.join hq) hl p hm
theorem x13g{n:Nat}{R:Nat->Nat->Prop}(hs:∀{a b},R a b->R b a)(ht:∀{a b c},R a b->R b c->R a c):∀{l:List Pq} {u:List Int},Lab n u->(∀p∈l,PqIn n p)->(∀p∈l,R p.a.toNat p.b.toNat)->(∀v w,v<n->w<n->Sm u v w->R v w)->∀v w,v<n->w<n->Sm (joinsM u l) v w->R v w
 |[],_,_,_,_,h=>h
 |p::l,u,h,hp,hR,hu=>by
  have hq:=hp p (x1f7 ..)
  refine x13g (R:=R) hs ht (l:=l) (h.join hq) (λq hq=>hp q (x1f6 _ hq)) (λq hq=>hR q (x1f6 _ hq)) λv w hv hw e=>?_
  obtain⟨h0,h1,h2⟩:=hq
  have hr:=hR p (x1f7 ..)
  rcases(x13f h hv hw).mp e with e|⟨e1,e2⟩|⟨e1,e2⟩
  .exact hu v w hv hw e
  .exact ht (hu v _ hv (by omega) e1) (ht hr (hs (hu w _ hw (by omega) e2)))
  .exact ht (hu v _ hv (by omega) e1) (ht (hs hr) (hs (hu w _ hw (by omega) e2)))
theorem Lab.ext{n:Nat}{u t:List Int}(h:Lab n u)(k:Lab n t)(he:∀v w,v<n->w<n->(Sm u v w↔Sm t v w)):u=t:=by
 apply x1hr
 .rw[h.len,k.len]
 .intro v hv hv'
  rw[h.len]at hv
  rw[<-xrn,<-xrn]
  have a:=h.ok v hv
  have b:=k.ok v hv
  have e1:at0 t (at0 u v).toNat=at0 t v:=(he _ v (by omega) hv).mp (by unfold Sm;exact a.2.2)
  have e2:at0 u (at0 t v).toNat=at0 u v:=(he _ v (by omega) hv).mpr (by unfold Sm;exact b.2.2)
  have a2:=k.ok (at0 u v).toNat (by omega)
  have b2:=h.ok (at0 t v).toNat (by omega)
  omega
def Indep(u:List Int):List Pq->Prop
 |[]=>True
 |p::l=>¬Sm u p.a.toNat p.b.toNat/\Indep (xsm u p) l
theorem Indep.app{u:List Int}:∀{l k:List Pq} ,Indep u (l++k)↔Indep u l/\Indep (joinsM u l) k:=by
 intro l
 induction l generalizing u with
 |nil=>intro k;simp[Indep,joinsM]
 |cons p l ih=>
  intro k
  simp only[x1gw,Indep]
  rw[ih]
  simp[joinsM,and_assoc]
def xv8(n:Nat)(u:List Int):Nat:=((List.range n).filter λ(v:Nat)=>decide (at0 u v=(v:Int))).length
theorem count_ne{n:Nat}{p q:Nat->Bool}{w:Nat}(hw:w<n)(h1:p w=true)(h2:q w=false)(h:∀v,v<n->v≠w->p v=q v):((List.range n).filter p).length=((List.range n).filter q).length+1:=by
 induction n with
 |zero=>omega
 |succ n ih=>
  rw[x1hb,x1ia,x1ia,x1gl,x1gl]
  by_cases c:w=n
  .subst c
   have e:(List.range w).filter p=(List.range w).filter q:=by
    apply x1k5
    intro v hv
    have:=x1fn.mp hv
    exact h v (by omega) (by omega)
   rw[e]
   simp[h1,h2]
  .have:=ih (by omega) λv hv=>h v (by omega)
   have e:=h n (by omega) (by omega)
   simp only[x1id,e,List.filter_nil]
   omega
theorem x13h{n:Nat}{u:List Int}{p:Pq}(h:Lab n u)(hp:PqIn n p)(hne:¬Sm u p.a.toNat p.b.toNat):xv8 n u=xv8 n (xsm u p)+1:=by
 have hp':=hp
 obtain⟨h0,h1,h2⟩:=hp
 have ea:=h.ok p.a.toNat (by omega)
 have eb:=h.ok p.b.toNat (by omega)
 unfold Sm at hne
 have hmo:=mn_or (at0 u p.a.toNat) (at0 u p.b.toNat)
 obtain⟨w,hw⟩:∃w:Int,w=if at0 u p.b.toNat<at0 u p.a.toNat then at0 u p.a.toNat else at0 u p.b.toNat:=⟨_,rfl⟩
 have hwor:w=at0 u p.a.toNat/\at0 u p.b.toNat<at0 u p.a.toNat\/w=at0 u p.b.toNat/\at0 u p.a.toNat<at0 u p.b.toNat:=by
  rw[hw];split<;>omega
 unfold xv8
 refine count_ne (w:=w.toNat) (by omega) ?_ ?_ λv hv hne'=>?_
 .rw[x1hs]
  rcases hwor with ⟨e,-⟩|⟨e,-⟩
  .rw[e,ea.2.2];omega
  .rw[e,eb.2.2];omega
 .rw[decide_eq_false_iff_not,xwi (by rw[h.len];omega)]
  have:at0 u w.toNat=w:=by
   rcases hwor with ⟨e,-⟩|⟨e,-⟩
   .rw[e];exact ea.2.2
   .rw[e];exact eb.2.2
  rw[this,x1ez (by omega)]
  omega
 .rw[x1jg,x1hs,x1hs,xwi (by rw[h.len];omega)]
  have ev:=h.ok v hv
  by_cases c:at0 u v=at0 u p.a.toNat\/at0 u v=at0 u p.b.toNat
  .rw[x1ez c]
   constructor
   .intro e
    omega
   .intro e
    rcases hmo with ⟨q,-⟩|⟨q,-⟩
    .rw[q]at e;rw[e]at ea;have:=ea.2.2;simpa using this
    .rw[q]at e;rw[e]at eb;have:=eb.2.2;simpa using this
  .rw[x1ey c]
theorem x118{n:Nat}:∀{l:List Pq} {u:List Int},Lab n u->(∀p∈l,PqIn n p)->Indep u l->xv8 n u=xv8 n (joinsM u l)+l.length
 |[],_,_,_,_=>rfl
 |p::l,u,h,hp,hi=>by
  have hq:=hp p (x1f7 ..)
  have:=x118 (h.join hq) (λq hq=>hp q (x1f6 _ hq)) hi.2
  have h1:=x13h h hq hi.1
  have e:joinsM u (p::l)=joinsM (xsm u p) l:=rfl
  rw[e,x1fi]
  omega
theorem x16s(n:Nat):xv8 n (freshM n)=n:=by
 unfold xv8
 have:(List.range n).filter (λ(v:Nat)=>decide (at0 (freshM n) v=(v:Int)))=List.range n:=by
  rw[x1iu]
  intro v hv
  rw[Lab.get_fresh (x1fn.mp hv)]
  simp
 rw[this,x1iy]
variable{P:List Pq}
def prs(P:List Pq)(F:List Int):List Pq:=F.map (prAt P)
structure For (n:Nat) (P:List Pq) (F:List Int):Prop where
 rng:∀i∈F,0<=i/\i<P.length
 nod:F.Nodup
 ind:Indep (freshM n) (prs P F)
theorem xzs{n:Nat}(hP:∀p∈P,PqIn n p){i:Int}(h:0<=i/\i<P.length):PqIn n (prAt P i):=by
 unfold prAt
 have:i.toNat<P.length:=by omega
 rw[x1fd,x1fs this]
 exact hP _ (x1fg this)
theorem xtp{n:Nat}(hP:∀p∈P,PqIn n p){F:List Int}(h:∀i∈F,0<=i/\i<P.length):∀p∈prs P F,PqIn n p:=λp hp=>by
 obtain⟨i,hi,rfl⟩:=x1fj.mp hp
 exact xzs hP (h i hi)
theorem For.take{n:Nat}{F G:List Int}(h:For n P (F++G)):For n P F:=by
 refine⟨λi hi=>h.rng i (x1hj _ hi),(x1h8.mp h.nod).1,?_⟩
 have:=h.ind
 unfold prs at this
 rw[x1h0]at this
 exact(Indep.app.mp this).1
theorem For.cut{n:Nat}(hP:∀p∈P,PqIn n p){F:List Int}(h:For n P F):Cut P F:=by
 have main:∀(k:Nat) (F:List Int),F.length=k->For n P F->Cut P F:=by
  intro k
  induction k with
  |zero=>intro F hl _ i hi;rw[x1h9.mp hl]at hi;cases hi
  |succ k ih=>
   intro F hl h
   obtain⟨G,q,rfl⟩:∃G q,F=G++[q]:=by
    have hne:F≠[]:=by rintro rfl;simp at hl
    exact⟨F.dropLast,F.getLast hne,(x1ka hne).symm⟩
   have hG:=h.take
   have hc:=ih G (by simpa using hl) hG
   have hq:=xzs hP (h.rng q (by simp))
   obtain⟨u,hu⟩:∃u,u=joinsM (freshM n) (prs P G):=⟨_,rfl⟩
   have hL:Lab n u:=by rw[hu];exact(Lab.fresh n).joins (xtp hP hG.rng)
   have hind:=h.ind
   unfold prs at hind
   rw[x1h0]at hind
   have hne:¬Sm u (prAt P q).a.toNat (prAt P q).b.toNat:=by
    have:=(Indep.app.mp hind).2
    rw[show List.map (prAt P) [q]=[prAt P q]from rfl]at this
    rw[hu]
    exact this.1
   have hqG:q∉G:=λhm=>(x1h8.mp h.nod).2.2 q hm q (by simp) rfl
   have hends:∀j∈G,Sm u (prAt P j).a.toNat (prAt P j).b.toNat:=λj hj=>by
    rw[hu]
    exact xx6 (Lab.fresh n) (xtp hP hG.rng) _ (x1fj.mpr ⟨j,hj,rfl⟩)
   unfold Sm at hne hends
   intro i hi
   rcases x1fw.mp hi with hi|hi
   .obtain⟨s,h1,h2⟩:=hc i hi
    by_cases c:s (prAt P q).a=s (prAt P q).b
    .refine⟨s,h1,λj hj hji=>?_⟩
     rcases x1fw.mp hj with hj|hj
     .exact h2 j hj hji
     .simp at hj;subst hj;exact c
    .refine⟨λv=>if at0 u v.toNat=at0 u (prAt P q).b.toNat then !(s v)else s v,?_,λj hj hji=>?_⟩
     .have:=hends i hi
      simp only
      rw[this]
      split
      .simpa using h1
      .exact h1
     .simp only
      rcases x1fw.mp hj with hj|hj
      .have:=hends j hj
       rw[this,h2 j hj hji]
      .simp at hj;subst hj
       rw[x1ey hne,x1ez rfl]
       cases h3:s (prAt P j).a<;>cases h4:s (prAt P j).b<;>simp_all
   .simp at hi;subst hi
    refine⟨λv=>decide (at0 u v.toNat=at0 u (prAt P i).a.toNat),?_,λj hj hji=>?_⟩
    .simp[Ne.symm hne]
    .rcases x1fw.mp hj with hj|hj
     .simp only;rw[hends j hj]
     .simp at hj;exact absurd hj hji
 exact main _ F rfl h
theorem x119{n:Nat}(hP:∀p∈P,PqIn n p){F:List Int}(hr:∀i∈F,0<=i/\i<P.length):∀{v w:Nat},v<n->w<n->Sm (joinsM (freshM n) (prs P F)) v w->∃l,Wk P l v w/\AllF F l:=by
 intro v w hv hw hs
 let R:Nat->Nat->Prop:=λv w=>∃l,Wk P l v w/\AllF F l
 have hsym:∀{a b},R a b->R b a:=λ⟨l,h1,h2⟩=>by
  obtain⟨v,h3,h4⟩:=h1.back h2
  exact⟨v,h3,h4⟩
 have htr:∀{a b c},R a b->R b c->R a c:=λ⟨l,h1,h2⟩ ⟨k,h3,h4⟩=>⟨l++k,h1.app h3,h2.app h4⟩
 refine x13g (R:=R) hsym htr (Lab.fresh n) (xtp hP hr) (λp hp=>?_) (λv w hv hw e=>?_) v w hv hw hs
 .obtain⟨i,hi,rfl⟩:=x1fj.mp hp
  have hq:=xzs hP (hr i hi)
  obtain⟨h0,h1,h2⟩:=hq
  refine⟨[⟨i,1⟩],⟨?_,?_⟩,λx hx=>?_⟩
  .unfold frS;simp;omega
  .show toS P ⟨i,1⟩=_
   unfold toS;simp;omega
  .simp at hx;subst hx;exact⟨hi,Or.inl rfl⟩
 .unfold Sm at e
  rw[Lab.get_fresh hv,Lab.get_fresh hw]at e
  exact⟨[],by show(v:Int)=w;exact e,λ_ h=>by cases h⟩
theorem For.len{n:Nat}(hP:∀p∈P,PqIn n p){F:List Int}(h:For n P F):F.length<=n:=by
 have:=x118 (Lab.fresh n) (xtp hP h.rng) h.ind
 rw[x16s]at this
 have e:(prs P F).length=F.length:=by unfold prs;simp
 omega
end Go.Ix
namespace Go.Ix
open Go.Proofs
variable{α:Type}{z:Nat}{enc:α->List AV}{l:List α}{a:AV}
def Gq{α:Type}(z:Nat)(enc:α->List AV)(u:Nat)(T:List Nat)(m:Mem)(a:AV)(l:List α):Prop:=
 (a=nilS/\l=[])\/∃s t ver,t∈T/\a=.sref (u,s,t) ver 0 l.length z true/\m.get (u,s,t)=some (.row (l.flatMap enc) ver false)
theorem Gq.nil{u:Nat}{T:List Nat}{m:Mem}:Gq z enc u T m nilS []:=Or.inl ⟨rfl,rfl⟩
theorem Gq.frame{u:Nat}{T:List Nat}{m m':Mem}(h:Gq z enc u T m a l)(hm:∀s t,t∈T->m'.get (u,s,t)=m.get (u,s,t)):Gq z enc u T m' a l:=by
 rcases h with h|⟨s,t,ver,h0,h1,h2⟩
 .exact Or.inl h
 .exact Or.inr ⟨s,t,ver,h0,h1,by rw[hm _ _ h0];exact h2⟩
theorem Gq.app(hz:∀x,(enc x).length=z)(h0:0<z){u t0 s0 bytes:Nat}{T:List Nat}{m:Mem}(ht:t0∈T)(hr:xrq (l.length+1) bytes)(h:Gq z enc u T m a l)(x:α) :
 ∃a' m',(∀{R:Type} (k:AV->Mem->Option R),sApp z bytes (u,s0,t0) (some (enc x,1)) a m k=k a' m')/\Gq z enc u T m' a' (l++[x])/\m'.next=m.next/\∀j:Id,j.2.2∉T->m'.get j=m.get j:=by
 rcases h with ⟨rfl,rfl⟩|⟨s,t,ver,h1,rfl,hg⟩
 .refine⟨.sref (u,s0,t0) 0 0 1 z true,m.new (u,s0,t0) (.row (enc x) 0 false),λk=>?_,Or.inr ⟨s0,t0,0,ht,rfl,by simp⟩,rfl,λj hj=>?_⟩
  .simp only[sApp]
   rw[x1ey (by omega),x1ez (by simpa using hr)]
  .rw[Mem.get_new,x1ey (by rintro rfl;exact hj ht)]
 .have hl:=xu2 hz l
  refine⟨.sref (u,s,t) (ver+1) 0 (l.length+1) z true,m.set (u,s,t) (.row (l.flatMap enc++enc x) (ver+1) false),λk=>?_,Or.inr ⟨s,t,ver+1,h1,by simp,by simp⟩,rfl,λj hj=>?_⟩
  .simp only[sApp,hg]
   rw[x1ez ⟨trivial,trivial,by omega,hr⟩,x1ey (by omega),x1ey (by rw[hl,x1fx];omega),x1f0,x1f8 (by omega)]
  .rw[Mem.get_set,x1ey (by rintro rfl;exact hj h1)]
theorem Gq.frz(hz:∀x,(enc x).length=z)(hs:∀x,(enc x).all still1=true){u:Nat}{T:List Nat}{m:Mem}(h:Gq z enc u T m a l):∃a',Sl enc a' l/\Go.Ix.frz m.get deep a=some a':=by
 rcases h with ⟨rfl,rfl⟩|⟨s,t,ver,_,rfl,hg⟩
 .exact⟨nilS,Or.inl ⟨rfl,rfl⟩,rfl⟩
 .have hl:=xu2 hz l
  refine⟨.slit (l.flatMap enc) l.length false,Sl.lit l false,?_⟩
  have:=xvp (objs:=m.get) (id:=(u,s,t)) (cs:=l.flatMap enc) (ver:=ver) (off:=0) (n:=l.length) (z:=z) (k:=4) (f:=false) (x:=true) hg (by omega) (by
   rw[x1f0,x1f8 (by omega)];exact xv6 hs l)
  rw[x1f0,x1f8 (by omega)]at this
  exact this
theorem Gq.len{u:Nat}{T:List Nat}{m:Mem}{t e:TypeId}(ht:Tryz.prog.underlying t=some (.slice e))(h:Gq z enc u T m a l):sLen Tryz.prog t a=some (I l.length):=by
 rcases h with ⟨rfl,rfl⟩|⟨s,t,ver,_,rfl,hg⟩
 .exact xxt ht
 .rfl
end Go.Ix
namespace Go.Ix
open Go.Proofs
variable{α:Type}{z:Nat}{enc:α->List AV}{l:List α}{a:AV}
def Gk{α:Type}(z:Nat)(enc:α->List AV)(ok:Id->Prop)(m:Mem)(a:AV)(l:List α):Prop:=
 (a=nilS/\l=[])\/∃id ver,ok id/\a=.sref id ver 0 l.length z true/\m.get id=some (.row (l.flatMap enc) ver false)
theorem Gk.nil{ok:Id->Prop}{m:Mem}:Gk z enc ok m nilS []:=Or.inl ⟨rfl,rfl⟩
theorem Gk.frame{ok:Id->Prop}{m m':Mem}(h:Gk z enc ok m a l)(hm:∀id,ok id->m'.get id=m.get id):Gk z enc ok m' a l:=by
 rcases h with h|⟨id,ver,h0,h1,h2⟩
 .exact Or.inl h
 .exact Or.inr ⟨id,ver,h0,h1,by rw[hm _ h0];exact h2⟩
theorem Gk.app(hz:∀x,(enc x).length=z)(h0:0<z){bytes:Nat}{ok:Id->Prop}{id0:Id}{m:Mem}(ht:ok id0)(hr:xrq (l.length+1) bytes)(h:Gk z enc ok m a l)(x:α) :
 ∃a' m',(∀{R:Type} (k:AV->Mem->Option R),sApp z bytes id0 (some (enc x,1)) a m k=k a' m')/\Gk z enc ok m' a' (l++[x])/\a'.cells=[a']/\a'.one=true/\m'.next=m.next/\∀j:Id,¬ok j->m'.get j=m.get j:=by
 rcases h with ⟨rfl,rfl⟩|⟨id,ver,h1,rfl,hg⟩
 .refine⟨.sref id0 0 0 1 z true,m.new id0 (.row (enc x) 0 false),λk=>?_,Or.inr ⟨id0,0,ht,rfl,by simp⟩,rfl,rfl,rfl,λj hj=>?_⟩
  .simp only[sApp]
   rw[x1ey (by omega),x1ez (by simpa using hr)]
  .rw[Mem.get_new,x1ey (by rintro rfl;exact hj ht)]
 .have hl:=xu2 hz l
  refine⟨.sref id (ver+1) 0 (l.length+1) z true,m.set id (.row (l.flatMap enc++enc x) (ver+1) false),λk=>?_,Or.inr ⟨id,ver+1,h1,by simp,by simp⟩,rfl,rfl,rfl,λj hj=>?_⟩
  .simp only[sApp,hg]
   rw[x1ez ⟨trivial,trivial,by omega,hr⟩,x1ey (by omega),x1ey (by rw[hl,x1fx];omega),x1f0,x1f8 (by omega)]
  .rw[Mem.get_set,x1ey (by rintro rfl;exact hj h1)]
theorem Gk.one{ok:Id->Prop}{m:Mem}(h:Gk z enc ok m a l):a.cells=[a]/\a.one=true:=by
 rcases h with ⟨rfl,rfl⟩|⟨id,ver,h1,rfl,hg⟩<;>exact⟨rfl,rfl⟩
theorem Gk.frz(hz:∀x,(enc x).length=z)(hs:∀x,(enc x).all still1=true){ok:Id->Prop}{k:Nat}{m:Mem}(h:Gk z enc ok m a l):∃a',Sl enc a' l/\Go.Ix.frz m.get (k+2) a=some a':=by
 rcases h with ⟨rfl,rfl⟩|⟨id,ver,_,rfl,hg⟩
 .exact⟨nilS,Or.inl ⟨rfl,rfl⟩,rfl⟩
 .have hl:=xu2 hz l
  refine⟨.slit (l.flatMap enc) l.length false,Sl.lit l false,?_⟩
  have:=xvp (objs:=m.get) (id:=id) (cs:=l.flatMap enc) (ver:=ver) (off:=0) (n:=l.length) (z:=z) (k:=k) (f:=false) (x:=true) hg (by omega) (by
   rw[x1f0,x1f8 (by omega)];exact xv6 hs l)
  rw[x1f0,x1f8 (by omega)]at this
  exact this
theorem xwj{call:xr5}{f:FuncId}{l:List AV}{m m':Mem}{r:AV}(hl:l.all clean=true)(h:call [] f l ⟨[],m.next⟩=some (r,m')) :
 ∃M:Mem,xtt call f l m=some (r,M)/\M.next=m'.next/\∀i:Id,M.get i=if m.next<=i.1 then m'.get i else m.get i:=by
 refine⟨⟨(m'.hp.filter λe=>Nat.ble m.next e.1)++(m.hp.filter λe=>Nat.blt e.1 m.next),m'.next⟩,?_,rfl,λi=>congrFun (x167 m'.hp m.hp m.next) i⟩
 unfold xtt
 rw[x1ez hl,h]
theorem x13i:∃i,Tryz.prog.info? xs6=some i/\i.size=1:=by
 have h:(Tryz.prog.info? xs6).map (λi=>i.size)=some 1:=by kernel_rfl
 obtain⟨i,h1,h2⟩:=x1fc.mp h
 exact⟨i,h1,h2⟩
theorem slice_hi{id:Id}{ver off n:Nat}{full:Bool}{hi:Int}(h1:0<=hi)(h2:hi<=n):xu8 Tryz.prog x4 (.sref id ver off n 1 full) none (some (I hi))=some (.sref id ver off hi.toNat 1 full):=by
 obtain⟨i,e1,e2⟩:=x13i
 simp only[xu8,xs8,xru,e1,asI,Option.getD_some,Option.getD_none]
 rw[x1ez ⟨by omega,h1,h2,e2.symm⟩]
 simp
theorem x16t{id:Id}{ver off n:Nat}{full:Bool}{lo:Int}(h0:0<=lo)(h2:lo<=n):xu8 Tryz.prog x4 (.sref id ver off n 1 full) (some (I lo)) none=some (.sref id ver (off+lo.toNat) (n-lo.toNat) 1 full):=by
 obtain⟨i,e1,e2⟩:=x13i
 simp only[xu8,xs8,xru,e1,asI,Option.getD_some,Option.getD_none]
 rw[x1ez ⟨h0,by omega,by omega,e2.symm⟩,x1gz,show((n:Int)-lo).toNat=n-lo.toNat by omega]
theorem at0_left{l k:List Int}{i:Nat}(h:i<l.length):at0 (l++k) i=at0 l i:=by
 unfold at0
 simp only[x1fd]
 rw[x1ho h]
theorem Gk.len{α:Type}{z:Nat}{enc:α->List AV}{l:List α}{a:AV}{ok:Id->Prop}{m:Mem}{y e:TypeId}(ht:Tryz.prog.underlying y=some (.slice e))(h:Gk z enc ok m a l):sLen Tryz.prog y a=some (I l.length):=by
 rcases h with ⟨rfl,rfl⟩|⟨id,ver,_,rfl,hg⟩
 .exact xxt ht
 .rfl
theorem Gk.at{a:AV}{l:List Int}{ok:Id->Prop}{m:Mem}(h:Gk 1 intE ok m a l){k:Int}(h0:0<=k)(hk:k<l.length) :
 ∃q,sIx 1 a (I k)=some q/\sLd false 1 q m=some (I (at0 l k.toNat))/\∀v:Int,∃m',(∀{R:Type} (K:Mem->Option R),sSt 1 q (I v) m K=K m')/\Gk 1 intE ok m' a (l.set k.toNat v)/\m'.next=m.next/\∀j,¬ok j->m'.get j=m.get j:=by
 rcases h with ⟨rfl,rfl⟩|⟨id,ver,hok,rfl,hg⟩
 .simp at hk;omega
 .have hkl:k.toNat<l.length:=by omega
  refine⟨.ptr id ver k.toNat,?_,?_,λv=>⟨m.set id (.row ((l.set k.toNat v).flatMap intE) ver false),λK=>?_,Or.inr ⟨id,ver,hok,by simp,by simp⟩,rfl,λj hj=>?_⟩⟩
  .simp[sIx,asI,h0,hk]
  .rw[ld_ptr hg,rd,x1ey (by simp),xuk,<-x1if,xsj hkl,xrn hkl]
   rfl
  .rw[st_ptr (z:=1) (x:=I v) (k:=K) hg rfl (by rw[xul];omega) rfl]
   congr 3
   simp only[xuk,xs3,x10u]
   rw[List.map_set,x1jh,x1ez (by simpa using hkl)]
   simp
  .rw[Mem.get_set,x1ey (by rintro rfl;exact hj hok)]
theorem mix_at{l X:List Int}(hX:X.length=l.length){k:Nat}(hk:k<l.length):at0 (X.take k++l.drop k) k=at0 l k:=by
 rw[xrn (by simp;omega),xrn hk,x1jj (by simp;omega)]
 simp[hX,x1jd (Nat.le_of_lt hk)]
theorem x13j{l X:List Int}(hX:X.length=l.length){k:Nat}(hk:k<l.length):(X.take k++l.drop k).set k (at0 X k)=X.take (k+1)++l.drop (k+1):=by
 have hl:(X.take k).length=k:=by simp;omega
 rw[List.set_append,x1ey (by omega),hl,x1h3,xsj hk,x1ht,x1g3 (by omega),xrn (by omega),x1gy]
 rfl
theorem mix_id{l X:List Int}(hX:X.length=l.length){k:Nat}(hk:k<l.length)(h:at0 X k=at0 l k):X.take k++l.drop k=X.take (k+1)++l.drop (k+1):=by
 rw[xsj hk,x1g3 (by omega),<-xrn (show k<X.length by omega),h,xrn hk]
 simp
theorem xyq{l X:List Int}(hX:X.length=l.length){k:Nat}(hk:k<=l.length):(X.take k++l.drop k).length=l.length:=by
 simp;omega
theorem u_union:Tryz.prog.underlying xko=some (.slice xs6):=by kernel_rfl
def Keep(ok:Id->Prop)(m m':Mem):Prop:=∀j:Id,¬ok j->j.1<m.next->m'.get j=m.get j
theorem c_join(d:Nat)(hs:FHs){ok:Id->Prop}{m:Mem}{a:AV}{l:List Int}{p:Pq}(hG:Gk 1 intE ok m a l)(hok:∀j,ok j->j.1<m.next)(hp:PqIn l.length p)(hl:l.length<=1000) :
 ∃m',xr4 (d+1) hs x4e [a,.agg [I p.a,I p.b]] m=some (B (!decide (at0 l p.a.toNat=at0 l p.b.toNat)),m')/\Gk 1 intE ok m' a (xsm l p)/\m'.next=m.next+1/\Keep ok m m':=by
 obtain⟨p0,p1,p2⟩:=hp
 rw[xm0]
 unfold xe6 x9o
 obtain⟨m0,hm0⟩:∃m0,m0=(⟨m.hp,m.next+1⟩:Mem).new (m.next,0,3) (.row [I p.a,I p.b] 0 false):=⟨_,rfl⟩
 have hf0:∀j:Id,j.1<m.next->m0.get j=m.get j:=λj hj=>by
  rw[hm0,Mem.get_new,x1ey (by rintro rfl;exact Nat.lt_irrefl _ hj)];rfl
 have hn0:m0.next=m.next+1:=by rw[hm0];rfl
 have hg:m0.get (m.next,0,3)=some (.row [I p.a,I p.b] 0 false):=by rw[hm0];simp
 have hG0:Gk 1 intE ok m0 a l:=hG.frame λj hj=>hf0 j (hok j hj)
 obtain⟨q1,i1,l1,-⟩:=hG0.at (k:=p.a) p0 (by omega)
 obtain⟨q2,i2,l2,-⟩:=hG0.at (k:=p.b) (by omega) p2
 simp only[xwd,x135,x1ga,x1gq,one_I,x1gr,xre,<-hm0]
 simp[hg,i1,l1,i2,l2]
 unfold xhd
 simp[hG0.len u_union]
 have hX:(xsm l p).length=l.length:=x117 l p
 refine xsf (N:=l.length) (σ:=Unit) (λn k _ m' fc=>x5o (xr4 d) hs m.next n a (I (at0 l p.a.toNat)) (I (at0 l p.b.toNat)) a (I l.length) (I k) m' fc)
  (λk _ m'=>Gk 1 intE ok m' a ((xsm l p).take k++l.drop k)/\m'.next=m.next+1/\Keep ok m m')
  (λr=>∃m',r=some (B (!decide (at0 l p.a.toNat=at0 l p.b.toNat)),m')/\Gk 1 intE ok m' a (xsm l p)/\m'.next=m.next+1/\Keep ok m m') ?_ ?_ NN 0 () m0 _ (by omega) (by rw[xrg];omega) ⟨by simpa using hG0,hn0,λj _ hj=>hf0 j hj⟩
 .rintro n k-m1 fc hk ⟨h1,h2,h3⟩ next
  have hk':(k:Int)<(l.length:Int):=by omega
  have hml:=xyq (l:=l) (X:=xsm l p) hX (k:=k) (by omega)
  obtain⟨q,i3,l3,st⟩:=h1.at (k:=(k:Int)) (by omega) (by omega)
  rw[x1f1,mix_at hX hk]at l3
  have hj:=xwi (u:=l) (p:=p) hk
  simp only[x5o]
  unfold x9n xhc x9m
  by_cases c:at0 l k=at0 l p.a.toNat\/at0 l k=at0 l p.b.toNat
  .rw[x1ez c]at hj
   obtain⟨m2,e1,e2,e3,e4⟩:=st (mn (at0 l p.a.toNat) (at0 l p.b.toNat))
   rw[x1f1,<-hj,x13j hX hk]at e2
   unfold mn at e1
   by_cases c1:at0 l k=at0 l p.a.toNat
   .simp(disch:=omega) [hk',i3,l3,c1,xrc]
    rw[e1]
    exact next () m2 _ ⟨e2,by omega,λj hj hj2=>by rw[e4 j hj];exact h3 j hj hj2⟩
   .have c2:at0 l k=at0 l p.b.toNat:=c.resolve_left c1
    rw[c2]at l3 c1
    simp(disch:=omega) [hk',i3,l3,c1,xrc]
    rw[e1]
    exact next () m2 _ ⟨e2,by omega,λj hj hj2=>by rw[e4 j hj];exact h3 j hj hj2⟩
  .rw[x1ey c]at hj
   have c1:¬at0 l k=at0 l p.a.toNat:=λh=>c (Or.inl h)
   have c2:¬at0 l k=at0 l p.b.toNat:=λh=>c (Or.inr h)
   simp(disch:=omega) [hk',i3,l3,c1,c2,xrc]
   exact next () m1 _ ⟨by rw[<-mix_id hX hk hj];exact h1,h2,h3⟩
 .rintro n-m1 fc ⟨h1,h2,h3⟩
  have hk:¬((l.length:Int)<(l.length:Int)):=by omega
  simp only[x5o]
  unfold x9n xhb
  simp[hk]
  rw[x1g4 (x1f3 _),x1f8 (by omega),x1g5]at h1
  exact⟨h1,h2,h3⟩
theorem xzt{n k:Nat}(h:k<n):(freshM n).take k++[(k:Int)]=(freshM n).take (k+1):=by
 rw[x1g3 (by simpa[freshM]using h)]
 simp[freshM]
theorem x1b3(d:Nat){n:Nat}(hn:n<=1000)(m:Mem):∃a M,xtt (xr4 (d+1)) x2f [I n] m=some (a,M)/\Gk 1 intE (λid=>id.1=m.next) M a (freshM n)/\M.next=m.next+1/\∀j:Id,j.1<m.next->M.get j=m.get j:=by
 obtain⟨a,m',h1,h2,h3⟩:∃a m',xr4 (d+1) [] x2f [I n] ⟨[],m.next⟩=some (a,m')/\Gk 1 intE (λid=>id.1=m.next) m' a (freshM n)/\m'.next=m.next+1:=by
  rw[xlz]
  unfold xe5 x9l xha
  refine xsf (N:=n) (λj k a m' fc=>x5n (xr4 d) [] m.next j a (I n) (I k) m' fc) (λk a m'=>Gk 1 intE (λid=>id.1=m.next) m' a ((freshM n).take k)/\m'.next=m.next+1)
   (λr=>∃a m',r=some (a,m')/\Gk 1 intE (λid=>id.1=m.next) m' a (freshM n)/\m'.next=m.next+1) ?_ ?_ NN 0 nilS _ _ (by omega) (by rw[xrg];omega) ⟨by simpa using Gk.nil,rfl⟩
  .rintro j k a m1 fc hk ⟨hG,hN⟩ next
   have hk':(k:Int)<(n:Int):=by omega
   have hlt:((freshM n).take k).length=k:=by simp[freshM];omega
   obtain⟨a2,m2,e1,e2,-,-,e3,-⟩:=Gk.app (ok:=λid=>id.1=m.next) (bytes:=8) (id0:=(m.next,fc+6,12)) xrm (by omega) rfl (by unfold xrq;omega) hG (k:Int)
   simp only[x5n]
   unfold x9k
   simp(disch:=omega) [hk',xso,xrc]
   rw[show elems m1.get 1 (.slit [I (k:Int)] 1 true)=some ([I (k:Int)],1)from rfl]
   rw[show[I (k:Int)]=intE k from rfl,e1]
   exact next a2 m2 _ ⟨by rw[<-xzt hk];exact e2,by omega⟩
  .rintro j a m1 fc ⟨hG,hN⟩
   have hk:¬((n:Int)<(n:Int)):=by omega
   simp only[x5n]
   unfold x9k xh9
   simp[hk]
   exact⟨a,m1,⟨rfl,rfl⟩,by rw[x1f8 (by simp[freshM])]at hG;exact hG,hN⟩
 obtain⟨M,hc,hM,hj⟩:=xwj (l:=[I n]) rfl h1
 refine⟨a,M,hc,h2.frame λj hjj=>?_,by omega,λj hlt=>?_⟩
 .rw[hj j,x1ez (by omega)]
 .rw[hj j,x1ey (by omega)]
def scAt(l:List Scene)(i:Int):Scene:=l.getD i.toNat ⟨⟨#[]⟩,0,0⟩
def lenP(l:List Scene)(p:Pq):Int:=(((scAt l p.a).day-(scAt l p.b).day).natAbs:Int)+(((scAt l p.a).bl-(scAt l p.b).bl).natAbs:Int)
theorem x13k{l:List Scene}{i:Int}(h:i.toNat<l.length):scAt l i=l[i.toNat]:=by
 unfold scAt;rw[x1fd,x1fs h];rfl
theorem xx7{P:List Pq}{i:Int}(h:i.toNat<P.length):prAt P i=P[i.toNat]:=by
 unfold prAt;rw[x1fd,x1fs h];rfl
theorem xyr{l:List Scene}(hb:InB l){i:Int}(h0:0<=i)(h:i<l.length):(0<=(scAt l i).day/\(scAt l i).day<=100000)/\(-100000<=(scAt l i).bl/\(scAt l i).bl<=100000):=by
 rw[x13k (by omega)]
 exact hb.get (by omega)
theorem x11a{l:List Scene}(hb:InB l){p:Pq}(hp:PqIn l.length p):0<=lenP l p/\lenP l p<=300000:=by
 obtain⟨h0,h1,h2⟩:=hp
 have a:=xyr hb (i:=p.a) h0 (by omega)
 have b:=xyr hb (i:=p.b) (by omega) h2
 unfold lenP
 omega
theorem Sl.ixz{α:Type}{enc:α->List AV}{z:Nat}{a:AV}{l:List α}(hz:∀x,(enc x).length=z)(h:Sl enc a l){k:Int}(h0:0<=k)(hk:k<l.length):sIx z a (I k)=some (.plit ((l.drop k.toNat).flatMap enc)):=by
 have:=h.ix hz (k:=k.toNat) (by omega)
 rwa[x1ge h0]at this
theorem x16u(d:Nat){s p:AV}{l:List Scene}{P:List Pq}(hs:Sl Scene.c s l)(hp:Sl Pq.c p P)(hb:InB l){i:Int}(hi:0<=i/\i<P.length)(hP:PqIn l.length (prAt P i))(m:Mem) :
 xr8 (xr4 (d+2)) x2p [.agg [s,p],I i] m=some (I (lenP l (prAt P i)),m):=by
 refine xth (by simp[hs.still1,hp.still1]) ?_ m
 obtain⟨h0,h1,h2⟩:=hP
 have ba:=xyr hb (i:=(prAt P i).a) h0 (by omega)
 have bb:=xyr hb (i:=(prAt P i).b) (by omega) h2
 have ip:=hp.ixz Pq.len hi.1 hi.2
 have lp:=λm=>xsy (m:=m) (enc:=Pq.c) Pq.len (by omega) (show i.toNat<P.length by omega)
 rw[<-xx7 (by omega)]at lp
 have ia:=hs.ixz Scene.len h0 (show(prAt P i).a<l.length by omega)
 have ib:=hs.ixz Scene.len (show 0<=(prAt P i).b by omega) h2
 have la:=λm=>xsy (m:=m) (enc:=Scene.c) Scene.len (by omega) (show(prAt P i).a.toNat<l.length by omega)
 have lb:=λm=>xsy (m:=m) (enc:=Scene.c) Scene.len (by omega) (show(prAt P i).b.toNat<l.length by omega)
 rw[<-x13k (by omega)]at la lb
 unfold lenP
 rw[xmq]
 unfold xev xav
 generalize scAt l (prAt P i).a=x at *
 generalize scAt l (prAt P i).b=y at *
 generalize prAt P i=e at *
 simp only[Pq.c]at lp
 simp only[Scene.c]at la lb
 simp(disch:=omega) [mem0,hs.one,hp.one,ip,lp,ia,ib,la,lb,xus,x110,tR,tS,xr6,disj,xrc,w_size7,cAp,show Nat.blt 0 1=true from rfl]
 refine RetF.st ?_ ?_<;>rfl
theorem x13l(d:Nat){s p:AV}{l:List Scene}{P:List Pq}(hs:Sl Scene.c s l)(hp:Sl Pq.c p P)(hb:InB l){i:Int}(hi:0<=i/\i<P.length)(hP:PqIn l.length (prAt P i))(m:Mem) :
 xr8 (xr4 (d+2)) x1h [.agg [s,p],I i] m=some (I (lenP l (prAt P i)),m):=by
 refine xth (by simp[hs.still1,hp.still1]) ?_ m
 obtain⟨h0,h1,h2⟩:=hP
 have ba:=xyr hb (i:=(prAt P i).a) h0 (by omega)
 have bb:=xyr hb (i:=(prAt P i).b) (by omega) h2
 have ip:=hp.ixz Pq.len hi.1 hi.2
 have l0:=λm=>xw1 (m:=m) (enc:=Pq.c) (show i.toNat<P.length by omega) 0 rfl
 have l1:=λm=>xw1 (m:=m) (enc:=Pq.c) (show i.toNat<P.length by omega) 1 rfl
 rw[<-xx7 (by omega)]at l0 l1
 simp only[x1f0]at l0
 simp only[x1jk]at l1
 have ia:=hs.ixz Scene.len h0 (show(prAt P i).a<l.length by omega)
 have ib:=hs.ixz Scene.len (show 0<=(prAt P i).b by omega) h2
 have la:=λm=>xsy (m:=m) (enc:=Scene.c) Scene.len (by omega) (show(prAt P i).a.toNat<l.length by omega)
 have lb:=λm=>xsy (m:=m) (enc:=Scene.c) Scene.len (by omega) (show(prAt P i).b.toNat<l.length by omega)
 rw[<-x13k (by omega)]at la lb
 unfold lenP
 rw[xlm]
 unfold xds x90
 generalize scAt l (prAt P i).a=x at *
 generalize scAt l (prAt P i).b=y at *
 generalize prAt P i=e at *
 simp only[Scene.c]at la lb
 simp(disch:=omega) [mem0,hs.one,hp.one,ip,l0,l1,ia,ib,la,lb,xus,x110,tR,tS,xr6,disj,xrc,w_Size,cAp,show Nat.blt 0 1=true from rfl]
 refine RetF.st ?_ ?_<;>rfl
def sumL(l:List Scene)(P:List Pq):Int->List Int->Int
 |s,[]=>s
 |s,i::r=>sumL l P (s+lenP l (prAt P i)) r
def Rng(n:Nat)(P:List Pq)(F:List Int):Prop:=∀i∈F,(0<=i/\i<P.length)/\PqIn n (prAt P i)
theorem Rng.get{n:Nat}{P:List Pq}{F:List Int}(h:Rng n P F){k:Nat}(hk:k<F.length):(0<=at0 F k/\at0 F k<P.length)/\PqIn n (prAt P (at0 F k)):=by
 rw[xrn hk];exact h _ (x1fg hk)
end Go.Ix
namespace Go.Ix
variable{P:List Pq}
theorem x11b{u:List Int}{p:Pq}(h:at0 u p.a.toNat=at0 u p.b.toNat):xsm u p=u:=by
 unfold xsm
 conv=>rhs;rw[<-List.map_id u]
 apply x1k1
 intro x _
 show _=x
 rw[h]
 by_cases c:x=at0 u p.b.toNat
 .rw[x1ez (Or.inl c),c];unfold mn;simp
 .rw[x1ey (by simp[c])]
def takeM(P:List Pq):List Int->List Int->List Int
 |_,[]=>[]
 |u,i::r=>if at0 u (prAt P i).a.toNat=at0 u (prAt P i).b.toNat then takeM P u r else i::takeM P (xsm u (prAt P i)) r
theorem x11c:∀(l u:List Int),joinsM u (prs P (takeM P u l))=joinsM u (prs P l)
 |[],_=>rfl
 |i::r,u=>by
  rw[takeM]
  by_cases c:at0 u (prAt P i).a.toNat=at0 u (prAt P i).b.toNat
  .rw[x1ez c,x11c r u]
   show _=joinsM (xsm u (prAt P i)) (prs P r)
   rw[x11b c]
  .rw[x1ey c]
   exact x11c r (xsm u (prAt P i))
theorem x13m:∀(l u:List Int),Indep u (prs P (takeM P u l))
 |[],_=>trivial
 |i::r,u=>by
  rw[takeM]
  by_cases c:at0 u (prAt P i).a.toNat=at0 u (prAt P i).b.toNat
  .rw[x1ez c];exact x13m r u
  .rw[x1ey c];exact⟨c,x13m r _⟩
theorem xx8:∀(l u:List Int),(takeM P u l).Sublist l
 |[],_=>List.Sublist.slnil
 |i::r,u=>by
  rw[takeM]
  by_cases c:at0 u (prAt P i).a.toNat=at0 u (prAt P i).b.toNat
  .rw[x1ez c];exact(xx8 r u).cons i
  .rw[x1ey c];exact(xx8 r _).cons_cons i
theorem x13n:∀(l k u:List Int),takeM P u (l++k)=takeM P u l++takeM P (joinsM u (prs P l)) k
 |[],_,_=>rfl
 |i::r,k,u=>by
  rw[x1gw,takeM,takeM]
  by_cases c:at0 u (prAt P i).a.toNat=at0 u (prAt P i).b.toNat
  .rw[x1ez c,x1ez c,x13n r k u]
   show _=takeM P u r++takeM P (joinsM (xsm u (prAt P i)) (prs P r)) k
   rw[x11b c]
  .rw[x1ey c,x1ey c,x13n r k _]
   rfl
theorem x16v(l u:List Int)(i:Int):takeM P u (l++[i])=takeM P u l++(if at0 (joinsM u (prs P l)) (prAt P i).a.toNat=at0 (joinsM u (prs P l)) (prAt P i).b.toNat then[]else[i]):=by
 rw[x13n]
 congr 1
theorem x13o{α:Type}{R:α->α->Prop}(hi:∀a,¬R a a)(ha:∀a b,R a b->R b a->False):∀{l k:List α},l.Pairwise R->k.Pairwise R->(∀x,x∈l↔x∈k)->l=k
 |[],[],_,_,_=>rfl
 |[],y::k,_,_,h=>by have:=(h y).mpr (x1f7 ..);cases this
 |x::l,[],_,_,h=>by have:=(h x).mp (x1f7 ..);cases this
 |x::l,y::k,h1,h2,h=>by
  rw[x1gn]at h1 h2
  have e:x=y:=by
   rcases x1fe.mp ((h x).mp (x1f7 ..))with e|e
   .exact e
   .rcases x1fe.mp ((h y).mpr (x1f7 ..))with e2|e2
    .exact e2.symm
    .exact(ha _ _ (h2.1 x e) (h1.1 y e2)).elim
  subst e
  have:=x13o hi ha h1.2 h2.2 λz=>by
   constructor
   .intro hz
    rcases x1fe.mp ((h z).mp (x1f6 _ hz))with e|e
    .rw[e]at hz;exact(hi _ (h1.1 _ hz)).elim
    .exact e
   .intro hz
    rcases x1fe.mp ((h z).mpr (x1f6 _ hz))with e|e
    .rw[e]at hz;exact(hi _ (h2.1 _ hz)).elim
    .exact e
  rw[this]
theorem x16w{α:Type}{R:α->α->Prop}(hi:∀a,¬R a a){l:List α}(h:l.Pairwise R):l.Nodup:=List.Pairwise.imp (S:=λa b=>a≠b) (λ{a b} hr (e:a=b)=>hi a (by rw[<-e]at hr;exact hr)) h
def lx(f:Int->Int)(i j:Int):Prop:=f i<f j\/(f i=f j/\i<j)
theorem lx_irr{f:Int->Int}(i:Int):¬lx f i i:=by unfold lx;omega
theorem lx_asym{f:Int->Int}(i j:Int)(h:lx f i j)(h2:lx f j i):False:=by unfold lx at *;omega
theorem x16x{f:Int->Int}{i j k:Int}(h:lx f i j)(h2:lx f j k):lx f i k:=by unfold lx at *;omega
theorem lx_tot{f:Int->Int}{i j:Int}(h:i≠j):lx f i j\/lx f j i:=by unfold lx;omega
def Ordd(f:Int->Int)(N:Nat)(L:List Int):Prop:=L.Pairwise (lx f)/\∀x,x∈L↔(0<=x/\x<N)
theorem Ordd.one{f:Int->Int}{N:Nat}{L K:List Int}(h:Ordd f N L)(k:Ordd f N K):L=K:=x13o lx_irr lx_asym h.1 k.1 λx=>(h.2 x).trans (k.2 x).symm
theorem Ordd.nodup{f:Int->Int}{N:Nat}{L:List Int}(h:Ordd f N L):L.Nodup:=x16w lx_irr h.1
def Asc(F:List Int):Prop:=F.Pairwise (· < ·)
theorem Asc.one{F G:List Int}(h:Asc F)(k:Asc G)(e:∀x,x∈F↔x∈G):F=G:=x13o (λa=>by omega) (λa b=>by omega) h k e
theorem Asc.nodup{F:List Int}(h:Asc F):F.Nodup:=x16w (λa=>by omega) h
theorem x16y{l k:List Int}(hl:l.Nodup)(hk:k.Nodup)(h:∀x,x∈l↔x∈k):l.length=k.length:=by
 have:=x13d hl λx hx=>(h x).mp hx
 have:=x13d hk λx hx=>(h x).mpr hx
 omega
theorem fresh_mem{N:Nat}{x:Int}:x∈freshM N↔(0<=x/\x<N):=by
 unfold freshM
 rw[x1fj]
 constructor
 .rintro⟨i,hi,rfl⟩
  have:=x1fn.mp hi
  omega
 .rintro⟨h0,h1⟩
  exact⟨x.toNat,x1fn.mpr (by omega),by omega⟩
theorem x13p(N:Nat):Asc (freshM N):=by
 unfold Asc freshM
 rw[List.pairwise_map]
 exact x1k3.imp λh=>by omega
theorem Asc.filter{F:List Int}(h:Asc F)(p:Int->Bool):Asc (F.filter p):=List.Pairwise.filter p h
variable{n:Nat}
theorem x16z{t:List Int}{l:List Pq}(hl:∀p∈l,PqIn n p)(h:∀p∈l,Sm t p.a.toNat p.b.toNat){v w:Nat}(hv:v<n)(hw:w<n)(hs:Sm (joinsM (freshM n) l) v w):Sm t v w:=by
 refine x13g (R:=Sm t) (λh=>h.symm) (λh1 h2=>h1.trans h2) (Lab.fresh n) hl h (λa b ha hb e=>?_) v w hv hw hs
 unfold Sm at e
 rw[Lab.get_fresh ha,Lab.get_fresh hb]at e
 have:a=b:=by omega
 rw[this];rfl
theorem x170{l k:List Pq}(hl:∀p∈l,PqIn n p)(hk:∀p∈k,PqIn n p)(h1:∀p∈l,Sm (joinsM (freshM n) k) p.a.toNat p.b.toNat)(h2:∀p∈k,Sm (joinsM (freshM n) l) p.a.toNat p.b.toNat):joinsM (freshM n) l=joinsM (freshM n) k:=
 ((Lab.fresh n).joins hl).ext ((Lab.fresh n).joins hk) λv w hv hw=>⟨x16z hl h1 hv hw,x16z hk h2 hv hw⟩
theorem x171{l k:List Pq}(hl:∀p∈l,PqIn n p)(hk:∀p∈k,PqIn n p)(h:∀p,p∈l↔p∈k):joinsM (freshM n) l=joinsM (freshM n) k:=
 x170 hl hk (λp hp=>xx6 (Lab.fresh n) hk p ((h p).mp hp)) (λp hp=>xx6 (Lab.fresh n) hl p ((h p).mpr hp))
theorem x172:∀{l:List Pq} {u:List Int},Lab n u->(∀p∈l,PqIn n p)->xv8 n u<=xv8 n (joinsM u l)+l.length
 |[],_,_,_=>x1f3 _
 |p::l,u,h,hp=>by
  have hq:=hp p (x1f7 ..)
  have ih:=x172 (h.join hq) λq hq=>hp q (x1f6 _ hq)
  have e:joinsM u (p::l)=joinsM (xsm u p) l:=rfl
  rw[e,x1fi]
  by_cases c:Sm u p.a.toNat p.b.toNat
  .rw[x11b c]at ih ⊢;omega
  .have:=x13h h hq c;omega
theorem x173:∀{l:List Pq} {u:List Int},Lab n u->(∀p∈l,PqIn n p)->xv8 n (joinsM u l)+l.length<=xv8 n u->Indep u l
 |[],_,_,_,_=>trivial
 |p::l,u,h,hp,hr=>by
  have hq:=hp p (x1f7 ..)
  have hl:∀q∈l,PqIn n q:=λq hq=>hp q (x1f6 _ hq)
  have e:joinsM u (p::l)=joinsM (xsm u p) l:=rfl
  rw[e,x1fi]at hr
  by_cases c:Sm u p.a.toNat p.b.toNat
  .have:=x172 (h.join hq) hl
   rw[x11b c]at this hr
   omega
  .have:=x13h h hq c
   exact⟨c,x173 (h.join hq) hl (by omega)⟩
theorem For.perm(hP:∀p∈P,PqIn n p){F G:List Int}(h:For n P F)(hG:G.Nodup)(he:∀x,x∈F↔x∈G):For n P G:=by
 have hr:∀i∈G,0<=i/\i<P.length:=λi hi=>h.rng i ((he i).mpr hi)
 refine⟨hr,hG,x173 (Lab.fresh n) (xtp hP hr) ?_⟩
 have h1:=x118 (Lab.fresh n) (xtp hP h.rng) h.ind
 have h2:joinsM (freshM n) (prs P G)=joinsM (freshM n) (prs P F):=x171 (xtp hP hr) (xtp hP h.rng) λp=>by
  unfold prs
  rw[x1fj,x1fj]
  exact⟨λ⟨i,a,b⟩=>⟨i,(he i).mpr a,b⟩,λ⟨i,a,b⟩=>⟨i,(he i).mp a,b⟩⟩
 have h3:=x16y h.nod hG he
 rw[h2]
 have e1:(prs P F).length=F.length:=by unfold prs;simp
 have e2:(prs P G).length=G.length:=by unfold prs;simp
 omega
theorem For.sub(hP:∀p∈P,PqIn n p){F G:List Int}(h:For n P F)(hG:G.Nodup)(hs:∀x∈G,x∈F):For n P G:=by
 refine(h.perm (G:=G++F.filter λx=>!(G.contains x)) hP ?_ λx=>?_).take
 .rw[x1h8]
  refine⟨hG,h.nod.filter _,λa ha b hb e=>?_⟩
  subst e
  have:=(x1fr.mp hb).2
  simp at this
  exact this ha
 .rw[x1fw,x1fr]
  by_cases c:x∈G
  .simp[c,hs x c]
  .simp[c]
theorem prs_fresh:prs P (freshM P.length)=P:=by
 apply x1hr
 .simp[prs,freshM]
 .intro k h1 h2
  have h3:k<P.length:=h2
  simp[prs,freshM,prAt,x1fd,h3]
structure Tree (n:Nat) (P:List Pq) (F:List Int):Prop where
 fo:For n P F
 asc:Asc F
 all:∀p∈P,Sm (joinsM (freshM n) (prs P F)) p.a.toNat p.b.toNat
theorem mem_prs{F':List Int}(hr:∀i∈F',0<=i/\i<P.length):∀p∈prs P F',p∈P:=by
 intro p hp
 obtain⟨i,hi,rfl⟩:=x1fj.mp hp
 have:=hr i hi
 have h2:i.toNat<P.length:=by omega
 unfold prAt
 rw[x1fd,x1fs h2]
 exact x1fg h2
theorem Tree.uni(hP:∀p∈P,PqIn n p){F:List Int}(h:Tree n P F):joinsM (freshM n) (prs P F)=joinsM (freshM n) P:=
 x170 (xtp hP h.fo.rng) hP (λp hp=>xx6 (Lab.fresh n) hP p (mem_prs h.fo.rng p hp)) h.all
theorem Tree.len(hP:∀p∈P,PqIn n p){F:List Int}(h:Tree n P F):n=xv8 n (joinsM (freshM n) P)+F.length:=by
 have:=x118 (Lab.fresh n) (xtp hP h.fo.rng) h.fo.ind
 rw[x16s,h.uni hP]at this
 have e:(prs P F).length=F.length:=by unfold prs;simp
 omega
def insM(f:Int->Int)(x:Int):List Int->List Int
 |[]=>[x]
 |y::r=>if f x<f y\/(f x=f y/\x<y)then x::y::r else y::insM f x r
theorem ins_mem{f:Int->Int}{x z:Int}:∀{l:List Int},z∈insM f x l↔z=x\/z∈l
 |[]=>by simp[insM]
 |y::r=>by
  rw[insM]
  split
  .simp
  .rw[x1fe,ins_mem,x1fe]
   constructor
   .rintro(h|h|h)<;>simp[h]
   .rintro(h|h|h)<;>simp[h]
theorem ins_srt{f:Int->Int}{x:Int}:∀{l:List Int},l.Pairwise (lx f)->x∉l->(insM f x l).Pairwise (lx f)
 |[],_,_=>by simp[insM]
 |y::r,h,hx=>by
  rw[insM]
  rw[x1gn]at h
  split
  .rename_i c
   rw[x1gn]
   refine⟨λz hz=>?_,x1gn.mpr h⟩
   rcases x1fe.mp hz with rfl|hz
   .exact c
   .exact x16x c (h.1 z hz)
  .rename_i c
   rw[x1gn]
   refine⟨λz hz=>?_,ins_srt h.2 λhm=>hx (x1f6 _ hm)⟩
   rcases ins_mem.mp hz with rfl|hz
   .rcases lx_tot (f:=f) (i:=z) (j:=y) (λe=>hx (by rw[e];exact x1f7 ..))with e|e
    .exact absurd e c
    .exact e
   .exact h.1 z hz
def ordM(f:Int->Int)(N:Nat):List Int:=(freshM N).foldr (insM f) []
theorem xwk(f:Int->Int)(N:Nat):Ordd f N (ordM f N):=by
 have main:∀l:List Int,l.Nodup->(l.foldr (insM f) []).Pairwise (lx f)/\∀x,x∈l.foldr (insM f) []↔x∈l:=by
  intro l
  induction l with
  |nil=>intro _;simp
  |cons y r ih=>
   intro h
   rw[x1gg]at h
   obtain⟨h1,h2⟩:=ih h.2
   rw[x1iz]
   exact⟨ins_srt h1 λhm=>h.1 ((h2 y).mp hm),λx=>by rw[ins_mem,h2,x1fe]⟩
 obtain⟨h1,h2⟩:=main (freshM N) (x13p N).nodup
 exact⟨h1,λx=>(h2 x).trans fresh_mem⟩
def xt3(f:Int->Int)(n:Nat)(P:List Pq):List Int:=takeM P (freshM n) (ordM f P.length)
def xsw(f:Int->Int)(n:Nat)(P:List Pq):List Int:=(freshM P.length).filter λi=>(xt3 f n P).contains i
theorem x174{f:Int->Int}{x:Int}(h:x∈xt3 f n P):0<=x/\x<P.length:=((xwk f P.length).2 x).mp ((xx8 _ _).subset h)
theorem x175(f:Int->Int):(xt3 f n P).Nodup:=(xx8 _ _).nodup (xwk f P.length).nodup
theorem light_mem{f:Int->Int}{x:Int}:x∈xsw f n P↔x∈xt3 f n P:=by
 unfold xsw
 rw[x1fr,fresh_mem]
 constructor
 .rintro⟨_,h⟩;simpa using h
 .intro h;exact⟨x174 h,by simpa using h⟩
theorem x13q(f:Int->Int):Asc (xsw f n P):=(x13p _).filter _
theorem x13r(hP:∀p∈P,PqIn n p)(f:Int->Int):For n P (xt3 f n P):=⟨λi hi=>x174 hi,x175 f,x13m _ _⟩
theorem xxz(hP:∀p∈P,PqIn n p)(f:Int->Int):For n P (xsw f n P):=(x13r hP f).perm hP (x13q f).nodup λx=>light_mem.symm
theorem x1b4(hP:∀p∈P,PqIn n p)(f:Int->Int):Tree n P (xsw f n P):=by
 refine⟨xxz hP f,x13q f,λp hp=>?_⟩
 have hO:∀i∈ordM f P.length,0<=i/\i<P.length:=λi hi=>((xwk f P.length).2 i).mp hi
 have e:joinsM (freshM n) (prs P (xsw f n P))=joinsM (freshM n) (prs P (ordM f P.length)):=by
  rw[<-x11c (P:=P) (ordM f P.length)]
  refine x171 (xtp hP (xxz hP f).rng) (xtp hP (x13r hP f).rng) λq=>?_
  unfold prs
  rw[x1fj,x1fj]
  exact⟨λ⟨i,a,b⟩=>⟨i,light_mem.mp a,b⟩,λ⟨i,a,b⟩=>⟨i,light_mem.mpr a,b⟩⟩
 rw[e]
 refine xx6 (Lab.fresh n) (xtp hP hO) p ?_
 unfold prs
 rw[x1fj]
 obtain⟨k,hk,rfl⟩:=x1hu.mp hp
 refine⟨(k:Int),((xwk f P.length).2 _).mpr (by omega),?_⟩
 unfold prAt
 simp[x1fd,hk]
theorem Ordd.split{f:Int->Int}{N:Nat}{L:List Int}(h:Ordd f N L)(c:Int):L=L.filter (λi=>decide (f i<=c))++L.filter (λi=>!decide (f i<=c)):=by
 refine h.one ⟨?_,λx=>?_⟩
 .rw[x1hz]
  refine⟨h.1.filter _,h.1.filter _,λa ha b hb=>?_⟩
  have h1:=(x1fr.mp ha).2
  have h2:=(x1fr.mp hb).2
  simp at h1 h2
  unfold lx
  omega
 .rw[<-h.2,x1fw,x1fr,x1fr]
  cases decide (f x<=c)<;>simp
end Go.Ix
