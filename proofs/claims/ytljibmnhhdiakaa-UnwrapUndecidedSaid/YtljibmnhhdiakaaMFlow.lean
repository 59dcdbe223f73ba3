import Derived.Test.YtljibmnhhdiakaaWFlow
set_option linter.unusedSimpArgs false
set_option linter.unusedVariables false
namespace Go.Ix
def sumN:Nat->(Nat->Int)->Int
 |0,_=>0
 |n+1,g=>sumN n g+g n
theorem x22g{n:Nat}{g h:Nat->Int}(H:∀k,k<n->g k=h k):sumN n g=sumN n h:=by
 induction n with
 |zero=>rfl
 |succ n ih=>simp only[sumN];rw[ih fun k hk=>H k (by omega),H n (by omega)]
theorem x1y8{n:Nat}{g:Nat->Int}(H:∀k,k<n->g k=0):sumN n g=0:=by
 induction n with
 |zero=>rfl
 |succ n ih=>simp only[sumN];rw[ih fun k hk=>H k (by omega),H n (by omega)];rfl
theorem x1z8{n:Nat}{g h:Nat->Int}:sumN n (fun k=>g k+h k)=sumN n g+sumN n h:=by
 induction n with
 |zero=>rfl
 |succ n ih=>simp only[sumN];rw[ih];omega
theorem x28a{n:Nat}{g:Nat->Int}(H:∀k,k<n->0<=g k):0<=sumN n g:=by
 induction n with
 |zero=>simp[sumN]
 |succ n ih=>simp only[sumN];have:=ih fun k hk=>H k (by omega);have:=H n (by omega);omega
theorem sumN_le{n:Nat}{g h:Nat->Int}(H:∀k,k<n->g k<=h k):sumN n g<=sumN n h:=by
 induction n with
 |zero=>simp[sumN]
 |succ n ih=>simp only[sumN];have:=ih fun k hk=>H k (by omega);have:=H n (by omega);omega
theorem sumN_lt{n:Nat}{g h:Nat->Int}(H:∀k,k<n->g k<=h k){j:Nat}(hj:j<n)(hl:g j<h j):sumN n g<sumN n h:=by
 induction n with
 |zero=>omega
 |succ n ih=>
  simp only[sumN]
  have h1:=H n (by omega)
  by_cases e:j=n
  .subst e
   have:=sumN_le (n:=j) (g:=g) (h:=h) fun k hk=>H k (by omega)
   omega
  .have:=ih (fun k hk=>H k (by omega)) (by omega)
   omega
theorem x1z9{n v:Nat}(h:v<n)(c:Int)(p:Nat->Int):sumN n (fun k=>if v=k then p k*c else 0)=p v*c:=by
 induction n with
 |zero=>omega
 |succ n ih=>
  simp only[sumN]
  by_cases e:v=n
  .subst e
   rw[x1y8 (fun k hk=>if_neg (by omega)),if_pos rfl];omega
  .rw[ih (by omega),if_neg e];omega
def exF(p:Nat->Int)(e:Edge):Int:=p e.to.toNat-p e.fr.toNat+e.jump
def x1tb(p:Nat->Int):List Edge->Int
 |[]=>0
 |e::r=>e.wt*((exF p e).natAbs:Int)+x1tb p r
def valF:List (Edge×Int)->Int
 |[]=>0
 |x::r=>x.2*x.1.jump+valF r
def netF(v:Nat):List (Edge×Int)->Int
 |[]=>0
 |x::r=>(if x.1.to.toNat=v then x.2 else 0)-(if x.1.fr.toNat=v then x.2 else 0)+netF v r
def gapF(p:Nat->Int):List (Edge×Int)->Int
 |[]=>0
 |x::r=>x.1.wt*((exF p x.1).natAbs:Int)-x.2*exF p x.1+gapF p r
def Cap(z:List (Edge×Int)):Prop:=∀x∈z,-x.1.wt<=x.2/\x.2<=x.1.wt
def Ends(n:Nat)(z:List (Edge×Int)):Prop:=∀x∈z,x.1.fr.toNat<n/\x.1.to.toNat<n
def CS(p:Nat->Int)(z:List (Edge×Int)):Prop:=∀x∈z,(x.2<x.1.wt->exF p x.1<=0)/\(-x.1.wt<x.2->0<=exF p x.1)
structure Feas (n:Nat) (z:List (Edge×Int)):Prop where
 cap:Cap z
 cons:∀v,v<n->netF v z=0
 ends:Ends n z
theorem x20b(n:Nat)(p:Nat->Int):∀z:List (Edge×Int),Ends n z->sumN n (fun v=>p v*netF v z)=valF z*0+(z.foldr (fun x s=>x.2*(p x.1.to.toNat-p x.1.fr.toNat)+s) 0)
 |[],_=>by simp only[netF,Int.mul_zero,List.foldr_nil,valF];rw[x1y8 (fun _ _=>rfl)];rfl
 |x::r,h=>by
  have ih:=x20b n p r (fun y hy=>h y (List.mem_cons_of_mem _ hy))
  obtain⟨h1,h2⟩:=h x (List.mem_cons_self ..)
  have e:∀v,p v*netF v (x::r)=(if x.1.to.toNat=v then p v*x.2 else 0)+((if x.1.fr.toNat=v then p v*(-x.2)else 0)+p v*netF v r):=by
   intro v
   simp only[netF]
   split<;>split<;>grind
  rw[x22g (fun k _=>e k),x1z8,x1z8,x1z9 h1,x1z9 h2,ih]
  simp only[List.foldr_cons]
  grind
theorem x25d(p:Nat->Int):∀z:List (Edge×Int),x1tb p (z.map Prod.fst)=gapF p z+valF z+z.foldr (fun x s=>x.2*(p x.1.to.toNat-p x.1.fr.toNat)+s) 0
 |[]=>rfl
 |x::r=>by
  have ih:=x25d p r
  simp only[List.map_cons,x1tb,gapF,valF,List.foldr_cons,ih,exF]
  grind
theorem x25e{n:Nat}{z:List (Edge×Int)}(h:Feas n z)(p:Nat->Int):x1tb p (z.map Prod.fst)=gapF p z+valF z:=by
 have h1:=x25d p z
 have h2:=x20b n p z h.ends
 rw[x1y8 (fun k hk=>by rw[h.cons k hk];simp)]at h2
 omega
theorem gap1{w f e:Int}(h1:-w<=f)(h2:f<=w):0<=w*(e.natAbs:Int)-f*e:=by
 rcases Int.le_total 0 e with h|h
 .rw[Int.natAbs_of_nonneg h]
  have:=Int.mul_le_mul_of_nonneg_right h2 h
  omega
 .rw[show(e.natAbs:Int)=-e by omega]
  have:=Int.mul_le_mul_of_nonneg_right (show -f<=w by omega) (show 0<=-e by omega)
  grind
theorem gap1_zero{w f e:Int}(h1:-w<=f)(h2:f<=w):w*(e.natAbs:Int)-f*e=0↔(f<w->e<=0)/\(-w<f->0<=e):=by
 rcases Int.lt_trichotomy e 0 with h|h|h
 .rw[show(e.natAbs:Int)=-e by omega,show w*-e-f*e=(w+f)*-e by grind,Int.mul_eq_zero]
  constructor
  .rintro(h3|h3)
   .exact⟨fun _=>by omega,fun _=>by omega⟩
   .omega
  .intro⟨_,h4⟩
   by_cases c:-w<f
   .have:=h4 c;omega
   .left;omega
 .subst h;simp
 .rw[Int.natAbs_of_nonneg (by omega),show w*e-f*e=(w-f)*e by grind,Int.mul_eq_zero]
  constructor
  .rintro(h3|h3)
   .exact⟨fun _=>by omega,fun _=>by omega⟩
   .omega
  .intro⟨h4,_⟩
   by_cases c:f<w
   .have:=h4 c;omega
   .left;omega
theorem x22h(p:Nat->Int):∀{z:List (Edge×Int)},Cap z->0<=gapF p z
 |[],_=>by simp[gapF]
 |x::r,h=>by
  have h1:=x22h p (z:=r) fun y hy=>h y (List.mem_cons_of_mem _ hy)
  have h2:=h x (List.mem_cons_self ..)
  have h3:=gap1 (e:=exF p x.1) h2.1 h2.2
  simp only[gapF];omega
theorem x25f(p:Nat->Int):∀{z:List (Edge×Int)},Cap z->(gapF p z=0↔CS p z)
 |[],_=>by simp[gapF,CS]
 |x::r,h=>by
  have hr:Cap r:=fun y hy=>h y (List.mem_cons_of_mem _ hy)
  have ih:=x25f p hr
  have h0:=x22h p hr
  have h2:=h x (List.mem_cons_self ..)
  have h3:=gap1 (e:=exF p x.1) h2.1 h2.2
  have h4:=gap1_zero (e:=exF p x.1) h2.1 h2.2
  have e:CS p (x::r)↔((x.2<x.1.wt->exF p x.1<=0)/\(-x.1.wt<x.2->0<=exF p x.1))/\CS p r:=by
   simp[CS]
  rw[e,<-ih,<-h4]
  simp only[gapF];omega
theorem weak{n:Nat}{z:List (Edge×Int)}(h:Feas n z)(p:Nat->Int):valF z<=x1tb p (z.map Prod.fst):=by
 have:=x25e h p
 have:=x22h p h.cap
 omega
theorem tight{n:Nat}{z:List (Edge×Int)}(h:Feas n z)(p:Nat->Int):x1tb p (z.map Prod.fst)=valF z↔CS p z:=by
 rw[<-x25f p h.cap]
 have:=x25e h p
 omega
theorem val_le{n:Nat}{z y:List (Edge×Int)}{p:Nat->Int}(hz:Feas n z)(hy:Feas n y)(he:z.map Prod.fst=y.map Prod.fst)(hc:CS p z):valF y<=valF z:=by
 have h1:=(tight hz p).mpr hc
 have h2:=weak hy p
 rw[he]at h1
 omega
theorem cs_any{n:Nat}{z y:List (Edge×Int)}{p q:Nat->Int}(hz:Feas n z)(hy:Feas n y)(he:z.map Prod.fst=y.map Prod.fst)(hc:CS p z)(hd:CS q y):CS p y:=by
 have h1:=val_le hz hy he hc
 have h2:=val_le hy hz he.symm hd
 have h3:=(tight hz p).mpr hc
 rw[<-tight hy p,<-he]
 omega
def Arc(z:List (Edge×Int))(u v:Nat)(c:Int):Prop:=∃x∈z,(x.2<x.1.wt/\u=x.1.fr.toNat/\v=x.1.to.toNat/\c=-x.1.jump)\/(-x.1.wt<x.2/\u=x.1.to.toNat/\v=x.1.fr.toNat/\c=x.1.jump)
inductive Way (z:List (Edge×Int)) (u:Nat):Nat->Int->Prop
 |nil:Way z u u 0
 |cons {v w:Nat} {c d:Int}:Way z u v c->Arc z v w d->Way z u w (c+d)
theorem cs_iff{p:Nat->Int}{z:List (Edge×Int)}:CS p z↔∀u v c,Arc z u v c->p v-p u<=c:=by
 constructor
 .rintro h u v c ⟨x,hx,⟨h1,rfl,rfl,rfl⟩|⟨h1,rfl,rfl,rfl⟩⟩
  .have:=(h x hx).1 h1;unfold exF at this;omega
  .have:=(h x hx).2 h1;unfold exF at this;omega
 .intro h x hx
  refine⟨fun h1=>?_,fun h1=>?_⟩
  .have:=h _ _ _ ⟨x,hx,Or.inl ⟨h1,rfl,rfl,rfl⟩⟩;unfold exF;omega
  .have:=h _ _ _ ⟨x,hx,Or.inr ⟨h1,rfl,rfl,rfl⟩⟩;unfold exF;omega
theorem Way.le{p:Nat->Int}{z:List (Edge×Int)}(h:CS p z){u v:Nat}{c:Int}(hw:Way z u v c):p v-p u<=c:=by
 induction hw with
 |nil=>omega
 |cons _ ha ih=>have:=cs_iff.mp h _ _ _ ha;omega
theorem Arc.lt{n:Nat}{z:List (Edge×Int)}(h:Ends n z){u v:Nat}{c:Int}(ha:Arc z u v c):u<n/\v<n:=by
 obtain⟨x,hx,⟨h1,rfl,rfl,rfl⟩|⟨h1,rfl,rfl,rfl⟩⟩:=ha
 .exact h x hx
 .exact⟨(h x hx).2,(h x hx).1⟩
theorem Way.lt{n:Nat}{z:List (Edge×Int)}(h:Ends n z){u v:Nat}{c:Int}(hu:u<n)(hw:Way z u v c):v<n:=by
 cases hw with
 |nil=>exact hu
 |cons _ ha=>exact(ha.lt h).2
structure Dist (n:Nat) (z:List (Edge×Int)) (u:Nat) (r:Nat->Option Int):Prop where
 way:∀v,v<n->∀c,r v=some c->Way z u v c
 le:∀v c,Way z u v c->∃d,r v=some d/\d<=c
def far1(p:Nat->Int)(u:Nat)(r:Nat->Option Int)(K:Int)(v:Nat):Int:=
 match r v with
 |some d=>p v+min (d-(p v-p u)) K
 |none=>p v+K
theorem far1_cs{n:Nat}{z:List (Edge×Int)}{p:Nat->Int}{u:Nat}{r:Nat->Option Int}{K:Int}(he:Ends n z)(h:CS p z)(hd:Dist n z u r)(hK:0<=K):CS (far1 p u r K) z:=by
 rw[cs_iff]at h ⊢
 intro a b c ha
 have h1:=h a b c ha
 have hlt:=ha.lt he
 unfold far1
 cases ra:r a with
 |some d=>
  obtain⟨d',e',hd'⟩:=hd.le b (d+c) ((hd.way a hlt.1 d ra).cons ha)
  simp only[e']
  omega
 |none=>
  cases rb:r b with
  |some d=>simp only;omega
  |none=>simp only;omega
theorem far1_u{n:Nat}{z:List (Edge×Int)}{p:Nat->Int}{u:Nat}{r:Nat->Option Int}{K:Int}(h:CS p z)(hu:u<n)(hd:Dist n z u r)(hK:0<=K):far1 p u r K u=p u:=by
 obtain⟨d,e,hle⟩:=hd.le u 0 .nil
 have:=Way.le h (hd.way u hu d e)
 unfold far1
 simp only[e]
 omega
theorem dist_any{n:Nat}{z y:List (Edge×Int)}{p q:Nat->Int}{u:Nat}{r s:Nat->Option Int}(hz:Feas n z)(hy:Feas n y)(he:z.map Prod.fst=y.map Prod.fst)(hc:CS p z)(hd:CS q y)(hu:u<n)(hr:Dist n z u r)(hs:Dist n y u s):∀v,v<n->r v=s v:=by
 have key:∀{z y:List (Edge×Int)} {p q:Nat->Int} {r s:Nat->Option Int},Feas n z->Feas n y->z.map Prod.fst=y.map Prod.fst->CS p z->CS q y->Dist n z u r->Dist n y u s->∀v,v<n->∀c,s v=some c->∃d,r v=some d/\d<=c:=by
  intro z y p q r s hz hy he hc hd hr hs v hv c hsv
  have hw:=hs.way v hv c hsv
  have lo:∀K,0<=K->far1 p u r K v-p u<=c:=by
   intro K hK
   have h1:=cs_any hz hy he (far1_cs hz.ends hc hr hK) hd
   have h2:=Way.le h1 hw
   rw[far1_u hc hu hr hK]at h2
   exact h2
  cases hrv:r v with
  |some d=>
   refine⟨d,rfl,?_⟩
   have h0:=Way.le hc (hr.way v hv d hrv)
   have:=lo (d-(p v-p u)) (by omega)
   simp only[far1,hrv]at this
   omega
  |none=>
   exfalso
   have:=lo ((c-(p v-p u)).natAbs+1) (by omega)
   simp only[far1,hrv]at this
   omega
 intro v hv
 cases hrv:r v with
 |some a=>
  obtain⟨b,e1,h1⟩:=key hy hz he.symm hd hc hs hr v hv a hrv
  obtain⟨c,e2,h2⟩:=key hz hy he hc hd hr hs v hv b e1
  rw[hrv]at e2
  cases e2
  rw[e1]
  congr 1
  omega
 |none=>
  cases hsv:s v with
  |none=>rfl
  |some b=>
   obtain⟨c,e2,_⟩:=key hz hy he hc hd hr hs v hv b hsv
   rw[hrv]at e2;cases e2
theorem cut_sum(n:Nat)(S:Nat->Bool):∀z:List (Edge×Int),Ends n z->Cap z->(∀u v c,Arc z u v c->S u=true->S v=true) ->
 sumN n (fun v=>(if S v then 1 else 0)*netF v z)<=0/\(0<=sumN n (fun v=>(if S v then 1 else 0)*netF v z)->∀x∈z,0<x.1.wt->S x.1.fr.toNat=S x.1.to.toNat):=by
 intro z he hc ha
 rw[x20b n (fun v=>if S v then 1 else 0) z he]
 simp only[Int.mul_zero,Int.zero_add]
 induction z with
 |nil=>simp
 |cons x r ih=>
  have hx:=hc x (List.mem_cons_self ..)
  obtain⟨i1,i2⟩:=ih (fun y hy=>he y (List.mem_cons_of_mem _ hy)) (fun y hy=>hc y (List.mem_cons_of_mem _ hy)) (fun u v c ⟨y,hy,h⟩=>ha u v c ⟨y,List.mem_cons_of_mem _ hy,h⟩)
  simp only[List.foldr_cons]
  have a1:x.2<x.1.wt->S x.1.fr.toNat=true->S x.1.to.toNat=true:=fun h=>ha _ _ _ ⟨x,List.mem_cons_self ..,Or.inl ⟨h,rfl,rfl,rfl⟩⟩
  have a2:-x.1.wt<x.2->S x.1.to.toNat=true->S x.1.fr.toNat=true:=fun h=>ha _ _ _ ⟨x,List.mem_cons_self ..,Or.inr ⟨h,rfl,rfl,rfl⟩⟩
  cases c1:S x.1.fr.toNat<;>cases c2:S x.1.to.toNat
  .simp only[Bool.false_eq_true,if_false]
   refine⟨by omega,fun h y hy hw=>?_⟩
   rcases List.mem_cons.mp hy with rfl|hy
   .rw[c1,c2]
   .exact i2 (by omega) y hy hw
  .have:¬(-x.1.wt<x.2):=fun h=>by have:=a2 h c2;rw[c1]at this;cases this
   simp only[Bool.false_eq_true,if_false,if_true]
   refine⟨by omega,fun h y hy hw=>?_⟩
   rcases List.mem_cons.mp hy with rfl|hy
   .omega
   .exact i2 (by omega) y hy hw
  .have:¬(x.2<x.1.wt):=fun h=>by have:=a1 h c1;rw[c2]at this;cases this
   simp only[Bool.false_eq_true,if_false,if_true]
   refine⟨by omega,fun h y hy hw=>?_⟩
   rcases List.mem_cons.mp hy with rfl|hy
   .omega
   .exact i2 (by omega) y hy hw
  .simp only[if_true]
   refine⟨by omega,fun h y hy hw=>?_⟩
   rcases List.mem_cons.mp hy with rfl|hy
   .rw[c1,c2]
   .exact i2 (by omega) y hy hw
end Go.Ix
