import Derived.Test.YtacloojepepcfaaGreatDoorWg7
import Derived.Test.YtacloojepepcfaaGreatDoorWg2
set_option linter.unusedSimpArgs false
namespace Go.Ix
open Go.Proofs
theorem inEdge{n:Int}{l:List Edge}(hr:Right n l):∀e∈l,EdgeIn n.toNat e/\e.fr≠e.to:=by
 intro e he
 have:=hr.lo
 obtain⟨⟨a,b⟩,⟨c,d⟩,hne,⟨j0,j1⟩,w0,w1⟩:=hr.ed e he
 exact⟨⟨a,by omega,c,by omega,j0,j1,w0,w1⟩,hne⟩
end Go.Ix
set_option linter.unusedVariables false
namespace Go.Ix
def sumN:Nat->(Nat->Int)->Int
 |0,_=>0
 |n+1,g=>sumN n g+g n
theorem x11y{n:Nat}{g:Nat->Int}(H:∀k,k<n->g k=0):sumN n g=0:=by
 induction n with
 |zero=>rfl
 |succ n ih=>simp only[sumN];rw[ih λk hk=>H k (by omega),H n (by omega)];rfl
theorem x146{n:Nat}{g:Nat->Int}(H:∀k,k<n->0<=g k):0<=sumN n g:=by
 induction n with
 |zero=>simp[sumN]
 |succ n ih=>simp only[sumN];have:=ih λk hk=>H k (by omega);have:=H n (by omega);omega
theorem xz0{n:Nat}{g h:Nat->Int}(H:∀k,k<n->g k<=h k):sumN n g<=sumN n h:=by
 induction n with
 |zero=>simp[sumN]
 |succ n ih=>simp only[sumN];have:=ih λk hk=>H k (by omega);have:=H n (by omega);omega
theorem sumN_lt{n:Nat}{g h:Nat->Int}(H:∀k,k<n->g k<=h k){j:Nat}(hj:j<n)(hl:g j<h j):sumN n g<sumN n h:=by
 induction n with
 |zero=>omega
 |succ n ih=>
  simp only[sumN]
  have h1:=H n (by omega)
  by_cases e:j=n
  .subst e
   have:=xz0 (n:=j) (g:=g) (h:=h) λk hk=>H k (by omega)
   omega
  .have:=ih (λk hk=>H k (by omega)) (by omega)
   omega
def exF(p:Nat->Int)(e:Edge):Int:=p e.to.toNat-p e.fr.toNat+e.jump
def netF(v:Nat):List (Edge×Int)->Int
 |[]=>0
 |x::r=>(if x.1.to.toNat=v then x.2 else 0)-(if x.1.fr.toNat=v then x.2 else 0)+netF v r
def Ends(n:Nat)(z:List (Edge×Int)):Prop:=∀x∈z,x.1.fr.toNat<n/\x.1.to.toNat<n
def CS(p:Nat->Int)(z:List (Edge×Int)):Prop:=∀x∈z,(x.2<x.1.wt->exF p x.1<=0)/\(-x.1.wt<x.2->0<=exF p x.1)
def Arc(z:List (Edge×Int))(u v:Nat)(c:Int):Prop:=∃x∈z,(x.2<x.1.wt/\u=x.1.fr.toNat/\v=x.1.to.toNat/\c=-x.1.jump)\/(-x.1.wt<x.2/\u=x.1.to.toNat/\v=x.1.fr.toNat/\c=x.1.jump)
inductive Way (z:List (Edge×Int)) (u:Nat):Nat->Int->Prop
 |nil:Way z u u 0
 |cons {v w:Nat} {c d:Int}:Way z u v c->Arc z v w d->Way z u w (c+d)
theorem cs_iff{p:Nat->Int}{z:List (Edge×Int)}:CS p z↔∀u v c,Arc z u v c->p v-p u<=c:=by
 constructor
 .rintro h u v c ⟨x,hx,⟨h1,rfl,rfl,rfl⟩|⟨h1,rfl,rfl,rfl⟩⟩
  .have:=(h x hx).1 h1;unfold exF at this;omega
  .have:=(h x hx).2 h1;unfold exF at this;omega
 .intro h x hx
  refine⟨λh1=>?_,λh1=>?_⟩
  .have:=h _ _ _ ⟨x,hx,Or.inl ⟨h1,rfl,rfl,rfl⟩⟩;unfold exF;omega
  .have:=h _ _ _ ⟨x,hx,Or.inr ⟨h1,rfl,rfl,rfl⟩⟩;unfold exF;omega
theorem Way.le{p:Nat->Int}{z:List (Edge×Int)}(h:CS p z){u v:Nat}{c:Int}(hw:Way z u v c):p v-p u<=c:=by
 induction hw with
 |nil=>omega
 |cons _ ha ih=>have:=cs_iff.mp h _ _ _ ha;omega
theorem Arc.lt{n:Nat}{z:List (Edge×Int)}(h:Ends n z){u v:Nat}{c:Int}(ha:Arc z u v c):u<n/\v<n:=by
 obtain⟨x,hx,⟨h1,rfl,rfl,rfl⟩|⟨h1,rfl,rfl,rfl⟩⟩:=ha
 .exact h x hx
 .exact⟨(h x hx).2,(h x hx).1⟩
theorem Way.lt{n:Nat}{z:List (Edge×Int)}(h:Ends n z){u v:Nat}{c:Int}(hu:u<n)(hw:Way z u v c):v<n:=by
 cases hw with
 |nil=>exact hu
 |cons _ ha=>exact(ha.lt h).2
structure FlowOK (n:Nat) (l:List Edge) (fl tu ex:List Int):Prop where
 nn:n<=200
 ll:l.length<=600
 ed:∀e∈l,EdgeIn n e/\e.fr≠e.to
 fll:fl.length=l.length
 tul:tu.length=n
 exl:ex.length=n
 cap:∀k,k<l.length->-(edgeAt l k).wt<=at0 fl k/\at0 fl k<=(edgeAt l k).wt
 cs:∀k,k<l.length->(at0 fl k<(edgeAt l k).wt->exI tu (edgeAt l k)<=0)/\(-(edgeAt l k).wt<at0 fl k->0<=exI tu (edgeAt l k))
 net:∀v,v<n->at0 ex v=netF v (l.zip fl)
theorem edge_in{n:Nat}{l:List Edge}(hed:∀e∈l,EdgeIn n e/\e.fr≠e.to){k:Nat}(hk:k<l.length):EdgeIn n (edgeAt l k)/\(edgeAt l k).fr≠(edgeAt l k).to:=by
 rw[xx1 hk];exact hed _ (x194 hk)
theorem mem_zipE{l:List Edge}{fl:List Int}(hl:fl.length=l.length){x:Edge×Int}:x∈l.zip fl↔∃k,k<l.length/\x=(edgeAt l k,at0 fl k):=by
 constructor
 .intro h
  obtain⟨k,hk,rfl⟩:=List.mem_iff_getElem.mp h
  have h1:k<l.length:=by simp at hk;omega
  refine⟨k,h1,?_⟩
  rw[List.getElem_zip,xx1 h1,xs9 (by omega)]
 .rintro⟨k,hk,rfl⟩
  rw[xx1 hk,xs9 (by omega)]
  have:k<(l.zip fl).length:=by simp;omega
  rw[<-List.getElem_zip (h:=this)]
  exact x194 this
end Go.Ix
