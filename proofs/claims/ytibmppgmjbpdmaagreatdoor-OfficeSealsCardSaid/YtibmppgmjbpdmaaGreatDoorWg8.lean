import Derived.Test.YtibmppgmjbpdmaaGreatDoorWg2
import Derived.Test.YtibmppgmjbpdmaaGreatDoorWg4
import Derived.Test.YtibmppgmjbpdmaaGreatDoorWg7
set_option linter.unusedSimpArgs false
namespace Go.Ix
open Go.Proofs
theorem Edge.still(e:Edge):e.c.all still1=true:=rfl
def fewE:List Edge->Bool
 |[]=>true
 |e::r=>bif decide (20<e.wt)||decide (5<(e.jump.natAbs:Int))then false else fewE r
def few(n:Int)(l:List Edge):Bool:=
 bif !decide ((checkNet n l).2=0)then decide ((l.length:Int)<=16)||(decide (600<(l.length:Int))&&decide ((l.length:Int)<=602))
 else bif decide (10<n)||decide (16<(l.length:Int))then false else fewE l
end Go.Ix
set_option linter.unusedVariables false
namespace Go.Ix
def sumN:Nat->(Nat->Int)->Int
 |0,_=>0
 |n+1,g=>sumN n g+g n
def netF(v:Nat):List (Edge×Int)->Int
 |[]=>0
 |x::r=>(if x.1.to.toNat=v then x.2 else 0)-(if x.1.fr.toNat=v then x.2 else 0)+netF v r
def Ends(n:Nat)(z:List (Edge×Int)):Prop:=∀x∈z,x.1.fr.toNat<n/\x.1.to.toNat<n
def Arc(z:List (Edge×Int))(u v:Nat)(c:Int):Prop:=∃x∈z,(x.2<x.1.wt/\u=x.1.fr.toNat/\v=x.1.to.toNat/\c=-x.1.jump)\/(-x.1.wt<x.2/\u=x.1.to.toNat/\v=x.1.fr.toNat/\c=x.1.jump)
inductive Way (z:List (Edge×Int)) (u:Nat):Nat->Int->Prop
 |nil:Way z u u 0
 |cons {v w:Nat} {c d:Int}:Way z u v c->Arc z v w d->Way z u w (c+d)
theorem Arc.lt{n:Nat}{z:List (Edge×Int)}(h:Ends n z){u v:Nat}{c:Int}(ha:Arc z u v c):u<n/\v<n:=by
 obtain⟨x,hx,⟨h1,rfl,rfl,rfl⟩|⟨h1,rfl,rfl,rfl⟩⟩:=ha
 .exact h x hx
 .exact⟨(h x hx).2,(h x hx).1⟩
theorem Way.lt{n:Nat}{z:List (Edge×Int)}(h:Ends n z){u v:Nat}{c:Int}(hu:u<n)(hw:Way z u v c):v<n:=by
 cases hw with
 |nil=>exact hu
 |cons _ ha=>exact(ha.lt h).2
end Go.Ix
