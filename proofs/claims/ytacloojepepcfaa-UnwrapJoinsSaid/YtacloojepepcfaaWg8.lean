import Derived.Test.YtacloojepepcfaaWg7
import Derived.Test.YtacloojepepcfaaWg2
import Derived.Test.YtacloojepepcfaaWg1
set_option linter.unusedSimpArgs false
set_option linter.unusedVariables false
namespace Go.Ix
open Go.Proofs
def sumN:Nat->(Nat->Int)->Int
 |0,_=>0
 |n+1,g=>sumN n g+g n
def netF(v:Nat):List (Edge×Int)->Int
 |[]=>0
 |x::r=>(if x.1.to.toNat=v then x.2 else 0)-(if x.1.fr.toNat=v then x.2 else 0)+netF v r
def Ends(n:Nat)(z:List (Edge×Int)):Prop:=∀x∈z,x.1.fr.toNat<n/\x.1.to.toNat<n
def Arc(z:List (Edge×Int))(u v:Nat)(c:Int):Prop:=∃x∈z,(x.2<x.1.wt/\u=x.1.fr.toNat/\v=x.1.to.toNat/\c=-x.1.jump)\/(-x.1.wt<x.2/\u=x.1.to.toNat/\v=x.1.fr.toNat/\c=x.1.jump)
inductive Way (z:List (Edge×Int)) (u:Nat):Nat->Int->Prop
 |nil:Way z u u 0
 |cons {v w:Nat} {c d:Int}:Way z u v c->Arc z v w d->Way z u w (c+d)
theorem Arc.lt{n:Nat}{z:List (Edge×Int)}(h:Ends n z){u v:Nat}{c:Int}(ha:Arc z u v c):u<n/\v<n:=by
 obtain⟨x,hx,⟨h1,rfl,rfl,rfl⟩|⟨h1,rfl,rfl,rfl⟩⟩:=ha
 .exact h x hx
 .exact⟨(h x hx).2,(h x hx).1⟩
theorem Way.lt{n:Nat}{z:List (Edge×Int)}(h:Ends n z){u v:Nat}{c:Int}(hu:u<n)(hw:Way z u v c):v<n:=by
 cases hw with
 |nil=>exact hu
 |cons _ ha=>exact(ha.lt h).2
end Go.Ix
