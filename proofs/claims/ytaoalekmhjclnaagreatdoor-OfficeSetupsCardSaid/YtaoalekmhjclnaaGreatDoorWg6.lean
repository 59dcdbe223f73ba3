import Derived.Test.YtaoalekmhjclnaaGreatDoorWg5
import Derived.Test.YtaoalekmhjclnaaGreatDoorWg0
import Derived.ProofKit
import Derived.Test.YtaoalekmhjclnaaGreatDoorWg1
import Derived.Test.YtaoalekmhjclnaaGreatDoorWg4
set_option linter.unusedSimpArgs false
namespace Go.Ix
open Go.Proofs
theorem at0_app{l:List Int}{x:Int}{k:Nat}:at0 (l++[x]) k=if k<l.length then at0 l k else if k=l.length then x else 0:=by
 unfold at0
 simp only[x1tq]
 by_cases h:k<l.length
 .rw[x1sc h,x1um h]
 .rw[x1sd h,x1un (by omega)]
  by_cases h2:k=l.length
  .rw[x1sc h2,h2];simp
  .rw[x1sd h2,x1w3 (by simp;omega)];rfl
def OutIn(k:Int)(out:List Int):Prop:=∀i,-(2048*k)<=at0 out i/\at0 out i<=2048*k
theorem OutIn.app{k:Nat}{out:List Int}(h:OutIn k out){x:Int}(h1:-(2048*((k+1:Nat):Int))<=x)(h2:x<=2048*((k+1:Nat):Int)):OutIn ((k+1:Nat):Int) (out++[x]):=by
 intro i
 rw[at0_app]
 have:=h i
 split
 .omega
 .split<;>omega
end Go.Ix
set_option linter.unusedVariables false
namespace Go.Ix
open Go.Proofs
def Edge.same(a b:Edge):Bool:=decide (a.fr=b.fr)&&(decide (a.to=b.to)&&(decide (a.jump=b.jump)&&decide (a.wt=b.wt)))
end Go.Ix
