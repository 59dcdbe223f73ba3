import Derived.Test.YtljibmnhhdiakaaWCopy
import Derived.Test.YtljibmnhhdiakaaWMut
set_option linter.unusedSimpArgs false
namespace Go.Ix
open Go.Proofs
theorem mul_in{a b:Int}{x y:Nat}(h1:a.natAbs<=x)(h2:b.natAbs<=y):-((x*y:Nat):Int)<=a*b/\a*b<=((x*y:Nat):Int):=by
 have:=Nat.mul_le_mul h1 h2
 rw[<-Int.natAbs_mul]at this
 omega
theorem inEdge{n:Int}{l:List Edge}(hr:Right n l):∀e∈l,EdgeIn n.toNat e/\e.fr≠e.to:=by
 intro e he
 have:=hr.lo
 obtain⟨⟨a,b⟩,⟨c,d⟩,hne,⟨j0,j1⟩,w0,w1⟩:=hr.ed e he
 exact⟨⟨a,by omega,c,by omega,j0,j1,w0,w1⟩,hne⟩
end Go.Ix
