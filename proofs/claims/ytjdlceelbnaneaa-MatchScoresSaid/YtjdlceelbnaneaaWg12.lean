import Derived.Test.YtjdlceelbnaneaaWg11
import Derived.Test.YtjdlceelbnaneaaWg7
set_option linter.unusedSimpArgs false
set_option linter.unusedVariables false
namespace Go.Ix
open Go.Proofs
attribute [local simp high] rd_5
variable{a:AV}{l:List Mp}
attribute [local simp high] rd_5
variable{a:AV}{l:List Mp}
theorem xh0(d:Nat)(x:Int)(m:Mem)(h1:-9223372036854775808<x)(h2:x<=9223372036854775807):x8x (x8w (d+1)) xd [I x] m=some (I (x.natAbs:Int),m):=by
 refine call0 rfl (m':=⟨[],1⟩) ?_ rfl
 rw[x63]
 unfold x2l x2c
 simp(disch:=omega) [mem0]
 split<;>omega
end Go.Ix
