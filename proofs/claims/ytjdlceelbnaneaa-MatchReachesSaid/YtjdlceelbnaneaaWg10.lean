import Derived.Test.YtjdlceelbnaneaaWg9
import Derived.Test.YtjdlceelbnaneaaWg5
import Derived.Test.YtjdlceelbnaneaaWg8
set_option linter.unusedSimpArgs false
set_option linter.unusedVariables false
namespace Go.Ix
open Go.Proofs
attribute [local simp high] rd_5
variable{a:AV}{l:List Mp}
attribute [local simp high] rd_5
variable{a:AV}{l:List Mp}
theorem xea(d:Nat)(x:Int)(m:Mem)(h1:-9223372036854775808<x)(h2:x<=9223372036854775807):x99 (x98 (d+1)) xc [I x] m=some (I (x.natAbs:Int),m):=by
 refine call0 rfl (m':=⟨[],1⟩) ?_ rfl
 rw[x6g]
 unfold x2u x2l
 simp(disch:=omega) [mem0]
 split<;>omega
attribute [local simp high] rd_5
variable{a:AV}{l:List Mp}
section
variable{f:Aff}
end
end Go.Ix
