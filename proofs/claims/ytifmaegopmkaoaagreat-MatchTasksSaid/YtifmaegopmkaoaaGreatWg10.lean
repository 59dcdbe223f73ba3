import Derived.Test.YtifmaegopmkaoaaGreatWg9
import Derived.Test.YtifmaegopmkaoaaGreatWg5
import Derived.Test.YtifmaegopmkaoaaGreatWg8
set_option linter.unusedSimpArgs false
set_option linter.unusedVariables false
namespace Go.Ix
open Go.Proofs
attribute [local simp high] rd_5
variable{a:AV}{l:List Mp}
attribute [local simp high] rd_5
variable{a:AV}{l:List Mp}
theorem xld(d:Nat)(x:Int)(m:Mem)(h1:-9223372036854775808<x)(h2:x<=9223372036854775807):xeq (xep (d+1)) xg [I x] m=some (I (x.natAbs:Int),m):=by
 refine call0 rfl (m':=⟨[],1⟩) ?_ rfl
 rw[xbt]
 unfold x8g x6n
 simp(disch:=omega) [mem0]
 split<;>omega
attribute [local simp high] rd_5
variable{a:AV}{l:List Mp}
section
variable{f:Aff}
end
end Go.Ix
