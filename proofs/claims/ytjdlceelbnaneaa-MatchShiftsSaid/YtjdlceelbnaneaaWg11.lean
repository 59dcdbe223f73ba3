import Derived.Test.YtjdlceelbnaneaaWg10
import Derived.Test.YtjdlceelbnaneaaWg9
set_option linter.unusedSimpArgs false
set_option linter.unusedVariables false
namespace Go.Ix
open Go.Proofs
theorem x51:x8=[I 0,I 0]:=by kernel_rfl
theorem Edge.still1(e:Edge):e.c.all Go.Ix.still1=true:=rfl
end Go.Ix
