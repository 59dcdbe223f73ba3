import Derived.Test.YtongoppeakpioaaWg8
import Derived.Test.YtongoppeakpioaaWg7
set_option linter.unusedSimpArgs false
set_option linter.unusedVariables false
namespace Go.Ix
open Go.Proofs
theorem Edge.still1(e:Edge):e.c.all Go.Ix.still1=true:=rfl
end Go.Ix
