import Derived.Test.YtljibmnhhdiakaaWConcat
import Derived.Test.YtljibmnhhdiakaaWAlong
import Derived.Test.YtljibmnhhdiakaaWEq
set_option linter.unusedSimpArgs false
set_option linter.unusedVariables false
namespace Go.Ix
open Go.Proofs
end Go.Ix
set_option linter.unusedSimpArgs false
set_option linter.unusedVariables false
namespace Go.Ix
open Go.Proofs
end Go.Ix
set_option linter.unusedSimpArgs false
set_option linter.unusedVariables false
namespace Go.Ix
end Go.Ix
set_option linter.unusedSimpArgs false
set_option linter.unusedVariables false
namespace Go.Ix
open Go.Proofs
end Go.Ix
set_option linter.unusedSimpArgs false
set_option linter.unusedVariables false
namespace Go.Ix
open Go.Proofs
theorem Edge.still1 (e:Edge):e.c.all Go.Ix.still1=true:=rfl
end Go.Ix
