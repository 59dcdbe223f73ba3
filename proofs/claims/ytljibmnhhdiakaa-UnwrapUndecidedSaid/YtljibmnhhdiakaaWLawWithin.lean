import Derived.Test.YtljibmnhhdiakaaWgC
import Derived.Test.YtljibmnhhdiakaaWLawNoLess
set_option linter.unusedSimpArgs false
set_option linter.unusedVariables false
namespace Go.Ix
open Go.Proofs
end Go.Ix
