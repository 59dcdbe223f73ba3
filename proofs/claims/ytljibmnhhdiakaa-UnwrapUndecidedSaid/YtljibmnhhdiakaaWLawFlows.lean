import Derived.Test.YtljibmnhhdiakaaWFlow
import Derived.Test.YtljibmnhhdiakaaWLawTurns
set_option linter.unusedSimpArgs false
namespace Go.Ix
open Go.Proofs
end Go.Ix
