import Derived.Test.YtljibmnhhdiakaaWBase2
import Derived.Test.YtljibmnhhdiakaaWCopy
set_option linter.unusedSimpArgs false
namespace Go.Ix
open Go.Proofs
end Go.Ix
