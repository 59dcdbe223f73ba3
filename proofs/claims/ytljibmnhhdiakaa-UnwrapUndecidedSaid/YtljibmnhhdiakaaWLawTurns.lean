import Derived.Test.YtljibmnhhdiakaaWCopy
import Derived.Test.YtljibmnhhdiakaaWAwake5
set_option linter.unusedSimpArgs false
namespace Go.Ix
open Go.Proofs
end Go.Ix
