import Derived.Test.YtpeakdjfagbpcaaGreatWBase2
import Derived.Test.YtpeakdjfagbpcaaGreatWCopy
set_option linter.unusedSimpArgs false
namespace Go.Ix
open Go.Proofs
end Go.Ix
