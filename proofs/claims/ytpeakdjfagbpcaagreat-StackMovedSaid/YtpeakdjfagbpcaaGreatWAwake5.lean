import Derived.Test.YtpeakdjfagbpcaaGreatWBase
import Derived.ProofKit
namespace Go.Ix
end Go.Ix
