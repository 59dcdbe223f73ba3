import Derived.Test.YtpeakdjfagbpcaaGreatW7Forest2
set_option linter.unusedSimpArgs false
set_option linter.unusedVariables false
namespace Go.Ix
open Go.Proofs
end Go.Ix
