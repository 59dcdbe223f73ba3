import Derived.Test.YtpeakdjfagbpcaaGreatW7Tree
set_option linter.unusedSimpArgs false
set_option linter.unusedVariables false
namespace Go.Ix
open Go.Proofs
end Go.Ix
