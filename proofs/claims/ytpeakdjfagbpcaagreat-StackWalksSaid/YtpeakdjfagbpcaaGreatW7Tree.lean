import Derived.Test.YtpeakdjfagbpcaaGreatW7Forest
import Derived.Test.YtpeakdjfagbpcaaGreatM7Pot
set_option linter.unusedSimpArgs false
set_option linter.unusedVariables false
namespace Go.Ix
end Go.Ix
