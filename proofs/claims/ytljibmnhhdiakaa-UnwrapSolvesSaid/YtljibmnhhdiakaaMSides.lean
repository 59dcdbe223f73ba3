import Derived.Test.YtljibmnhhdiakaaWNetOf
set_option linter.unusedSimpArgs false
set_option linter.unusedVariables false
namespace Go.Ix
end Go.Ix
