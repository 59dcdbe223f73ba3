import Derived.Test.YtpeakdjfagbpcaaGreatW7Tree
set_option linter.unusedSimpArgs false
set_option linter.unusedVariables false
namespace Go.Ix
open Go.Proofs
theorem z_graph:x2b=[nilS,nilS]:=by kernel_rfl
end Go.Ix
