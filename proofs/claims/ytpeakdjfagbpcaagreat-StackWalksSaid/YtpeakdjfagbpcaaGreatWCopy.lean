import Derived.Test.YtpeakdjfagbpcaaGreatWTurns
set_option linter.unusedSimpArgs false
namespace Go.Ix
open Go.Proofs
theorem Edge.still(e:Edge):e.c.all still1=true:=rfl
end Go.Ix
