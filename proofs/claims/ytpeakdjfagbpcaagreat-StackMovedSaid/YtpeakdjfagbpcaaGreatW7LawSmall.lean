import Derived.Test.YtpeakdjfagbpcaaGreatW7Small
import Derived.Test.YtpeakdjfagbpcaaGreatWAwake7
set_option linter.unusedSimpArgs false
set_option linter.unusedVariables false
namespace Go.Ix
open Go.Proofs
def x224(l:List Scene):Bool:=l.all fun s=>decide (s.nm.size<=20)
theorem Scene.stillA(s:Scene):s.c.all still1=true:=rfl
end Go.Ix
