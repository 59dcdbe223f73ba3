import Derived.Test.YtpeakdjfagbpcaaGreatW7Forest
import Derived.Test.YtpeakdjfagbpcaaGreatM7Pot
set_option linter.unusedSimpArgs false
set_option linter.unusedVariables false
namespace Go.Ix
theorem x21s(l:List Scene)(P:List Pq):∀(F:List Int) (s:Int),sumL l P s F=s+(F.map fun i=>lenP l (prAt P i)).sum
 |[],s=>by simp[sumL]
 |i::r,s=>by
  rw[sumL,x21s l P r,List.map_cons,List.sum_cons]
  omega
end Go.Ix
