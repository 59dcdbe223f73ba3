import Derived.Test.YtpeakdjfagbpcaaGreatW7Pair
import Derived.Test.YtpeakdjfagbpcaaGreatW7Loop
set_option linter.unusedSimpArgs false
set_option linter.unusedVariables false
namespace Go.Ix
open Go.Proofs
theorem InB.get{l:List Scene}(h:InB l){k:Nat}(hk:k<l.length):(0<=l[k].day/\l[k].day<=100000)/\(-100000<=l[k].bl/\l[k].bl<=100000):=h _ (List.getElem_mem hk)
end Go.Ix
