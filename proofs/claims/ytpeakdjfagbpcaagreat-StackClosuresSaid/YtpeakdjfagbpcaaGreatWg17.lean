import Derived.Test.YtpeakdjfagbpcaaGreatWg10
import Derived.Test.YtpeakdjfagbpcaaGreatWg16
import Derived.Test.YtpeakdjfagbpcaaGreatWg0
import Derived.Test.YtpeakdjfagbpcaaGreatWg1
import Derived.Test.YtpeakdjfagbpcaaGreatWg11
import Derived.Test.YtpeakdjfagbpcaaGreatWg9
set_option linter.unusedSimpArgs false
set_option linter.unusedVariables false
namespace Go.Ix
open Go.Proofs
def Edge.same(a b:Edge):Bool:=decide (a.fr=b.fr)&&(decide (a.to=b.to)&&(decide (a.jump=b.jump)&&decide (a.wt=b.wt)))
theorem Edge.same_iff{a b:Edge}:a.same b=true↔a=b:=by
 cases a;cases b
 simp[Edge.same]
theorem Edge.still1(e:Edge):e.c.all Go.Ix.still1=true:=rfl
theorem phM{ph:List Int}(h:∀k,k<ph.length->-100000000<=at0 ph k/\at0 ph k<=100000000):∀k,k<ph.length->(at0 ph k).natAbs<=100000000:=fun k hk=>by have:=h k hk;omega
theorem len_few{l:List Scene}{P:List Pq}(h:few7 l P=true)(hR:Right7 l P):l.length<=8/\P.length<=14:=by
 have h1:=hR.ll
 have h2:=hR.pl
 unfold few7 at h
 by_cases c1:8<l.length
 .simp[c1,h1]at h
 .by_cases c2:14<P.length
  .simp[c2,h2]at h
  .omega
end Go.Ix
