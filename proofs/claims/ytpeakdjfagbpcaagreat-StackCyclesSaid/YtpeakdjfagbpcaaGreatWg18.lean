import Derived.Test.YtpeakdjfagbpcaaGreatWg17
import Derived.Test.YtpeakdjfagbpcaaGreatWg11
import Derived.Test.YtpeakdjfagbpcaaGreatWg10
import Derived.Test.YtpeakdjfagbpcaaGreatWg16
set_option linter.unusedSimpArgs false
set_option linter.unusedVariables false
namespace Go.Ix
open Go.Proofs
theorem Edge.still1(e:Edge):e.c.all Go.Ix.still1=true:=rfl
theorem len_few{l:List Scene}{P:List Pq}(h:few7 l P=true)(hR:Right7 l P):l.length<=8/\P.length<=14:=by
 have h1:=hR.ll
 have h2:=hR.pl
 unfold few7 at h
 by_cases c1:8<l.length
 .simp[c1,h1]at h
 .by_cases c2:14<P.length
  .simp[c2,h2]at h
  .omega
def nmF(ls:List Int)(k:Nat):List Int×Int:=(List.range k).foldl (nmS ls) (List.replicate ls.length 0,0)
structure PtI (ls:List Int) (k:Nat) (E:List (Int×Int)):Prop where
 len:(nmF ls k).1.length=ls.length
 cnt:(nmF ls k).2=(E.length:Int)
 le:E.length<=k
 get:∀v:Nat,v<ls.length->lkp E v=if v<k/\at0 ls v=v then some (at0 (nmF ls k).1 v)else none
theorem PtI.nil(ls:List Int):PtI ls 0 []:=⟨by simp[nmF],by simp[nmF],by simp,fun v _=>by simp[lkp]⟩
end Go.Ix
