import Derived.Test.YtpeakdjfagbpcaaGreatWBase
set_option linter.unusedSimpArgs false
namespace Go.Ix
open Go.Proofs
structure Edge where
 fr:Int
 to:Int
 jump:Int
 wt:Int
def Edge.c(e:Edge):List AV:=[I e.fr,I e.to,I e.jump,I e.wt]
theorem Edge.len(e:Edge):e.c.length=4:=rfl
def wi(a b c:Int):Bool:=decide (b<=a/\a<=c)
theorem wi_t{a b c:Int}(h:wi a b c=true):b<=a/\a<=c:=of_decide_eq_true h
theorem x232(d:Nat)(a b c:Int)(m:Mem):x1xt (x1xv (d+1)) xy [I a,I b,I c] m=some (B (wi a b c),m):=by
 refine call0 rfl (m':=⟨[],1⟩) ?_ rfl
 rw[x12v]
 unfold xbr xcm wi
 by_cases h:b<=a<;>by_cases h2:a<=c<;>simp[h,h2,mem0]
theorem x1z4:Tryz.prog.underlying x0=some (.slice x1y2):=by kernel_rfl
theorem x24i:x1y7=[I 0]:=by kernel_rfl
end Go.Ix
