import Derived.Test.YtpeakdjfagbpcaaGreatWBase
set_option linter.unusedSimpArgs false
namespace Go.Ix
open Go.Proofs
structure Edge where
 fr:Int
 to:Int
 jump:Int
 wt:Int
def Edge.c(e:Edge):List AV:=[I e.fr,I e.to,I e.jump,I e.wt]
theorem Edge.len(e:Edge):e.c.length=4:=rfl
def wi(a b c:Int):Bool:=decide (b<=a/\a<=c)
theorem wi_t{a b c:Int}(h:wi a b c=true):b<=a/\a<=c:=of_decide_eq_true h
theorem x20r(d:Nat)(a b c:Int)(m:Mem):x1ut (x1uu (d+1)) xz [I a,I b,I c] m=some (B (wi a b c),m):=by
 refine call0 rfl (m':=⟨[],1⟩) ?_ rfl
 rw[x114]
 unfold xbg xcg wi
 by_cases h:b<=a<;>by_cases h2:a<=c<;>simp[h,h2,mem0]
theorem x1xn:Tryz.prog.underlying x0=some (.slice x1v1):=by kernel_rfl
theorem z_ints:x1v9=[I 0]:=by kernel_rfl
theorem w_Size(d:Nat)(a:Int)(m:Mem)(h1:-9223372036854775808<a)(h2:a<=9223372036854775807):x1ut (x1uu (d+1)) x1q [I a] m=some (I (a.natAbs:Int),m):=by
 refine call0 rfl (m':=⟨[],1⟩) ?_ rfl
 rw[x11c]
 unfold xbo xcx
 simp(disch:=omega) [mem0,x1v8]
 split<;>omega
end Go.Ix
