import Derived.Test.YtljibmnhhdiakaaWBase
set_option linter.unusedSimpArgs false
namespace Go.Ix
open Go.Proofs
structure Edge where
 fr:Int
 to:Int
 jump:Int
 wt:Int
def Edge.c (e:Edge):List AV:=[I e.fr,I e.to,I e.jump,I e.wt]
theorem Edge.len (e:Edge):e.c.length=4:=rfl
def wi (a b c:Int):Bool:=decide (b≤a∧a≤c)
theorem wi_t {a b c:Int} (h:wi a b c=true):b≤a∧a≤c:=of_decide_eq_true h
theorem wi_iff {a b c:Int}:wi a b c=true↔b≤a∧a≤c:=decide_eq_true_iff
theorem x1up (d:Nat) (a b c:Int) (m:Mem):x1pb (x1pa (d+1)) xb [I a,I b,I c] m=some (B (wi a b c),m):=by
 refine call0 rfl (m':=⟨[],1⟩) ?_ rfl
 rw [xxw]
 unfold x8q xh8 wi
 by_cases h:b≤a<;>by_cases h2:a≤c<;>simp [h,h2,mem0]
theorem x1x9 (d:Nat) (a b c:Int) (m:Mem):x1pb (x1pa (d+1)) xe [I a,I b,I c] m=some (B (wi a b c),m):=by
 refine call0 rfl (m':=⟨[],1⟩) ?_ rfl
 rw [xyh]
 unfold x84 xi0 wi
 by_cases h:b≤a<;>by_cases h2:a≤c<;>simp [h,h2,mem0]
theorem x1s5:Try.prog.underlying x7=some (.slice xc9):=by kernel_rfl
theorem x1pi:Try.prog.underlying x5=some (.slice x1ri):=by kernel_rfl
theorem x1r7:x6=[I 0,I 0,I 0,I 0]:=by kernel_rfl
theorem z_net:xo=[I 0,nilS]:=by kernel_rfl
theorem x1r9:x1q0=[I 0]:=by kernel_rfl
theorem w_Size (d:Nat) (a:Int) (m:Mem) (h1:-9223372036854775808 < a) (h2:a≤9223372036854775807):x1pb (x1pa (d+1)) x2d [I a] m=some (I (a.natAbs:Int),m):=by
 refine call0 rfl (m':=⟨[],1⟩) ?_ rfl
 rw [xy3]
 unfold x93 xhk
 simp (disch:=omega) [mem0,x1qc]
 split<;>omega
theorem w_size (d:Nat) (a:Int) (m:Mem) (h1:-9223372036854775808 < a) (h2:a≤9223372036854775807):x1pb (x1pa (d+1)) x2x [I a] m=some (I (a.natAbs:Int),m):=by
 refine call0 rfl (m':=⟨[],1⟩) ?_ rfl
 rw [xyv]
 unfold x8c xij
 simp (disch:=omega) [mem0,x1qc]
 split<;>omega
theorem x25r (d:Nat) (a:Int) (m:Mem):x1pb (x1pa (d+2)) x4m [I a] m=some (B (wi a 0 1000),m):=by
 refine Ans.call0 ?_ rfl rfl
 unfold Ans
 rw [xyf]
 unfold x9f xhy
 simp [mem0,x1x9]
theorem z_pnet:x16=[I 0,nilS]:=by kernel_rfl
structure Right (n:Int) (l:List Edge):Prop where
 lo:0≤n
 hi:n≤200
 len:l.length≤600
 ed:∀ e∈l,(0≤e.fr∧e.fr≤n - 1)∧(0≤e.to∧e.to≤n - 1)∧e.fr≠e.to∧(-1000≤e.jump∧e.jump≤1000)∧(0≤e.wt∧e.wt≤1000)
end Go.Ix
