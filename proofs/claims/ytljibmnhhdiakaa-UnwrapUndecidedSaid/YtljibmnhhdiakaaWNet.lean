import Derived.Test.YtljibmnhhdiakaaWBase
set_option linter.unusedSimpArgs false
namespace Go.Ix
open Go.Proofs
structure Edge where
 fr:Int
 to:Int
 jump:Int
 wt:Int
def Edge.c(e:Edge):List AV:=[I e.fr,I e.to,I e.jump,I e.wt]
theorem Edge.len(e:Edge):e.c.length=4:=rfl
def wi(a b c:Int):Bool:=decide (b<=a/\a<=c)
theorem wi_t{a b c:Int}(h:wi a b c=true):b<=a/\a<=c:=of_decide_eq_true h
theorem wi_iff{a b c:Int}:wi a b c=true↔b<=a/\a<=c:=decide_eq_true_iff
theorem x1z4(d:Nat)(a b c:Int)(m:Mem):x1qq (x1qp (d+1)) x7 [I a,I b,I c] m=some (B (wi a b c),m):=by
 refine call0 rfl (m':=⟨[],1⟩) ?_ rfl
 rw[xz0]
 unfold xe2 xfr wi
 by_cases h:b<=a<;>by_cases h2:a<=c<;>simp[h,h2,mem0]
theorem x204(d:Nat)(a b c:Int)(m:Mem):x1qq (x1qp (d+1)) xo [I a,I b,I c] m=some (B (wi a b c),m):=by
 refine call0 rfl (m':=⟨[],1⟩) ?_ rfl
 rw[xzj]
 unfold xde xgo wi
 by_cases h:b<=a<;>by_cases h2:a<=c<;>simp[h,h2,mem0]
theorem x1v5:Try.prog.underlying x8=some (.slice xau):=by kernel_rfl
theorem x1r8:Try.prog.underlying x5=some (.slice x1sq):=by kernel_rfl
theorem x1t7:x6=[I 0,I 0,I 0,I 0]:=by kernel_rfl
theorem z_net:xy=[I 0,nilS]:=by kernel_rfl
theorem x1t8:x1rf=[I 0]:=by kernel_rfl
theorem w_size(d:Nat)(a:Int)(m:Mem)(h1:-9223372036854775808<a)(h2:a<=9223372036854775807):x1qq (x1qp (d+1)) x3n [I a] m=some (I (a.natAbs:Int),m):=by
 refine call0 rfl (m':=⟨[],1⟩) ?_ rfl
 rw[x101]
 unfold xdk xh5
 simp(disch:=omega) [mem0,x1rs]
 split<;>omega
theorem x280(d:Nat)(a:Int)(m:Mem):x1qq (x1qp (d+2)) x5f [I a] m=some (B (wi a 0 1000),m):=by
 refine Ans.call0 ?_ rfl rfl
 unfold Ans
 rw[xzh]
 unfold xeh xgm
 simp[mem0,x204]
theorem x1y5:xp=[I 0,nilS]:=by kernel_rfl
structure Right (n:Int) (l:List Edge):Prop where
 lo:0<=n
 hi:n<=200
 len:l.length<=600
 ed:∀e∈l,(0<=e.fr/\e.fr<=n-1)/\(0<=e.to/\e.to<=n-1)/\e.fr≠e.to/\(-1000<=e.jump/\e.jump<=1000)/\(0<=e.wt/\e.wt<=1000)
end Go.Ix
