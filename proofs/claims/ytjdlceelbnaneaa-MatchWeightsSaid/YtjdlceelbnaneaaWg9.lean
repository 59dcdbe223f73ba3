import Derived.Test.YtjdlceelbnaneaaWg7
import Derived.Test.YtjdlceelbnaneaaWg8
import Derived.Test.YtjdlceelbnaneaaWg2
set_option linter.unusedSimpArgs false
set_option linter.unusedVariables false
namespace Go.Ix
open Go.Proofs
theorem x8k(d:Nat)(a b c:Int)(m:Mem):x1t (x1v (d+1)) x3 [I a,I b,I c] m=some (B (wi a b c),m):=by
 refine call0 rfl (m':=⟨[],1⟩) ?_ rfl
 rw[x10]
 unfold xi xd wi
 by_cases h:b<=a<;>by_cases h2:a<=c<;>simp[h,h2,mem0]
theorem map_of{X:O2}(h:X.map (λp=>p.1)=some (B true)):∃m',X=some (B true,m'):=by
 rw[xa7]at h
 obtain⟨⟨r,m'⟩,h1,rfl⟩:=h
 exact⟨m',h1⟩
abbrev F32(n:Nat):AV:=.sc (.float .f32 n)
theorem x8l(d:Nat)(k:Int)(m:Mem):x1t (x1v (d+2)) x5 [I k] m=some (B (wi k 0 2),m):=by
 refine callV rfl ?_ m
 rw[x11]
 unfold xj xe
 simp[mem0,x8k]
 exact RetF.st rfl rfl
theorem x8m(d:Nat)(k:Int)(m:Mem):x1t (x1v (d+2)) x4 [I k] m=some (B (wi k 0 2),m):=by
 refine callV rfl ?_ m
 rw[xz]
 unfold xh xc
 simp[mem0,x8j]
 exact RetF.st rfl rfl
theorem x9v(d:Nat){k p:Int}(h:wi k 0 2=false)(m:Mem):x1t (x1v (d+3)) x2 [I k,I p] m=some (.tup [nilS,F32 0,I 15],m):=by
 refine callV rfl ?_ m
 rw[xn]
 unfold x9 x8
 simp[mem0,x8l,h]
 exact RetF.tup rfl rfl
theorem x9w(d:Nat){k p:Int}(h:wi k 0 2=true)(hp:wi p 0 15=false)(m:Mem):x1t (x1v (d+3)) x2 [I k,I p] m=some (.tup [nilS,F32 0,I 2],m):=by
 refine callV rfl ?_ m
 rw[xn]
 unfold x9 x8
 simp[mem0,x8l,x8k,h,hp]
 exact RetF.tup rfl rfl
theorem eq_f0(X Y:Operand):sBin Try.prog .eql x0 X Y (F32 0) (F32 0)=some (B true):=by
 have h:∀X Y:Operand,x1f Try.prog (eqGuard .eql x0 X Y (.float .f32 0) (.float .f32 0))=some ():=λX Y=>by
  simp[eqGuard,pr_bind,x9t,pr_pure]
  all_goals kernel_rfl
 show(x1f Try.prog (do eqGuard .eql x0 X Y (.float .f32 0) (.float .f32 0);binOp .eql x0 (.float .f32 0) (.float .f32 0))).map x1l=_
 rw[pr_bind,h]
 kernel_rfl
theorem len_f0:sLen Try.prog x7 nilS=some (I 0):=by kernel_rfl
theorem law_MatchWeights(k p:Int):∃m',x1v 31 [] x6 [I k,I p] mem0=some (B true,m'):=by
 rw[xx]
 unfold xf xa
 rw[w_awake3]
 cases c:wi k 0 2
 .simp[x9v 27 c,x8m,c,eq_f0,len_f0]
 cases c2:wi p 0 15
 .simp[x9w 27 c c2,x8m,x8j,c,c2,eq_f0,len_f0]
 have h1:=wi_t c
 have h2:=wi_t c2
 have hk:k=0\/k=1\/k=2:=by omega
 have hp:p=0\/p=1\/p=2\/p=3\/p=4\/p=5\/p=6\/p=7\/p=8\/p=9\/p=10\/p=11\/p=12\/p=13\/p=14\/p=15:=by omega
 clear c c2 h1 h2
 refine map_of ?_
 rcases hk with rfl|rfl|rfl<;>rcases hp with rfl|rfl|rfl|rfl|rfl|rfl|rfl|rfl|rfl|rfl|rfl|rfl|rfl|rfl|rfl|rfl<;>kernel_rfl
end Go.Ix
