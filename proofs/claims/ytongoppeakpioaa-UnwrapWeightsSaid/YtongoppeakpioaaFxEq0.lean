import Derived.Test.YtongoppeakpioaaFxText0
import Derived.Test.YtongoppeakpioaaFxEnt
import Derived.Test.YtongoppeakpioaaFxRules
import Derived.Test.YtongoppeakpioaaFxProj
import Derived.ProofKit
set_option linter.unusedVariables false
namespace Go.Ix
open Go.Proofs
variable{c:x3p}{h:FHs}{u:Nat}
noncomputable abbrev xg3:=VX xz 55 r_0
theorem x39:xg3 c h u (x54 xz) r_0 eNil=j3 (x17 c h u) 0 1 2:=(kq (j3 (x17 c h u) 0 1 2))
noncomputable abbrev xg4:=VX xn 91 r_1
theorem x3a:xg4 c h u (x54 xn) r_1 eNil=j1 (x1a c h u) 0:=(tq (j1 (x1a c h u) 0) (sqN 3 (sq2 (tq (j1 (x18 c h u) 1) (sqN 1 (sq2 (kq (j2 (x2b c h u) 1 9)) (tq (j2 (x2e c h u) 1 9) (sqN 1 (bk 3 (tq (j3 (x2d c h u) 1 9 58) (rg (.tmp 58) #[59,60] (λu=>(kq (j3 (x2c c h u) 1 9 11))) (λu=>(kq (j3 (x10 c h u) 1 9 60))))))))))) (tq (j1 (x2f c h u) 1) (sqN 1 (bk 0 (lq (xu c h u) (λr=>j4 r 1 29 30 31) λrec0=>(kq (j4 (x19 c h u rec0) 1 29 30 31)))))))))
noncomputable abbrev xg5:=VX xo 126 r_1
theorem x3b:xg5 c h u (x54 xo) r_1 eNil=j1 (x1f c h u) 0:=(tq (j1 (x1f c h u) 0) (sqN 4 (sq2 (tq (j2 (x1d c h u) 1 6) (sqN 1 (sq2 (kq (j2 (x2g c h u) 8 9)) (tq (j4 (x2l c h u) 1 6 8 9) (sqN 1 (bk 2 (lq (xl c h u) (λr=>j5 r 1 6 8 9 10) λrec0=>(tq (j5 (x1c c h u rec0) 1 6 8 9 10) (sqN 1 (sq2 (kq (j5 (x2h c h u rec0) 1 6 8 9 10)) (bk 3 (tq (j5 (x2k c h u rec0) 1 6 8 9 10) (sqN 1 (bk 4 (lq (xk c h u rec0) (λr=>j6 r 1 6 8 9 10 11) λs=>(tq (j6 (x1b c h u rec0 s) 1 6 8 9 10 11) (sqN 1 (sq2 (kq (j6 (x11 c h u rec0 s) 1 6 8 9 10 11)) (bk 5 (tq (j6 (x2j c h u rec0 s) 1 6 8 9 10 11) (sqN 1 (sq2 (kq (j7 (x12 c h u rec0 s) 1 6 8 9 10 11 12)) (kq (j7 (x2i c h u rec0 s) 1 6 8 9 10 11 12)))))))))))))))))))))))) (tq (j2 (x2m c h u) 1 6) (sqN 1 (bk 0 (lq (xv c h u) (λr=>j3 r 1 6 7) λw=>(kq (j3 (x1e c h u w) 1 6 7)))))))))
noncomputable abbrev xg6:=VX xe 26 r_2
theorem x3c:xg6 c h u (x54 xe) r_2 eNil=j2 (x1h c h u) 0 1:=(tq (j2 (x1h c h u) 0 1) (sqN 2 (sq2 (kq (j0 (x2n c h u))) (tq (j2 (x2o c h u) 0 1) (sqN 1 (bk 0 (lq (xw c h u) (λr=>j3 r 0 1 5) λrec0=>(kq (j3 (x1g c h u rec0) 0 1 5)))))))))
noncomputable abbrev xg7:=VX xf 22 r_0
theorem x3d:xg7 c h u (x54 xf) r_0 eNil=j3 (x1i c h u) 0 1 2:=(kq (j3 (x1i c h u) 0 1 2))
noncomputable abbrev xg8:=VX xg 7 r_3
theorem x3e:xg8 c h u (x54 xg) r_3 eNil=j1 (x1j c h u) 0:=(kq (j1 (x1j c h u) 0))
noncomputable abbrev xg9:=VX xh 15 r_2
theorem x3f:xg9 c h u (x54 xh) r_2 eNil=j2 (x1k c h u) 0 1:=(tq (j2 (x1k c h u) 0 1) (sqN 1 (sq2 (kq (j1 (x14 c h u) 0)) (kq (j2 (x2p c h u) 0 1)))))
noncomputable abbrev xga:=VX xp 6 r_2
theorem x3g:xga c h u (x54 xp) r_2 eNil=j2 (x1l c h u) 0 1:=(kq (j2 (x1l c h u) 0 1))
noncomputable abbrev xgb:=VX xi 20 r_0
theorem x3h:xgb c h u (x54 xi) r_0 eNil=j3 (x1m c h u) 0 1 2:=(kq (j3 (x1m c h u) 0 1 2))
noncomputable abbrev xgc:=VX xq 24 r_3
theorem x3i:xgc c h u (x54 xq) r_3 eNil=j1 (x1n c h u) 0:=(kq (j1 (x1n c h u) 0))
noncomputable abbrev xgd:=VX xd 15 r_0
theorem x38:xgd c h u (x54 xd) r_0 eNil=j3 (x1o c h u) 0 1 2:=(kq (j3 (x1o c h u) 0 1 2))
noncomputable abbrev xge:=VX xr 7 r_3
theorem x3j:xge c h u (x54 xr) r_3 eNil=j1 (x1p c h u) 0:=(kq (j1 (x1p c h u) 0))
noncomputable abbrev xgf:=VX xb 55 r_4
theorem x3k:xgf c h u (x54 xb) r_4 eNil=j3 (x1u c h u) 0 1 2:=(tq (j3 (x1u c h u) 0 1 2) (sqN 2 (bk 0 (lq (xa c h u) (λr=>j6 r 0 1 2 4 9 10) λrec0=>(tq (j6 (xy c h u rec0) 0 1 2 4 9 10) (sqN 2 (sq2 (kq (j6 (x1q c h u rec0) 0 1 2 4 9 10)) (bk 1 (tq (j6 (x1s c h u rec0) 0 1 2 4 9 10) (sqN 2 (bk 2 (lq (x9 c h u rec0) (λr=>j10 r 0 1 2 4 5 6 9 10 16 17) λs=>(tq (j10 (xx c h u rec0 s) 0 1 2 4 5 6 9 10 16 17) (sqN 2 (sq2 (kq (j10 (xm c h u rec0 s) 0 1 2 4 5 6 9 10 16 17)) (kq (j10 (x1r c h u rec0 s) 0 1 2 4 5 6 9 10 16 17)))))))))))))))))
noncomputable abbrev xgg:=VX xj 15 r_0
theorem x3l:xgg c h u (x54 xj) r_0 eNil=j3 (x1v c h u) 0 1 2:=(kq (j3 (x1v c h u) 0 1 2))
end Go.Ix
