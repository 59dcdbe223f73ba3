import Derived.Test.YtjdlceelbnaneaaFxText0
import Derived.Test.YtjdlceelbnaneaaFxEnt
import Derived.Test.YtjdlceelbnaneaaFxRules
import Derived.Test.YtjdlceelbnaneaaFxProj
import Derived.ProofKit
set_option linter.unusedVariables false
namespace Go.Ix
open Go.Proofs
variable{c:x2i}{h:FHs}{u:Nat}
noncomputable abbrev xbf:=VX xk 57 r_0
theorem x23:xbf c h u (x3t xk) r_0 eNil=j3 (xn c h u) 0 1 2:=(tq (j3 (xn c h u) 0 1 2) (sqN 5 (sq2 (kq (j6 (xe c h u) 1 2 3 7 8 9)) (kq (j6 (x1e c h u) 1 2 3 7 8 9)))))
noncomputable abbrev xbg:=VX x9 15 r_0
theorem x24:xbg c h u (x3t x9) r_0 eNil=j3 (xo c h u) 0 1 2:=(kq (j3 (xo c h u) 0 1 2))
noncomputable abbrev xbh:=VX xf 26 r_1
theorem x25:xbh c h u (x3t xf) r_1 eNil=j1 (xq c h u) 0:=(tq (j1 (xq c h u) 0) (sqN 2 (sq2 (kq (j0 (x1g c h u))) (tq (j1 (x1i c h u) 1) (sqN 1 (bk 0 (lq (xp c h u) (λr=>j2 r 1 3) λrec0=>(kq (j2 (x1h c h u rec0) 1 3)))))))))
noncomputable abbrev xbi:=VX xb 16 r_2
theorem x26:xbi c h u (x3t xb) r_2 eNil=j2 (xr c h u) 0 1:=(tq (j2 (xr c h u) 0 1) (sqN 2 (sq2 (kq (j1 (xl c h u) 5)) (kq (j3 (x1j c h u) 0 1 5)))))
noncomputable abbrev xbj:=VX xg 29 r_3
theorem x27:xbj c h u (x3t xg) r_3 eNil=j3 (xt c h u) 0 1 2:=(kq (j3 (xt c h u) 0 1 2))
noncomputable abbrev xbk:=VX xc 23 r_1
theorem x28:xbk c h u (x3t xc) r_1 eNil=j1 (xv c h u) 0:=(tq (j1 (xv c h u) 0) (sqN 2 (sq2 (kq (j0 (x1l c h u))) (tq (j1 (x1n c h u) 1) (sqN 1 (bk 0 (lq (xu c h u) (λr=>j3 r 13 14 15) λrec0=>(kq (j3 (x1m c h u rec0) 13 14 15)))))))))
noncomputable abbrev xbl:=VX xh 34 r_4
theorem x29:xbl c h u (x3t xh) r_4 eNil=j3 (xw c h u) 0 1 2:=(kq (j3 (xw c h u) 0 1 2))
noncomputable abbrev xbm:=VX xa 15 r_0
theorem x2a:xbm c h u (x3t xa) r_0 eNil=j3 (xy c h u) 0 1 2:=(kq (j3 (xy c h u) 0 1 2))
noncomputable abbrev xbn:=VX xi 27 r_4
theorem x2b:xbn c h u (x3t xi) r_4 eNil=j3 (xz c h u) 0 1 2:=(kq (j3 (xz c h u) 0 1 2))
noncomputable abbrev xbo:=VX xj 16 r_2
theorem x2c:xbo c h u (x3t xj) r_2 eNil=j2 (x10 c h u) 0 1:=(tq (j2 (x10 c h u) 0 1) (sqN 2 (sq2 (kq (j1 (xm c h u) 5)) (kq (j3 (x1p c h u) 0 1 5)))))
noncomputable abbrev xbp:=VX xd 12 r_2
theorem x2d:xbp c h u (x3t xd) r_2 eNil=j2 (x11 c h u) 0 1:=(kq (j2 (x11 c h u) 0 1))
end Go.Ix
