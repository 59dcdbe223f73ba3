import Derived.Test.YtjdlceelbnaneaaFxText0
import Derived.Test.YtjdlceelbnaneaaFxEnt
import Derived.Test.YtjdlceelbnaneaaFxRules
import Derived.Test.YtjdlceelbnaneaaFxProj
import Derived.ProofKit
set_option linter.unusedVariables false
namespace Go.Ix
open Go.Proofs
variable{c:x1h}{h:FHs}{u:Nat}
noncomputable abbrev x9x:=VX x6 97 r_0
theorem x17:x9x c h u (x43 x6) r_0 eNil=j2 (xa c h u) 0 1:=(tq (j2 (xa c h u) 0 1) (sqN 8 (sq2 (kq (j2 (xo c h u) 9 10)) (tq (j4 (xr c h u) 5 8 9 10) (sqN 1 (bk 0 (lq (xk c h u) (λr=>j5 r 5 8 9 10 11) λrec0=>(kq (j5 (xp c h u rec0) 5 8 9 10 11)))))))))
noncomputable abbrev x9y:=VX x1 15 r_1
theorem x18:x9y c h u (x43 x1) r_1 eNil=j3 (xb c h u) 0 1 2:=(kq (j3 (xb c h u) 0 1 2))
noncomputable abbrev x9z:=VX x2 39 r_2
theorem x19:x9z c h u (x43 x2) r_2 eNil=j2 (x8 c h u) 0 1:=(tq (j2 (x8 c h u) 0 1) (sqN 4 (sq2 (kq (j2 (xu c h u) 7 8)) (tq (j2 (xw c h u) 7 8) (sqN 1 (bk 1 (lq (xm c h u) (λr=>j5 r 7 8 23 24 25) λrec0=>(kq (j5 (xv c h u rec0) 7 8 23 24 25)))))))))
noncomputable abbrev xa0:=VX x4 5 r_3
theorem x1a:xa0 c h u (x43 x4) r_3 eNil=j1 (xc c h u) 0:=(kq (j1 (xc c h u) 0))
noncomputable abbrev xa1:=VX x3 15 r_1
theorem x1b:xa1 c h u (x43 x3) r_1 eNil=j3 (xd c h u) 0 1 2:=(kq (j3 (xd c h u) 0 1 2))
noncomputable abbrev xa2:=VX x5 5 r_3
theorem x1c:xa2 c h u (x43 x5) r_3 eNil=j1 (xe c h u) 0:=(kq (j1 (xe c h u) 0))
end Go.Ix
