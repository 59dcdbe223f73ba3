import Derived.Test.YtjdlceelbnaneaaFxText0
import Derived.Test.YtjdlceelbnaneaaFxEnt
import Derived.Test.YtjdlceelbnaneaaFxRules
import Derived.Test.YtjdlceelbnaneaaFxProj
import Derived.ProofKit
set_option linter.unusedVariables false
namespace Go.Ix
open Go.Proofs
variable{c:x6f}{h:FHs}{u:Nat}
noncomputable abbrev xhe:=VX x1f 116 r_0
theorem x5m:xhe c h u (x6y x1f) r_0 eNil=j2 (x1q c h u) 0 1:=(kq (j2 (x1q c h u) 0 1))
noncomputable abbrev xhf:=VX x8 15 r_1
theorem x5n:xhf c h u (x6y x8) r_1 eNil=j3 (x1r c h u) 0 1 2:=(kq (j3 (x1r c h u) 0 1 2))
noncomputable abbrev xhg:=VX xh 7 r_2
theorem x5o:xhg c h u (x6y xh) r_2 eNil=j1 (x1s c h u) 0:=(kq (j1 (x1s c h u) 0))
noncomputable abbrev xhh:=VX xe 6 r_2
theorem x5p:xhh c h u (x6y xe) r_2 eNil=j1 (x1h c h u) 0:=(kq (j1 (x1h c h u) 0))
noncomputable abbrev xhi:=VX xu 16 r_2
theorem x5q:xhi c h u (x6y xu) r_2 eNil=j1 (x1t c h u) 0:=(kq (j1 (x1t c h u) 0))
noncomputable abbrev xhj:=VX xi 24 r_3
theorem x5r:xhj c h u (x6y xi) r_3 eNil=j1 (x1v c h u) 0:=(tq (j1 (x1v c h u) 0) (sqN 2 (sq2 (kq (j0 (x3m c h u))) (tq (j1 (x3n c h u) 0) (sqN 1 (bk 0 (lq (x17 c h u) (λr=>j3 r 10 11 12) λrec0=>(kq (j3 (x1u c h u rec0) 10 11 12)))))))))
noncomputable abbrev xhk:=VX xv 23 r_4
theorem x5s:xhk c h u (x6y xv) r_4 eNil=j1 (x1w c h u) 0:=(kq (j1 (x1w c h u) 0))
noncomputable abbrev xhl:=VX xw 24 r_5
theorem x5t:xhl c h u (x6y xw) r_5 eNil=j2 (x18 c h u) 0 1:=(kq (j2 (x18 c h u) 0 1))
noncomputable abbrev xhm:=VX xx 24 r_3
theorem x5u:xhm c h u (x6y xx) r_3 eNil=j1 (x1y c h u) 0:=(tq (j1 (x1y c h u) 0) (sqN 2 (sq2 (kq (j0 (x3o c h u))) (tq (j1 (x3p c h u) 0) (sqN 1 (bk 0 (lq (x19 c h u) (λr=>j2 r 0 4) λrec0=>(kq (j2 (x1x c h u rec0) 0 4)))))))))
noncomputable abbrev xhn:=VX xj 42 r_6
theorem x5v:xhn c h u (x6y xj) r_6 eNil=j1 (x26 c h u) 0:=(tq (j1 (x26 c h u) 0) (sqN 2 (sq2 (kq (j2 (x3q c h u) 2 3)) (tq (j3 (x3u c h u) 0 2 3) (sqN 1 (bk 0 (lq (xd c h u) (λr=>j4 r 0 2 3 4) λrec0=>(tq (j4 (x25 c h u rec0) 0 2 3 4) (sqN 1 (sq2 (kq (j4 (x1z c h u rec0) 0 2 3 4)) (bk 1 (tq (j4 (x3t c h u rec0) 0 2 3 4) (sqN 1 (bk 2 (lq (xc c h u rec0) (λr=>j5 r 0 2 3 4 5) λs=>(tq (j5 (x24 c h u rec0 s) 0 2 3 4 5) (sqN 1 (sq2 (kq (j5 (x3r c h u rec0 s) 0 2 3 4 5)) (bk 3 (tq (j5 (x23 c h u rec0 s) 0 2 3 4 5) (sqN 1 (sq2 (kq (j6 (x1j c h u rec0 s) 0 2 3 4 5 6)) (tq (j6 (x22 c h u rec0 s) 0 2 3 4 5 6) (sqN 1 (bk 4 (lq (x1a c h u rec0 s) (λr=>j7 r 0 2 3 4 5 6 7) λw=>(tq (j7 (x21 c h u rec0 s w) 0 2 3 4 5 6 7) (sqN 1 (sq2 (kq (j7 (x20 c h u rec0 s w) 0 2 3 4 5 6 7)) (kq (j7 (x3s c h u rec0 s w) 0 2 3 4 5 6 7)))))))))))))))))))))))))))))))
noncomputable abbrev xho:=VX xy 26 r_0
theorem x5w:xho c h u (x6y xy) r_0 eNil=j2 (x28 c h u) 0 1:=(tq (j2 (x28 c h u) 0 1) (sqN 2 (sq2 (kq (j0 (x3v c h u))) (tq (j2 (x3w c h u) 0 1) (sqN 1 (bk 0 (lq (x1b c h u) (λr=>j3 r 0 1 5) λrec0=>(kq (j3 (x27 c h u rec0) 0 1 5)))))))))
noncomputable abbrev xhp:=VX xz 50 r_0
theorem x5x:xhp c h u (x6y xz) r_0 eNil=j2 (x1k c h u) 0 1:=(tq (j2 (x1k c h u) 0 1) (sqN 4 (sq2 (kq (j1 (x3x c h u) 6)) (tq (j4 (x3z c h u) 0 1 5 6) (sqN 1 (bk 0 (lq (x1c c h u) (λr=>j5 r 0 1 5 6 7) λrec0=>(tq (j5 (x2a c h u rec0) 0 1 5 6 7) (sqN 1 (sq2 (kq (j5 (x29 c h u rec0) 0 1 5 6 7)) (kq (j5 (x3y c h u rec0) 0 1 5 6 7))))))))))))
noncomputable abbrev xhq:=VX xa 15 r_1
theorem x5y:xhq c h u (x6y xa) r_1 eNil=j3 (x2b c h u) 0 1 2:=(kq (j3 (x2b c h u) 0 1 2))
noncomputable abbrev xhr:=VX xk 13 r_3
theorem x5z:xhr c h u (x6y xk) r_3 eNil=j1 (x2c c h u) 0:=(kq (j1 (x2c c h u) 0))
noncomputable abbrev xhs:=VX xl 7 r_2
theorem x60:xhs c h u (x6y xl) r_2 eNil=j1 (x2d c h u) 0:=(kq (j1 (x2d c h u) 0))
noncomputable abbrev xht:=VX x10 36 r_2
theorem x61:xht c h u (x6y x10) r_2 eNil=j1 (x2e c h u) 0:=(kq (j1 (x2e c h u) 0))
noncomputable abbrev xhu:=VX xm 38 r_6
theorem x62:xhu c h u (x6y xm) r_6 eNil=j1 (x2h c h u) 0:=(tq (j1 (x2h c h u) 0) (sqN 2 (sq2 (kq (j2 (x40 c h u) 2 3)) (tq (j3 (x44 c h u) 0 2 3) (sqN 1 (bk 0 (lq (x9 c h u) (λr=>j4 r 0 2 3 8) λrec0=>(tq (j4 (x2g c h u rec0) 0 2 3 8) (sqN 2 (sq2 (kq (j4 (x41 c h u rec0) 0 2 3 8)) (bk 1 (tq (j4 (x43 c h u rec0) 0 2 3 8) (sqN 2 (sq2 (kq (j6 (x1l c h u rec0) 0 2 3 4 5 8)) (tq (j6 (x42 c h u rec0) 0 2 3 4 5 8) (sqN 1 (bk 2 (lq (xq c h u rec0) (λr=>j9 r 0 2 3 4 5 8 11 12 13) λs=>(kq (j9 (x2f c h u rec0 s) 0 2 3 4 5 8 11 12 13))))))))))))))))))))
noncomputable abbrev xhv:=VX x11 44 r_0
theorem x63:xhv c h u (x6y x11) r_0 eNil=j2 (x2k c h u) 0 1:=(tq (j2 (x2k c h u) 0 1) (sqN 2 (sq2 (kq (j1 (x45 c h u) 5)) (tq (j3 (x47 c h u) 0 1 5) (sqN 1 (bk 0 (lq (x1d c h u) (λr=>j6 r 0 1 5 9 10 11) λrec0=>(tq (j6 (x2j c h u rec0) 0 1 5 9 10 11) (sqN 2 (sq2 (kq (j6 (x2i c h u rec0) 0 1 5 9 10 11)) (kq (j6 (x46 c h u rec0) 0 1 5 9 10 11))))))))))))
noncomputable abbrev xhw:=VX x12 33 r_2
theorem x64:xhw c h u (x6y x12) r_2 eNil=j1 (x2l c h u) 0:=(kq (j1 (x2l c h u) 0))
noncomputable abbrev xhx:=VX xf 5 r_2
theorem x65:xhx c h u (x6y xf) r_2 eNil=j1 (x2m c h u) 0:=(kq (j1 (x2m c h u) 0))
noncomputable abbrev xhy:=VX x13 11 r_7
theorem x66:xhy c h u (x6y x13) r_7 eNil=j1 (x2n c h u) 0:=(kq (j1 (x2n c h u) 0))
noncomputable abbrev xhz:=VX xn 134 r_7
theorem x67:xhz c h u (x6y xn) r_7 eNil=j4 (x2p c h u) 0 1 2 3:=(tq (j4 (x2p c h u) 0 1 2 3) (sqN 2 (bk 0 (lq (x2o c h u) (λr=>j6 r 0 1 2 3 8 9) λrec0=>(bk 1 (tq (j6 (x4c c h u rec0) 0 1 2 3 8 9) (sqN 3 (sq2 (tq (j7 (x4b c h u rec0) 0 1 2 3 8 9 10) (sqN 1 (sq2 (sq2 (kq (j8 (x49 c h u rec0) 0 1 2 3 8 9 10 11)) (kq (j9 (x4a c h u rec0) 0 1 2 3 8 9 10 11 12))) (kq (j9 (x4k c h u rec0) 0 1 2 3 8 9 10 11 12))))) (kq (j7 (x4l c h u rec0) 0 1 2 3 8 9 10))))))))))
noncomputable abbrev xi0:=VX x14 8 r_2
theorem x68:xi0 c h u (x6y x14) r_2 eNil=j1 (x2q c h u) 0:=(kq (j1 (x2q c h u) 0))
noncomputable abbrev xi1:=VX xo 6 r_2
theorem x69:xi1 c h u (x6y xo) r_2 eNil=j1 (x2r c h u) 0:=(kq (j1 (x2r c h u) 0))
noncomputable abbrev xi2:=VX x15 49 r_7
theorem x6a:xi2 c h u (x6y x15) r_7 eNil=j3 (x2u c h u) 0 1 2:=(tq (j3 (x2u c h u) 0 1 2) (sqN 1 (bk 0 (lq (xg c h u) (λr=>j4 r 0 1 2 6) λrec0=>(tq (j4 (x1n c h u rec0) 0 1 2 6) (sqN 1 (sq2 (kq (j4 (x2s c h u rec0) 0 1 2 6)) (bk 1 (tq (j4 (x4d c h u rec0) 0 1 2 6) (sqN 1 (bk 2 (lq (x1e c h u rec0) (λr=>j5 r 0 1 2 6 7) λs=>(kq (j5 (x2t c h u rec0 s) 0 1 2 6 7))))))))))))))
noncomputable abbrev xi3:=VX xp 17 r_0
theorem x6b:xi3 c h u (x6y xp) r_0 eNil=j2 (x2v c h u) 0 1:=(kq (j2 (x2v c h u) 0 1))
noncomputable abbrev xi4:=VX x16 25 r_2
theorem x6c:xi4 c h u (x6y x16) r_2 eNil=j1 (x4h c h u) 0:=(tq (j1 (x4h c h u) 0) (sqN 1 (sq2 (sq2 (sq2 (kq (j2 (x4e c h u) 0 2)) (kq (j2 (x4f c h u) 0 2))) (kq (j2 (x4g c h u) 0 2))) (kq (j2 (x4n c h u) 0 2)))))
end Go.Ix
