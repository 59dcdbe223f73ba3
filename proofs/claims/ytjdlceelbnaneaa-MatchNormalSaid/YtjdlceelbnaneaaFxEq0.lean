import Derived.Test.YtjdlceelbnaneaaFxText0
import Derived.Test.YtjdlceelbnaneaaFxEnt
import Derived.Test.YtjdlceelbnaneaaFxRules
import Derived.Test.YtjdlceelbnaneaaFxProj
import Derived.ProofKit
set_option linter.unusedVariables false
namespace Go.Ix
open Go.Proofs
variable{c:x5a}{h:FHs}{u:Nat}
noncomputable abbrev xh1:=VX x1e 173 r_0
theorem x4m:xh1 c h u (x64 x1e) r_0 eNil=j1 (x21 c h u) 0:=(tq (j1 (x21 c h u) 0) (sqN 7 (sq2 (sq2 (sq2 (kq (j2 (x1f c h u) 3 5)) (tq (j2 (x1w c h u) 3 5) (sqN 1 (bk 6 (lq (xp c h u) (λr=>j3 r 3 5 13) λrec0=>(kq (j3 (x1v c h u rec0) 3 5 13))))))) (tq (j3 (x3b c h u) 0 3 5) (sqN 1 (bk 4 (lq (x15 c h u) (λr=>j4 r 0 3 5 12) λs=>(kq (j4 (x1x c h u s) 0 3 5 12))))))) (tq (j3 (x3f c h u) 0 3 5) (sqN 1 (bk 0 (lq (xj c h u) (λr=>j4 r 0 3 5 6) λw=>(tq (j4 (x20 c h u w) 0 3 5 6) (sqN 1 (sq2 (kq (j4 (x3c c h u w) 0 3 5 6)) (bk 1 (tq (j4 (x3e c h u w) 0 3 5 6) (sqN 1 (sq2 (kq (j7 (x1y c h u w) 0 3 5 6 7 8 9)) (tq (j7 (x3d c h u w) 0 3 5 6 7 8 9) (sqN 1 (bk 2 (lq (xq c h u w) (λr=>j8 r 0 3 5 6 7 8 9 10) λz=>(kq (j8 (x1z c h u w z) 0 3 5 6 7 8 9 10))))))))))))))))))))
noncomputable abbrev xh2:=VX x6 15 r_1
theorem x4n:xh2 c h u (x64 x6) r_1 eNil=j3 (x22 c h u) 0 1 2:=(kq (j3 (x22 c h u) 0 1 2))
noncomputable abbrev xh3:=VX xu 11 r_0
theorem x4o:xh3 c h u (x64 xu) r_0 eNil=j1 (x23 c h u) 0:=(kq (j1 (x23 c h u) 0))
noncomputable abbrev xh4:=VX xh 23 r_2
theorem x4p:xh4 c h u (x64 xh) r_2 eNil=j1 (x24 c h u) 0:=(kq (j1 (x24 c h u) 0))
noncomputable abbrev xh5:=VX xv 6 r_0
theorem x4q:xh5 c h u (x64 xv) r_0 eNil=j1 (x1g c h u) 0:=(kq (j1 (x1g c h u) 0))
noncomputable abbrev xh6:=VX xw 26 r_0
theorem x4r:xh6 c h u (x64 xw) r_0 eNil=j1 (x26 c h u) 0:=(tq (j1 (x26 c h u) 0) (sqN 2 (sq2 (kq (j0 (x3h c h u))) (tq (j1 (x3j c h u) 1) (sqN 1 (bk 0 (lq (x25 c h u) (λr=>j2 r 1 3) λrec0=>(kq (j2 (x3i c h u rec0) 1 3)))))))))
noncomputable abbrev xh7:=VX xm 14 r_3
theorem x4s:xh7 c h u (x64 xm) r_3 eNil=j2 (x27 c h u) 0 1:=(tq (j2 (x27 c h u) 0 1) (sqN 2 (sq2 (kq (j1 (x1h c h u) 0)) (kq (j2 (x3k c h u) 0 1)))))
noncomputable abbrev xh8:=VX xa 16 r_3
theorem x4t:xh8 c h u (x64 xa) r_3 eNil=j2 (x28 c h u) 0 1:=(tq (j2 (x28 c h u) 0 1) (sqN 2 (sq2 (kq (j1 (x1i c h u) 5)) (kq (j3 (x3l c h u) 0 1 5)))))
noncomputable abbrev xh9:=VX xx 24 r_4
theorem x4u:xh9 c h u (x64 xx) r_4 eNil=j1 (x2a c h u) 0:=(tq (j1 (x2a c h u) 0) (sqN 2 (sq2 (kq (j0 (x3m c h u))) (tq (j1 (x3n c h u) 0) (sqN 1 (bk 0 (lq (x16 c h u) (λr=>j3 r 10 11 12) λrec0=>(kq (j3 (x29 c h u rec0) 10 11 12)))))))))
noncomputable abbrev xha:=VX xy 24 r_4
theorem x4v:xha c h u (x64 xy) r_4 eNil=j1 (x2c c h u) 0:=(tq (j1 (x2c c h u) 0) (sqN 2 (sq2 (kq (j0 (x3o c h u))) (tq (j1 (x3p c h u) 0) (sqN 1 (bk 0 (lq (x17 c h u) (λr=>j2 r 0 4) λrec0=>(kq (j2 (x2b c h u rec0) 0 4)))))))))
noncomputable abbrev xhb:=VX xb 15 r_1
theorem x4w:xhb c h u (x64 xb) r_1 eNil=j3 (x2d c h u) 0 1 2:=(kq (j3 (x2d c h u) 0 1 2))
noncomputable abbrev xhc:=VX xz 13 r_4
theorem x4x:xhc c h u (x64 xz) r_4 eNil=j1 (x2e c h u) 0:=(kq (j1 (x2e c h u) 0))
noncomputable abbrev xhd:=VX x10 54 r_0
theorem x4y:xhd c h u (x64 x10) r_0 eNil=j1 (x2i c h u) 0:=(tq (j1 (x2i c h u) 0) (sqN 5 (sq2 (kq (j1 (x2f c h u) 5)) (tq (j4 (x3s c h u) 0 3 4 5) (sqN 1 (bk 0 (lq (xf c h u) (λr=>j6 r 3 4 5 21 22 23) λrec0=>(tq (j6 (x18 c h u rec0) 3 4 5 21 22 23) (sqN 2 (sq2 (kq (j6 (x1j c h u rec0) 3 4 5 21 22 23)) (kq (j6 (x2g c h u rec0) 3 4 5 21 22 23))))))))))))
noncomputable abbrev xhe:=VX x11 141 r_5
theorem x4z:xhe c h u (x64 x11) r_5 eNil=j1 (x2m c h u) 0:=(tq (j1 (x2m c h u) 0) (sqN 3 (sq2 (tq (j3 (x1o c h u) 2 3 4) (sqN 2 (sq2 (tq (j3 (x3w c h u) 2 10 11) (sqN 1 (sq2 (kq (j2 (x3t c h u) 2 10)) (tq (j3 (x3v c h u) 2 10 11) (sqN 1 (bk 8 (lq (x2j c h u) (λr=>j4 r 2 10 11 120) λrec0=>(kq (j4 (x3u c h u rec0) 2 10 11 120))))))))) (tq (j5 (x3x c h u) 2 3 4 10 11) (sqN 1 (bk 6 (lq (x9 c h u) (λr=>j6 r 2 3 4 10 11 82) λs=>(kq (j6 (x1a c h u s) 2 3 4 10 11 82))))))))) (tq (j4 (x3z c h u) 0 2 3 4) (sqN 1 (bk 0 (lq (x1c c h u) (λr=>j6 r 2 3 4 14 15 16) λw=>(tq (j6 (x2l c h u w) 2 3 4 14 15 16) (sqN 2 (sq2 (kq (j6 (x3y c h u w) 2 3 4 14 15 16)) (bk 1 (tq (j6 (x2k c h u w) 2 3 4 14 15 16) (sqN 3 (bk 2 (lq (x5 c h u w) (λr=>j9 r 2 3 4 6 7 14 15 16 25) λz=>(tq (j9 (x1b c h u w z) 2 3 4 6 7 14 15 16 25) (sqN 2 (sq2 (kq (j9 (x1p c h u w z) 2 3 4 6 7 14 15 16 25)) (bk 3 (tq (j9 (x1t c h u w z) 2 3 4 6 7 14 15 16 25) (sqN 1 (sq2 (kq (j10 (x1q c h u w z) 2 3 4 6 7 8 14 15 16 25)) (tq (j10 (x1s c h u w z) 2 3 4 6 7 8 14 15 16 25) (sqN 1 (bk 4 (lq (xg c h u w z) (λr=>j11 r 2 3 4 6 7 8 14 15 16 25 28) λy=>(kq (j11 (x1r c h u w z y) 2 3 4 6 7 8 14 15 16 25 28))))))))))))))))))))))))))))
noncomputable abbrev xhf:=VX x12 7 r_0
theorem x50:xhf c h u (x64 x12) r_0 eNil=j1 (x2n c h u) 0:=(kq (j1 (x2n c h u) 0))
noncomputable abbrev xhg:=VX x13 36 r_0
theorem x51:xhg c h u (x64 x13) r_0 eNil=j1 (x2o c h u) 0:=(kq (j1 (x2o c h u) 0))
noncomputable abbrev xhh:=VX x14 33 r_0
theorem x52:xhh c h u (x64 x14) r_0 eNil=j1 (x2p c h u) 0:=(kq (j1 (x2p c h u) 0))
noncomputable abbrev xhi:=VX xn 13 r_3
theorem x53:xhi c h u (x64 xn) r_3 eNil=j2 (x2r c h u) 0 1:=(tq (j2 (x2r c h u) 0 1) (sqN 1 (sq2 (kq (j1 (x2q c h u) 0)) (bk 0 (lq (xk c h u) (λr=>j2 r 0 1) λrec0=>(kq (j2 (x1d c h u rec0) 0 1)))))))
noncomputable abbrev xhj:=VX xi 5 r_0
theorem x54:xhj c h u (x64 xi) r_0 eNil=j1 (x2s c h u) 0:=(kq (j1 (x2s c h u) 0))
end Go.Ix
