import Derived.Test.YtjdlceelbnaneaaFxText0
import Derived.Test.YtjdlceelbnaneaaFxEnt
import Derived.Test.YtjdlceelbnaneaaFxRules
import Derived.Test.YtjdlceelbnaneaaFxProj
import Derived.ProofKit
set_option linter.unusedVariables false
namespace Go.Ix
open Go.Proofs
variable{c:x7r}{h:FHs}{u:Nat}
noncomputable abbrev xji:=VX x1w 119 r_0
theorem x6t:xji c h u (x8h x1w) r_0 eNil=j2 (x2l c h u) 0 1:=(tq (j2 (x2l c h u) 0 1) (sqN 8 (sq2 (sq2 (kq (j10 (x1x c h u) 0 3 5 6 7 8 9 10 11 12)) (kq (j10 (x2k c h u) 0 3 5 6 7 8 9 10 11 12))) (kq (j10 (x4n c h u) 0 3 5 6 7 8 9 10 11 12)))))
noncomputable abbrev xjj:=VX xd 15 r_1
theorem x6u:xjj c h u (x8h xd) r_1 eNil=j3 (x2m c h u) 0 1 2:=(kq (j3 (x2m c h u) 0 1 2))
noncomputable abbrev xjk:=VX xt 7 r_2
theorem x6v:xjk c h u (x8h xt) r_2 eNil=j1 (x2n c h u) 0:=(kq (j1 (x2n c h u) 0))
noncomputable abbrev xjl:=VX x16 11 r_2
theorem x6w:xjl c h u (x8h x16) r_2 eNil=j1 (x2o c h u) 0:=(kq (j1 (x2o c h u) 0))
noncomputable abbrev xjm:=VX x17 23 r_3
theorem x6x:xjm c h u (x8h x17) r_3 eNil=j1 (x2p c h u) 0:=(kq (j1 (x2p c h u) 0))
noncomputable abbrev xjn:=VX xu 6 r_2
theorem x6y:xjn c h u (x8h xu) r_2 eNil=j1 (x1y c h u) 0:=(kq (j1 (x1y c h u) 0))
noncomputable abbrev xjo:=VX x18 26 r_2
theorem x6z:xjo c h u (x8h x18) r_2 eNil=j1 (x2r c h u) 0:=(tq (j1 (x2r c h u) 0) (sqN 2 (sq2 (kq (j0 (x4p c h u))) (tq (j1 (x4r c h u) 1) (sqN 1 (bk 0 (lq (x2q c h u) (λr=>j2 r 1 3) λrec0=>(kq (j2 (x4q c h u rec0) 1 3)))))))))
noncomputable abbrev xjp:=VX x19 23 r_2
theorem x70:xjp c h u (x8h x19) r_2 eNil=j1 (x2t c h u) 0:=(tq (j1 (x2t c h u) 0) (sqN 2 (sq2 (kq (j0 (x4s c h u))) (tq (j1 (x4u c h u) 1) (sqN 1 (bk 0 (lq (x2s c h u) (λr=>j3 r 13 14 15) λrec0=>(kq (j3 (x4t c h u rec0) 13 14 15)))))))))
noncomputable abbrev xjq:=VX x1a 16 r_2
theorem x71:xjq c h u (x8h x1a) r_2 eNil=j1 (x2u c h u) 0:=(kq (j1 (x2u c h u) 0))
noncomputable abbrev xjr:=VX x1b 16 r_4
theorem x72:xjr c h u (x8h x1b) r_4 eNil=j1 (x2v c h u) 0:=(kq (j1 (x2v c h u) 0))
noncomputable abbrev xjs:=VX x1c 72 r_5
theorem x73:xjs c h u (x8h x1c) r_5 eNil=j2 (x2y c h u) 0 1:=(tq (j2 (x2y c h u) 0 1) (sqN 4 (sq2 (kq (j2 (x4v c h u) 9 10)) (tq (j4 (x4z c h u) 1 2 9 10) (sqN 1 (bk 0 (lq (xm c h u) (λr=>j6 r 2 9 10 28 29 30) λrec0=>(tq (j6 (x2x c h u rec0) 2 9 10 28 29 30) (sqN 2 (sq2 (kq (j6 (x2w c h u rec0) 2 9 10 28 29 30)) (kq (j6 (x4w c h u rec0) 2 9 10 28 29 30))))))))))))
noncomputable abbrev xjt:=VX x1d 70 r_0
theorem x74:xjt c h u (x8h x1d) r_0 eNil=j2 (x32 c h u) 0 1:=(tq (j2 (x32 c h u) 0 1) (sqN 2 (sq2 (kq (j1 (x50 c h u) 5)) (tq (j4 (x52 c h u) 1 2 5 6) (sqN 1 (bk 0 (lq (xn c h u) (λr=>j5 r 1 2 5 6 7) λrec0=>(tq (j5 (x31 c h u rec0) 1 2 5 6 7) (sqN 1 (sq2 (kq (j5 (x2z c h u rec0) 1 2 5 6 7)) (kq (j5 (x51 c h u rec0) 1 2 5 6 7))))))))))))
noncomputable abbrev xju:=VX xz 82 r_2
theorem x75:xju c h u (x8h xz) r_2 eNil=j1 (x38 c h u) 0:=(tq (j1 (x38 c h u) 0) (sqN 3 (sq2 (kq (j1 (x53 c h u) 3)) (tq (j2 (x57 c h u) 0 3) (sqN 1 (bk 0 (lq (x14 c h u) (λr=>j3 r 0 3 4) λrec0=>(tq (j3 (x37 c h u rec0) 0 3 4) (sqN 1 (sq2 (kq (j3 (x33 c h u rec0) 0 3 4)) (bk 1 (tq (j3 (x56 c h u rec0) 0 3 4) (sqN 1 (bk 2 (lq (xo c h u rec0) (λr=>j4 r 0 3 4 5) λs=>(tq (j4 (x36 c h u rec0 s) 0 3 4 5) (sqN 1 (sq2 (kq (j4 (x34 c h u rec0 s) 0 3 4 5)) (bk 3 (tq (j4 (x55 c h u rec0 s) 0 3 4 5) (sqN 2 (sq2 (kq (j8 (x35 c h u rec0 s) 0 3 4 5 6 7 8 9)) (kq (j8 (x54 c h u rec0 s) 0 3 4 5 6 7 8 9))))))))))))))))))))))))
noncomputable abbrev xjv:=VX x10 162 r_6
theorem x76:xjv c h u (x8h x10) r_6 eNil=j1 (x3d c h u) 0:=(tq (j1 (x3d c h u) 0) (sqN 3 (sq2 (tq (j3 (x21 c h u) 2 3 4) (sqN 1 (sq2 (tq (j2 (x5e c h u) 2 9) (sqN 1 (sq2 (tq (j3 (x5b c h u) 2 9 11) (sqN 1 (sq2 (kq (j2 (x58 c h u) 2 9)) (tq (j3 (x5a c h u) 2 9 11) (sqN 1 (bk 10 (lq (x39 c h u) (λr=>j4 r 2 9 11 13) λrec0=>(kq (j4 (x59 c h u rec0) 2 9 11 13))))))))) (tq (j3 (x5d c h u) 2 9 11) (sqN 1 (bk 8 (lq (x3a c h u) (λr=>j4 r 2 9 11 12) λs=>(kq (j4 (x5c c h u s) 2 9 11 12))))))))) (tq (j4 (x5f c h u) 2 3 4 9) (sqN 1 (bk 6 (lq (xf c h u) (λr=>j5 r 2 3 4 9 10) λw=>(kq (j5 (x1k c h u w) 2 3 4 9 10))))))))) (tq (j4 (x5i c h u) 0 2 3 4) (sqN 1 (bk 0 (lq (x1m c h u) (λr=>j5 r 0 2 3 4 5) λz=>(tq (j5 (x3c c h u z) 0 2 3 4 5) (sqN 1 (sq2 (kq (j5 (x5g c h u z) 0 2 3 4 5)) (bk 1 (tq (j5 (x3b c h u z) 0 2 3 4 5) (sqN 2 (bk 2 (lq (x9 c h u z) (λr=>j7 r 0 2 3 4 5 6 7) λy=>(tq (j7 (x1l c h u z y) 0 2 3 4 5 6 7) (sqN 1 (sq2 (kq (j7 (x22 c h u z y) 0 2 3 4 5 6 7)) (bk 3 (sq2 (kq (j7 (x23 c h u z y) 0 2 3 4 5 6 7)) (tq (j7 (x25 c h u z y) 0 2 3 4 5 6 7) (sqN 1 (bk 4 (lq (xp c h u z y) (λr=>j8 r 0 2 3 4 5 6 7 8) λx=>(kq (j8 (x24 c h u z y x) 0 2 3 4 5 6 7 8))))))))))))))))))))))))))
noncomputable abbrev xjw:=VX x1e 24 r_4
theorem x77:xjw c h u (x8h x1e) r_4 eNil=j1 (x3f c h u) 0:=(tq (j1 (x3f c h u) 0) (sqN 2 (sq2 (kq (j0 (x5j c h u))) (tq (j1 (x5k c h u) 0) (sqN 1 (bk 0 (lq (x1n c h u) (λr=>j3 r 10 11 12) λrec0=>(kq (j3 (x3e c h u rec0) 10 11 12)))))))))
noncomputable abbrev xjx:=VX x1f 24 r_4
theorem x78:xjx c h u (x8h x1f) r_4 eNil=j1 (x3h c h u) 0:=(tq (j1 (x3h c h u) 0) (sqN 2 (sq2 (kq (j0 (x5l c h u))) (tq (j1 (x5m c h u) 0) (sqN 1 (bk 0 (lq (x1o c h u) (λr=>j2 r 0 4) λrec0=>(kq (j2 (x3g c h u rec0) 0 4)))))))))
noncomputable abbrev xjy:=VX x11 13 r_0
theorem x79:xjy c h u (x8h x11) r_0 eNil=j2 (x3j c h u) 0 1:=(tq (j2 (x3j c h u) 0 1) (sqN 1 (sq2 (kq (j1 (x3i c h u) 0)) (bk 0 (lq (xx c h u) (λr=>j2 r 0 1) λrec0=>(kq (j2 (x1p c h u rec0) 0 1)))))))
noncomputable abbrev xjz:=VX xe 15 r_1
theorem x7a:xjz c h u (x8h xe) r_1 eNil=j3 (x3k c h u) 0 1 2:=(kq (j3 (x3k c h u) 0 1 2))
noncomputable abbrev xk0:=VX xv 13 r_4
theorem x7b:xk0 c h u (x8h xv) r_4 eNil=j1 (x3l c h u) 0:=(kq (j1 (x3l c h u) 0))
noncomputable abbrev xk1:=VX x12 54 r_2
theorem x7c:xk1 c h u (x8h x12) r_2 eNil=j1 (x3p c h u) 0:=(tq (j1 (x3p c h u) 0) (sqN 5 (sq2 (kq (j1 (x3m c h u) 5)) (tq (j4 (x5p c h u) 0 3 4 5) (sqN 1 (bk 0 (lq (xq c h u) (λr=>j6 r 3 4 5 21 22 23) λrec0=>(tq (j6 (x1q c h u rec0) 3 4 5 21 22 23) (sqN 2 (sq2 (kq (j6 (x26 c h u rec0) 3 4 5 21 22 23)) (kq (j6 (x3n c h u rec0) 3 4 5 21 22 23))))))))))))
noncomputable abbrev xk2:=VX x1g 141 r_6
theorem x7d:xk2 c h u (x8h x1g) r_6 eNil=j1 (x3t c h u) 0:=(tq (j1 (x3t c h u) 0) (sqN 3 (sq2 (tq (j3 (x2b c h u) 2 3 4) (sqN 2 (sq2 (tq (j3 (x5t c h u) 2 10 11) (sqN 1 (sq2 (kq (j2 (x5q c h u) 2 10)) (tq (j3 (x5s c h u) 2 10 11) (sqN 1 (bk 8 (lq (x3q c h u) (λr=>j4 r 2 10 11 120) λrec0=>(kq (j4 (x5r c h u rec0) 2 10 11 120))))))))) (tq (j5 (x5u c h u) 2 3 4 10 11) (sqN 1 (bk 6 (lq (xg c h u) (λr=>j6 r 2 3 4 10 11 82) λs=>(kq (j6 (x1s c h u s) 2 3 4 10 11 82))))))))) (tq (j4 (x5w c h u) 0 2 3 4) (sqN 1 (bk 0 (lq (x1u c h u) (λr=>j6 r 2 3 4 14 15 16) λw=>(tq (j6 (x3s c h u w) 2 3 4 14 15 16) (sqN 2 (sq2 (kq (j6 (x5v c h u w) 2 3 4 14 15 16)) (bk 1 (tq (j6 (x3r c h u w) 2 3 4 14 15 16) (sqN 3 (bk 2 (lq (xa c h u w) (λr=>j9 r 2 3 4 6 7 14 15 16 25) λz=>(tq (j9 (x1t c h u w z) 2 3 4 6 7 14 15 16 25) (sqN 2 (sq2 (kq (j9 (x2c c h u w z) 2 3 4 6 7 14 15 16 25)) (bk 3 (tq (j9 (x2g c h u w z) 2 3 4 6 7 14 15 16 25) (sqN 1 (sq2 (kq (j10 (x2d c h u w z) 2 3 4 6 7 8 14 15 16 25)) (tq (j10 (x2f c h u w z) 2 3 4 6 7 8 14 15 16 25) (sqN 1 (bk 4 (lq (xr c h u w z) (λr=>j11 r 2 3 4 6 7 8 14 15 16 25 28) λy=>(kq (j11 (x2e c h u w z y) 2 3 4 6 7 8 14 15 16 25 28))))))))))))))))))))))))))))
noncomputable abbrev xk3:=VX xj 7 r_2
theorem x7e:xk3 c h u (x8h xj) r_2 eNil=j1 (x2h c h u) 0:=(kq (j1 (x2h c h u) 0))
noncomputable abbrev xk4:=VX x1h 36 r_2
theorem x7f:xk4 c h u (x8h x1h) r_2 eNil=j1 (x3u c h u) 0:=(kq (j1 (x3u c h u) 0))
noncomputable abbrev xk5:=VX x1i 33 r_2
theorem x7g:xk5 c h u (x8h x1i) r_2 eNil=j1 (x3v c h u) 0:=(kq (j1 (x3v c h u) 0))
noncomputable abbrev xk6:=VX x13 13 r_0
theorem x7h:xk6 c h u (x8h x13) r_0 eNil=j2 (x3x c h u) 0 1:=(tq (j2 (x3x c h u) 0 1) (sqN 1 (sq2 (kq (j1 (x3w c h u) 0)) (bk 0 (lq (xy c h u) (λr=>j2 r 0 1) λrec0=>(kq (j2 (x1v c h u rec0) 0 1)))))))
noncomputable abbrev xk7:=VX xw 5 r_2
theorem x7i:xk7 c h u (x8h xw) r_2 eNil=j1 (x3y c h u) 0:=(kq (j1 (x3y c h u) 0))
end Go.Ix
