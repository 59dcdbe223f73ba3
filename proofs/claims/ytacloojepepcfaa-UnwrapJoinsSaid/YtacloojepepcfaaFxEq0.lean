import Derived.Test.YtacloojepepcfaaFxText0
import Derived.Test.YtacloojepepcfaaFxEnt
import Derived.Test.YtacloojepepcfaaFxRules
import Derived.Test.YtacloojepepcfaaFxProj
import Derived.ProofKit
set_option linter.unusedVariables false
namespace Go.Ix
open Go.Proofs
variable{c:x7w}{h:FHs}{u:Nat}
noncomputable abbrev xm2:=VX x1r 132 r_0
theorem x73:xm2 c h u (x8o x1r) r_0 eNil=j3 (x28 c h u) 0 1 2:=(tq (j3 (x28 c h u) 0 1 2) (sqN 7 (sq2 (tq (j10 (x1t c h u) 3 4 5 7 8 9 10 11 12 13) (sqN 2 (sq2 (sq2 (kq (j12 (x1a c h u) 3 5 7 8 9 10 11 12 13 14 15 16)) (kq (j13 (x1s c h u) 3 4 5 7 8 9 10 11 12 13 14 15 16))) (kq (j13 (x4e c h u) 3 4 5 7 8 9 10 11 12 13 14 15 16))))) (kq (j10 (x4f c h u) 3 4 5 7 8 9 10 11 12 13)))))
noncomputable abbrev xm3:=VX xh 29 r_1
theorem x74:xm3 c h u (x8o xh) r_1 eNil=j2 (x1u c h u) 0 1:=(kq (j2 (x1u c h u) 0 1))
noncomputable abbrev xm4:=VX xa 11 r_2
theorem x75:xm4 c h u (x8o xa) r_2 eNil=j1 (x29 c h u) 0:=(kq (j1 (x29 c h u) 0))
noncomputable abbrev xm5:=VX xb 92 r_3
theorem x76:xm5 c h u (x8o xb) r_3 eNil=j3 (x2b c h u) 0 1 2:=(tq (j3 (x2b c h u) 0 1 2) (sqN 2 (sq2 (kq (j5 (xx c h u) 2 3 4 6 9)) (tq (j5 (x4j c h u) 2 3 4 6 9) (sqN 1 (bk 0 (lq (x1b c h u) (λr=>j7 r 2 3 4 6 9 22 23) λrec0=>(kq (j7 (x4i c h u rec0) 2 3 4 6 9 22 23)))))))))
noncomputable abbrev xm6:=VX xq 38 r_4
theorem x77:xm6 c h u (x8o xq) r_4 eNil=j1 (x2d c h u) 0:=(tq (j1 (x2d c h u) 0) (sqN 2 (sq2 (kq (j0 (x4l c h u))) (tq (j1 (x4m c h u) 1) (sqN 1 (bk 0 (lq (x1c c h u) (λr=>j2 r 1 4) λrec0=>(kq (j2 (x2c c h u rec0) 1 4)))))))))
noncomputable abbrev xm7:=VX xr 47 r_1
theorem x78:xm7 c h u (x8o xr) r_1 eNil=j2 (x2f c h u) 0 1:=(tq (j2 (x2f c h u) 0 1) (sqN 3 (sq2 (kq (j2 (x4n c h u) 4 6)) (tq (j4 (x4r c h u) 1 2 4 6) (sqN 1 (bk 0 (lq (xy c h u) (λr=>j5 r 1 2 4 6 7) λrec0=>(tq (j5 (x2e c h u rec0) 1 2 4 6 7) (sqN 1 (sq2 (kq (j5 (x4o c h u rec0) 1 2 4 6 7)) (bk 1 (tq (j5 (x4q c h u rec0) 1 2 4 6 7) (sqN 1 (sq2 (kq (j6 (x1v c h u rec0) 1 2 4 6 7 8)) (kq (j6 (x4p c h u rec0) 1 2 4 6 7 8))))))))))))))))
noncomputable abbrev xm8:=VX xi 231 r_3
theorem x79:xm8 c h u (x8o xi) r_3 eNil=j3 (x1y c h u) 0 1 2:=(tq (j3 (x1y c h u) 0 1 2) (sqN 7 (sq2 (tq (j7 (x2o c h u) 2 3 4 6 9 10 11) (sqN 2 (sq2 (tq (j9 (x1x c h u) 2 3 4 6 9 10 11 16 17) (sqN 1 (sq2 (kq (j4 (x4s c h u) 6 11 17 21)) (tq (j10 (x4x c h u) 2 3 4 6 9 10 11 16 17 21) (sqN 1 (bk 8 (lq (x1e c h u) (λr=>j11 r 2 3 4 6 9 10 11 16 17 21 22) λrec0=>(tq (j11 (x2i c h u rec0) 2 3 4 6 9 10 11 16 17 21 22) (sqN 1 (sq2 (kq (j11 (x4t c h u rec0) 2 3 4 6 9 10 11 16 17 21 22)) (bk 9 (tq (j11 (x4w c h u rec0) 2 3 4 6 9 10 11 16 17 21 22) (sqN 1 (bk 10 (lq (xg c h u rec0) (λr=>j12 r 2 3 4 6 9 10 11 16 17 21 22 23) λs=>(tq (j12 (x2h c h u rec0 s) 2 3 4 6 9 10 11 16 17 21 22 23) (sqN 1 (sq2 (kq (j12 (x2g c h u rec0 s) 2 3 4 6 9 10 11 16 17 21 22 23)) (bk 11 (tq (j12 (x4v c h u rec0 s) 2 3 4 6 9 10 11 16 17 21 22 23) (sqN 1 (sq2 (sq2 (kq (j13 (x1d c h u rec0 s) 2 3 4 6 9 10 11 16 17 21 22 23 24)) (kq (j13 (x1w c h u rec0 s) 2 3 4 6 9 10 11 16 17 21 22 23 24))) (kq (j13 (x4u c h u rec0 s) 2 3 4 6 9 10 11 16 17 21 22 23 24)))))))))))))))))))))))) (tq (j9 (x51 c h u) 2 3 4 6 9 10 11 16 17) (sqN 1 (bk 4 (lq (x1g c h u) (λr=>j10 r 2 3 4 6 9 10 11 16 17 18) λw=>(tq (j10 (x2n c h u w) 2 3 4 6 9 10 11 16 17 18) (sqN 1 (sq2 (kq (j10 (x2j c h u w) 2 3 4 6 9 10 11 16 17 18)) (bk 5 (tq (j10 (x50 c h u w) 2 3 4 6 9 10 11 16 17 18) (sqN 1 (sq2 (kq (j11 (x2k c h u w) 2 3 4 6 9 10 11 16 17 18 19)) (tq (j11 (x4z c h u w) 2 3 4 6 9 10 11 16 17 18 19) (sqN 1 (bk 6 (lq (x1f c h u w) (λr=>j12 r 2 3 4 6 9 10 11 16 17 18 19 20) λz=>(tq (j12 (x2m c h u w z) 2 3 4 6 9 10 11 16 17 18 19 20) (sqN 1 (sq2 (kq (j12 (x2l c h u w z) 2 3 4 6 9 10 11 16 17 18 19 20)) (kq (j12 (x4y c h u w z) 2 3 4 6 9 10 11 16 17 18 19 20))))))))))))))))))))))) (tq (j7 (x55 c h u) 2 3 4 6 9 10 11) (sqN 1 (bk 0 (lq (x1i c h u) (λr=>j8 r 2 3 4 6 9 10 11 12) λy=>(tq (j8 (x2q c h u y) 2 3 4 6 9 10 11 12) (sqN 1 (sq2 (kq (j8 (x52 c h u y) 2 3 4 6 9 10 11 12)) (bk 1 (tq (j8 (x54 c h u y) 2 3 4 6 9 10 11 12) (sqN 1 (bk 2 (lq (xz c h u y) (λr=>j9 r 2 3 4 6 9 10 11 12 13) λx=>(tq (j9 (x2p c h u y x) 2 3 4 6 9 10 11 12 13) (sqN 1 (sq2 (kq (j9 (x1h c h u y x) 2 3 4 6 9 10 11 12 13)) (kq (j9 (x53 c h u y x) 2 3 4 6 9 10 11 12 13))))))))))))))))))))
noncomputable abbrev xm9:=VX xj 24 r_5
theorem x7a:xm9 c h u (x8o xj) r_5 eNil=j2 (x2r c h u) 0 1:=(kq (j2 (x2r c h u) 0 1))
noncomputable abbrev xma:=VX x13 26 r_5
theorem x7b:xma c h u (x8o x13) r_5 eNil=j2 (x2t c h u) 0 1:=(tq (j2 (x2t c h u) 0 1) (sqN 2 (sq2 (kq (j0 (x56 c h u))) (tq (j2 (x57 c h u) 0 1) (sqN 1 (bk 0 (lq (x1j c h u) (λr=>j3 r 0 1 5) λrec0=>(kq (j3 (x2s c h u rec0) 0 1 5)))))))))
noncomputable abbrev xmb:=VX xk 20 r_5
theorem x7c:xmb c h u (x8o xk) r_5 eNil=j2 (x2u c h u) 0 1:=(kq (j2 (x2u c h u) 0 1))
noncomputable abbrev xmc:=VX x9 5 r_4
theorem x7d:xmc c h u (x8o x9) r_4 eNil=j1 (x2v c h u) 0:=(kq (j1 (x2v c h u) 0))
noncomputable abbrev xmd:=VX xe 15 r_0
theorem x70:xmd c h u (x8o xe) r_0 eNil=j3 (x2w c h u) 0 1 2:=(kq (j3 (x2w c h u) 0 1 2))
noncomputable abbrev xme:=VX xt 39 r_1
theorem x7e:xme c h u (x8o xt) r_1 eNil=j2 (x2y c h u) 0 1:=(tq (j2 (x2y c h u) 0 1) (sqN 2 (sq2 (kq (j2 (x58 c h u) 4 6)) (tq (j4 (x5c c h u) 1 2 4 6) (sqN 1 (bk 0 (lq (x10 c h u) (λr=>j6 r 1 4 6 15 16 17) λrec0=>(tq (j6 (x2x c h u rec0) 1 4 6 15 16 17) (sqN 2 (sq2 (kq (j6 (x59 c h u rec0) 1 4 6 15 16 17)) (bk 1 (tq (j6 (x5b c h u rec0) 1 4 6 15 16 17) (sqN 1 (sq2 (kq (j7 (x1z c h u rec0) 1 4 6 8 15 16 17)) (kq (j7 (x5a c h u rec0) 1 4 6 8 15 16 17))))))))))))))))
noncomputable abbrev xmf:=VX x14 6 r_4
theorem x7f:xmf c h u (x8o x14) r_4 eNil=j1 (x20 c h u) 0:=(kq (j1 (x20 c h u) 0))
noncomputable abbrev xmg:=VX xl 73 r_6
theorem x7g:xmg c h u (x8o xl) r_6 eNil=j1 (x32 c h u) 0:=(tq (j1 (x32 c h u) 0) (sqN 2 (sq2 (kq (j1 (x5d c h u) 4)) (tq (j2 (x5g c h u) 1 4) (sqN 1 (bk 0 (lq (x1m c h u) (λr=>j4 r 1 4 12 13) λrec0=>(tq (j4 (x31 c h u rec0) 1 4 12 13) (sqN 2 (sq2 (kq (j4 (x2z c h u rec0) 1 4 12 13)) (bk 1 (tq (j4 (x5f c h u rec0) 1 4 12 13) (sqN 2 (bk 2 (lq (x11 c h u rec0) (λr=>j7 r 1 4 5 12 13 17 18) λs=>(tq (j7 (x30 c h u rec0 s) 1 4 5 12 13 17 18) (sqN 2 (sq2 (kq (j7 (x1k c h u rec0 s) 1 4 5 12 13 17 18)) (kq (j7 (x5e c h u rec0 s) 1 4 5 12 13 17 18))))))))))))))))))))
noncomputable abbrev xmh:=VX xu 126 r_7
theorem x7h:xmh c h u (x8o xu) r_7 eNil=j2 (x38 c h u) 0 1:=(tq (j2 (x38 c h u) 0 1) (sqN 3 (sq2 (tq (j3 (x36 c h u) 2 4 5) (sqN 1 (sq2 (kq (j2 (x5h c h u) 4 8)) (tq (j4 (x5n c h u) 2 4 5 8) (sqN 1 (bk 2 (lq (x1o c h u) (λr=>j6 r 2 4 5 8 56 57) λrec0=>(tq (j6 (x35 c h u rec0) 2 4 5 8 56 57) (sqN 2 (sq2 (kq (j6 (x5i c h u rec0) 2 4 5 8 56 57)) (bk 3 (tq (j6 (x5m c h u rec0) 2 4 5 8 56 57) (sqN 3 (sq2 (kq (j7 (x5j c h u rec0) 2 4 5 8 12 56 57)) (tq (j9 (x5l c h u rec0) 2 4 5 8 10 11 12 56 57) (sqN 1 (bk 4 (lq (x1n c h u rec0) (λr=>j11 r 2 4 5 8 10 11 12 56 57 95 96) λs=>(tq (j11 (x33 c h u rec0 s) 2 4 5 8 10 11 12 56 57 95 96) (sqN 2 (sq2 (kq (j11 (x21 c h u rec0 s) 2 4 5 8 10 11 12 56 57 95 96)) (kq (j11 (x5k c h u rec0 s) 2 4 5 8 10 11 12 56 57 95 96))))))))))))))))))))))) (tq (j4 (x5p c h u) 1 2 4 5) (sqN 1 (bk 0 (lq (x1p c h u) (λr=>j7 r 1 2 4 5 22 23 24) λw=>(tq (j7 (x37 c h u w) 1 2 4 5 22 23 24) (sqN 2 (sq2 (kq (j7 (x22 c h u w) 1 2 4 5 22 23 24)) (kq (j7 (x5o c h u w) 1 2 4 5 22 23 24))))))))))))
noncomputable abbrev xmi:=VX xd 9 r_5
theorem x7i:xmi c h u (x8o xd) r_5 eNil=j2 (x39 c h u) 0 1:=(kq (j2 (x39 c h u) 0 1))
noncomputable abbrev xmj:=VX x15 20 r_0
theorem x7j:xmj c h u (x8o x15) r_0 eNil=j3 (x3a c h u) 0 1 2:=(kq (j3 (x3a c h u) 0 1 2))
noncomputable abbrev xmk:=VX xm 5 r_4
theorem x7k:xmk c h u (x8o xm) r_4 eNil=j1 (x3b c h u) 0:=(kq (j1 (x3b c h u) 0))
noncomputable abbrev xml:=VX xf 15 r_0
theorem x7l:xml c h u (x8o xf) r_0 eNil=j3 (x3c c h u) 0 1 2:=(kq (j3 (x3c c h u) 0 1 2))
noncomputable abbrev xmm:=VX x16 14 r_5
theorem x7m:xmm c h u (x8o x16) r_5 eNil=j2 (x3d c h u) 0 1:=(tq (j2 (x3d c h u) 0 1) (sqN 2 (sq2 (kq (j1 (x23 c h u) 0)) (kq (j2 (x5q c h u) 0 1)))))
noncomputable abbrev xmn:=VX xv 8 r_4
theorem x7n:xmn c h u (x8o xv) r_4 eNil=j1 (x24 c h u) 0:=(kq (j1 (x24 c h u) 0))
noncomputable abbrev xmo:=VX xc 5 r_4
theorem x71:xmo c h u (x8o xc) r_4 eNil=j1 (x3e c h u) 0:=(kq (j1 (x3e c h u) 0))
noncomputable abbrev xmp:=VX x17 22 r_0
theorem x7o:xmp c h u (x8o x17) r_0 eNil=j3 (x3f c h u) 0 1 2:=(kq (j3 (x3f c h u) 0 1 2))
noncomputable abbrev xmq:=VX xn 36 r_4
theorem x7p:xmq c h u (x8o xn) r_4 eNil=j1 (x3i c h u) 0:=(tq (j1 (x3i c h u) 0) (sqN 2 (sq2 (tq (j2 (x5v c h u) 0 3) (sqN 1 (sq2 (kq (j1 (x5r c h u) 6)) (tq (j2 (x5t c h u) 0 6) (sqN 1 (bk 2 (lq (x3g c h u) (λr=>j4 r 6 25 26 27) λrec0=>(kq (j4 (x5s c h u rec0) 6 25 26 27))))))))) (tq (j2 (x5z c h u) 0 3) (sqN 1 (bk 0 (lq (x3h c h u) (λr=>j5 r 0 3 9 10 11) λs=>(tq (j5 (x5y c h u s) 0 3 9 10 11) (sqN 2 (sq2 (kq (j5 (x5w c h u s) 0 3 9 10 11)) (kq (j5 (x5x c h u s) 0 3 9 10 11))))))))))))
noncomputable abbrev xmr:=VX x18 9 r_5
theorem x7q:xmr c h u (x8o x18) r_5 eNil=j2 (x3j c h u) 0 1:=(kq (j2 (x3j c h u) 0 1))
noncomputable abbrev xms:=VX xw 13 r_8
theorem x7r:xms c h u (x8o xw) r_8 eNil=j2 (x3k c h u) 0 1:=(kq (j2 (x3k c h u) 0 1))
noncomputable abbrev xmt:=VX x12 19 r_5
theorem x72:xmt c h u (x8o x12) r_5 eNil=j2 (x3m c h u) 0 1:=(tq (j2 (x3m c h u) 0 1) (sqN 1 (sq2 (kq (j0 (x60 c h u))) (tq (j2 (x61 c h u) 0 1) (sqN 1 (bk 0 (lq (x1q c h u) (λr=>j4 r 0 1 7 8) λrec0=>(kq (j4 (x3l c h u rec0) 0 1 7 8)))))))))
noncomputable abbrev xmu:=VX x19 27 r_5
theorem x7s:xmu c h u (x8o x19) r_5 eNil=j2 (x3o c h u) 0 1:=(tq (j2 (x3o c h u) 0 1) (sqN 1 (sq2 (sq2 (kq (j1 (x3n c h u) 0)) (kq (j2 (x62 c h u) 0 1))) (kq (j2 (x63 c h u) 0 1)))))
end Go.Ix
