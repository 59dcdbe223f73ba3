import Derived.Test.YtjdlceelbnaneaaFxText0
import Derived.Test.YtjdlceelbnaneaaFxEnt
import Derived.Test.YtjdlceelbnaneaaFxRules
import Derived.Test.YtjdlceelbnaneaaFxProj
import Derived.ProofKit
set_option linter.unusedVariables false
namespace Go.Ix
open Go.Proofs
variable{c:xc0}{h:FHs}{u:Nat}
noncomputable abbrev xpl:=VX x2x 90 r_0
theorem xa9:xpl c h u (xc7 x2x) r_0 eNil=j3 (x3n c h u) 0 1 2:=(tq (j3 (x3n c h u) 0 1 2) (sqN 6 (sq2 (kq (j7 (x2h c h u) 2 4 7 8 9 10 11)) (kq (j7 (x2z c h u) 2 4 7 8 9 10 11)))))
noncomputable abbrev xpm:=VX x1p 11 r_1
theorem xaa:xpm c h u (xc7 x1p) r_1 eNil=j1 (x3p c h u) 0:=(kq (j1 (x3p c h u) 0))
noncomputable abbrev xpn:=VX x12 10 r_2
theorem xab:xpn c h u (xc7 x12) r_2 eNil=j1 (x3q c h u) 0:=(kq (j1 (x3q c h u) 0))
noncomputable abbrev xpo:=VX x1q 15 r_3
theorem xac:xpo c h u (xc7 x1q) r_3 eNil=j2 (x3r c h u) 0 1:=(kq (j2 (x3r c h u) 0 1))
noncomputable abbrev xpp:=VX x1r 159 r_4
theorem xad:xpp c h u (xc7 x1r) r_4 eNil=j3 (x3w c h u) 0 1 2:=(tq (j3 (x3w c h u) 0 1 2) (sqN 3 (sq2 (kq (j5 (x3s c h u) 6 8 9 10 11)) (tq (j8 (x7f c h u) 3 4 5 6 8 9 10 11) (sqN 1 (bk 0 (lq (xt c h u) (λr=>j9 r 3 4 5 6 8 9 10 11 12) λrec0=>(tq (j9 (x3v c h u rec0) 3 4 5 6 8 9 10 11 12) (sqN 1 (sq2 (kq (j9 (x3t c h u rec0) 3 4 5 6 8 9 10 11 12)) (bk 1 (tq (j9 (x7e c h u rec0) 3 4 5 6 8 9 10 11 12) (sqN 1 (bk 2 (lq (x2i c h u rec0) (λr=>j10 r 3 4 5 6 8 9 10 11 12 13) λs=>(kq (j10 (x3u c h u rec0 s) 3 4 5 6 8 9 10 11 12 13)))))))))))))))))
noncomputable abbrev xpq:=VX xe 15 r_0
theorem xae:xpq c h u (xc7 xe) r_0 eNil=j3 (x3x c h u) 0 1 2:=(kq (j3 (x3x c h u) 0 1 2))
noncomputable abbrev xpr:=VX x13 55 r_5
theorem xaf:xpr c h u (xc7 x13) r_5 eNil=j3 (x30 c h u) 0 1 2:=(kq (j3 (x30 c h u) 0 1 2))
noncomputable abbrev xps:=VX x1s 78 r_5
theorem xag:xps c h u (xc7 x1s) r_5 eNil=j3 (x42 c h u) 0 1 2:=(tq (j3 (x42 c h u) 0 1 2) (sqN 3 (sq2 (kq (j5 (x3y c h u) 6 7 9 10 11)) (tq (j8 (x7i c h u) 2 3 4 6 7 9 10 11) (sqN 1 (bk 0 (lq (xv c h u) (λr=>j9 r 2 3 4 6 7 9 10 11 12) λrec0=>(tq (j9 (x41 c h u rec0) 2 3 4 6 7 9 10 11 12) (sqN 1 (sq2 (kq (j9 (x3z c h u rec0) 2 3 4 6 7 9 10 11 12)) (bk 1 (tq (j9 (x7h c h u rec0) 2 3 4 6 7 9 10 11 12) (sqN 1 (bk 2 (lq (x1l c h u rec0) (λr=>j10 r 2 3 4 6 7 9 10 11 12 13) λs=>(tq (j10 (x40 c h u rec0 s) 2 3 4 6 7 9 10 11 12 13) (sqN 1 (sq2 (kq (j10 (x32 c h u rec0 s) 2 3 4 6 7 9 10 11 12 13)) (bk 3 (tq (j10 (x7g c h u rec0 s) 2 3 4 6 7 9 10 11 12 13) (sqN 1 (bk 4 (lq (x1k c h u rec0 s) (λr=>j11 r 2 3 4 6 7 9 10 11 12 13 14) λw=>(tq (j11 (xu c h u rec0 s w) 2 3 4 6 7 9 10 11 12 13 14) (sqN 1 (sq2 (kq (j11 (x2k c h u rec0 s w) 2 3 4 6 7 9 10 11 12 13 14)) (kq (j11 (x1j c h u rec0 s w) 2 3 4 6 7 9 10 11 12 13 14))))))))))))))))))))))))))))
noncomputable abbrev xpt:=VX xm 7 r_1
theorem xah:xpt c h u (xc7 xm) r_1 eNil=j1 (x43 c h u) 0:=(kq (j1 (x43 c h u) 0))
noncomputable abbrev xpu:=VX x1t 47 r_6
theorem xai:xpu c h u (xc7 x1t) r_6 eNil=j4 (x45 c h u) 0 1 2 3:=(tq (j4 (x45 c h u) 0 1 2 3) (sqN 1 (bk 0 (lq (x2l c h u) (λr=>j4 r 0 1 2 3) λrec0=>(kq (j4 (x44 c h u rec0) 0 1 2 3))))))
noncomputable abbrev xpv:=VX x14 16 r_3
theorem xaj:xpv c h u (xc7 x14) r_3 eNil=j2 (x46 c h u) 0 1:=(tq (j2 (x46 c h u) 0 1) (sqN 2 (sq2 (kq (j1 (x33 c h u) 5)) (kq (j3 (x7j c h u) 0 1 5)))))
noncomputable abbrev xpw:=VX x15 7 r_1
theorem xak:xpw c h u (xc7 x15) r_1 eNil=j1 (x47 c h u) 0:=(kq (j1 (x47 c h u) 0))
noncomputable abbrev xpx:=VX x16 10 r_7
theorem xal:xpx c h u (xc7 x16) r_7 eNil=j1 (x48 c h u) 0:=(kq (j1 (x48 c h u) 0))
noncomputable abbrev xpy:=VX x17 11 r_1
theorem xam:xpy c h u (xc7 x17) r_1 eNil=j1 (x49 c h u) 0:=(kq (j1 (x49 c h u) 0))
noncomputable abbrev xpz:=VX x18 26 r_8
theorem xan:xpz c h u (xc7 x18) r_8 eNil=j3 (x4a c h u) 0 1 2:=(kq (j3 (x4a c h u) 0 1 2))
noncomputable abbrev xq0:=VX x1u 26 r_3
theorem xao:xq0 c h u (xc7 x1u) r_3 eNil=j2 (x4b c h u) 0 1:=(kq (j2 (x4b c h u) 0 1))
noncomputable abbrev xq1:=VX x1v 35 r_9
theorem xap:xq1 c h u (xc7 x1v) r_9 eNil=j3 (x4c c h u) 0 1 2:=(tq (j3 (x4c c h u) 0 1 2) (sqN 2 (sq2 (kq (j2 (x7k c h u) 6 7)) (tq (j3 (x7m c h u) 2 6 7) (sqN 1 (bk 0 (lq (x34 c h u) (λr=>j4 r 2 6 7 8) λrec0=>(kq (j4 (x7l c h u rec0) 2 6 7 8)))))))))
noncomputable abbrev xq2:=VX x1w 29 r_10
theorem xaq:xq2 c h u (xc7 x1w) r_10 eNil=j1 (x4g c h u) 0:=(tq (j1 (x4g c h u) 0) (sqN 1 (sq2 (kq (j2 (x7n c h u) 1 2)) (tq (j2 (x7p c h u) 1 2) (sqN 1 (bk 0 (lq (x4f c h u) (λr=>j4 r 1 2 11 12) λrec0=>(kq (j4 (x7o c h u rec0) 1 2 11 12)))))))))
noncomputable abbrev xq3:=VX x1x 21 r_3
theorem xar:xq3 c h u (xc7 x1x) r_3 eNil=j2 (x4h c h u) 0 1:=(kq (j2 (x4h c h u) 0 1))
noncomputable abbrev xq4:=VX xn 91 r_11
theorem xas:xq4 c h u (xc7 xn) r_11 eNil=j3 (x38 c h u) 0 1 2:=(tq (j3 (x38 c h u) 0 1 2) (sqN 6 (sq2 (sq2 (kq (j4 (x35 c h u) 6 9 10 11)) (tq (j7 (x4i c h u) 3 4 6 9 10 11 12) (sqN 1 (bk 2 (tq (j6 (x7r c h u) 6 9 10 11 12 55) (rg (.tmp 55) #[56,57] (λu=>(kq (j5 (x7q c h u) 9 10 12 15 16))) (λu=>(kq (j5 (x36 c h u) 9 10 12 56 57))))))))) (tq (j8 (x7u c h u) 3 4 6 8 9 10 11 12) (sqN 1 (bk 0 (tq (j8 (x7t c h u) 3 4 6 9 10 11 12 41) (rg (.tmp 41) #[42,43] (λu=>(kq (j3 (x7s c h u) 11 12 14))) (λu=>(kq (j3 (x37 c h u) 11 12 43)))))))))))
noncomputable abbrev xq5:=VX x1y 18 r_12
theorem xat:xq5 c h u (xc7 x1y) r_12 eNil=j1 (x4k c h u) 0:=(kq (j1 (x4k c h u) 0))
noncomputable abbrev xq6:=VX x1z 13 r_1
theorem xau:xq6 c h u (xc7 x1z) r_1 eNil=j1 (x4l c h u) 0:=(kq (j1 (x4l c h u) 0))
noncomputable abbrev xq7:=VX xo 25 r_13
theorem xav:xq7 c h u (xc7 xo) r_13 eNil=j5 (x4m c h u) 0 1 2 3 4:=(kq (j5 (x4m c h u) 0 1 2 3 4))
noncomputable abbrev xq8:=VX x20 13 r_3
theorem xaw:xq8 c h u (xc7 x20) r_3 eNil=j2 (x4o c h u) 0 1:=(tq (j2 (x4o c h u) 0 1) (sqN 1 (sq2 (kq (j1 (x4n c h u) 0)) (bk 0 (lq (xx c h u) (λr=>j2 r 0 1) λrec0=>(kq (j2 (x2n c h u rec0) 0 1)))))))
noncomputable abbrev xq9:=VX xg 15 r_0
theorem xax:xq9 c h u (xc7 xg) r_0 eNil=j3 (x4p c h u) 0 1 2:=(kq (j3 (x4p c h u) 0 1 2))
noncomputable abbrev xqa:=VX xp 57 r_14
theorem xay:xqa c h u (xc7 xp) r_14 eNil=j3 (x4r c h u) 0 1 2:=(tq (j3 (x4r c h u) 0 1 2) (sqN 3 (sq2 (kq (j3 (x7w c h u) 6 8 9)) (tq (j6 (x7y c h u) 2 3 4 6 8 9) (sqN 1 (bk 0 (lq (xy c h u) (λr=>j7 r 2 3 4 6 8 9 10) λrec0=>(tq (j7 (x4q c h u rec0) 2 3 4 6 8 9 10) (sqN 1 (sq2 (kq (j7 (x39 c h u rec0) 2 3 4 6 8 9 10)) (bk 1 (tq (j7 (x7x c h u rec0) 2 3 4 6 8 9 10) (sqN 1 (bk 2 (lq (x1o c h u rec0) (λr=>j8 r 2 3 4 6 8 9 10 11) λs=>(tq (j8 (x1n c h u rec0 s) 2 3 4 6 8 9 10 11) (sqN 1 (sq2 (kq (j8 (x3a c h u rec0 s) 2 3 4 6 8 9 10 11)) (kq (j8 (x2o c h u rec0 s) 2 3 4 6 8 9 10 11))))))))))))))))))))
noncomputable abbrev xqb:=VX x21 11 r_1
theorem xaz:xqb c h u (xc7 x21) r_1 eNil=j1 (x4s c h u) 0:=(kq (j1 (x4s c h u) 0))
noncomputable abbrev xqc:=VX x22 35 r_15
theorem xb0:xqc c h u (xc7 x22) r_15 eNil=j1 (x4u c h u) 0:=(tq (j1 (x4u c h u) 0) (sqN 2 (sq2 (kq (j0 (x7z c h u))) (tq (j1 (x80 c h u) 1) (sqN 1 (bk 0 (lq (x2p c h u) (λr=>j2 r 1 5) λrec0=>(kq (j2 (x4t c h u rec0) 1 5)))))))))
noncomputable abbrev xqd:=VX x23 10 r_15
theorem xb1:xqd c h u (xc7 x23) r_15 eNil=j1 (x4v c h u) 0:=(kq (j1 (x4v c h u) 0))
noncomputable abbrev xqe:=VX x19 6 r_3
theorem xb2:xqe c h u (xc7 x19) r_3 eNil=j2 (x4w c h u) 0 1:=(kq (j2 (x4w c h u) 0 1))
noncomputable abbrev xqf:=VX xf 7 r_1
theorem xb3:xqf c h u (xc7 xf) r_1 eNil=j1 (x3c c h u) 0:=(kq (j1 (x3c c h u) 0))
noncomputable abbrev xqg:=VX x1a 25 r_3
theorem xb4:xqg c h u (xc7 x1a) r_3 eNil=j2 (x4x c h u) 0 1:=(kq (j2 (x4x c h u) 0 1))
noncomputable abbrev xqh:=VX x24 18 r_16
theorem xb5:xqh c h u (xc7 x24) r_16 eNil=j2 (x4y c h u) 0 1:=(kq (j2 (x4y c h u) 0 1))
noncomputable abbrev xqi:=VX xq 18 r_1
theorem xb6:xqi c h u (xc7 xq) r_1 eNil=j1 (x4z c h u) 0:=(kq (j1 (x4z c h u) 0))
noncomputable abbrev xqj:=VX x25 13 r_3
theorem xb7:xqj c h u (xc7 x25) r_3 eNil=j2 (x51 c h u) 0 1:=(tq (j2 (x51 c h u) 0 1) (sqN 1 (sq2 (kq (j1 (x50 c h u) 0)) (bk 0 (lq (xz c h u) (λr=>j2 r 0 1) λrec0=>(kq (j2 (x2q c h u rec0) 0 1)))))))
noncomputable abbrev xqk:=VX x26 26 r_3
theorem xb8:xqk c h u (xc7 x26) r_3 eNil=j2 (x52 c h u) 0 1:=(kq (j2 (x52 c h u) 0 1))
noncomputable abbrev xql:=VX x27 21 r_15
theorem xb9:xql c h u (xc7 x27) r_15 eNil=j1 (x53 c h u) 0:=(kq (j1 (x53 c h u) 0))
noncomputable abbrev xqm:=VX x28 36 r_0
theorem xba:xqm c h u (xc7 x28) r_0 eNil=j3 (x2r c h u) 0 1 2:=(kq (j3 (x2r c h u) 0 1 2))
noncomputable abbrev xqn:=VX x29 20 r_0
theorem xbb:xqn c h u (xc7 x29) r_0 eNil=j3 (x54 c h u) 0 1 2:=(kq (j3 (x54 c h u) 0 1 2))
noncomputable abbrev xqo:=VX x2a 13 r_3
theorem xbc:xqo c h u (xc7 x2a) r_3 eNil=j2 (x55 c h u) 0 1:=(kq (j2 (x55 c h u) 0 1))
noncomputable abbrev xqp:=VX xh 34 r_17
theorem xbd:xqp c h u (xc7 xh) r_17 eNil=j3 (x57 c h u) 0 1 2:=(tq (j3 (x57 c h u) 0 1 2) (sqN 1 (bk 0 (lq (x2s c h u) (λr=>j5 r 0 1 2 9 10) λrec0=>(kq (j5 (x56 c h u rec0) 0 1 2 9 10))))))
noncomputable abbrev xqq:=VX xc 12 r_1
theorem xbe:xqq c h u (xc7 xc) r_1 eNil=j1 (x58 c h u) 0:=(kq (j1 (x58 c h u) 0))
noncomputable abbrev xqr:=VX xl 18 r_1
theorem xbf:xqr c h u (xc7 xl) r_1 eNil=j1 (x5a c h u) 0:=(tq (j1 (x5a c h u) 0) (sqN 2 (sq2 (kq (j1 (x81 c h u) 3)) (tq (j2 (x82 c h u) 0 3) (sqN 1 (bk 0 (lq (x2t c h u) (λr=>j4 r 3 6 7 8) λrec0=>(kq (j4 (x59 c h u rec0) 3 6 7 8)))))))))
noncomputable abbrev xqs:=VX x2b 37 r_3
theorem xbg:xqs c h u (xc7 x2b) r_3 eNil=j2 (x5b c h u) 0 1:=(kq (j2 (x5b c h u) 0 1))
noncomputable abbrev xqt:=VX x1b 20 r_3
theorem xbh:xqt c h u (xc7 x1b) r_3 eNil=j2 (x5c c h u) 0 1:=(kq (j2 (x5c c h u) 0 1))
noncomputable abbrev xqu:=VX x2c 36 r_3
theorem xbi:xqu c h u (xc7 x2c) r_3 eNil=j2 (x5e c h u) 0 1:=(tq (j2 (x5e c h u) 0 1) (sqN 1 (sq2 (kq (j2 (x83 c h u) 0 1)) (tq (j2 (x85 c h u) 0 1) (sqN 1 (bk 0 (lq (x5d c h u) (λr=>j5 r 0 1 9 10 11) λrec0=>(kq (j5 (x84 c h u rec0) 0 1 9 10 11)))))))))
noncomputable abbrev xqv:=VX x2d 22 r_0
theorem xbj:xqv c h u (xc7 x2d) r_0 eNil=j3 (x5f c h u) 0 1 2:=(kq (j3 (x5f c h u) 0 1 2))
noncomputable abbrev xqw:=VX x2e 24 r_18
theorem xbk:xqw c h u (xc7 x2e) r_18 eNil=j2 (x5h c h u) 0 1:=(tq (j2 (x5h c h u) 0 1) (sqN 1 (sq2 (kq (j0 (x86 c h u))) (tq (j2 (x87 c h u) 0 1) (sqN 1 (bk 0 (lq (x2u c h u) (λr=>j4 r 1 9 10 11) λrec0=>(kq (j4 (x5g c h u rec0) 1 9 10 11)))))))))
noncomputable abbrev xqx:=VX x2f 38 r_0
theorem xbl:xqx c h u (xc7 x2f) r_0 eNil=j3 (x5i c h u) 0 1 2:=(kq (j3 (x5i c h u) 0 1 2))
noncomputable abbrev xqy:=VX x11 51 r_18
theorem xa8:xqy c h u (xc7 x11) r_18 eNil=j2 (x5j c h u) 0 1:=(kq (j2 (x5j c h u) 0 1))
noncomputable abbrev xqz:=VX x1c 20 r_3
theorem xbm:xqz c h u (xc7 x1c) r_3 eNil=j2 (x5k c h u) 0 1:=(kq (j2 (x5k c h u) 0 1))
noncomputable abbrev xr0:=VX x1d 6 r_1
theorem xbn:xr0 c h u (xc7 x1d) r_1 eNil=j1 (x5l c h u) 0:=(kq (j1 (x5l c h u) 0))
noncomputable abbrev xr1:=VX x1e 15 r_0
theorem xbo:xr1 c h u (xc7 x1e) r_0 eNil=j3 (x5m c h u) 0 1 2:=(kq (j3 (x5m c h u) 0 1 2))
noncomputable abbrev xr2:=VX x2g 40 r_3
theorem xbp:xr2 c h u (xc7 x2g) r_3 eNil=j2 (x5n c h u) 0 1:=(tq (j2 (x5n c h u) 0 1) (sqN 3 (sq2 (sq2 (kq (j0 (x8j c h u))) (tq (j2 (x88 c h u) 1 6) (sqN 1 (bk 2 (lq (x3e c h u) (λr=>j3 r 1 31 32) λrec0=>(kq (j3 (xi c h u rec0) 1 31 32))))))) (tq (j2 (x89 c h u) 1 6) (sqN 1 (bk 0 (lq (x3f c h u) (λr=>j4 r 1 6 18 19) λs=>(kq (j4 (xj c h u s) 1 6 18 19)))))))))
noncomputable abbrev xr3:=VX x1f 24 r_1
theorem xbq:xr3 c h u (xc7 x1f) r_1 eNil=j1 (x5o c h u) 0:=(kq (j1 (x5o c h u) 0))
noncomputable abbrev xr4:=VX x1g 6 r_1
theorem xbr:xr4 c h u (xc7 x1g) r_1 eNil=j1 (x5p c h u) 0:=(kq (j1 (x5p c h u) 0))
noncomputable abbrev xr5:=VX x1h 15 r_3
theorem xbs:xr5 c h u (xc7 x1h) r_3 eNil=j2 (x5q c h u) 0 1:=(tq (j2 (x5q c h u) 0 1) (sqN 1 (sq2 (kq (j1 (x3g c h u) 0)) (kq (j2 (x8a c h u) 0 1)))))
noncomputable abbrev xr6:=VX x1i 7 r_1
theorem xbt:xr6 c h u (xc7 x1i) r_1 eNil=j1 (x5r c h u) 0:=(kq (j1 (x5r c h u) 0))
noncomputable abbrev xr7:=VX xr 7 r_1
theorem xbu:xr7 c h u (xc7 xr) r_1 eNil=j1 (x5s c h u) 0:=(kq (j1 (x5s c h u) 0))
end Go.Ix
