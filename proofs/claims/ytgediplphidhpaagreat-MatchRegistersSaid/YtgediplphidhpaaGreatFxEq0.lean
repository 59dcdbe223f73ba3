import Derived.Test.YtgediplphidhpaaGreatFxText0
import Derived.Test.YtgediplphidhpaaGreatFxEnt
import Derived.Test.YtgediplphidhpaaGreatFxRules
import Derived.Test.YtgediplphidhpaaGreatFxProj
import Derived.ProofKit
set_option linter.unusedVariables false
namespace Go.Ix
open Go.Proofs
variable{c:xnv}{h:FHs}{u:Nat}
noncomputable abbrev x16h:=VX x5t 67 r_0
theorem xkz:x16h c h u (xo3 x5t) r_0 eNil=j3 (x7y c h u) 0 1 2:=(tq (j3 (x7y c h u) 0 1 2) (sqN 6 (sq2 (tq (j8 (x34 c h u) 2 4 7 8 9 10 11 12) (sqN 1 (sq2 (kq (j6 (x5x c h u) 8 9 10 11 12 13)) (kq (j9 (x4m c h u) 2 4 7 8 9 10 11 12 13))))) (kq (j8 (x5y c h u) 2 4 7 8 9 10 11 12)))))
noncomputable abbrev x16i:=VX x3j 11 r_1
theorem xl0:x16i c h u (xo3 x3j) r_1 eNil=j1 (x80 c h u) 0:=(kq (j1 (x80 c h u) 0))
noncomputable abbrev x16j:=VX x26 10 r_2
theorem xl1:x16j c h u (xo3 x26) r_2 eNil=j1 (x81 c h u) 0:=(kq (j1 (x81 c h u) 0))
noncomputable abbrev x16k:=VX x27 73 r_3
theorem xl2:x16k c h u (xo3 x27) r_3 eNil=j3 (x61 c h u) 0 1 2:=(tq (j3 (x61 c h u) 0 1 2) (sqN 2 (sq2 (tq (j7 (x4p c h u) 2 3 4 6 7 10 11) (sqN 2 (sq2 (kq (j5 (x5z c h u) 2 3 6 7 12)) (tq (j7 (xf5 c h u) 2 3 4 6 7 10 12) (sqN 1 (bk 0 (lq (x4o c h u) (λr=>j9 r 2 3 6 7 10 12 37 38 39) λrec0=>(kq (j9 (x82 c h u rec0) 2 3 6 7 10 12 37 38 39))))))))) (kq (j7 (x83 c h u) 2 3 4 6 7 10 11)))))
noncomputable abbrev x16l:=VX x3k 13 r_1
theorem xl3:x16l c h u (xo3 x3k) r_1 eNil=j1 (x84 c h u) 0:=(kq (j1 (x84 c h u) 0))
noncomputable abbrev x16m:=VX x3l 37 r_1
theorem xl4:x16m c h u (xo3 x3l) r_1 eNil=j1 (x85 c h u) 0:=(kq (j1 (x85 c h u) 0))
noncomputable abbrev x16n:=VX x3m 73 r_4
theorem xl5:x16n c h u (xo3 x3m) r_4 eNil=j3 (x87 c h u) 0 1 2:=(tq (j3 (x87 c h u) 0 1 2) (sqN 6 (sq2 (kq (j4 (x35 c h u) 2 3 6 10)) (tq (j6 (xf6 c h u) 2 3 6 8 10 11) (sqN 1 (bk 0 (lq (x4q c h u) (λr=>j7 r 2 3 6 8 10 11 12) λrec0=>(kq (j7 (x86 c h u rec0) 2 3 6 8 10 11 12)))))))))
noncomputable abbrev x16o:=VX x28 24 r_5
theorem xl6:x16o c h u (xo3 x28) r_5 eNil=j2 (x88 c h u) 0 1:=(kq (j2 (x88 c h u) 0 1))
noncomputable abbrev x16p:=VX x3n 26 r_5
theorem xl7:x16p c h u (xo3 x3n) r_5 eNil=j2 (x8a c h u) 0 1:=(tq (j2 (x8a c h u) 0 1) (sqN 2 (sq2 (kq (j0 (xf7 c h u))) (tq (j2 (xf8 c h u) 0 1) (sqN 1 (bk 0 (lq (x4r c h u) (λr=>j3 r 0 1 5) λrec0=>(kq (j3 (x89 c h u rec0) 0 1 5)))))))))
noncomputable abbrev x16q:=VX x3o 35 r_6
theorem xl8:x16q c h u (xo3 x3o) r_6 eNil=j3 (x8c c h u) 0 1 2:=(tq (j3 (x8c c h u) 0 1 2) (sqN 2 (sq2 (kq (j2 (xf9 c h u) 6 7)) (tq (j3 (xfb c h u) 2 6 7) (sqN 1 (bk 0 (lq (x62 c h u) (λr=>j4 r 2 6 7 8) λrec0=>(kq (j4 (xfa c h u rec0) 2 6 7 8)))))))))
noncomputable abbrev x16r:=VX x29 7 r_1
theorem xl9:x16r c h u (xo3 x29) r_1 eNil=j1 (x8d c h u) 0:=(kq (j1 (x8d c h u) 0))
noncomputable abbrev x16s:=VX x2a 10 r_7
theorem xla:x16s c h u (xo3 x2a) r_7 eNil=j1 (x8e c h u) 0:=(kq (j1 (x8e c h u) 0))
noncomputable abbrev x16t:=VX x2b 69 r_8
theorem xlb:x16t c h u (xo3 x2b) r_8 eNil=j2 (x4v c h u) 0 1:=(tq (j2 (x4v c h u) 0 1) (sqN 3 (sq2 (kq (j2 (x63 c h u) 8 9)) (tq (j5 (x64 c h u) 3 6 7 8 9) (sqN 1 (bk 0 (lq (x1u c h u) (λr=>j7 r 3 6 8 9 21 22 23) λrec0=>(tq (j7 (x4u c h u rec0) 3 6 8 9 21 22 23) (sqN 2 (sq2 (kq (j7 (x4s c h u rec0) 3 6 8 9 21 22 23)) (kq (j7 (xfc c h u rec0) 3 6 8 9 21 22 23))))))))))))
noncomputable abbrev x16u:=VX x2c 5 r_1
theorem xlc:x16u c h u (xo3 x2c) r_1 eNil=j1 (x8f c h u) 0:=(kq (j1 (x8f c h u) 0))
noncomputable abbrev x16v:=VX x2d 44 r_5
theorem xld:x16v c h u (xo3 x2d) r_5 eNil=j2 (x8i c h u) 0 1:=(tq (j2 (x8i c h u) 0 1) (sqN 2 (sq2 (kq (j1 (xfd c h u) 5)) (tq (j3 (xff c h u) 0 1 5) (sqN 1 (bk 0 (lq (x4w c h u) (λr=>j6 r 0 1 5 9 10 11) λrec0=>(tq (j6 (x8h c h u rec0) 0 1 5 9 10 11) (sqN 2 (sq2 (kq (j6 (x8g c h u rec0) 0 1 5 9 10 11)) (kq (j6 (xfe c h u rec0) 0 1 5 9 10 11))))))))))))
noncomputable abbrev x16w:=VX x2e 54 r_1
theorem xle:x16w c h u (xo3 x2e) r_1 eNil=j1 (x8m c h u) 0:=(tq (j1 (x8m c h u) 0) (sqN 5 (sq2 (kq (j1 (x8j c h u) 5)) (tq (j4 (xfi c h u) 0 3 4 5) (sqN 1 (bk 0 (lq (x1a c h u) (λr=>j6 r 3 4 5 21 22 23) λrec0=>(tq (j6 (x4x c h u rec0) 3 4 5 21 22 23) (sqN 2 (sq2 (kq (j6 (x65 c h u rec0) 3 4 5 21 22 23)) (kq (j6 (x8k c h u rec0) 3 4 5 21 22 23))))))))))))
noncomputable abbrev x16x:=VX x2f 141 r_9
theorem xlf:x16x c h u (xo3 x2f) r_9 eNil=j1 (x8q c h u) 0:=(tq (j1 (x8q c h u) 0) (sqN 3 (sq2 (tq (j3 (x6a c h u) 2 3 4) (sqN 2 (sq2 (tq (j3 (xfm c h u) 2 10 11) (sqN 1 (sq2 (kq (j2 (xfj c h u) 2 10)) (tq (j3 (xfl c h u) 2 10 11) (sqN 1 (bk 8 (lq (x8n c h u) (λr=>j4 r 2 10 11 120) λrec0=>(kq (j4 (xfk c h u rec0) 2 10 11 120))))))))) (tq (j5 (xfn c h u) 2 3 4 10 11) (sqN 1 (bk 6 (lq (x12 c h u) (λr=>j6 r 2 3 4 10 11 82) λs=>(kq (j6 (x4y c h u s) 2 3 4 10 11 82))))))))) (tq (j4 (xfp c h u) 0 2 3 4) (sqN 1 (bk 0 (lq (x50 c h u) (λr=>j6 r 2 3 4 14 15 16) λw=>(tq (j6 (x8p c h u w) 2 3 4 14 15 16) (sqN 2 (sq2 (kq (j6 (xfo c h u w) 2 3 4 14 15 16)) (bk 1 (tq (j6 (x8o c h u w) 2 3 4 14 15 16) (sqN 3 (bk 2 (lq (xm c h u w) (λr=>j9 r 2 3 4 6 7 14 15 16 25) λz=>(tq (j9 (x4z c h u w z) 2 3 4 6 7 14 15 16 25) (sqN 2 (sq2 (kq (j9 (x6b c h u w z) 2 3 4 6 7 14 15 16 25)) (bk 3 (tq (j9 (x6f c h u w z) 2 3 4 6 7 14 15 16 25) (sqN 1 (sq2 (kq (j10 (x6c c h u w z) 2 3 4 6 7 8 14 15 16 25)) (tq (j10 (x6e c h u w z) 2 3 4 6 7 8 14 15 16 25) (sqN 1 (bk 4 (lq (x1b c h u w z) (λr=>j11 r 2 3 4 6 7 8 14 15 16 25 28) λy=>(kq (j11 (x6d c h u w z y) 2 3 4 6 7 8 14 15 16 25 28))))))))))))))))))))))))))))
noncomputable abbrev x16y:=VX x2g 53 r_10
theorem xlg:x16y c h u (xo3 x2g) r_10 eNil=j2 (x8v c h u) 0 1:=(tq (j2 (x8v c h u) 0 1) (sqN 2 (sq2 (kq (j2 (x8r c h u) 4 5)) (tq (j4 (xfs c h u) 2 3 4 5) (sqN 1 (bk 0 (lq (x36 c h u) (λr=>j6 r 2 3 4 5 15 16) λrec0=>(tq (j6 (x8u c h u rec0) 2 3 4 5 15 16) (sqN 2 (sq2 (kq (j6 (x8s c h u rec0) 2 3 4 5 15 16)) (bk 1 (tq (j6 (xfr c h u rec0) 2 3 4 5 15 16) (sqN 2 (bk 2 (lq (x51 c h u rec0) (λr=>j9 r 2 3 4 5 6 15 16 20 21) λs=>(kq (j9 (x8t c h u rec0 s) 2 3 4 5 6 15 16 20 21)))))))))))))))))
noncomputable abbrev x16z:=VX x2h 11 r_1
theorem xlh:x16z c h u (xo3 x2h) r_1 eNil=j1 (x8w c h u) 0:=(kq (j1 (x8w c h u) 0))
noncomputable abbrev x170:=VX xf 15 r_0
theorem xli:x170 c h u (xo3 xf) r_0 eNil=j3 (x8x c h u) 0 1 2:=(kq (j3 (x8x c h u) 0 1 2))
noncomputable abbrev x171:=VX x3p 77 r_8
theorem xlj:x171 c h u (xo3 x3p) r_8 eNil=j2 (x6h c h u) 0 1:=(tq (j2 (x6h c h u) 0 1) (sqN 4 (sq2 (kq (j1 (xft c h u) 8)) (tq (j4 (xfu c h u) 2 3 6 8) (sqN 1 (bk 0 (lq (x1v c h u) (λr=>j5 r 2 3 6 8 9) λrec0=>(tq (j5 (x6g c h u rec0) 2 3 6 8 9) (sqN 1 (sq2 (kq (j5 (x52 c h u rec0) 2 3 6 8 9)) (kq (j5 (x8y c h u rec0) 2 3 6 8 9))))))))))))
noncomputable abbrev x172:=VX x2i 5 r_1
theorem xlk:x172 c h u (xo3 x2i) r_1 eNil=j1 (x8z c h u) 0:=(kq (j1 (x8z c h u) 0))
noncomputable abbrev x173:=VX x2j 50 r_5
theorem xll:x173 c h u (xo3 x2j) r_5 eNil=j2 (x6i c h u) 0 1:=(tq (j2 (x6i c h u) 0 1) (sqN 4 (sq2 (kq (j1 (xfv c h u) 6)) (tq (j4 (xfx c h u) 0 1 5 6) (sqN 1 (bk 0 (lq (x53 c h u) (λr=>j5 r 0 1 5 6 7) λrec0=>(tq (j5 (x91 c h u rec0) 0 1 5 6 7) (sqN 1 (sq2 (kq (j5 (x90 c h u rec0) 0 1 5 6 7)) (kq (j5 (xfw c h u rec0) 0 1 5 6 7))))))))))))
noncomputable abbrev x174:=VX x1h 82 r_1
theorem xlm:x174 c h u (xo3 x1h) r_1 eNil=j1 (x97 c h u) 0:=(tq (j1 (x97 c h u) 0) (sqN 3 (sq2 (kq (j1 (xfy c h u) 3)) (tq (j2 (xg2 c h u) 0 3) (sqN 1 (bk 0 (lq (x37 c h u) (λr=>j3 r 0 3 4) λrec0=>(tq (j3 (x96 c h u rec0) 0 3 4) (sqN 1 (sq2 (kq (j3 (x92 c h u rec0) 0 3 4)) (bk 1 (tq (j3 (xg1 c h u rec0) 0 3 4) (sqN 1 (bk 2 (lq (x1c c h u rec0) (λr=>j4 r 0 3 4 5) λs=>(tq (j4 (x95 c h u rec0 s) 0 3 4 5) (sqN 1 (sq2 (kq (j4 (x93 c h u rec0 s) 0 3 4 5)) (bk 3 (tq (j4 (xg0 c h u rec0 s) 0 3 4 5) (sqN 2 (sq2 (kq (j8 (x94 c h u rec0 s) 0 3 4 5 6 7 8 9)) (kq (j8 (xfz c h u rec0 s) 0 3 4 5 6 7 8 9))))))))))))))))))))))))
noncomputable abbrev x175:=VX x2k 162 r_9
theorem xln:x175 c h u (xo3 x2k) r_9 eNil=j1 (x9c c h u) 0:=(tq (j1 (x9c c h u) 0) (sqN 3 (sq2 (tq (j3 (x6l c h u) 2 3 4) (sqN 1 (sq2 (tq (j2 (xg9 c h u) 2 9) (sqN 1 (sq2 (tq (j3 (xg6 c h u) 2 9 11) (sqN 1 (sq2 (kq (j2 (xg3 c h u) 2 9)) (tq (j3 (xg5 c h u) 2 9 11) (sqN 1 (bk 10 (lq (x98 c h u) (λr=>j4 r 2 9 11 13) λrec0=>(kq (j4 (xg4 c h u rec0) 2 9 11 13))))))))) (tq (j3 (xg8 c h u) 2 9 11) (sqN 1 (bk 8 (lq (x99 c h u) (λr=>j4 r 2 9 11 12) λs=>(kq (j4 (xg7 c h u s) 2 9 11 12))))))))) (tq (j4 (xga c h u) 2 3 4 9) (sqN 1 (bk 6 (lq (x13 c h u) (λr=>j5 r 2 3 4 9 10) λw=>(kq (j5 (x54 c h u w) 2 3 4 9 10))))))))) (tq (j4 (xgd c h u) 0 2 3 4) (sqN 1 (bk 0 (lq (x56 c h u) (λr=>j5 r 0 2 3 4 5) λz=>(tq (j5 (x9b c h u z) 0 2 3 4 5) (sqN 1 (sq2 (kq (j5 (xgb c h u z) 0 2 3 4 5)) (bk 1 (tq (j5 (x9a c h u z) 0 2 3 4 5) (sqN 2 (bk 2 (lq (xn c h u z) (λr=>j7 r 0 2 3 4 5 6 7) λy=>(tq (j7 (x55 c h u z y) 0 2 3 4 5 6 7) (sqN 1 (sq2 (kq (j7 (x6m c h u z y) 0 2 3 4 5 6 7)) (bk 3 (sq2 (kq (j7 (x6n c h u z y) 0 2 3 4 5 6 7)) (tq (j7 (x6p c h u z y) 0 2 3 4 5 6 7) (sqN 1 (bk 4 (lq (x1d c h u z y) (λr=>j8 r 0 2 3 4 5 6 7 8) λx=>(kq (j8 (x6o c h u z y x) 0 2 3 4 5 6 7 8))))))))))))))))))))))))))
noncomputable abbrev x176:=VX x2l 60 r_10
theorem xlo:x176 c h u (xo3 x2l) r_10 eNil=j2 (x9h c h u) 0 1:=(tq (j2 (x9h c h u) 0 1) (sqN 2 (sq2 (kq (j2 (x9d c h u) 4 5)) (tq (j4 (xgf c h u) 2 3 4 5) (sqN 1 (bk 0 (lq (x38 c h u) (λr=>j5 r 2 3 4 5 6) λrec0=>(tq (j5 (x9g c h u rec0) 2 3 4 5 6) (sqN 1 (sq2 (kq (j5 (x9e c h u rec0) 2 3 4 5 6)) (bk 1 (tq (j5 (xge c h u rec0) 2 3 4 5 6) (sqN 1 (bk 2 (lq (x57 c h u rec0) (λr=>j6 r 2 3 4 5 6 7) λs=>(kq (j6 (x9f c h u rec0 s) 2 3 4 5 6 7)))))))))))))))))
noncomputable abbrev x177:=VX x3q 45 r_5
theorem xlp:x177 c h u (xo3 x3q) r_5 eNil=j2 (x9j c h u) 0 1:=(tq (j2 (x9j c h u) 0 1) (sqN 2 (sq2 (kq (j0 (xgg c h u))) (tq (j2 (xgh c h u) 0 1) (sqN 1 (bk 0 (lq (x59 c h u) (λr=>j3 r 0 1 5) λrec0=>(kq (j3 (x9i c h u rec0) 0 1 5)))))))))
noncomputable abbrev x178:=VX x3r 29 r_11
theorem xlq:x178 c h u (xo3 x3r) r_11 eNil=j1 (x9m c h u) 0:=(tq (j1 (x9m c h u) 0) (sqN 1 (sq2 (kq (j2 (xgi c h u) 1 2)) (tq (j2 (xgk c h u) 1 2) (sqN 1 (bk 0 (lq (x9l c h u) (λr=>j4 r 1 2 11 12) λrec0=>(kq (j4 (xgj c h u rec0) 1 2 11 12)))))))))
noncomputable abbrev x179:=VX x1i 91 r_12
theorem xlr:x179 c h u (xo3 x1i) r_12 eNil=j3 (x6t c h u) 0 1 2:=(tq (j3 (x6t c h u) 0 1 2) (sqN 6 (sq2 (sq2 (kq (j4 (x6q c h u) 6 9 10 11)) (tq (j7 (x9n c h u) 3 4 6 9 10 11 12) (sqN 1 (bk 2 (tq (j6 (xgm c h u) 6 9 10 11 12 55) (rg (.tmp 55) #[56,57] (λu=>(kq (j5 (xgl c h u) 9 10 12 15 16))) (λu=>(kq (j5 (x6r c h u) 9 10 12 56 57))))))))) (tq (j8 (xgp c h u) 3 4 6 8 9 10 11 12) (sqN 1 (bk 0 (tq (j8 (xgo c h u) 3 4 6 9 10 11 12 41) (rg (.tmp 41) #[42,43] (λu=>(kq (j3 (xgn c h u) 11 12 14))) (λu=>(kq (j3 (x6s c h u) 11 12 43)))))))))))
noncomputable abbrev x17a:=VX xo 15 r_0
theorem xls:x17a c h u (xo3 xo) r_0 eNil=j3 (x9p c h u) 0 1 2:=(kq (j3 (x9p c h u) 0 1 2))
noncomputable abbrev x17b:=VX x3s 57 r_13
theorem xlt:x17b c h u (xo3 x3s) r_13 eNil=j3 (x9r c h u) 0 1 2:=(tq (j3 (x9r c h u) 0 1 2) (sqN 3 (sq2 (kq (j3 (xgq c h u) 6 8 9)) (tq (j6 (xgs c h u) 2 3 4 6 8 9) (sqN 1 (bk 0 (lq (x1x c h u) (λr=>j7 r 2 3 4 6 8 9 10) λrec0=>(tq (j7 (x9q c h u rec0) 2 3 4 6 8 9 10) (sqN 1 (sq2 (kq (j7 (x6u c h u rec0) 2 3 4 6 8 9 10)) (bk 1 (tq (j7 (xgr c h u rec0) 2 3 4 6 8 9 10) (sqN 1 (bk 2 (lq (x3a c h u rec0) (λr=>j8 r 2 3 4 6 8 9 10 11) λs=>(tq (j8 (x39 c h u rec0 s) 2 3 4 6 8 9 10 11) (sqN 1 (sq2 (kq (j8 (x6v c h u rec0 s) 2 3 4 6 8 9 10 11)) (kq (j8 (x5b c h u rec0 s) 2 3 4 6 8 9 10 11))))))))))))))))))))
noncomputable abbrev x17c:=VX x3t 11 r_1
theorem xlu:x17c c h u (xo3 x3t) r_1 eNil=j1 (x9s c h u) 0:=(kq (j1 (x9s c h u) 0))
noncomputable abbrev x17d:=VX x3u 91 r_0
theorem xlv:x17d c h u (xo3 x3u) r_0 eNil=j3 (x9x c h u) 0 1 2:=(tq (j3 (x9x c h u) 0 1 2) (sqN 4 (sq2 (kq (j3 (x9t c h u) 9 10 11)) (tq (j6 (xgu c h u) 3 7 8 9 10 11) (sqN 1 (bk 0 (lq (x3b c h u) (λr=>j9 r 3 7 8 9 10 11 38 39 40) λrec0=>(tq (j9 (x9w c h u rec0) 3 7 8 9 10 11 38 39 40) (sqN 2 (sq2 (kq (j9 (x9u c h u rec0) 3 7 8 9 10 11 38 39 40)) (bk 1 (tq (j9 (xgt c h u rec0) 3 7 8 9 10 11 38 39 40) (sqN 2 (bk 2 (lq (x5c c h u rec0) (λr=>j14 r 3 7 8 9 10 11 12 13 38 39 40 46 47 48) λs=>(kq (j14 (x9v c h u rec0 s) 3 7 8 9 10 11 12 13 38 39 40 46 47 48)))))))))))))))))
noncomputable abbrev x17e:=VX x2m 68 r_14
theorem xlw:x17e c h u (xo3 x2m) r_14 eNil=j2 (x5d c h u) 0 1:=(tq (j2 (x5d c h u) 0 1) (sqN 5 (sq2 (kq (j3 (x6x c h u) 4 7 10)) (tq (j5 (x9z c h u) 2 3 4 7 10) (sqN 1 (bk 0 (lq (x1y c h u) (λr=>j6 r 2 3 4 7 10 11) λrec0=>(tq (j6 (x6z c h u rec0) 2 3 4 7 10 11) (sqN 1 (sq2 (kq (j6 (x9y c h u rec0) 2 3 4 7 10 11)) (bk 1 (tq (j6 (xgw c h u rec0) 2 3 4 7 10 11) (sqN 1 (bk 2 (lq (x3c c h u rec0) (λr=>j7 r 2 3 4 7 10 11 12) λs=>(kq (j7 (x6y c h u rec0 s) 2 3 4 7 10 11 12)))))))))))))))))
noncomputable abbrev x17f:=VX x2n 25 r_1
theorem xlx:x17f c h u (xo3 x2n) r_1 eNil=j1 (xa0 c h u) 0:=(kq (j1 (xa0 c h u) 0))
noncomputable abbrev x17g:=VX x3v 38 r_15
theorem xly:x17g c h u (xo3 x3v) r_15 eNil=j1 (xa3 c h u) 0:=(tq (j1 (xa3 c h u) 0) (sqN 2 (sq2 (kq (j2 (xgx c h u) 2 3)) (tq (j3 (xh2 c h u) 0 2 3) (sqN 1 (bk 0 (lq (xw c h u) (λr=>j4 r 0 2 3 8) λrec0=>(tq (j4 (xa2 c h u rec0) 0 2 3 8) (sqN 2 (sq2 (kq (j4 (xgy c h u rec0) 0 2 3 8)) (bk 1 (tq (j4 (xh1 c h u rec0) 0 2 3 8) (sqN 2 (sq2 (kq (j6 (x70 c h u rec0) 0 2 3 4 5 8)) (tq (j6 (xh0 c h u rec0) 0 2 3 4 5 8) (sqN 1 (bk 2 (lq (x3d c h u rec0) (λr=>j9 r 0 2 3 4 5 8 11 12 13) λs=>(kq (j9 (xa1 c h u rec0 s) 0 2 3 4 5 8 11 12 13))))))))))))))))))))
noncomputable abbrev x17h:=VX xh 7 r_1
theorem xlz:x17h c h u (xo3 xh) r_1 eNil=j1 (x71 c h u) 0:=(kq (j1 (x71 c h u) 0))
noncomputable abbrev x17i:=VX x2o 13 r_5
theorem xm0:x17i c h u (xo3 x2o) r_5 eNil=j2 (xa5 c h u) 0 1:=(tq (j2 (xa5 c h u) 0 1) (sqN 1 (sq2 (kq (j1 (xa4 c h u) 0)) (bk 0 (lq (x1z c h u) (λr=>j2 r 0 1) λrec0=>(kq (j2 (x5e c h u rec0) 0 1)))))))
noncomputable abbrev x17j:=VX x3w 27 r_16
theorem xm1:x17j c h u (xo3 x3w) r_16 eNil=j3 (xa6 c h u) 0 1 2:=(kq (j3 (xa6 c h u) 0 1 2))
noncomputable abbrev x17k:=VX x3x 35 r_17
theorem xm2:x17k c h u (xo3 x3x) r_17 eNil=j1 (xa8 c h u) 0:=(tq (j1 (xa8 c h u) 0) (sqN 2 (sq2 (kq (j0 (xh4 c h u))) (tq (j1 (xh5 c h u) 1) (sqN 1 (bk 0 (lq (x5f c h u) (λr=>j2 r 1 5) λrec0=>(kq (j2 (xa7 c h u rec0) 1 5)))))))))
noncomputable abbrev x17l:=VX x3y 47 r_8
theorem xm3:x17l c h u (xo3 x3y) r_8 eNil=j2 (x75 c h u) 0 1:=(tq (j2 (x75 c h u) 0 1) (sqN 2 (sq2 (kq (j1 (x72 c h u) 6)) (tq (j3 (xaa c h u) 2 3 6) (sqN 1 (bk 0 (lq (x20 c h u) (λr=>j4 r 2 3 6 7) λrec0=>(tq (j4 (x74 c h u rec0) 2 3 6 7) (sqN 1 (sq2 (kq (j4 (xa9 c h u rec0) 2 3 6 7)) (bk 1 (tq (j4 (xh6 c h u rec0) 2 3 6 7) (sqN 1 (bk 2 (lq (x3e c h u rec0) (λr=>j5 r 2 3 6 7 8) λs=>(kq (j5 (x73 c h u rec0 s) 2 3 6 7 8)))))))))))))))))
noncomputable abbrev x17m:=VX x3z 78 r_18
theorem xm4:x17m c h u (xo3 x3z) r_18 eNil=j3 (xaf c h u) 0 1 2:=(tq (j3 (xaf c h u) 0 1 2) (sqN 3 (sq2 (kq (j5 (xab c h u) 6 7 9 10 11)) (tq (j8 (xh9 c h u) 2 3 4 6 7 9 10 11) (sqN 1 (bk 0 (lq (x22 c h u) (λr=>j9 r 2 3 4 6 7 9 10 11 12) λrec0=>(tq (j9 (xae c h u rec0) 2 3 4 6 7 9 10 11 12) (sqN 1 (sq2 (kq (j9 (xac c h u rec0) 2 3 4 6 7 9 10 11 12)) (bk 1 (tq (j9 (xh8 c h u rec0) 2 3 4 6 7 9 10 11 12) (sqN 1 (bk 2 (lq (x3h c h u rec0) (λr=>j10 r 2 3 4 6 7 9 10 11 12 13) λs=>(tq (j10 (xad c h u rec0 s) 2 3 4 6 7 9 10 11 12 13) (sqN 1 (sq2 (kq (j10 (x76 c h u rec0 s) 2 3 4 6 7 9 10 11 12 13)) (bk 3 (tq (j10 (xh7 c h u rec0 s) 2 3 4 6 7 9 10 11 12 13) (sqN 1 (bk 4 (lq (x3g c h u rec0 s) (λr=>j11 r 2 3 4 6 7 9 10 11 12 13 14) λw=>(tq (j11 (x21 c h u rec0 s w) 2 3 4 6 7 9 10 11 12 13 14) (sqN 1 (sq2 (kq (j11 (x5g c h u rec0 s w) 2 3 4 6 7 9 10 11 12 13 14)) (kq (j11 (x3f c h u rec0 s w) 2 3 4 6 7 9 10 11 12 13 14))))))))))))))))))))))))))))
noncomputable abbrev x17n:=VX x1j 47 r_19
theorem xm5:x17n c h u (xo3 x1j) r_19 eNil=j4 (xah c h u) 0 1 2 3:=(tq (j4 (xah c h u) 0 1 2 3) (sqN 1 (bk 0 (lq (x5h c h u) (λr=>j4 r 0 1 2 3) λrec0=>(kq (j4 (xag c h u rec0) 0 1 2 3))))))
noncomputable abbrev x17o:=VX x40 19 r_1
theorem xm6:x17o c h u (xo3 x40) r_1 eNil=j1 (xak c h u) 0:=(tq (j1 (xak c h u) 0) (sqN 2 (sq2 (kq (j1 (xai c h u) 3)) (bk 0 (lq (x5i c h u) (λr=>j2 r 1 3) λrec0=>(kq (j2 (xaj c h u rec0) 1 3)))))))
noncomputable abbrev x17p:=VX x41 42 r_15
theorem xm7:x17p c h u (xo3 x41) r_15 eNil=j1 (xas c h u) 0:=(tq (j1 (xas c h u) 0) (sqN 2 (sq2 (kq (j2 (xha c h u) 2 3)) (tq (j3 (xhe c h u) 0 2 3) (sqN 1 (bk 0 (lq (x1f c h u) (λr=>j4 r 0 2 3 4) λrec0=>(tq (j4 (xar c h u rec0) 0 2 3 4) (sqN 1 (sq2 (kq (j4 (xal c h u rec0) 0 2 3 4)) (bk 1 (tq (j4 (xhd c h u rec0) 0 2 3 4) (sqN 1 (bk 2 (lq (x1e c h u rec0) (λr=>j5 r 0 2 3 4 5) λs=>(tq (j5 (xaq c h u rec0 s) 0 2 3 4 5) (sqN 1 (sq2 (kq (j5 (xhb c h u rec0 s) 0 2 3 4 5)) (bk 3 (tq (j5 (xap c h u rec0 s) 0 2 3 4 5) (sqN 1 (sq2 (kq (j6 (x77 c h u rec0 s) 0 2 3 4 5 6)) (tq (j6 (xao c h u rec0 s) 0 2 3 4 5 6) (sqN 1 (bk 4 (lq (x5j c h u rec0 s) (λr=>j7 r 0 2 3 4 5 6 7) λw=>(tq (j7 (xan c h u rec0 s w) 0 2 3 4 5 6 7) (sqN 1 (sq2 (kq (j7 (xam c h u rec0 s w) 0 2 3 4 5 6 7)) (kq (j7 (xhc c h u rec0 s w) 0 2 3 4 5 6 7)))))))))))))))))))))))))))))))
noncomputable abbrev x17q:=VX xy 7 r_1
theorem xm8:x17q c h u (xo3 xy) r_1 eNil=j1 (xat c h u) 0:=(kq (j1 (xat c h u) 0))
noncomputable abbrev x17r:=VX x1k 13 r_5
theorem xm9:x17r c h u (xo3 x1k) r_5 eNil=j2 (xav c h u) 0 1:=(tq (j2 (xav c h u) 0 1) (sqN 1 (sq2 (kq (j1 (xau c h u) 0)) (bk 0 (lq (x23 c h u) (λr=>j2 r 0 1) λrec0=>(kq (j2 (x5k c h u rec0) 0 1)))))))
noncomputable abbrev x17s:=VX x42 34 r_16
theorem xma:x17s c h u (xo3 x42) r_16 eNil=j3 (xaw c h u) 0 1 2:=(kq (j3 (xaw c h u) 0 1 2))
noncomputable abbrev x17t:=VX x43 108 r_20
theorem xmb:x17t c h u (xo3 x43) r_20 eNil=j3 (xb4 c h u) 0 1 2:=(tq (j3 (xb4 c h u) 0 1 2) (sqN 4 (sq2 (tq (j7 (x78 c h u) 3 8 9 10 11 12 13) (sqN 1 (sq2 (kq (j4 (xay c h u) 11 13 14 15)) (tq (j9 (xhg c h u) 3 8 9 10 11 12 13 14 15) (sqN 1 (bk 0 (lq (x3i c h u) (λr=>j10 r 3 8 9 10 11 12 13 14 15 16) λrec0=>(tq (j10 (xb3 c h u rec0) 3 8 9 10 11 12 13 14 15 16) (sqN 1 (sq2 (kq (j10 (xaz c h u rec0) 3 8 9 10 11 12 13 14 15 16)) (bk 1 (tq (j10 (xhf c h u rec0) 3 8 9 10 11 12 13 14 15 16) (sqN 1 (bk 2 (lq (x5l c h u rec0) (λr=>j11 r 3 8 9 10 11 12 13 14 15 16 17) λs=>(kq (j11 (xb2 c h u rec0 s) 3 8 9 10 11 12 13 14 15 16 17))))))))))))))))) (kq (j7 (xhh c h u) 3 8 9 10 11 12 13)))))
noncomputable abbrev x17u:=VX x2p 14 r_5
theorem xmc:x17u c h u (xo3 x2p) r_5 eNil=j2 (xb5 c h u) 0 1:=(kq (j2 (xb5 c h u) 0 1))
noncomputable abbrev x17v:=VX x44 25 r_5
theorem xmd:x17v c h u (xo3 x44) r_5 eNil=j2 (xb6 c h u) 0 1:=(kq (j2 (xb6 c h u) 0 1))
noncomputable abbrev x17w:=VX x45 18 r_21
theorem xme:x17w c h u (xo3 x45) r_21 eNil=j2 (xb7 c h u) 0 1:=(kq (j2 (xb7 c h u) 0 1))
noncomputable abbrev x17x:=VX x2q 6 r_5
theorem xmf:x17x c h u (xo3 x2q) r_5 eNil=j2 (xb8 c h u) 0 1:=(kq (j2 (xb8 c h u) 0 1))
noncomputable abbrev x17y:=VX x1l 18 r_1
theorem xmg:x17y c h u (xo3 x1l) r_1 eNil=j1 (xb9 c h u) 0:=(kq (j1 (xb9 c h u) 0))
noncomputable abbrev x17z:=VX x46 26 r_5
theorem xmh:x17z c h u (xo3 x46) r_5 eNil=j2 (xba c h u) 0 1:=(kq (j2 (xba c h u) 0 1))
noncomputable abbrev x180:=VX x47 21 r_17
theorem xmi:x180 c h u (xo3 x47) r_17 eNil=j1 (xbb c h u) 0:=(kq (j1 (xbb c h u) 0))
noncomputable abbrev x181:=VX x1m 16 r_5
theorem xmj:x181 c h u (xo3 x1m) r_5 eNil=j2 (xbc c h u) 0 1:=(tq (j2 (xbc c h u) 0 1) (sqN 2 (sq2 (kq (j1 (x7a c h u) 5)) (kq (j3 (xhi c h u) 0 1 5)))))
noncomputable abbrev x182:=VX x2r 36 r_0
theorem xmk:x182 c h u (xo3 x2r) r_0 eNil=j3 (x5m c h u) 0 1 2:=(kq (j3 (x5m c h u) 0 1 2))
noncomputable abbrev x183:=VX x2s 12 r_5
theorem xml:x183 c h u (xo3 x2s) r_5 eNil=j2 (xbd c h u) 0 1:=(kq (j2 (xbd c h u) 0 1))
noncomputable abbrev x184:=VX x48 40 r_1
theorem xmm:x184 c h u (xo3 x48) r_1 eNil=j1 (xbe c h u) 0:=(kq (j1 (xbe c h u) 0))
noncomputable abbrev x185:=VX x1g 51 r_8
theorem xky:x185 c h u (xo3 x1g) r_8 eNil=j2 (xbf c h u) 0 1:=(kq (j2 (xbf c h u) 0 1))
noncomputable abbrev x186:=VX x49 135 r_20
theorem xmn:x186 c h u (xo3 x49) r_20 eNil=j3 (x7d c h u) 0 1 2:=(tq (j3 (x7d c h u) 0 1 2) (sqN 1 (sq2 (sq2 (tq (j3 (xbj c h u) 0 1 2) (sqN 11 (sq2 (tq (j8 (xbh c h u) 2 8 9 10 11 13 14 15) (sqN 3 (sq2 (kq (j6 (x7b c h u) 2 8 14 15 17 18)) (bk 2 (lq (x5n c h u) (λr=>j9 r 2 8 9 10 14 15 16 17 18) λrec0=>(kq (j9 (xbg c h u rec0) 2 8 9 10 14 15 16 17 18))))))) (bk 0 (lq (xbi c h u) (λr=>j9 r 2 8 9 10 11 13 14 15 16) λs=>(kq (j9 (xhj c h u s) 2 8 9 10 11 13 14 15 16))))))) (kq (j3 (xbk c h u) 0 1 2))) (kq (j3 (xbl c h u) 0 1 2)))))
noncomputable abbrev x187:=VX x1n 12 r_5
theorem xmo:x187 c h u (xo3 x1n) r_5 eNil=j2 (xbm c h u) 0 1:=(kq (j2 (xbm c h u) 0 1))
noncomputable abbrev x188:=VX x4a 20 r_0
theorem xmp:x188 c h u (xo3 x4a) r_0 eNil=j3 (xbn c h u) 0 1 2:=(kq (j3 (xbn c h u) 0 1 2))
noncomputable abbrev x189:=VX x4b 13 r_5
theorem xmq:x189 c h u (xo3 x4b) r_5 eNil=j2 (xbo c h u) 0 1:=(kq (j2 (xbo c h u) 0 1))
noncomputable abbrev x18a:=VX x4c 159 r_22
theorem xmr:x18a c h u (xo3 x4c) r_22 eNil=j3 (xbt c h u) 0 1 2:=(tq (j3 (xbt c h u) 0 1 2) (sqN 3 (sq2 (kq (j5 (xbp c h u) 6 8 9 10 11)) (tq (j8 (xhl c h u) 3 4 5 6 8 9 10 11) (sqN 1 (bk 0 (lq (x24 c h u) (λr=>j9 r 3 4 5 6 8 9 10 11 12) λrec0=>(tq (j9 (xbs c h u rec0) 3 4 5 6 8 9 10 11 12) (sqN 1 (sq2 (kq (j9 (xbq c h u rec0) 3 4 5 6 8 9 10 11 12)) (bk 1 (tq (j9 (xhk c h u rec0) 3 4 5 6 8 9 10 11 12) (sqN 1 (bk 2 (lq (x5o c h u rec0) (λr=>j10 r 3 4 5 6 8 9 10 11 12 13) λs=>(kq (j10 (xbr c h u rec0 s) 3 4 5 6 8 9 10 11 12 13)))))))))))))))))
noncomputable abbrev x18b:=VX xt 16 r_5
theorem xms:x18b c h u (xo3 xt) r_5 eNil=j2 (xbu c h u) 0 1:=(tq (j2 (xbu c h u) 0 1) (sqN 2 (sq2 (kq (j1 (x7e c h u) 5)) (kq (j3 (xhm c h u) 0 1 5)))))
noncomputable abbrev x18c:=VX x2t 14 r_5
theorem xmt:x18c c h u (xo3 x2t) r_5 eNil=j2 (xbv c h u) 0 1:=(tq (j2 (xbv c h u) 0 1) (sqN 2 (sq2 (kq (j1 (x7f c h u) 0)) (kq (j2 (xhn c h u) 0 1)))))
noncomputable abbrev x18d:=VX x1o 26 r_20
theorem xmu:x18d c h u (xo3 x1o) r_20 eNil=j3 (xbw c h u) 0 1 2:=(kq (j3 (xbw c h u) 0 1 2))
noncomputable abbrev x18e:=VX x2u 14 r_5
theorem xmv:x18e c h u (xo3 x2u) r_5 eNil=j2 (xbx c h u) 0 1:=(kq (j2 (xbx c h u) 0 1))
noncomputable abbrev x18f:=VX xz 34 r_23
theorem xmw:x18f c h u (xo3 xz) r_23 eNil=j3 (xbz c h u) 0 1 2:=(tq (j3 (xbz c h u) 0 1 2) (sqN 1 (bk 0 (lq (x5p c h u) (λr=>j5 r 0 1 2 9 10) λrec0=>(kq (j5 (xby c h u rec0) 0 1 2 9 10))))))
noncomputable abbrev x18g:=VX xp 12 r_1
theorem xmx:x18g c h u (xo3 xp) r_1 eNil=j1 (xc0 c h u) 0:=(kq (j1 (xc0 c h u) 0))
noncomputable abbrev x18h:=VX x18 18 r_1
theorem xmy:x18h c h u (xo3 x18) r_1 eNil=j1 (xc2 c h u) 0:=(tq (j1 (xc2 c h u) 0) (sqN 2 (sq2 (kq (j1 (xho c h u) 3)) (tq (j2 (xhp c h u) 0 3) (sqN 1 (bk 0 (lq (x5q c h u) (λr=>j4 r 3 6 7 8) λrec0=>(kq (j4 (xc1 c h u rec0) 3 6 7 8)))))))))
noncomputable abbrev x18i:=VX x4d 37 r_5
theorem xmz:x18i c h u (xo3 x4d) r_5 eNil=j2 (xc3 c h u) 0 1:=(kq (j2 (xc3 c h u) 0 1))
noncomputable abbrev x18j:=VX x2v 20 r_5
theorem xn0:x18j c h u (xo3 x2v) r_5 eNil=j2 (xc4 c h u) 0 1:=(kq (j2 (xc4 c h u) 0 1))
noncomputable abbrev x18k:=VX x4e 36 r_5
theorem xn1:x18k c h u (xo3 x4e) r_5 eNil=j2 (xc6 c h u) 0 1:=(tq (j2 (xc6 c h u) 0 1) (sqN 1 (sq2 (kq (j2 (xhq c h u) 0 1)) (tq (j2 (xhs c h u) 0 1) (sqN 1 (bk 0 (lq (xc5 c h u) (λr=>j5 r 0 1 9 10 11) λrec0=>(kq (j5 (xhr c h u rec0) 0 1 9 10 11)))))))))
noncomputable abbrev x18l:=VX x4f 22 r_0
theorem xn2:x18l c h u (xo3 x4f) r_0 eNil=j3 (xc7 c h u) 0 1 2:=(kq (j3 (xc7 c h u) 0 1 2))
noncomputable abbrev x18m:=VX x4g 24 r_8
theorem xn3:x18m c h u (xo3 x4g) r_8 eNil=j2 (xc9 c h u) 0 1:=(tq (j2 (xc9 c h u) 0 1) (sqN 1 (sq2 (kq (j0 (xht c h u))) (tq (j2 (xhu c h u) 0 1) (sqN 1 (bk 0 (lq (x5r c h u) (λr=>j4 r 1 9 10 11) λrec0=>(kq (j4 (xc8 c h u rec0) 1 9 10 11)))))))))
noncomputable abbrev x18n:=VX x1p 5 r_1
theorem xn4:x18n c h u (xo3 x1p) r_1 eNil=j1 (xca c h u) 0:=(kq (j1 (xca c h u) 0))
noncomputable abbrev x18o:=VX x4h 6 r_1
theorem xn5:x18o c h u (xo3 x4h) r_1 eNil=j1 (xcb c h u) 0:=(kq (j1 (xcb c h u) 0))
noncomputable abbrev x18p:=VX x4i 38 r_0
theorem xn6:x18p c h u (xo3 x4i) r_0 eNil=j3 (xcc c h u) 0 1 2:=(kq (j3 (xcc c h u) 0 1 2))
noncomputable abbrev x18q:=VX x2w 25 r_24
theorem xn7:x18q c h u (xo3 x2w) r_24 eNil=j5 (xcd c h u) 0 1 2 3 4:=(kq (j5 (xcd c h u) 0 1 2 3 4))
noncomputable abbrev x18r:=VX x4j 10 r_17
theorem xn8:x18r c h u (xo3 x4j) r_17 eNil=j1 (xce c h u) 0:=(kq (j1 (xce c h u) 0))
noncomputable abbrev x18s:=VX x2x 20 r_5
theorem xn9:x18s c h u (xo3 x2x) r_5 eNil=j2 (xcf c h u) 0 1:=(kq (j2 (xcf c h u) 0 1))
noncomputable abbrev x18t:=VX x2y 6 r_1
theorem xna:x18t c h u (xo3 x2y) r_1 eNil=j1 (xcg c h u) 0:=(kq (j1 (xcg c h u) 0))
noncomputable abbrev x18u:=VX x2z 15 r_0
theorem xnb:x18u c h u (xo3 x2z) r_0 eNil=j3 (xch c h u) 0 1 2:=(kq (j3 (xch c h u) 0 1 2))
noncomputable abbrev x18v:=VX x4k 40 r_5
theorem xnc:x18v c h u (xo3 x4k) r_5 eNil=j2 (xci c h u) 0 1:=(tq (j2 (xci c h u) 0 1) (sqN 3 (sq2 (sq2 (kq (j0 (xif c h u))) (tq (j2 (xhv c h u) 1 6) (sqN 1 (bk 2 (lq (x7h c h u) (λr=>j3 r 1 31 32) λrec0=>(kq (j3 (x15 c h u rec0) 1 31 32))))))) (tq (j2 (xhw c h u) 1 6) (sqN 1 (bk 0 (lq (x7i c h u) (λr=>j4 r 1 6 18 19) λs=>(kq (j4 (x16 c h u s) 1 6 18 19)))))))))
noncomputable abbrev x18w:=VX x4l 25 r_1
theorem xnd:x18w c h u (xo3 x4l) r_1 eNil=j1 (xcj c h u) 0:=(tq (j1 (xcj c h u) 0) (sqN 1 (sq2 (sq2 (sq2 (kq (j2 (x7j c h u) 0 2)) (kq (j2 (x7k c h u) 0 2))) (kq (j2 (x7l c h u) 0 2))) (kq (j2 (xhx c h u) 0 2)))))
noncomputable abbrev x18x:=VX x30 24 r_1
theorem xne:x18x c h u (xo3 x30) r_1 eNil=j1 (xck c h u) 0:=(kq (j1 (xck c h u) 0))
noncomputable abbrev x18y:=VX x31 6 r_1
theorem xnf:x18y c h u (xo3 x31) r_1 eNil=j1 (xcl c h u) 0:=(kq (j1 (xcl c h u) 0))
noncomputable abbrev x18z:=VX x32 15 r_5
theorem xng:x18z c h u (xo3 x32) r_5 eNil=j2 (xcm c h u) 0 1:=(tq (j2 (xcm c h u) 0 1) (sqN 1 (sq2 (kq (j1 (x7m c h u) 0)) (kq (j2 (xhy c h u) 0 1)))))
noncomputable abbrev x190:=VX x33 7 r_1
theorem xnh:x190 c h u (xo3 x33) r_1 eNil=j1 (xcn c h u) 0:=(kq (j1 (xcn c h u) 0))
noncomputable abbrev x191:=VX x1q 7 r_1
theorem xni:x191 c h u (xo3 x1q) r_1 eNil=j1 (xco c h u) 0:=(kq (j1 (xco c h u) 0))
end Go.Ix
