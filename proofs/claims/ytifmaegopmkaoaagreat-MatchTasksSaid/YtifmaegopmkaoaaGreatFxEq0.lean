import Derived.Test.YtifmaegopmkaoaaGreatFxText0
import Derived.Test.YtifmaegopmkaoaaGreatFxEnt
import Derived.Test.YtifmaegopmkaoaaGreatFxRules
import Derived.Test.YtifmaegopmkaoaaGreatFxProj
import Derived.ProofKit
set_option linter.unusedVariables false
namespace Go.Ix
open Go.Proofs
variable{c:xer}{h:FHs}{u:Nat}
noncomputable abbrev xud:=VX x3o 110 r_0
theorem xcs:xud c h u (xf0 x3o) r_0 eNil=j2 (x51 c h u) 0 1:=(tq (j2 (x51 c h u) 0 1) (sqN 8 (sq2 (tq (j7 (x1y c h u) 3 5 6 7 8 9 10) (sqN 1 (sq2 (tq (j8 (x1x c h u) 3 5 6 7 8 9 10 11) (sqN 2 (sq2 (kq (j4 (x4z c h u) 3 5 8 9)) (tq (j6 (x9f c h u) 3 5 6 8 9 11) (sqN 1 (bk 0 (lq (x31 c h u) (λr=>j7 r 3 5 6 8 9 11 12) λrec0=>(kq (j7 (x50 c h u rec0) 3 5 6 8 9 11 12))))))))) (kq (j8 (x32 c h u) 3 5 6 7 8 9 10 11))))) (kq (j7 (x3t c h u) 3 5 6 7 8 9 10)))))
noncomputable abbrev xue:=VX x27 11 r_1
theorem xct:xue c h u (xf0 x27) r_1 eNil=j1 (x53 c h u) 0:=(kq (j1 (x53 c h u) 0))
noncomputable abbrev xuf:=VX xr 10 r_2
theorem xcu:xuf c h u (xf0 xr) r_2 eNil=j1 (x54 c h u) 0:=(kq (j1 (x54 c h u) 0))
noncomputable abbrev xug:=VX x1c 18 r_3
theorem xcv:xug c h u (xf0 x1c) r_3 eNil=j2 (x3u c h u) 0 1:=(kq (j2 (x3u c h u) 0 1))
noncomputable abbrev xuh:=VX x1d 69 r_3
theorem xcw:xuh c h u (xf0 x1d) r_3 eNil=j2 (x36 c h u) 0 1:=(tq (j2 (x36 c h u) 0 1) (sqN 3 (sq2 (kq (j2 (x3v c h u) 8 9)) (tq (j5 (x3x c h u) 3 6 7 8 9) (sqN 1 (bk 0 (lq (x11 c h u) (λr=>j7 r 3 6 8 9 21 22 23) λrec0=>(tq (j7 (x35 c h u rec0) 3 6 8 9 21 22 23) (sqN 2 (sq2 (kq (j7 (x33 c h u rec0) 3 6 8 9 21 22 23)) (kq (j7 (x9h c h u rec0) 3 6 8 9 21 22 23))))))))))))
noncomputable abbrev xui:=VX x1e 40 r_1
theorem xcx:xui c h u (xf0 x1e) r_1 eNil=j1 (x55 c h u) 0:=(kq (j1 (x55 c h u) 0))
noncomputable abbrev xuj:=VX x1f 37 r_1
theorem xcy:xuj c h u (xf0 x1f) r_1 eNil=j1 (x56 c h u) 0:=(kq (j1 (x56 c h u) 0))
noncomputable abbrev xuk:=VX x28 13 r_1
theorem xcz:xuk c h u (xf0 x28) r_1 eNil=j1 (x57 c h u) 0:=(kq (j1 (x57 c h u) 0))
noncomputable abbrev xul:=VX x1g 47 r_3
theorem xd0:xul c h u (xf0 x1g) r_3 eNil=j2 (x41 c h u) 0 1:=(tq (j2 (x41 c h u) 0 1) (sqN 2 (sq2 (kq (j1 (x3y c h u) 6)) (tq (j3 (x59 c h u) 2 3 6) (sqN 1 (bk 0 (lq (x12 c h u) (λr=>j4 r 2 3 6 7) λrec0=>(tq (j4 (x40 c h u rec0) 2 3 6 7) (sqN 1 (sq2 (kq (j4 (x58 c h u rec0) 2 3 6 7)) (bk 1 (tq (j4 (x9i c h u rec0) 2 3 6 7) (sqN 1 (bk 2 (lq (x1z c h u rec0) (λr=>j5 r 2 3 6 7 8) λs=>(kq (j5 (x3z c h u rec0 s) 2 3 6 7 8)))))))))))))))))
noncomputable abbrev xum:=VX x29 77 r_3
theorem xd1:xum c h u (xf0 x29) r_3 eNil=j2 (x43 c h u) 0 1:=(tq (j2 (x43 c h u) 0 1) (sqN 4 (sq2 (kq (j1 (x9j c h u) 8)) (tq (j4 (x9k c h u) 2 3 6 8) (sqN 1 (bk 0 (lq (x13 c h u) (λr=>j5 r 2 3 6 8 9) λrec0=>(tq (j5 (x42 c h u rec0) 2 3 6 8 9) (sqN 1 (sq2 (kq (j5 (x37 c h u rec0) 2 3 6 8 9)) (kq (j5 (x5a c h u rec0) 2 3 6 8 9))))))))))))
noncomputable abbrev xun:=VX x2a 26 r_0
theorem xd2:xun c h u (xf0 x2a) r_0 eNil=j2 (x5c c h u) 0 1:=(tq (j2 (x5c c h u) 0 1) (sqN 2 (sq2 (kq (j0 (x9l c h u))) (tq (j2 (x9m c h u) 0 1) (sqN 1 (bk 0 (lq (x38 c h u) (λr=>j3 r 0 1 5) λrec0=>(kq (j3 (x5b c h u rec0) 0 1 5)))))))))
noncomputable abbrev xuo:=VX x2b 35 r_4
theorem xd3:xuo c h u (xf0 x2b) r_4 eNil=j3 (x5d c h u) 0 1 2:=(tq (j3 (x5d c h u) 0 1 2) (sqN 2 (sq2 (kq (j2 (x9n c h u) 6 7)) (tq (j3 (x9p c h u) 2 6 7) (sqN 1 (bk 0 (lq (x44 c h u) (λr=>j4 r 2 6 7 8) λrec0=>(kq (j4 (x9o c h u rec0) 2 6 7 8)))))))))
noncomputable abbrev xup:=VX x1h 7 r_1
theorem xd4:xup c h u (xf0 x1h) r_1 eNil=j1 (x5e c h u) 0:=(kq (j1 (x5e c h u) 0))
noncomputable abbrev xuq:=VX x1i 10 r_5
theorem xd5:xuq c h u (xf0 x1i) r_5 eNil=j1 (x5f c h u) 0:=(kq (j1 (x5f c h u) 0))
noncomputable abbrev xur:=VX xt 68 r_6
theorem xd6:xur c h u (xf0 xt) r_6 eNil=j2 (x39 c h u) 0 1:=(tq (j2 (x39 c h u) 0 1) (sqN 5 (sq2 (kq (j3 (x45 c h u) 4 7 10)) (tq (j5 (x5h c h u) 2 3 4 7 10) (sqN 1 (bk 0 (lq (x15 c h u) (λr=>j6 r 2 3 4 7 10 11) λrec0=>(tq (j6 (x47 c h u rec0) 2 3 4 7 10 11) (sqN 1 (sq2 (kq (j6 (x5g c h u rec0) 2 3 4 7 10 11)) (bk 1 (tq (j6 (x9q c h u rec0) 2 3 4 7 10 11) (sqN 1 (bk 2 (lq (x21 c h u rec0) (λr=>j7 r 2 3 4 7 10 11 12) λs=>(kq (j7 (x46 c h u rec0 s) 2 3 4 7 10 11 12)))))))))))))))))
noncomputable abbrev xus:=VX x2c 57 r_7
theorem xd7:xus c h u (xf0 x2c) r_7 eNil=j3 (x5j c h u) 0 1 2:=(tq (j3 (x5j c h u) 0 1 2) (sqN 3 (sq2 (kq (j3 (x9r c h u) 6 8 9)) (tq (j6 (x9t c h u) 2 3 4 6 8 9) (sqN 1 (bk 0 (lq (x16 c h u) (λr=>j7 r 2 3 4 6 8 9 10) λrec0=>(tq (j7 (x5i c h u rec0) 2 3 4 6 8 9 10) (sqN 1 (sq2 (kq (j7 (x48 c h u rec0) 2 3 4 6 8 9 10)) (bk 1 (tq (j7 (x9s c h u rec0) 2 3 4 6 8 9 10) (sqN 1 (bk 2 (lq (x23 c h u rec0) (λr=>j8 r 2 3 4 6 8 9 10 11) λs=>(tq (j8 (x22 c h u rec0 s) 2 3 4 6 8 9 10 11) (sqN 1 (sq2 (kq (j8 (x49 c h u rec0 s) 2 3 4 6 8 9 10 11)) (kq (j8 (x3a c h u rec0 s) 2 3 4 6 8 9 10 11))))))))))))))))))))
noncomputable abbrev xut:=VX x1j 25 r_1
theorem xd8:xut c h u (xf0 x1j) r_1 eNil=j1 (x5k c h u) 0:=(kq (j1 (x5k c h u) 0))
noncomputable abbrev xuu:=VX xu 5 r_1
theorem xd9:xuu c h u (xf0 xu) r_1 eNil=j1 (x5l c h u) 0:=(kq (j1 (x5l c h u) 0))
noncomputable abbrev xuv:=VX xf 15 r_8
theorem xda:xuv c h u (xf0 xf) r_8 eNil=j3 (x5m c h u) 0 1 2:=(kq (j3 (x5m c h u) 0 1 2))
noncomputable abbrev xuw:=VX xc 15 r_8
theorem xdb:xuw c h u (xf0 xc) r_8 eNil=j3 (x5n c h u) 0 1 2:=(kq (j3 (x5n c h u) 0 1 2))
noncomputable abbrev xux:=VX x1k 11 r_1
theorem xdc:xux c h u (xf0 x1k) r_1 eNil=j1 (x5o c h u) 0:=(kq (j1 (x5o c h u) 0))
noncomputable abbrev xuy:=VX x2d 78 r_9
theorem xdd:xuy c h u (xf0 x2d) r_9 eNil=j3 (x5t c h u) 0 1 2:=(tq (j3 (x5t c h u) 0 1 2) (sqN 3 (sq2 (kq (j5 (x5p c h u) 6 7 9 10 11)) (tq (j8 (x9w c h u) 2 3 4 6 7 9 10 11) (sqN 1 (bk 0 (lq (x18 c h u) (λr=>j9 r 2 3 4 6 7 9 10 11 12) λrec0=>(tq (j9 (x5s c h u rec0) 2 3 4 6 7 9 10 11 12) (sqN 1 (sq2 (kq (j9 (x5q c h u rec0) 2 3 4 6 7 9 10 11 12)) (bk 1 (tq (j9 (x9v c h u rec0) 2 3 4 6 7 9 10 11 12) (sqN 1 (bk 2 (lq (x26 c h u rec0) (λr=>j10 r 2 3 4 6 7 9 10 11 12 13) λs=>(tq (j10 (x5r c h u rec0 s) 2 3 4 6 7 9 10 11 12 13) (sqN 1 (sq2 (kq (j10 (x4a c h u rec0 s) 2 3 4 6 7 9 10 11 12 13)) (bk 3 (tq (j10 (x9u c h u rec0 s) 2 3 4 6 7 9 10 11 12 13) (sqN 1 (bk 4 (lq (x25 c h u rec0 s) (λr=>j11 r 2 3 4 6 7 9 10 11 12 13 14) λw=>(tq (j11 (x17 c h u rec0 s w) 2 3 4 6 7 9 10 11 12 13 14) (sqN 1 (sq2 (kq (j11 (x3c c h u rec0 s w) 2 3 4 6 7 9 10 11 12 13 14)) (kq (j11 (x24 c h u rec0 s w) 2 3 4 6 7 9 10 11 12 13 14))))))))))))))))))))))))))))
noncomputable abbrev xuz:=VX xv 47 r_10
theorem xde:xuz c h u (xf0 xv) r_10 eNil=j4 (x5v c h u) 0 1 2 3:=(tq (j4 (x5v c h u) 0 1 2 3) (sqN 1 (bk 0 (lq (x3d c h u) (λr=>j4 r 0 1 2 3) λrec0=>(kq (j4 (x5u c h u rec0) 0 1 2 3))))))
noncomputable abbrev xv0:=VX x2e 19 r_1
theorem xdf:xv0 c h u (xf0 x2e) r_1 eNil=j1 (x5y c h u) 0:=(tq (j1 (x5y c h u) 0) (sqN 2 (sq2 (kq (j1 (x5w c h u) 3)) (bk 0 (lq (x3e c h u) (λr=>j2 r 1 3) λrec0=>(kq (j2 (x5x c h u rec0) 1 3)))))))
noncomputable abbrev xv1:=VX x2f 29 r_11
theorem xdg:xv1 c h u (xf0 x2f) r_11 eNil=j1 (x62 c h u) 0:=(tq (j1 (x62 c h u) 0) (sqN 1 (sq2 (kq (j2 (x9x c h u) 1 2)) (tq (j2 (x9z c h u) 1 2) (sqN 1 (bk 0 (lq (x61 c h u) (λr=>j4 r 1 2 11 12) λrec0=>(kq (j4 (x9y c h u rec0) 1 2 11 12)))))))))
noncomputable abbrev xv2:=VX xw 91 r_12
theorem xdh:xv2 c h u (xf0 xw) r_12 eNil=j3 (x4e c h u) 0 1 2:=(tq (j3 (x4e c h u) 0 1 2) (sqN 6 (sq2 (sq2 (kq (j4 (x4b c h u) 6 9 10 11)) (tq (j7 (x63 c h u) 3 4 6 9 10 11 12) (sqN 1 (bk 2 (tq (j6 (xa1 c h u) 6 9 10 11 12 55) (rg (.tmp 55) #[56,57] (λu=>(kq (j5 (xa0 c h u) 9 10 12 15 16))) (λu=>(kq (j5 (x4c c h u) 9 10 12 56 57))))))))) (tq (j8 (xa4 c h u) 3 4 6 8 9 10 11 12) (sqN 1 (bk 0 (tq (j8 (xa3 c h u) 3 4 6 9 10 11 12 41) (rg (.tmp 41) #[42,43] (λu=>(kq (j3 (xa2 c h u) 11 12 14))) (λu=>(kq (j3 (x4d c h u) 11 12 43)))))))))))
noncomputable abbrev xv3:=VX x2g 11 r_1
theorem xdi:xv3 c h u (xf0 x2g) r_1 eNil=j1 (x65 c h u) 0:=(kq (j1 (x65 c h u) 0))
noncomputable abbrev xv4:=VX x2h 26 r_0
theorem xdj:xv4 c h u (xf0 x2h) r_0 eNil=j2 (x66 c h u) 0 1:=(kq (j2 (x66 c h u) 0 1))
noncomputable abbrev xv5:=VX xq 51 r_3
theorem xcr:xv5 c h u (xf0 xq) r_3 eNil=j2 (x67 c h u) 0 1:=(kq (j2 (x67 c h u) 0 1))
noncomputable abbrev xv6:=VX x2i 135 r_13
theorem xdk:xv6 c h u (xf0 x2i) r_13 eNil=j3 (x4h c h u) 0 1 2:=(tq (j3 (x4h c h u) 0 1 2) (sqN 1 (sq2 (sq2 (tq (j3 (x6b c h u) 0 1 2) (sqN 11 (sq2 (tq (j8 (x69 c h u) 2 8 9 10 11 13 14 15) (sqN 3 (sq2 (kq (j6 (x4f c h u) 2 8 14 15 17 18)) (bk 2 (lq (x3f c h u) (λr=>j9 r 2 8 9 10 14 15 16 17 18) λrec0=>(kq (j9 (x68 c h u rec0) 2 8 9 10 14 15 16 17 18))))))) (bk 0 (lq (x6a c h u) (λr=>j9 r 2 8 9 10 11 13 14 15 16) λs=>(kq (j9 (xa5 c h u s) 2 8 9 10 11 13 14 15 16))))))) (kq (j3 (x6c c h u) 0 1 2))) (kq (j3 (x6d c h u) 0 1 2)))))
noncomputable abbrev xv7:=VX x2j 35 r_14
theorem xdl:xv7 c h u (xf0 x2j) r_14 eNil=j1 (x6f c h u) 0:=(tq (j1 (x6f c h u) 0) (sqN 2 (sq2 (kq (j0 (xa6 c h u))) (tq (j1 (xa7 c h u) 1) (sqN 1 (bk 0 (lq (x3g c h u) (λr=>j2 r 1 5) λrec0=>(kq (j2 (x6e c h u rec0) 1 5)))))))))
noncomputable abbrev xv8:=VX xx 7 r_1
theorem xdm:xv8 c h u (xf0 xx) r_1 eNil=j1 (x6g c h u) 0:=(kq (j1 (x6g c h u) 0))
noncomputable abbrev xv9:=VX x2k 159 r_15
theorem xdn:xv9 c h u (xf0 x2k) r_15 eNil=j3 (x6l c h u) 0 1 2:=(tq (j3 (x6l c h u) 0 1 2) (sqN 3 (sq2 (kq (j5 (x6h c h u) 6 8 9 10 11)) (tq (j8 (xa9 c h u) 3 4 5 6 8 9 10 11) (sqN 1 (bk 0 (lq (x19 c h u) (λr=>j9 r 3 4 5 6 8 9 10 11 12) λrec0=>(tq (j9 (x6k c h u rec0) 3 4 5 6 8 9 10 11 12) (sqN 1 (sq2 (kq (j9 (x6i c h u rec0) 3 4 5 6 8 9 10 11 12)) (bk 1 (tq (j9 (xa8 c h u rec0) 3 4 5 6 8 9 10 11 12) (sqN 1 (bk 2 (lq (x3h c h u rec0) (λr=>j10 r 3 4 5 6 8 9 10 11 12 13) λs=>(kq (j10 (x6j c h u rec0 s) 3 4 5 6 8 9 10 11 12 13)))))))))))))))))
noncomputable abbrev xva:=VX x1l 16 r_0
theorem xdo:xva c h u (xf0 x1l) r_0 eNil=j2 (x6m c h u) 0 1:=(tq (j2 (x6m c h u) 0 1) (sqN 2 (sq2 (kq (j1 (x4j c h u) 5)) (kq (j3 (xaa c h u) 0 1 5)))))
noncomputable abbrev xvb:=VX xg 7 r_1
theorem xdp:xvb c h u (xf0 xg) r_1 eNil=j1 (x6n c h u) 0:=(kq (j1 (x6n c h u) 0))
noncomputable abbrev xvc:=VX x2l 13 r_0
theorem xdq:xvc c h u (xf0 x2l) r_0 eNil=j2 (x6p c h u) 0 1:=(tq (j2 (x6p c h u) 0 1) (sqN 1 (sq2 (kq (j1 (x6o c h u) 0)) (bk 0 (lq (x1a c h u) (λr=>j2 r 0 1) λrec0=>(kq (j2 (x3i c h u rec0) 0 1)))))))
noncomputable abbrev xvd:=VX x2m 25 r_0
theorem xdr:xvd c h u (xf0 x2m) r_0 eNil=j2 (x6q c h u) 0 1:=(kq (j2 (x6q c h u) 0 1))
noncomputable abbrev xve:=VX x2n 18 r_16
theorem xds:xve c h u (xf0 x2n) r_16 eNil=j2 (x6r c h u) 0 1:=(kq (j2 (x6r c h u) 0 1))
noncomputable abbrev xvf:=VX x1m 6 r_0
theorem xdt:xvf c h u (xf0 x1m) r_0 eNil=j2 (x6s c h u) 0 1:=(kq (j2 (x6s c h u) 0 1))
noncomputable abbrev xvg:=VX xy 18 r_1
theorem xdu:xvg c h u (xf0 xy) r_1 eNil=j1 (x6t c h u) 0:=(kq (j1 (x6t c h u) 0))
noncomputable abbrev xvh:=VX x2o 21 r_14
theorem xdv:xvh c h u (xf0 x2o) r_14 eNil=j1 (x6u c h u) 0:=(kq (j1 (x6u c h u) 0))
noncomputable abbrev xvi:=VX x2p 36 r_8
theorem xdw:xvi c h u (xf0 x2p) r_8 eNil=j3 (x3j c h u) 0 1 2:=(kq (j3 (x3j c h u) 0 1 2))
noncomputable abbrev xvj:=VX xe 12 r_1
theorem xdx:xvj c h u (xf0 xe) r_1 eNil=j1 (x6v c h u) 0:=(kq (j1 (x6v c h u) 0))
noncomputable abbrev xvk:=VX xo 18 r_1
theorem xdy:xvk c h u (xf0 xo) r_1 eNil=j1 (x6x c h u) 0:=(tq (j1 (x6x c h u) 0) (sqN 2 (sq2 (kq (j1 (xab c h u) 3)) (tq (j2 (xac c h u) 0 3) (sqN 1 (bk 0 (lq (x3k c h u) (λr=>j4 r 3 6 7 8) λrec0=>(kq (j4 (x6w c h u rec0) 3 6 7 8)))))))))
noncomputable abbrev xvl:=VX x2q 37 r_0
theorem xdz:xvl c h u (xf0 x2q) r_0 eNil=j2 (x6y c h u) 0 1:=(kq (j2 (x6y c h u) 0 1))
noncomputable abbrev xvm:=VX x1n 20 r_0
theorem xe0:xvm c h u (xf0 x1n) r_0 eNil=j2 (x6z c h u) 0 1:=(kq (j2 (x6z c h u) 0 1))
noncomputable abbrev xvn:=VX x2r 36 r_0
theorem xe1:xvn c h u (xf0 x2r) r_0 eNil=j2 (x71 c h u) 0 1:=(tq (j2 (x71 c h u) 0 1) (sqN 1 (sq2 (kq (j2 (xad c h u) 0 1)) (tq (j2 (xaf c h u) 0 1) (sqN 1 (bk 0 (lq (x70 c h u) (λr=>j5 r 0 1 9 10 11) λrec0=>(kq (j5 (xae c h u rec0) 0 1 9 10 11)))))))))
noncomputable abbrev xvo:=VX x2s 6 r_1
theorem xe2:xvo c h u (xf0 x2s) r_1 eNil=j1 (x72 c h u) 0:=(kq (j1 (x72 c h u) 0))
noncomputable abbrev xvp:=VX x2t 20 r_8
theorem xe3:xvp c h u (xf0 x2t) r_8 eNil=j3 (x73 c h u) 0 1 2:=(kq (j3 (x73 c h u) 0 1 2))
noncomputable abbrev xvq:=VX x2u 13 r_0
theorem xe4:xvq c h u (xf0 x2u) r_0 eNil=j2 (x74 c h u) 0 1:=(kq (j2 (x74 c h u) 0 1))
noncomputable abbrev xvr:=VX x1o 25 r_17
theorem xe5:xvr c h u (xf0 x1o) r_17 eNil=j5 (x75 c h u) 0 1 2 3 4:=(kq (j5 (x75 c h u) 0 1 2 3 4))
noncomputable abbrev xvs:=VX x1p 26 r_13
theorem xe6:xvs c h u (xf0 x1p) r_13 eNil=j3 (x76 c h u) 0 1 2:=(kq (j3 (x76 c h u) 0 1 2))
noncomputable abbrev xvt:=VX xj 34 r_18
theorem xe7:xvt c h u (xf0 xj) r_18 eNil=j3 (x78 c h u) 0 1 2:=(tq (j3 (x78 c h u) 0 1 2) (sqN 1 (bk 0 (lq (x3l c h u) (λr=>j5 r 0 1 2 9 10) λrec0=>(kq (j5 (x77 c h u rec0) 0 1 2 9 10))))))
noncomputable abbrev xvu:=VX x2v 22 r_8
theorem xe8:xvu c h u (xf0 x2v) r_8 eNil=j3 (x79 c h u) 0 1 2:=(kq (j3 (x79 c h u) 0 1 2))
noncomputable abbrev xvv:=VX x2w 24 r_3
theorem xe9:xvv c h u (xf0 x2w) r_3 eNil=j2 (x7b c h u) 0 1:=(tq (j2 (x7b c h u) 0 1) (sqN 1 (sq2 (kq (j0 (xag c h u))) (tq (j2 (xah c h u) 0 1) (sqN 1 (bk 0 (lq (x3m c h u) (λr=>j4 r 1 9 10 11) λrec0=>(kq (j4 (x7a c h u rec0) 1 9 10 11)))))))))
noncomputable abbrev xvw:=VX x1q 20 r_0
theorem xea:xvw c h u (xf0 x1q) r_0 eNil=j2 (x7c c h u) 0 1:=(kq (j2 (x7c c h u) 0 1))
noncomputable abbrev xvx:=VX x1r 6 r_1
theorem xeb:xvx c h u (xf0 x1r) r_1 eNil=j1 (x7d c h u) 0:=(kq (j1 (x7d c h u) 0))
noncomputable abbrev xvy:=VX x2x 25 r_1
theorem xec:xvy c h u (xf0 x2x) r_1 eNil=j1 (x7e c h u) 0:=(tq (j1 (x7e c h u) 0) (sqN 1 (sq2 (sq2 (sq2 (kq (j2 (x4k c h u) 0 2)) (kq (j2 (x4l c h u) 0 2))) (kq (j2 (x4m c h u) 0 2))) (kq (j2 (xai c h u) 0 2)))))
noncomputable abbrev xvz:=VX x2y 38 r_8
theorem xed:xvz c h u (xf0 x2y) r_8 eNil=j3 (x7f c h u) 0 1 2:=(kq (j3 (x7f c h u) 0 1 2))
noncomputable abbrev xw0:=VX x2z 10 r_14
theorem xee:xw0 c h u (xf0 x2z) r_14 eNil=j1 (x7g c h u) 0:=(kq (j1 (x7g c h u) 0))
noncomputable abbrev xw1:=VX x1s 15 r_8
theorem xef:xw1 c h u (xf0 x1s) r_8 eNil=j3 (x7h c h u) 0 1 2:=(kq (j3 (x7h c h u) 0 1 2))
noncomputable abbrev xw2:=VX x30 40 r_0
theorem xeg:xw2 c h u (xf0 x30) r_0 eNil=j2 (x7i c h u) 0 1:=(tq (j2 (x7i c h u) 0 1) (sqN 3 (sq2 (sq2 (kq (j0 (xay c h u))) (tq (j2 (xaj c h u) 1 6) (sqN 1 (bk 2 (lq (x4o c h u) (λr=>j3 r 1 31 32) λrec0=>(kq (j3 (xl c h u rec0) 1 31 32))))))) (tq (j2 (xak c h u) 1 6) (sqN 1 (bk 0 (lq (x4p c h u) (λr=>j4 r 1 6 18 19) λs=>(kq (j4 (xm c h u s) 1 6 18 19)))))))))
noncomputable abbrev xw3:=VX x1t 6 r_1
theorem xeh:xw3 c h u (xf0 x1t) r_1 eNil=j1 (x7j c h u) 0:=(kq (j1 (x7j c h u) 0))
noncomputable abbrev xw4:=VX x1u 24 r_1
theorem xei:xw4 c h u (xf0 x1u) r_1 eNil=j1 (x7k c h u) 0:=(kq (j1 (x7k c h u) 0))
noncomputable abbrev xw5:=VX x1v 15 r_0
theorem xej:xw5 c h u (xf0 x1v) r_0 eNil=j2 (x7l c h u) 0 1:=(tq (j2 (x7l c h u) 0 1) (sqN 1 (sq2 (kq (j1 (x4q c h u) 0)) (kq (j2 (xal c h u) 0 1)))))
noncomputable abbrev xw6:=VX x1w 7 r_1
theorem xek:xw6 c h u (xf0 x1w) r_1 eNil=j1 (x7m c h u) 0:=(kq (j1 (x7m c h u) 0))
noncomputable abbrev xw7:=VX xz 7 r_1
theorem xel:xw7 c h u (xf0 xz) r_1 eNil=j1 (x7n c h u) 0:=(kq (j1 (x7n c h u) 0))
end Go.Ix
