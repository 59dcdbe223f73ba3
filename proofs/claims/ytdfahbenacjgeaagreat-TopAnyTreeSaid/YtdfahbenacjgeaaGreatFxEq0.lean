import Derived.Test.YtdfahbenacjgeaaGreatFxText0
import Derived.Test.YtdfahbenacjgeaaGreatFxEnt
import Derived.Test.YtdfahbenacjgeaaGreatFxRules
import Derived.Test.YtdfahbenacjgeaaGreatFxProj
import Derived.ProofKit
set_option linter.unusedVariables false
namespace Go.Ix
open Go.Proofs
variable{c:xk3}{h:FHs}{u:Nat}
noncomputable abbrev x107:=VX x4c 218 r_0
theorem xhv:x107 c h u (xkb x4c) r_0 eNil=j2 (x52 c h u) 0 1:=(tq (j2 (x52 c h u) 0 1) (sqN 8 (sq2 (sq2 (kq (j0 (xb5 c h u))) (tq (j3 (xb6 c h u) 2 5 8) (sqN 1 (bk 4 (lq (x35 c h u) (λr=>j4 r 2 5 8 18) λrec0=>(kq (j4 (x4z c h u rec0) 2 5 8 18))))))) (tq (j4 (xb8 c h u) 2 5 8 10) (sqN 1 (bk 0 (lq (xg c h u) (λr=>j5 r 2 5 8 10 11) λs=>(tq (j5 (x51 c h u s) 2 5 8 10 11) (sqN 1 (sq2 (kq (j5 (x4f c h u s) 2 5 8 10 11)) (bk 1 (tq (j5 (xb7 c h u s) 2 5 8 10 11) (sqN 4 (bk 2 (lq (x21 c h u s) (λr=>j7 r 2 5 8 10 11 16 17) λw=>(kq (j7 (x50 c h u s w) 2 5 8 10 11 16 17)))))))))))))))))
noncomputable abbrev x108:=VX x1a 10 r_1
theorem xhw:x108 c h u (xkb x1a) r_1 eNil=j1 (x53 c h u) 0:=(kq (j1 (x53 c h u) 0))
noncomputable abbrev x109:=VX xt 90 r_2
theorem xhx:x109 c h u (xkb xt) r_2 eNil=j2 (x56 c h u) 0 1:=(tq (j2 (x56 c h u) 0 1) (sqN 5 (sq2 (tq (j4 (xbe c h u) 1 2 8 9) (sqN 3 (sq2 (kq (j1 (xbb c h u) 14)) (tq (j4 (xbd c h u) 1 12 13 14) (sqN 1 (bk 2 (lq (x36 c h u) (λr=>j7 r 1 12 13 14 60 61 62) λrec0=>(tq (j7 (x54 c h u rec0) 1 12 13 14 60 61 62) (sqN 2 (sq2 (kq (j7 (x4g c h u rec0) 1 12 13 14 60 61 62)) (kq (j7 (xbc c h u rec0) 1 12 13 14 60 61 62)))))))))))) (tq (j4 (xbg c h u) 1 2 8 9) (sqN 1 (bk 0 (lq (x37 c h u) (λr=>j7 r 1 2 8 9 36 37 38) λs=>(tq (j7 (x55 c h u s) 1 2 8 9 36 37 38) (sqN 2 (sq2 (kq (j7 (x4h c h u s) 1 2 8 9 36 37 38)) (kq (j7 (xbf c h u s) 1 2 8 9 36 37 38))))))))))))
noncomputable abbrev x10a:=VX xu 13 r_3
theorem xhy:x10a c h u (xkb xu) r_3 eNil=j1 (x57 c h u) 0:=(kq (j1 (x57 c h u) 0))
noncomputable abbrev x10b:=VX x1b 14 r_4
theorem xhz:x10b c h u (xkb x1b) r_4 eNil=j1 (x58 c h u) 0:=(kq (j1 (x58 c h u) 0))
noncomputable abbrev x10c:=VX xe 12 r_5
theorem xi0:x10c c h u (xkb xe) r_5 eNil=j1 (x59 c h u) 0:=(kq (j1 (x59 c h u) 0))
noncomputable abbrev x10d:=VX x1c 64 r_6
theorem xi1:x10d c h u (xkb x1c) r_6 eNil=j2 (x5b c h u) 0 1:=(tq (j2 (x5b c h u) 0 1) (sqN 3 (sq2 (kq (j3 (xbj c h u) 1 2 7)) (tq (j3 (xbk c h u) 1 2 7) (sqN 1 (bk 0 (lq (x22 c h u) (λr=>j6 r 1 2 7 19 20 21) λrec0=>(kq (j6 (x5a c h u rec0) 1 2 7 19 20 21)))))))))
noncomputable abbrev x10e:=VX xc 6 r_1
theorem xi2:x10e c h u (xkb xc) r_1 eNil=j1 (x39 c h u) 0:=(kq (j1 (x39 c h u) 0))
noncomputable abbrev x10f:=VX x1d 109 r_6
theorem xi3:x10f c h u (xkb x1d) r_6 eNil=j2 (x5e c h u) 0 1:=(tq (j2 (x5e c h u) 0 1) (sqN 2 (sq2 (tq (j3 (xbn c h u) 1 2 6) (sqN 1 (sq2 (kq (j1 (xbl c h u) 6)) (tq (j3 (xbm c h u) 2 6 9) (sqN 1 (bk 2 (lq (x3a c h u) (λr=>j4 r 2 6 9 10) λrec0=>(kq (j4 (x5c c h u rec0) 2 6 9 10))))))))) (tq (j3 (xbo c h u) 1 2 6) (sqN 1 (bk 0 (lq (x3b c h u) (λr=>j4 r 1 2 6 7) λs=>(kq (j4 (x5d c h u s) 1 2 6 7)))))))))
noncomputable abbrev x10g:=VX xi 36 r_0
theorem xi4:x10g c h u (xkb xi) r_0 eNil=j2 (x4i c h u) 0 1:=(tq (j2 (x4i c h u) 0 1) (sqN 3 (sq2 (kq (j1 (x5f c h u) 6)) (tq (j4 (x5g c h u) 1 2 5 6) (sqN 1 (bk 0 (lq (xr c h u) (λr=>j5 r 1 2 5 6 7) λrec0=>(kq (j5 (x3c c h u rec0) 1 2 5 6 7)))))))))
noncomputable abbrev x10h:=VX x1e 60 r_7
theorem xi5:x10h c h u (xkb x1e) r_7 eNil=j3 (x5j c h u) 0 1 2:=(tq (j3 (x5j c h u) 0 1 2) (sqN 4 (sq2 (kq (j1 (xbp c h u) 9)) (tq (j3 (xbs c h u) 1 2 9) (sqN 1 (bk 1 (lq (x3d c h u) (λr=>j6 r 1 2 9 40 41 42) λrec0=>(tq (j6 (x5i c h u rec0) 1 2 9 40 41 42) (sqN 2 (sq2 (kq (j6 (x5h c h u rec0) 1 2 9 40 41 42)) (bk 2 (tq (j6 (xbr c h u rec0) 1 2 9 40 41 42) (sqN 1 (sq2 (kq (j7 (x4j c h u rec0) 1 2 9 11 40 41 42)) (kq (j7 (xbq c h u rec0) 1 2 9 11 40 41 42))))))))))))))))
noncomputable abbrev x10i:=VX x2j 26 r_0
theorem xi6:x10i c h u (xkb x2j) r_0 eNil=j2 (x5l c h u) 0 1:=(tq (j2 (x5l c h u) 0 1) (sqN 2 (sq2 (kq (j0 (xbt c h u))) (tq (j2 (xbu c h u) 0 1) (sqN 1 (bk 0 (lq (x3e c h u) (λr=>j3 r 0 1 5) λrec0=>(kq (j3 (x5k c h u rec0) 0 1 5)))))))))
noncomputable abbrev x10j:=VX x9 15 r_8
theorem xi7:x10j c h u (xkb x9) r_8 eNil=j3 (x5m c h u) 0 1 2:=(kq (j3 (x5m c h u) 0 1 2))
noncomputable abbrev x10k:=VX xj 58 r_1
theorem xi8:x10k c h u (xkb xj) r_1 eNil=j1 (x5p c h u) 0:=(tq (j1 (x5p c h u) 0) (sqN 3 (sq2 (sq2 (kq (j0 (xbv c h u))) (tq (j1 (xbw c h u) 1) (sqN 1 (bk 2 (lq (x3f c h u) (λr=>j2 r 1 5) λrec0=>(kq (j2 (x5n c h u rec0) 1 5))))))) (tq (j1 (xbx c h u) 1) (sqN 1 (bk 0 (lq (x3g c h u) (λr=>j2 r 1 4) λs=>(kq (j2 (x5o c h u s) 1 4)))))))))
noncomputable abbrev x10l:=VX x1f 34 r_1
theorem xi9:x10l c h u (xkb x1f) r_1 eNil=j1 (x5r c h u) 0:=(tq (j1 (x5r c h u) 0) (sqN 5 (sq2 (kq (j0 (xby c h u))) (tq (j1 (xbz c h u) 3) (sqN 1 (bk 0 (lq (x3h c h u) (λr=>j2 r 3 5) λrec0=>(kq (j2 (x5q c h u rec0) 3 5)))))))))
noncomputable abbrev x10m:=VX x2k 36 r_1
theorem xia:x10m c h u (xkb x2k) r_1 eNil=j1 (x5s c h u) 0:=(kq (j1 (x5s c h u) 0))
noncomputable abbrev x10n:=VX xa 15 r_8
theorem xib:x10n c h u (xkb xa) r_8 eNil=j3 (x5t c h u) 0 1 2:=(kq (j3 (x5t c h u) 0 1 2))
noncomputable abbrev x10o:=VX x1g 42 r_0
theorem xic:x10o c h u (xkb x1g) r_0 eNil=j2 (x5v c h u) 0 1:=(tq (j2 (x5v c h u) 0 1) (sqN 3 (sq2 (kq (j1 (xc0 c h u) 6)) (tq (j4 (xc1 c h u) 1 2 5 6) (sqN 1 (bk 0 (lq (x3i c h u) (λr=>j6 r 1 5 6 14 15 16) λrec0=>(kq (j6 (x5u c h u rec0) 1 5 6 14 15 16)))))))))
noncomputable abbrev x10p:=VX xv 38 r_0
theorem xid:x10p c h u (xkb xv) r_0 eNil=j2 (x5x c h u) 0 1:=(tq (j2 (x5x c h u) 0 1) (sqN 5 (sq2 (kq (j1 (xc2 c h u) 5)) (tq (j3 (xc4 c h u) 5 6 8) (sqN 1 (bk 0 (lq (x3j c h u) (λr=>j5 r 5 6 8 24 25) λrec0=>(tq (j5 (x5w c h u rec0) 5 6 8 24 25) (sqN 2 (sq2 (kq (j5 (x4k c h u rec0) 5 6 8 24 25)) (kq (j5 (xc3 c h u rec0) 5 6 8 24 25))))))))))))
noncomputable abbrev x10q:=VX xw 30 r_0
theorem xie:x10q c h u (xkb xw) r_0 eNil=j2 (x5z c h u) 0 1:=(tq (j2 (x5z c h u) 0 1) (sqN 2 (sq2 (kq (j1 (xc7 c h u) 5)) (tq (j3 (xc9 c h u) 1 2 5) (sqN 1 (bk 0 (lq (x3k c h u) (λr=>j5 r 1 5 15 16 17) λrec0=>(tq (j5 (x5y c h u rec0) 1 5 15 16 17) (sqN 2 (sq2 (kq (j5 (x4m c h u rec0) 1 5 15 16 17)) (kq (j5 (xc8 c h u rec0) 1 5 15 16 17))))))))))))
noncomputable abbrev x10r:=VX xk 11 r_1
theorem xif:x10r c h u (xkb xk) r_1 eNil=j1 (x60 c h u) 0:=(kq (j1 (x60 c h u) 0))
noncomputable abbrev x10s:=VX x1h 35 r_1
theorem xig:x10s c h u (xkb x1h) r_1 eNil=j1 (x65 c h u) 0:=(tq (j1 (x65 c h u) 0) (sqN 3 (sq2 (kq (j1 (xca c h u) 4)) (tq (j3 (xcc c h u) 0 3 4) (sqN 1 (bk 0 (lq (x3l c h u) (λr=>j5 r 3 4 10 11 12) λrec0=>(tq (j5 (x63 c h u rec0) 3 4 10 11 12) (sqN 2 (sq2 (kq (j5 (x61 c h u rec0) 3 4 10 11 12)) (bk 1 (tq (j5 (xcb c h u rec0) 3 4 10 11 12) (sqN 2 (sq2 (kq (j6 (x4n c h u rec0) 3 4 7 10 11 12)) (kq (j8 (x62 c h u rec0) 3 4 6 7 8 10 11 12))))))))))))))))
noncomputable abbrev x10t:=VX xl 15 r_1
theorem xih:x10t c h u (xkb xl) r_1 eNil=j1 (x67 c h u) 0:=(tq (j1 (x67 c h u) 0) (sqN 2 (sq2 (kq (j1 (xcd c h u) 3)) (tq (j2 (xce c h u) 0 3) (sqN 1 (bk 0 (lq (x3m c h u) (λr=>j3 r 3 5 6) λrec0=>(kq (j3 (x66 c h u rec0) 3 5 6)))))))))
noncomputable abbrev x10u:=VX xm 44 r_0
theorem xii:x10u c h u (xkb xm) r_0 eNil=j2 (x6a c h u) 0 1:=(tq (j2 (x6a c h u) 0 1) (sqN 2 (sq2 (kq (j2 (xcf c h u) 5 6)) (tq (j3 (xch c h u) 0 5 6) (sqN 1 (bk 0 (lq (x3n c h u) (λr=>j6 r 0 5 6 19 20 21) λrec0=>(tq (j6 (x69 c h u rec0) 0 5 6 19 20 21) (sqN 2 (sq2 (kq (j6 (x68 c h u rec0) 0 5 6 19 20 21)) (kq (j6 (xcg c h u rec0) 0 5 6 19 20 21))))))))))))
noncomputable abbrev x10v:=VX x1i 9 r_0
theorem xij:x10v c h u (xkb x1i) r_0 eNil=j2 (x6b c h u) 0 1:=(kq (j2 (x6b c h u) 0 1))
noncomputable abbrev x10w:=VX xx 15 r_9
theorem xik:x10w c h u (xkb xx) r_9 eNil=j2 (x6c c h u) 0 1:=(kq (j2 (x6c c h u) 0 1))
noncomputable abbrev x10x:=VX x2l 21 r_0
theorem xil:x10x c h u (xkb x2l) r_0 eNil=j2 (x6e c h u) 0 1:=(tq (j2 (x6e c h u) 0 1) (sqN 2 (sq2 (kq (j1 (xci c h u) 5)) (tq (j3 (xcj c h u) 1 2 5) (sqN 1 (bk 0 (lq (x3o c h u) (λr=>j5 r 2 5 8 9 10) λrec0=>(kq (j5 (x6d c h u rec0) 2 5 8 9 10)))))))))
noncomputable abbrev x10y:=VX xd 68 r_0
theorem xim:x10y c h u (xkb xd) r_0 eNil=j2 (x6j c h u) 0 1:=(tq (j2 (x6j c h u) 0 1) (sqN 2 (sq2 (sq2 (kq (j1 (xck c h u) 5)) (tq (j3 (xco c h u) 1 2 5) (sqN 1 (bk 2 (lq (x25 c h u) (λr=>j4 r 1 2 5 7) λrec0=>(tq (j4 (x6h c h u rec0) 1 2 5 7) (sqN 1 (sq2 (kq (j4 (xcl c h u rec0) 1 2 5 7)) (bk 3 (tq (j4 (xcn c h u rec0) 1 2 5 7) (sqN 3 (bk 4 (lq (x24 c h u rec0) (λr=>j7 r 1 2 5 7 9 10 11) λs=>(tq (j7 (x6g c h u rec0 s) 1 2 5 7 9 10 11) (sqN 1 (sq2 (kq (j7 (x6f c h u rec0 s) 1 2 5 7 9 10 11)) (kq (j7 (xcm c h u rec0 s) 1 2 5 7 9 10 11)))))))))))))))))) (tq (j3 (xcp c h u) 1 2 5) (sqN 1 (bk 0 (lq (x3p c h u) (λr=>j4 r 1 2 5 6) λw=>(kq (j4 (x6i c h u w) 1 2 5 6)))))))))
noncomputable abbrev x10z:=VX xn 40 r_0
theorem xin:x10z c h u (xkb xn) r_0 eNil=j2 (x6k c h u) 0 1:=(kq (j2 (x6k c h u) 0 1))
noncomputable abbrev x110:=VX x2m 22 r_0
theorem xio:x110 c h u (xkb x2m) r_0 eNil=j2 (x6m c h u) 0 1:=(tq (j2 (x6m c h u) 0 1) (sqN 2 (sq2 (kq (j1 (xcq c h u) 5)) (tq (j3 (xcs c h u) 1 2 5) (sqN 1 (bk 0 (lq (x3q c h u) (λr=>j4 r 1 2 5 6) λrec0=>(tq (j4 (x6l c h u rec0) 1 2 5 6) (sqN 1 (sq2 (kq (j4 (x4p c h u rec0) 1 2 5 6)) (kq (j4 (xcr c h u rec0) 1 2 5 6))))))))))))
noncomputable abbrev x111:=VX x2n 30 r_0
theorem xip:x111 c h u (xkb x2n) r_0 eNil=j2 (x6o c h u) 0 1:=(tq (j2 (x6o c h u) 0 1) (sqN 2 (sq2 (kq (j1 (xct c h u) 5)) (tq (j3 (xcu c h u) 0 1 5) (sqN 1 (bk 0 (lq (x3s c h u) (λr=>j4 r 0 1 5 6) λrec0=>(kq (j4 (x6n c h u rec0) 0 1 5 6)))))))))
noncomputable abbrev x112:=VX x1j 96 r_10
theorem xiq:x112 c h u (xkb x1j) r_10 eNil=j4 (x6t c h u) 0 1 2 3:=(tq (j4 (x6t c h u) 0 1 2 3) (sqN 4 (sq2 (tq (j4 (xcx c h u) 2 3 4 9) (sqN 1 (sq2 (kq (j1 (xcv c h u) 16)) (tq (j5 (xcw c h u) 2 3 4 9 16) (sqN 1 (bk 6 (lq (x3t c h u) (λr=>j5 r 2 4 9 16 17) λrec0=>(kq (j5 (x6p c h u rec0) 2 4 9 16 17))))))))) (tq (j6 (xd3 c h u) 1 2 3 4 9 10) (sqN 1 (bk 0 (lq (x26 c h u) (λr=>j8 r 1 2 3 4 9 10 31 32) λs=>(tq (j8 (x6s c h u s) 1 2 3 4 9 10 31 32) (sqN 2 (sq2 (kq (j8 (xcy c h u s) 1 2 3 4 9 10 31 32)) (bk 1 (tq (j8 (xd2 c h u s) 1 2 3 4 9 10 31 32) (sqN 1 (bk 2 (lq (x3v c h u s) (λr=>j9 r 1 2 3 4 9 10 11 31 32) λw=>(tq (j9 (x6r c h u s w) 1 2 3 4 9 10 11 31 32) (sqN 1 (sq2 (kq (j9 (xcz c h u s w) 1 2 3 4 9 10 11 31 32)) (bk 3 (tq (j9 (xd1 c h u s w) 1 2 3 4 9 10 11 31 32) (sqN 1 (bk 4 (lq (x13 c h u s w) (λr=>j10 r 1 2 3 4 9 10 11 12 31 32) λz=>(tq (j10 (x6q c h u s w z) 1 2 3 4 9 10 11 12 31 32) (sqN 1 (sq2 (kq (j10 (x3u c h u s w z) 1 2 3 4 9 10 11 12 31 32)) (kq (j10 (xd0 c h u s w z) 1 2 3 4 9 10 11 12 31 32))))))))))))))))))))))))))))
noncomputable abbrev x113:=VX xo 9 r_0
theorem xir:x113 c h u (xkb xo) r_0 eNil=j2 (x6u c h u) 0 1:=(kq (j2 (x6u c h u) 0 1))
noncomputable abbrev x114:=VX x1k 10 r_1
theorem xis:x114 c h u (xkb x1k) r_1 eNil=j1 (x6v c h u) 0:=(kq (j1 (x6v c h u) 0))
noncomputable abbrev x115:=VX xy 10 r_0
theorem xit:x115 c h u (xkb xy) r_0 eNil=j2 (x6w c h u) 0 1:=(kq (j2 (x6w c h u) 0 1))
noncomputable abbrev x116:=VX x2o 11 r_1
theorem xiu:x116 c h u (xkb x2o) r_1 eNil=j1 (x6x c h u) 0:=(kq (j1 (x6x c h u) 0))
noncomputable abbrev x117:=VX x1l 63 r_1
theorem xiv:x117 c h u (xkb x1l) r_1 eNil=j1 (x70 c h u) 0:=(tq (j1 (x70 c h u) 0) (sqN 3 (sq2 (kq (j0 (xd4 c h u))) (tq (j1 (x6z c h u) 1) (sqN 1 (bk 0 (lq (x3w c h u) (λr=>j2 r 1 3) λrec0=>(kq (j2 (x6y c h u rec0) 1 3)))))))))
noncomputable abbrev x118:=VX x1m 70 r_11
theorem xiw:x118 c h u (xkb x1m) r_11 eNil=j1 (x73 c h u) 0:=(tq (j1 (x73 c h u) 0) (sqN 3 (sq2 (sq2 (kq (j2 (xd5 c h u) 2 4)) (tq (j4 (xd7 c h u) 1 2 4 5) (sqN 1 (bk 2 (lq (x3x c h u) (λr=>j5 r 1 2 4 5 7) λrec0=>(kq (j5 (x71 c h u rec0) 1 2 4 5 7))))))) (tq (j4 (xd8 c h u) 1 2 4 5) (sqN 1 (bk 0 (lq (x3y c h u) (λr=>j5 r 1 2 4 5 6) λs=>(kq (j5 (x72 c h u s) 1 2 4 5 6)))))))))
noncomputable abbrev x119:=VX xp 7 r_1
theorem xix:x119 c h u (xkb xp) r_1 eNil=j1 (x74 c h u) 0:=(kq (j1 (x74 c h u) 0))
noncomputable abbrev x11a:=VX x1n 6 r_1
theorem xiy:x11a c h u (xkb x1n) r_1 eNil=j1 (x75 c h u) 0:=(kq (j1 (x75 c h u) 0))
noncomputable abbrev x11b:=VX x1o 6 r_1
theorem xiz:x11b c h u (xkb x1o) r_1 eNil=j1 (x76 c h u) 0:=(kq (j1 (x76 c h u) 0))
noncomputable abbrev x11c:=VX x1p 51 r_1
theorem xj0:x11c c h u (xkb x1p) r_1 eNil=j1 (x79 c h u) 0:=(tq (j1 (x79 c h u) 0) (sqN 2 (sq2 (tq (j3 (xdc c h u) 1 3 4) (sqN 2 (sq2 (kq (j1 (xd9 c h u) 4)) (tq (j4 (xdb c h u) 1 3 4 6) (sqN 1 (bk 2 (lq (x3z c h u) (λr=>j6 r 1 4 6 29 30 31) λrec0=>(tq (j6 (x77 c h u rec0) 1 4 6 29 30 31) (sqN 2 (sq2 (kq (j6 (x4q c h u rec0) 1 4 6 29 30 31)) (kq (j6 (xda c h u rec0) 1 4 6 29 30 31)))))))))))) (tq (j3 (xdd c h u) 1 3 4) (sqN 1 (bk 0 (lq (x40 c h u) (λr=>j5 r 1 3 4 12 13) λs=>(kq (j5 (x78 c h u s) 1 3 4 12 13)))))))))
noncomputable abbrev x11d:=VX xf 43 r_12
theorem xj1:x11d c h u (xkb xf) r_12 eNil=j7 (x7b c h u) 0 1 2 3 4 5 6:=(tq (j7 (x7b c h u) 0 1 2 3 4 5 6) (sqN 3 (bk 0 (tq (j6 (xdf c h u) 1 4 5 6 7 16) (rg (.tmp 16) #[17,18] (λu=>(kq (j7 (xde c h u) 1 4 5 6 7 8 9))) (λu=>(kq (j7 (x7a c h u) 1 4 5 6 7 17 18))))))))
noncomputable abbrev x11e:=VX x2p 8 r_8
theorem xj2:x11e c h u (xkb x2p) r_8 eNil=j3 (x7c c h u) 0 1 2:=(kq (j3 (x7c c h u) 0 1 2))
noncomputable abbrev x11f:=VX x2q 66 r_4
theorem xj3:x11f c h u (xkb x2q) r_4 eNil=j1 (x7e c h u) 0:=(tq (j1 (x7e c h u) 0) (sqN 4 (sq2 (kq (j0 (xdg c h u))) (tq (j2 (xdi c h u) 1 6) (sqN 1 (bk 0 (lq (x27 c h u) (λr=>j5 r 1 6 26 27 28) λrec0=>(kq (j5 (x7d c h u rec0) 1 6 26 27 28)))))))))
noncomputable abbrev x11g:=VX x2r 19 r_0
theorem xj4:x11g c h u (xkb x2r) r_0 eNil=j2 (x7g c h u) 0 1:=(tq (j2 (x7g c h u) 0 1) (sqN 1 (sq2 (kq (j0 (xdj c h u))) (tq (j2 (xdk c h u) 0 1) (sqN 1 (bk 0 (lq (x41 c h u) (λr=>j4 r 0 1 7 8) λrec0=>(kq (j4 (x7f c h u rec0) 0 1 7 8)))))))))
noncomputable abbrev x11h:=VX xz 41 r_0
theorem xj5:x11h c h u (xkb xz) r_0 eNil=j2 (x7h c h u) 0 1:=(kq (j2 (x7h c h u) 0 1))
noncomputable abbrev x11i:=VX x1q 24 r_6
theorem xj6:x11i c h u (xkb x1q) r_6 eNil=j2 (x7i c h u) 0 1:=(kq (j2 (x7i c h u) 0 1))
noncomputable abbrev x11j:=VX x2i 19 r_0
theorem xhu:x11j c h u (xkb x2i) r_0 eNil=j2 (x7k c h u) 0 1:=(tq (j2 (x7k c h u) 0 1) (sqN 1 (sq2 (kq (j0 (xdl c h u))) (tq (j2 (xdm c h u) 0 1) (sqN 1 (bk 0 (lq (x42 c h u) (λr=>j4 r 0 1 7 8) λrec0=>(kq (j4 (x7j c h u rec0) 0 1 7 8)))))))))
noncomputable abbrev x11k:=VX x2s 73 r_4
theorem xj7:x11k c h u (xkb x2s) r_4 eNil=j1 (x7n c h u) 0:=(tq (j1 (x7n c h u) 0) (sqN 3 (sq2 (kq (j0 (xdn c h u))) (tq (j1 (xdq c h u) 1) (sqN 1 (bk 0 (lq (x14 c h u) (λr=>j2 r 1 6) λrec0=>(tq (j2 (x7m c h u rec0) 1 6) (sqN 1 (sq2 (kq (j2 (xdo c h u rec0) 1 6)) (bk 1 (tq (j2 (xdp c h u rec0) 1 6) (sqN 4 (bk 2 (lq (x28 c h u rec0) (λr=>j4 r 1 6 7 8) λs=>(kq (j4 (x7l c h u rec0 s) 1 6 7 8)))))))))))))))))
noncomputable abbrev x11l:=VX x2t 25 r_6
theorem xj8:x11l c h u (xkb x2t) r_6 eNil=j2 (x7o c h u) 0 1:=(kq (j2 (x7o c h u) 0 1))
noncomputable abbrev x11m:=VX x2u 53 r_1
theorem xj9:x11m c h u (xkb x2u) r_1 eNil=j1 (x7r c h u) 0:=(tq (j1 (x7r c h u) 0) (sqN 2 (sq2 (kq (j0 (xdr c h u))) (tq (j1 (x7q c h u) 1) (sqN 1 (bk 0 (lq (x43 c h u) (λr=>j2 r 1 3) λrec0=>(kq (j2 (x7p c h u rec0) 1 3)))))))))
noncomputable abbrev x11n:=VX x1r 52 r_1
theorem xja:x11n c h u (xkb x1r) r_1 eNil=j1 (x7t c h u) 0:=(tq (j1 (x7t c h u) 0) (sqN 4 (sq2 (kq (j1 (xds c h u) 6)) (tq (j3 (xdt c h u) 1 5 6) (sqN 1 (bk 0 (lq (x44 c h u) (λr=>j4 r 1 5 6 7) λrec0=>(kq (j4 (x7s c h u rec0) 1 5 6 7)))))))))
noncomputable abbrev x11o:=VX x2v 14 r_0
theorem xjb:x11o c h u (xkb x2v) r_0 eNil=j2 (x7u c h u) 0 1:=(tq (j2 (x7u c h u) 0 1) (sqN 2 (sq2 (kq (j1 (x4r c h u) 0)) (kq (j2 (xdu c h u) 0 1)))))
noncomputable abbrev x11p:=VX x2w 9 r_12
theorem xjc:x11p c h u (xkb x2w) r_12 eNil=j2 (x7v c h u) 0 1:=(kq (j2 (x7v c h u) 0 1))
noncomputable abbrev x11q:=VX x1s 13 r_13
theorem xjd:x11q c h u (xkb x1s) r_13 eNil=j3 (x7w c h u) 0 1 2:=(kq (j3 (x7w c h u) 0 1 2))
noncomputable abbrev x11r:=VX x2x 11 r_12
theorem xje:x11r c h u (xkb x2x) r_12 eNil=j1 (x7x c h u) 0:=(kq (j1 (x7x c h u) 0))
noncomputable abbrev x11s:=VX xq 43 r_12
theorem xjf:x11s c h u (xkb xq) r_12 eNil=j4 (x80 c h u) 0 1 2 3:=(tq (j4 (x80 c h u) 0 1 2 3) (sqN 1 (bk 0 (lq (x15 c h u) (λr=>j6 r 0 2 3 12 13 14) λrec0=>(tq (j6 (x7z c h u rec0) 0 2 3 12 13 14) (sqN 2 (sq2 (kq (j6 (xdw c h u rec0) 0 2 3 12 13 14)) (bk 1 (tq (j6 (xdx c h u rec0) 0 2 3 12 13 14) (sqN 2 (bk 2 (lq (x29 c h u rec0) (λr=>j9 r 0 2 3 6 12 13 14 18 19) λs=>(kq (j9 (x7y c h u rec0 s) 0 2 3 6 12 13 14 18 19))))))))))))))
noncomputable abbrev x11t:=VX x1t 42 r_4
theorem xjg:x11t c h u (xkb x1t) r_4 eNil=j1 (x82 c h u) 0:=(tq (j1 (x82 c h u) 0) (sqN 2 (sq2 (kq (j0 (xdy c h u))) (tq (j1 (xdz c h u) 0) (sqN 1 (bk 0 (lq (x2a c h u) (λr=>j4 r 0 9 10 11) λrec0=>(kq (j4 (x81 c h u rec0) 0 9 10 11)))))))))
noncomputable abbrev x11u:=VX x1u 7 r_1
theorem xjh:x11u c h u (xkb x1u) r_1 eNil=j1 (x83 c h u) 0:=(kq (j1 (x83 c h u) 0))
noncomputable abbrev x11v:=VX x1v 50 r_4
theorem xji:x11v c h u (xkb x1v) r_4 eNil=j1 (x87 c h u) 0:=(tq (j1 (x87 c h u) 0) (sqN 2 (sq2 (kq (j0 (xe0 c h u))) (tq (j1 (xe4 c h u) 0) (sqN 1 (bk 0 (lq (x16 c h u) (λr=>j2 r 0 4) λrec0=>(tq (j2 (x86 c h u rec0) 0 4) (sqN 1 (sq2 (kq (j2 (xe1 c h u rec0) 0 4)) (bk 1 (tq (j2 (xe3 c h u rec0) 0 4) (sqN 2 (sq2 (kq (j3 (x84 c h u rec0) 0 4 5)) (tq (j3 (xe2 c h u rec0) 0 4 5) (sqN 1 (bk 2 (lq (x45 c h u rec0) (λr=>j4 r 0 4 5 6) λs=>(kq (j4 (x85 c h u rec0 s) 0 4 5 6))))))))))))))))))))
noncomputable abbrev x11w:=VX x1w 98 r_4
theorem xjj:x11w c h u (xkb x1w) r_4 eNil=j1 (x8c c h u) 0:=(tq (j1 (x8c c h u) 0) (sqN 4 (sq2 (tq (j3 (xe8 c h u) 1 4 5) (sqN 1 (sq2 (kq (j2 (xe5 c h u) 5 10)) (tq (j4 (xe7 c h u) 1 4 5 10) (sqN 1 (bk 4 (lq (x46 c h u) (λr=>j5 r 1 4 5 10 11) λrec0=>(tq (j5 (x88 c h u rec0) 1 4 5 10 11) (sqN 1 (sq2 (kq (j5 (x4t c h u rec0) 1 4 5 10 11)) (kq (j5 (xe6 c h u rec0) 1 4 5 10 11)))))))))))) (tq (j4 (xec c h u) 1 4 5 6) (sqN 1 (bk 0 (lq (x17 c h u) (λr=>j6 r 1 4 5 6 18 19) λs=>(tq (j6 (x8b c h u s) 1 4 5 6 18 19) (sqN 2 (sq2 (kq (j6 (x47 c h u s) 1 4 5 6 18 19)) (bk 1 (tq (j6 (xeb c h u s) 1 4 5 6 18 19) (sqN 1 (sq2 (kq (j7 (x89 c h u s) 1 4 5 6 7 18 19)) (tq (j7 (xea c h u s) 1 4 5 6 7 18 19) (sqN 1 (bk 2 (lq (x2c c h u s) (λr=>j8 r 1 4 5 6 7 8 18 19) λw=>(tq (j8 (x8a c h u s w) 1 4 5 6 7 8 18 19) (sqN 1 (sq2 (kq (j8 (x2b c h u s w) 1 4 5 6 7 8 18 19)) (kq (j8 (xe9 c h u s w) 1 4 5 6 7 8 18 19)))))))))))))))))))))))
noncomputable abbrev x11x:=VX x4e 63 r_12
theorem xjk:x11x c h u (xkb x4e) r_12 eNil=j3 (x8f c h u) 0 1 2:=(tq (j3 (x8f c h u) 0 1 2) (sqN 2 (sq2 (tq (j5 (xeg c h u) 0 1 2 6 7) (sqN 1 (bk 2 (lq (x8d c h u) (λr=>j4 r 0 1 2 6) λrec0=>(tq (j4 (xef c h u rec0) 0 1 2 6) (sqN 1 (bk 3 (tq (j4 (xfc c h u rec0) 0 1 2 6) (sqN 1 (sq2 (sq2 (kq (j4 (xed c h u rec0) 0 1 2 6)) (kq (j5 (xf9 c h u rec0) 0 1 2 6 7))) (bk 4 (lq (xee c h u rec0) (λr=>j6 r 0 1 2 6 7 8) λs=>(kq (j6 (xfb c h u rec0 s) 0 1 2 6 7 8)))))))))))))) (bk 0 (lq (x8e c h u) (λr=>j6 r 0 1 2 6 7 8) λw=>(kq (j6 (xeh c h u w) 0 1 2 6 7 8)))))))
noncomputable abbrev x11y:=VX x1x 134 r_12
theorem xjl:x11y c h u (xkb x1x) r_12 eNil=j4 (x8h c h u) 0 1 2 3:=(tq (j4 (x8h c h u) 0 1 2 3) (sqN 2 (bk 0 (lq (x8g c h u) (λr=>j6 r 0 1 2 3 8 9) λrec0=>(bk 1 (tq (j6 (xel c h u rec0) 0 1 2 3 8 9) (sqN 3 (sq2 (tq (j7 (xek c h u rec0) 0 1 2 3 8 9 10) (sqN 1 (sq2 (sq2 (kq (j8 (xei c h u rec0) 0 1 2 3 8 9 10 11)) (kq (j9 (xej c h u rec0) 0 1 2 3 8 9 10 11 12))) (kq (j9 (xfd c h u rec0) 0 1 2 3 8 9 10 11 12))))) (kq (j7 (xfe c h u rec0) 0 1 2 3 8 9 10))))))))))
noncomputable abbrev x11z:=VX x2y 8 r_1
theorem xjm:x11z c h u (xkb x2y) r_1 eNil=j1 (x8i c h u) 0:=(kq (j1 (x8i c h u) 0))
noncomputable abbrev x120:=VX x2z 49 r_1
theorem xjn:x120 c h u (xkb x2z) r_1 eNil=j1 (x8m c h u) 0:=(tq (j1 (x8m c h u) 0) (sqN 2 (sq2 (kq (j0 (xem c h u))) (tq (j1 (xep c h u) 0) (sqN 1 (bk 0 (lq (x2d c h u) (λr=>j3 r 13 14 15) λrec0=>(tq (j3 (x8l c h u rec0) 13 14 15) (sqN 2 (sq2 (kq (j3 (x8j c h u rec0) 13 14 15)) (bk 1 (tq (j3 (xeo c h u rec0) 13 14 15) (sqN 1 (bk 2 (sq2 (kq (j6 (x8k c h u rec0) 3 4 13 14 15 20)) (kq (j5 (xen c h u rec0) 3 4 13 14 15)))))))))))))))))
noncomputable abbrev x121:=VX x30 9 r_0
theorem xjo:x121 c h u (xkb x30) r_0 eNil=j2 (x8n c h u) 0 1:=(kq (j2 (x8n c h u) 0 1))
noncomputable abbrev x122:=VX x8 9 r_9
theorem xjp:x122 c h u (xkb x8) r_9 eNil=j2 (x8o c h u) 0 1:=(kq (j2 (x8o c h u) 0 1))
noncomputable abbrev x123:=VX x31 55 r_1
theorem xjq:x123 c h u (xkb x31) r_1 eNil=j1 (x8q c h u) 0:=(tq (j1 (x8q c h u) 0) (sqN 2 (sq2 (kq (j0 (xeq c h u))) (tq (j1 (xer c h u) 0) (sqN 1 (bk 0 (lq (x2e c h u) (λr=>j2 r 0 3) λrec0=>(kq (j2 (x8p c h u rec0) 0 3)))))))))
noncomputable abbrev x124:=VX x10 18 r_0
theorem xjr:x124 c h u (xkb x10) r_0 eNil=j2 (xet c h u) 0 1:=(tq (j2 (xet c h u) 0 1) (sqN 1 (sq2 (kq (j0 (xes c h u))) (tq (j2 (xff c h u) 0 1) (sqN 1 (bk 0 (lq (x48 c h u) (λr=>j3 r 0 1 5) λrec0=>(kq (j3 (x8r c h u rec0) 0 1 5)))))))))
noncomputable abbrev x125:=VX x1y 53 r_12
theorem xjs:x125 c h u (xkb x1y) r_12 eNil=j4 (x8u c h u) 0 1 2 3:=(tq (j4 (x8u c h u) 0 1 2 3) (sqN 1 (bk 0 (lq (x18 c h u) (λr=>j5 r 0 1 2 3 8) λrec0=>(tq (j5 (x4v c h u rec0) 0 1 2 3 8) (sqN 1 (sq2 (kq (j5 (x8s c h u rec0) 0 1 2 3 8)) (bk 1 (tq (j5 (xeu c h u rec0) 0 1 2 3 8) (sqN 1 (bk 2 (lq (x49 c h u rec0) (λr=>j6 r 0 1 2 3 8 9) λs=>(kq (j6 (x8t c h u rec0 s) 0 1 2 3 8 9))))))))))))))
noncomputable abbrev x126:=VX x32 49 r_12
theorem xjt:x126 c h u (xkb x32) r_12 eNil=j3 (x8x c h u) 0 1 2:=(tq (j3 (x8x c h u) 0 1 2) (sqN 1 (bk 0 (lq (x19 c h u) (λr=>j4 r 0 1 2 6) λrec0=>(tq (j4 (x4w c h u rec0) 0 1 2 6) (sqN 1 (sq2 (kq (j4 (x8v c h u rec0) 0 1 2 6)) (bk 1 (tq (j4 (xev c h u rec0) 0 1 2 6) (sqN 1 (bk 2 (lq (x4a c h u rec0) (λr=>j5 r 0 1 2 6 7) λs=>(kq (j5 (x8w c h u rec0 s) 0 1 2 6 7))))))))))))))
noncomputable abbrev x127:=VX x1z 17 r_0
theorem xju:x127 c h u (xkb x1z) r_0 eNil=j2 (x8y c h u) 0 1:=(kq (j2 (x8y c h u) 0 1))
noncomputable abbrev x128:=VX x33 25 r_1
theorem xjv:x128 c h u (xkb x33) r_1 eNil=j1 (xez c h u) 0:=(tq (j1 (xez c h u) 0) (sqN 1 (sq2 (sq2 (sq2 (kq (j2 (xew c h u) 0 2)) (kq (j2 (xex c h u) 0 2))) (kq (j2 (xey c h u) 0 2))) (kq (j2 (xfg c h u) 0 2)))))
noncomputable abbrev x129:=VX x34 19 r_0
theorem xjw:x129 c h u (xkb x34) r_0 eNil=j2 (x90 c h u) 0 1:=(tq (j2 (x90 c h u) 0 1) (sqN 1 (sq2 (kq (j0 (xf0 c h u))) (tq (j2 (xf1 c h u) 0 1) (sqN 1 (bk 0 (lq (x4b c h u) (λr=>j4 r 0 1 7 8) λrec0=>(kq (j4 (x8z c h u rec0) 0 1 7 8)))))))))
noncomputable abbrev x12a:=VX x20 6 r_1
theorem xjx:x12a c h u (xkb x20) r_1 eNil=j1 (x91 c h u) 0:=(kq (j1 (x91 c h u) 0))
end Go.Ix
