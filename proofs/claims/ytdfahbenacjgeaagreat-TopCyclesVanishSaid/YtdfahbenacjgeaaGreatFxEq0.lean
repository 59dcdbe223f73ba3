import Derived.Test.YtdfahbenacjgeaaGreatFxText0
import Derived.Test.YtdfahbenacjgeaaGreatFxEnt
import Derived.Test.YtdfahbenacjgeaaGreatFxRules
import Derived.Test.YtdfahbenacjgeaaGreatFxProj
import Derived.ProofKit
set_option linter.unusedVariables false
namespace Go.Ix
open Go.Proofs
variable{c:xsj}{h:FHs}{u:Nat}
noncomputable abbrev x1d3:=VX x6j 209 r_0
theorem xpj:x1d3 c h u (xsq x6j) r_0 eNil=j2 (x7u c h u) 0 1:=(tq (j2 (x7u c h u) 0 1) (sqN 8 (sq2 (tq (j3 (x7s c h u) 2 3 5) (sqN 9 (sq2 (kq (j0 (xg7 c h u))) (tq (j2 (x6m c h u) 14 24) (sqN 1 (bk 2 (lq (x4z c h u) (λr=>j3 r 14 24 25) λrec0=>(kq (j3 (x7r c h u rec0) 14 24 25))))))))) (tq (j3 (xg9 c h u) 2 3 5) (sqN 1 (bk 0 (lq (x51 c h u) (λr=>j4 r 2 3 5 13) λs=>(kq (j4 (x7t c h u s) 2 3 5 13)))))))))
noncomputable abbrev x1d4:=VX x25 10 r_1
theorem xpk:x1d4 c h u (xsq x25) r_1 eNil=j1 (x7v c h u) 0:=(kq (j1 (x7v c h u) 0))
noncomputable abbrev x1d5:=VX x26 90 r_2
theorem xpl:x1d5 c h u (xsq x26) r_2 eNil=j2 (x7y c h u) 0 1:=(tq (j2 (x7y c h u) 0 1) (sqN 5 (sq2 (tq (j4 (xge c h u) 1 2 8 9) (sqN 3 (sq2 (kq (j1 (xgb c h u) 14)) (tq (j4 (xgd c h u) 1 12 13 14) (sqN 1 (bk 2 (lq (x52 c h u) (λr=>j7 r 1 12 13 14 60 61 62) λrec0=>(tq (j7 (x7w c h u rec0) 1 12 13 14 60 61 62) (sqN 2 (sq2 (kq (j7 (x6n c h u rec0) 1 12 13 14 60 61 62)) (kq (j7 (xgc c h u rec0) 1 12 13 14 60 61 62)))))))))))) (tq (j4 (xgg c h u) 1 2 8 9) (sqN 1 (bk 0 (lq (x53 c h u) (λr=>j7 r 1 2 8 9 36 37 38) λs=>(tq (j7 (x7x c h u s) 1 2 8 9 36 37 38) (sqN 2 (sq2 (kq (j7 (x6o c h u s) 1 2 8 9 36 37 38)) (kq (j7 (xgf c h u s) 1 2 8 9 36 37 38))))))))))))
noncomputable abbrev x1d6:=VX xf 13 r_3
theorem xpm:x1d6 c h u (xsq xf) r_3 eNil=j1 (x6p c h u) 0:=(kq (j1 (x6p c h u) 0))
noncomputable abbrev x1d7:=VX x10 12 r_4
theorem xpn:x1d7 c h u (xsq x10) r_4 eNil=j1 (x7z c h u) 0:=(kq (j1 (x7z c h u) 0))
noncomputable abbrev x1d8:=VX x27 64 r_5
theorem xpo:x1d8 c h u (xsq x27) r_5 eNil=j2 (x81 c h u) 0 1:=(tq (j2 (x81 c h u) 0 1) (sqN 3 (sq2 (kq (j3 (xgi c h u) 1 2 7)) (tq (j3 (xgj c h u) 1 2 7) (sqN 1 (bk 0 (lq (x3a c h u) (λr=>j6 r 1 2 7 19 20 21) λrec0=>(kq (j6 (x80 c h u rec0) 1 2 7 19 20 21)))))))))
noncomputable abbrev x1d9:=VX xo 6 r_1
theorem xpp:x1d9 c h u (xsq xo) r_1 eNil=j1 (x54 c h u) 0:=(kq (j1 (x54 c h u) 0))
noncomputable abbrev x1da:=VX x28 36 r_0
theorem xpq:x1da c h u (xsq x28) r_0 eNil=j2 (x83 c h u) 0 1:=(tq (j2 (x83 c h u) 0 1) (sqN 3 (sq2 (kq (j1 (xgk c h u) 6)) (tq (j4 (xgl c h u) 1 2 5 6) (sqN 1 (bk 0 (lq (x55 c h u) (λr=>j5 r 1 2 5 6 7) λrec0=>(kq (j5 (x82 c h u rec0) 1 2 5 6 7)))))))))
noncomputable abbrev x1db:=VX x29 60 r_6
theorem xpr:x1db c h u (xsq x29) r_6 eNil=j1 (x6q c h u) 0:=(tq (j1 (x6q c h u) 0) (sqN 6 (sq2 (kq (j3 (xgm c h u) 9 10 11)) (tq (j5 (xgn c h u) 6 8 9 10 11) (sqN 1 (bk 0 (lq (x56 c h u) (λr=>j7 r 8 9 10 11 33 34 35) λrec0=>(kq (j7 (x84 c h u rec0) 8 9 10 11 33 34 35)))))))))
noncomputable abbrev x1dc:=VX x11 15 r_7
theorem xps:x1dc c h u (xsq x11) r_7 eNil=j1 (x6r c h u) 0:=(kq (j1 (x6r c h u) 0))
noncomputable abbrev x1dd:=VX x43 21 r_5
theorem xpt:x1dd c h u (xsq x43) r_5 eNil=j2 (x85 c h u) 0 1:=(kq (j2 (x85 c h u) 0 1))
noncomputable abbrev x1de:=VX xh 15 r_8
theorem xpu:x1de c h u (xsq xh) r_8 eNil=j3 (x86 c h u) 0 1 2:=(kq (j3 (x86 c h u) 0 1 2))
noncomputable abbrev x1df:=VX x2a 31 r_9
theorem xpv:x1df c h u (xsq x2a) r_9 eNil=j2 (x88 c h u) 0 1:=(tq (j2 (x88 c h u) 0 1) (sqN 2 (sq2 (kq (j2 (xgo c h u) 4 5)) (tq (j3 (xgp c h u) 1 4 5) (sqN 1 (bk 0 (lq (x57 c h u) (λr=>j4 r 1 4 5 6) λrec0=>(kq (j4 (x87 c h u rec0) 1 4 5 6)))))))))
noncomputable abbrev x1dg:=VX xq 58 r_1
theorem xpw:x1dg c h u (xsq xq) r_1 eNil=j1 (x8b c h u) 0:=(tq (j1 (x8b c h u) 0) (sqN 3 (sq2 (sq2 (kq (j0 (xgq c h u))) (tq (j1 (xgr c h u) 1) (sqN 1 (bk 2 (lq (x58 c h u) (λr=>j2 r 1 5) λrec0=>(kq (j2 (x89 c h u rec0) 1 5))))))) (tq (j1 (xgs c h u) 1) (sqN 1 (bk 0 (lq (x59 c h u) (λr=>j2 r 1 4) λs=>(kq (j2 (x8a c h u s) 1 4)))))))))
noncomputable abbrev x1dh:=VX x2b 24 r_5
theorem xpx:x1dh c h u (xsq x2b) r_5 eNil=j2 (x8c c h u) 0 1:=(kq (j2 (x8c c h u) 0 1))
noncomputable abbrev x1di:=VX x2c 106 r_10
theorem xpy:x1di c h u (xsq x2c) r_10 eNil=j1 (x6t c h u) 0:=(tq (j1 (x6t c h u) 0) (sqN 3 (sq2 (tq (j2 (x8g c h u) 1 5) (sqN 1 (sq2 (kq (j1 (xgt c h u) 8)) (tq (j3 (xgz c h u) 1 5 8) (sqN 1 (bk 2 (lq (xk c h u) (λr=>j5 r 1 5 8 38 39) λrec0=>(tq (j5 (x8f c h u rec0) 1 5 8 38 39) (sqN 2 (sq2 (kq (j5 (xgu c h u rec0) 1 5 8 38 39)) (bk 3 (tq (j5 (xgy c h u rec0) 1 5 8 38 39) (sqN 2 (bk 4 (lq (x19 c h u rec0) (λr=>j7 r 1 5 8 9 10 38 39) λs=>(tq (j7 (x8e c h u rec0 s) 1 5 8 9 10 38 39) (sqN 1 (sq2 (kq (j7 (xgv c h u rec0 s) 1 5 8 9 10 38 39)) (bk 5 (tq (j7 (xgx c h u rec0 s) 1 5 8 9 10 38 39) (sqN 2 (bk 6 (lq (x3b c h u rec0 s) (λr=>j10 r 1 5 8 9 10 11 12 13 38 39) λw=>(tq (j10 (x8d c h u rec0 s w) 1 5 8 9 10 11 12 13 38 39) (sqN 1 (sq2 (kq (j10 (x5a c h u rec0 s w) 1 5 8 9 10 11 12 13 38 39)) (kq (j10 (xgw c h u rec0 s w) 1 5 8 9 10 11 12 13 38 39)))))))))))))))))))))))))))) (tq (j2 (xh0 c h u) 1 5) (sqN 1 (bk 0 (lq (x5c c h u) (λr=>j5 r 1 5 25 26 27) λz=>(kq (j5 (x8h c h u z) 1 5 25 26 27)))))))))
noncomputable abbrev x1dj:=VX x2d 22 r_5
theorem xpz:x1dj c h u (xsq x2d) r_5 eNil=j2 (x8i c h u) 0 1:=(kq (j2 (x8i c h u) 0 1))
noncomputable abbrev x1dk:=VX x2e 34 r_1
theorem xq0:x1dk c h u (xsq x2e) r_1 eNil=j1 (x8k c h u) 0:=(tq (j1 (x8k c h u) 0) (sqN 5 (sq2 (kq (j0 (xh1 c h u))) (tq (j1 (xh2 c h u) 3) (sqN 1 (bk 0 (lq (x5d c h u) (λr=>j2 r 3 5) λrec0=>(kq (j2 (x8j c h u rec0) 3 5)))))))))
noncomputable abbrev x1dl:=VX x1f 36 r_1
theorem xq1:x1dl c h u (xsq x1f) r_1 eNil=j1 (x8l c h u) 0:=(kq (j1 (x8l c h u) 0))
noncomputable abbrev x1dm:=VX xi 15 r_8
theorem xq2:x1dm c h u (xsq xi) r_8 eNil=j3 (x8m c h u) 0 1 2:=(kq (j3 (x8m c h u) 0 1 2))
noncomputable abbrev x1dn:=VX x1g 42 r_0
theorem xq3:x1dn c h u (xsq x1g) r_0 eNil=j2 (x8o c h u) 0 1:=(tq (j2 (x8o c h u) 0 1) (sqN 3 (sq2 (kq (j1 (xh3 c h u) 6)) (tq (j4 (xh4 c h u) 1 2 5 6) (sqN 1 (bk 0 (lq (x5e c h u) (λr=>j6 r 1 5 6 14 15 16) λrec0=>(kq (j6 (x8n c h u rec0) 1 5 6 14 15 16)))))))))
noncomputable abbrev x1do:=VX x1h 38 r_0
theorem xq4:x1do c h u (xsq x1h) r_0 eNil=j2 (x8q c h u) 0 1:=(tq (j2 (x8q c h u) 0 1) (sqN 5 (sq2 (kq (j1 (xh5 c h u) 5)) (tq (j3 (xh7 c h u) 5 6 8) (sqN 1 (bk 0 (lq (x5f c h u) (λr=>j5 r 5 6 8 24 25) λrec0=>(tq (j5 (x8p c h u rec0) 5 6 8 24 25) (sqN 2 (sq2 (kq (j5 (x6u c h u rec0) 5 6 8 24 25)) (kq (j5 (xh6 c h u rec0) 5 6 8 24 25))))))))))))
noncomputable abbrev x1dp:=VX x2f 30 r_0
theorem xq5:x1dp c h u (xsq x2f) r_0 eNil=j2 (x8s c h u) 0 1:=(tq (j2 (x8s c h u) 0 1) (sqN 2 (sq2 (kq (j1 (xh9 c h u) 5)) (tq (j3 (xhb c h u) 1 2 5) (sqN 1 (bk 0 (lq (x5g c h u) (λr=>j5 r 1 5 15 16 17) λrec0=>(tq (j5 (x8r c h u rec0) 1 5 15 16 17) (sqN 2 (sq2 (kq (j5 (x6v c h u rec0) 1 5 15 16 17)) (kq (j5 (xha c h u rec0) 1 5 15 16 17))))))))))))
noncomputable abbrev x1dq:=VX x12 11 r_1
theorem xq6:x1dq c h u (xsq x12) r_1 eNil=j1 (x8t c h u) 0:=(kq (j1 (x8t c h u) 0))
noncomputable abbrev x1dr:=VX x13 15 r_1
theorem xq7:x1dr c h u (xsq x13) r_1 eNil=j1 (x8v c h u) 0:=(tq (j1 (x8v c h u) 0) (sqN 2 (sq2 (kq (j1 (xhc c h u) 3)) (tq (j2 (xhd c h u) 0 3) (sqN 1 (bk 0 (lq (x5h c h u) (λr=>j3 r 3 5 6) λrec0=>(kq (j3 (x8u c h u rec0) 3 5 6)))))))))
noncomputable abbrev x1ds:=VX x14 44 r_0
theorem xq8:x1ds c h u (xsq x14) r_0 eNil=j2 (x8y c h u) 0 1:=(tq (j2 (x8y c h u) 0 1) (sqN 2 (sq2 (kq (j2 (xhe c h u) 5 6)) (tq (j3 (xhg c h u) 0 5 6) (sqN 1 (bk 0 (lq (x5i c h u) (λr=>j6 r 0 5 6 19 20 21) λrec0=>(tq (j6 (x8x c h u rec0) 0 5 6 19 20 21) (sqN 2 (sq2 (kq (j6 (x8w c h u rec0) 0 5 6 19 20 21)) (kq (j6 (xhf c h u rec0) 0 5 6 19 20 21))))))))))))
noncomputable abbrev x1dt:=VX x2g 9 r_0
theorem xq9:x1dt c h u (xsq x2g) r_0 eNil=j2 (x8z c h u) 0 1:=(kq (j2 (x8z c h u) 0 1))
noncomputable abbrev x1du:=VX x1i 15 r_11
theorem xqa:x1du c h u (xsq x1i) r_11 eNil=j2 (x90 c h u) 0 1:=(kq (j2 (x90 c h u) 0 1))
noncomputable abbrev x1dv:=VX x44 21 r_0
theorem xqb:x1dv c h u (xsq x44) r_0 eNil=j2 (x92 c h u) 0 1:=(tq (j2 (x92 c h u) 0 1) (sqN 2 (sq2 (kq (j1 (xhi c h u) 5)) (tq (j3 (xhj c h u) 1 2 5) (sqN 1 (bk 0 (lq (x5j c h u) (λr=>j5 r 2 5 8 9 10) λrec0=>(kq (j5 (x91 c h u rec0) 2 5 8 9 10)))))))))
noncomputable abbrev x1dw:=VX x15 68 r_0
theorem xqc:x1dw c h u (xsq x15) r_0 eNil=j2 (x97 c h u) 0 1:=(tq (j2 (x97 c h u) 0 1) (sqN 2 (sq2 (sq2 (kq (j1 (xhk c h u) 5)) (tq (j3 (xho c h u) 1 2 5) (sqN 1 (bk 2 (lq (x3d c h u) (λr=>j4 r 1 2 5 7) λrec0=>(tq (j4 (x95 c h u rec0) 1 2 5 7) (sqN 1 (sq2 (kq (j4 (xhl c h u rec0) 1 2 5 7)) (bk 3 (tq (j4 (xhn c h u rec0) 1 2 5 7) (sqN 3 (bk 4 (lq (x3c c h u rec0) (λr=>j7 r 1 2 5 7 9 10 11) λs=>(tq (j7 (x94 c h u rec0 s) 1 2 5 7 9 10 11) (sqN 1 (sq2 (kq (j7 (x93 c h u rec0 s) 1 2 5 7 9 10 11)) (kq (j7 (xhm c h u rec0 s) 1 2 5 7 9 10 11)))))))))))))))))) (tq (j3 (xhp c h u) 1 2 5) (sqN 1 (bk 0 (lq (x5k c h u) (λr=>j4 r 1 2 5 6) λw=>(kq (j4 (x96 c h u w) 1 2 5 6)))))))))
noncomputable abbrev x1dx:=VX x1j 40 r_0
theorem xqd:x1dx c h u (xsq x1j) r_0 eNil=j2 (x98 c h u) 0 1:=(kq (j2 (x98 c h u) 0 1))
noncomputable abbrev x1dy:=VX x45 22 r_0
theorem xqe:x1dy c h u (xsq x45) r_0 eNil=j2 (x9a c h u) 0 1:=(tq (j2 (x9a c h u) 0 1) (sqN 2 (sq2 (kq (j1 (xhq c h u) 5)) (tq (j3 (xhs c h u) 1 2 5) (sqN 1 (bk 0 (lq (x5l c h u) (λr=>j4 r 1 2 5 6) λrec0=>(tq (j4 (x99 c h u rec0) 1 2 5 6) (sqN 1 (sq2 (kq (j4 (x6w c h u rec0) 1 2 5 6)) (kq (j4 (xhr c h u rec0) 1 2 5 6))))))))))))
noncomputable abbrev x1dz:=VX x46 30 r_0
theorem xqf:x1dz c h u (xsq x46) r_0 eNil=j2 (x9c c h u) 0 1:=(tq (j2 (x9c c h u) 0 1) (sqN 2 (sq2 (kq (j1 (xht c h u) 5)) (tq (j3 (xhu c h u) 0 1 5) (sqN 1 (bk 0 (lq (x5m c h u) (λr=>j4 r 0 1 5 6) λrec0=>(kq (j4 (x9b c h u rec0) 0 1 5 6)))))))))
noncomputable abbrev x1e0:=VX x2h 96 r_12
theorem xqg:x1e0 c h u (xsq x2h) r_12 eNil=j4 (x9h c h u) 0 1 2 3:=(tq (j4 (x9h c h u) 0 1 2 3) (sqN 4 (sq2 (tq (j4 (xhx c h u) 2 3 4 9) (sqN 1 (sq2 (kq (j1 (xhv c h u) 16)) (tq (j5 (xhw c h u) 2 3 4 9 16) (sqN 1 (bk 6 (lq (x5n c h u) (λr=>j5 r 2 4 9 16 17) λrec0=>(kq (j5 (x9d c h u rec0) 2 4 9 16 17))))))))) (tq (j6 (xi3 c h u) 1 2 3 4 9 10) (sqN 1 (bk 0 (lq (x3e c h u) (λr=>j8 r 1 2 3 4 9 10 31 32) λs=>(tq (j8 (x9g c h u s) 1 2 3 4 9 10 31 32) (sqN 2 (sq2 (kq (j8 (xhy c h u s) 1 2 3 4 9 10 31 32)) (bk 1 (tq (j8 (xi2 c h u s) 1 2 3 4 9 10 31 32) (sqN 1 (bk 2 (lq (x5p c h u s) (λr=>j9 r 1 2 3 4 9 10 11 31 32) λw=>(tq (j9 (x9f c h u s w) 1 2 3 4 9 10 11 31 32) (sqN 1 (sq2 (kq (j9 (xhz c h u s w) 1 2 3 4 9 10 11 31 32)) (bk 3 (tq (j9 (xi1 c h u s w) 1 2 3 4 9 10 11 31 32) (sqN 1 (bk 4 (lq (x1p c h u s w) (λr=>j10 r 1 2 3 4 9 10 11 12 31 32) λz=>(tq (j10 (x9e c h u s w z) 1 2 3 4 9 10 11 12 31 32) (sqN 1 (sq2 (kq (j10 (x5o c h u s w z) 1 2 3 4 9 10 11 12 31 32)) (kq (j10 (xi0 c h u s w z) 1 2 3 4 9 10 11 12 31 32))))))))))))))))))))))))))))
noncomputable abbrev x1e1:=VX xr 9 r_0
theorem xqh:x1e1 c h u (xsq xr) r_0 eNil=j2 (x9i c h u) 0 1:=(kq (j2 (x9i c h u) 0 1))
noncomputable abbrev x1e2:=VX x1k 10 r_0
theorem xqi:x1e2 c h u (xsq x1k) r_0 eNil=j2 (x9j c h u) 0 1:=(kq (j2 (x9j c h u) 0 1))
noncomputable abbrev x1e3:=VX x47 33 r_6
theorem xqj:x1e3 c h u (xsq x47) r_6 eNil=j1 (x6x c h u) 0:=(kq (j1 (x6x c h u) 0))
noncomputable abbrev x1e4:=VX x48 59 r_7
theorem xqk:x1e4 c h u (xsq x48) r_7 eNil=j1 (x9l c h u) 0:=(tq (j1 (x9l c h u) 0) (sqN 4 (sq2 (kq (j2 (xi4 c h u) 2 5)) (tq (j4 (xi5 c h u) 1 2 4 5) (sqN 1 (bk 0 (lq (x5q c h u) (λr=>j7 r 1 2 4 5 25 26 27) λrec0=>(kq (j7 (x9k c h u rec0) 1 2 4 5 25 26 27)))))))))
noncomputable abbrev x1e5:=VX x2i 14 r_13
theorem xql:x1e5 c h u (xsq x2i) r_13 eNil=j1 (x9m c h u) 0:=(kq (j1 (x9m c h u) 0))
noncomputable abbrev x1e6:=VX x49 76 r_5
theorem xqm:x1e6 c h u (xsq x49) r_5 eNil=j2 (x9o c h u) 0 1:=(tq (j2 (x9o c h u) 0 1) (sqN 3 (sq2 (kq (j2 (xi6 c h u) 6 7)) (tq (j4 (xi7 c h u) 1 2 6 7) (sqN 1 (bk 0 (lq (x5r c h u) (λr=>j6 r 1 6 7 23 24 25) λrec0=>(kq (j6 (x9n c h u rec0) 1 6 7 23 24 25)))))))))
noncomputable abbrev x1e7:=VX x4a 11 r_1
theorem xqn:x1e7 c h u (xsq x4a) r_1 eNil=j1 (x9p c h u) 0:=(kq (j1 (x9p c h u) 0))
noncomputable abbrev x1e8:=VX x4b 70 r_0
theorem xqo:x1e8 c h u (xsq x4b) r_0 eNil=j2 (x9t c h u) 0 1:=(tq (j2 (x9t c h u) 0 1) (sqN 4 (sq2 (kq (j2 (xi8 c h u) 6 7)) (tq (j4 (xib c h u) 1 2 6 7) (sqN 1 (bk 1 (lq (x3f c h u) (λr=>j6 r 2 6 7 25 26 27) λrec0=>(tq (j6 (x9s c h u rec0) 2 6 7 25 26 27) (sqN 2 (sq2 (kq (j6 (xi9 c h u rec0) 2 6 7 25 26 27)) (bk 2 (tq (j6 (xia c h u rec0) 2 6 7 25 26 27) (sqN 3 (sq2 (kq (j6 (x9q c h u rec0) 2 6 11 25 26 27)) (kq (j9 (x9r c h u rec0) 2 6 7 8 10 11 25 26 27))))))))))))))))
noncomputable abbrev x1e9:=VX x4c 26 r_0
theorem xqp:x1e9 c h u (xsq x4c) r_0 eNil=j2 (x9v c h u) 0 1:=(tq (j2 (x9v c h u) 0 1) (sqN 2 (sq2 (kq (j1 (xic c h u) 5)) (tq (j3 (xid c h u) 0 1 5) (sqN 1 (bk 0 (lq (x5s c h u) (λr=>j5 r 0 5 8 9 10) λrec0=>(kq (j5 (x9u c h u rec0) 0 5 8 9 10)))))))))
noncomputable abbrev x1ea:=VX x4d 5 r_1
theorem xqq:x1ea c h u (xsq x4d) r_1 eNil=j1 (x9w c h u) 0:=(kq (j1 (x9w c h u) 0))
noncomputable abbrev x1eb:=VX x4e 6 r_0
theorem xqr:x1eb c h u (xsq x4e) r_0 eNil=j2 (x9x c h u) 0 1:=(kq (j2 (x9x c h u) 0 1))
noncomputable abbrev x1ec:=VX x2j 63 r_1
theorem xqs:x1ec c h u (xsq x2j) r_1 eNil=j1 (xa0 c h u) 0:=(tq (j1 (xa0 c h u) 0) (sqN 3 (sq2 (kq (j0 (xie c h u))) (tq (j1 (x9z c h u) 1) (sqN 1 (bk 0 (lq (x5t c h u) (λr=>j2 r 1 3) λrec0=>(kq (j2 (x9y c h u rec0) 1 3)))))))))
noncomputable abbrev x1ed:=VX x2k 70 r_7
theorem xqt:x1ed c h u (xsq x2k) r_7 eNil=j1 (xa3 c h u) 0:=(tq (j1 (xa3 c h u) 0) (sqN 3 (sq2 (sq2 (kq (j2 (xif c h u) 2 4)) (tq (j4 (xig c h u) 1 2 4 5) (sqN 1 (bk 2 (lq (x5u c h u) (λr=>j5 r 1 2 4 5 7) λrec0=>(kq (j5 (xa1 c h u rec0) 1 2 4 5 7))))))) (tq (j4 (xih c h u) 1 2 4 5) (sqN 1 (bk 0 (lq (x5v c h u) (λr=>j5 r 1 2 4 5 6) λs=>(kq (j5 (xa2 c h u s) 1 2 4 5 6)))))))))
noncomputable abbrev x1ee:=VX x16 7 r_1
theorem xqu:x1ee c h u (xsq x16) r_1 eNil=j1 (xa4 c h u) 0:=(kq (j1 (xa4 c h u) 0))
noncomputable abbrev x1ef:=VX x2l 6 r_1
theorem xqv:x1ef c h u (xsq x2l) r_1 eNil=j1 (xa5 c h u) 0:=(kq (j1 (xa5 c h u) 0))
noncomputable abbrev x1eg:=VX x2m 6 r_1
theorem xqw:x1eg c h u (xsq x2m) r_1 eNil=j1 (xa6 c h u) 0:=(kq (j1 (xa6 c h u) 0))
noncomputable abbrev x1eh:=VX x2n 51 r_1
theorem xqx:x1eh c h u (xsq x2n) r_1 eNil=j1 (xa9 c h u) 0:=(tq (j1 (xa9 c h u) 0) (sqN 2 (sq2 (tq (j3 (xil c h u) 1 3 4) (sqN 2 (sq2 (kq (j1 (xii c h u) 4)) (tq (j4 (xik c h u) 1 3 4 6) (sqN 1 (bk 2 (lq (x5w c h u) (λr=>j6 r 1 4 6 29 30 31) λrec0=>(tq (j6 (xa7 c h u rec0) 1 4 6 29 30 31) (sqN 2 (sq2 (kq (j6 (x6y c h u rec0) 1 4 6 29 30 31)) (kq (j6 (xij c h u rec0) 1 4 6 29 30 31)))))))))))) (tq (j3 (xim c h u) 1 3 4) (sqN 1 (bk 0 (lq (x5x c h u) (λr=>j5 r 1 3 4 12 13) λs=>(kq (j5 (xa8 c h u s) 1 3 4 12 13)))))))))
noncomputable abbrev x1ei:=VX xt 43 r_14
theorem xqy:x1ei c h u (xsq xt) r_14 eNil=j7 (xab c h u) 0 1 2 3 4 5 6:=(tq (j7 (xab c h u) 0 1 2 3 4 5 6) (sqN 3 (bk 0 (tq (j6 (xio c h u) 1 4 5 6 7 16) (rg (.tmp 16) #[17,18] (λu=>(kq (j7 (xin c h u) 1 4 5 6 7 8 9))) (λu=>(kq (j7 (xaa c h u) 1 4 5 6 7 17 18))))))))
noncomputable abbrev x1ej:=VX x2o 8 r_8
theorem xqz:x1ej c h u (xsq x2o) r_8 eNil=j3 (xac c h u) 0 1 2:=(kq (j3 (xac c h u) 0 1 2))
noncomputable abbrev x1ek:=VX x4f 66 r_10
theorem xr0:x1ek c h u (xsq x4f) r_10 eNil=j1 (xae c h u) 0:=(tq (j1 (xae c h u) 0) (sqN 4 (sq2 (kq (j0 (xip c h u))) (tq (j2 (xir c h u) 1 6) (sqN 1 (bk 0 (lq (x3g c h u) (λr=>j5 r 1 6 26 27 28) λrec0=>(kq (j5 (xad c h u rec0) 1 6 26 27 28)))))))))
noncomputable abbrev x1el:=VX x4g 19 r_0
theorem xr1:x1el c h u (xsq x4g) r_0 eNil=j2 (xag c h u) 0 1:=(tq (j2 (xag c h u) 0 1) (sqN 1 (sq2 (kq (j0 (xis c h u))) (tq (j2 (xit c h u) 0 1) (sqN 1 (bk 0 (lq (x5y c h u) (λr=>j4 r 0 1 7 8) λrec0=>(kq (j4 (xaf c h u rec0) 0 1 7 8)))))))))
noncomputable abbrev x1em:=VX x1l 41 r_0
theorem xr2:x1em c h u (xsq x1l) r_0 eNil=j2 (xah c h u) 0 1:=(kq (j2 (xah c h u) 0 1))
noncomputable abbrev x1en:=VX x2p 24 r_5
theorem xr3:x1en c h u (xsq x2p) r_5 eNil=j2 (xai c h u) 0 1:=(kq (j2 (xai c h u) 0 1))
noncomputable abbrev x1eo:=VX x1e 19 r_0
theorem xph:x1eo c h u (xsq x1e) r_0 eNil=j2 (x6z c h u) 0 1:=(tq (j2 (x6z c h u) 0 1) (sqN 1 (sq2 (kq (j0 (xaj c h u))) (tq (j2 (xak c h u) 0 1) (sqN 1 (bk 0 (lq (xx c h u) (λr=>j4 r 0 1 7 8) λrec0=>(kq (j4 (x3h c h u rec0) 0 1 7 8)))))))))
noncomputable abbrev x1ep:=VX x2q 64 r_1
theorem xr4:x1ep c h u (xsq x2q) r_1 eNil=j1 (x71 c h u) 0:=(tq (j1 (x71 c h u) 0) (sqN 2 (sq2 (tq (j2 (x70 c h u) 1 3) (sqN 2 (sq2 (kq (j1 (xiu c h u) 3)) (tq (j3 (xiy c h u) 3 5 6) (sqN 1 (bk 2 (lq (xy c h u) (λr=>j5 r 3 6 26 27 28) λrec0=>(tq (j5 (xal c h u rec0) 3 6 26 27 28) (sqN 2 (sq2 (kq (j5 (xiv c h u rec0) 3 6 26 27 28)) (bk 3 (tq (j5 (xix c h u rec0) 3 6 26 27 28) (sqN 1 (sq2 (kq (j7 (x3i c h u rec0) 3 6 7 8 26 27 28)) (kq (j7 (xiw c h u rec0) 3 6 7 8 26 27 28)))))))))))))))) (bk 0 (lq (x1r c h u) (λr=>j2 r 1 3) λs=>(kq (j2 (xiz c h u s) 1 3)))))))
noncomputable abbrev x1eq:=VX x2r 27 r_0
theorem xr5:x1eq c h u (xsq x2r) r_0 eNil=j2 (xan c h u) 0 1:=(tq (j2 (xan c h u) 0 1) (sqN 2 (sq2 (kq (j1 (xj0 c h u) 5)) (tq (j3 (xj1 c h u) 1 2 5) (sqN 1 (bk 0 (lq (x5z c h u) (λr=>j5 r 1 5 10 11 12) λrec0=>(kq (j5 (xam c h u rec0) 1 5 10 11 12)))))))))
noncomputable abbrev x1er:=VX x2s 6 r_1
theorem xr6:x1er c h u (xsq x2s) r_1 eNil=j1 (xao c h u) 0:=(kq (j1 (xao c h u) 0))
noncomputable abbrev x1es:=VX x2t 62 r_10
theorem xr7:x1es c h u (xsq x2t) r_10 eNil=j1 (xaq c h u) 0:=(tq (j1 (xaq c h u) 0) (sqN 2 (sq2 (kq (j0 (xj2 c h u))) (tq (j1 (xj3 c h u) 1) (sqN 1 (bk 1 (lq (x60 c h u) (λr=>j4 r 1 17 18 19) λrec0=>(kq (j4 (xap c h u rec0) 1 17 18 19)))))))))
noncomputable abbrev x1et:=VX xm 15 r_8
theorem xpa:x1et c h u (xsq xm) r_8 eNil=j3 (xar c h u) 0 1 2:=(kq (j3 (xar c h u) 0 1 2))
noncomputable abbrev x1eu:=VX x17 5 r_1
theorem xr8:x1eu c h u (xsq x17) r_1 eNil=j1 (xas c h u) 0:=(kq (j1 (xas c h u) 0))
noncomputable abbrev x1ev:=VX x4h 73 r_10
theorem xr9:x1ev c h u (xsq x4h) r_10 eNil=j1 (xav c h u) 0:=(tq (j1 (xav c h u) 0) (sqN 3 (sq2 (kq (j0 (xj4 c h u))) (tq (j1 (xj7 c h u) 1) (sqN 1 (bk 0 (lq (x1s c h u) (λr=>j2 r 1 6) λrec0=>(tq (j2 (xau c h u rec0) 1 6) (sqN 1 (sq2 (kq (j2 (xj5 c h u rec0) 1 6)) (bk 1 (tq (j2 (xj6 c h u rec0) 1 6) (sqN 4 (bk 2 (lq (x3j c h u rec0) (λr=>j4 r 1 6 7 8) λs=>(kq (j4 (xat c h u rec0 s) 1 6 7 8)))))))))))))))))
noncomputable abbrev x1ew:=VX x2u 25 r_5
theorem xra:x1ew c h u (xsq x2u) r_5 eNil=j2 (xaw c h u) 0 1:=(kq (j2 (xaw c h u) 0 1))
noncomputable abbrev x1ex:=VX x4i 13 r_0
theorem xrb:x1ex c h u (xsq x4i) r_0 eNil=j2 (xay c h u) 0 1:=(tq (j2 (xay c h u) 0 1) (sqN 1 (sq2 (kq (j1 (xj8 c h u) 2)) (tq (j2 (xjb c h u) 1 2) (sqN 1 (bk 0 (tq (j2 (xja c h u) 2 6) (rg (.tmp 6) #[7] (λu=>(kq (j2 (xj9 c h u) 2 5))) (λu=>(kq (j2 (xax c h u) 2 7)))))))))))
noncomputable abbrev x1ey:=VX xu 26 r_14
theorem xrc:x1ey c h u (xsq xu) r_14 eNil=j3 (xb0 c h u) 0 1 2:=(tq (j3 (xb0 c h u) 0 1 2) (sqN 1 (bk 0 (lq (x61 c h u) (λr=>j5 r 0 1 2 8 9) λrec0=>(kq (j5 (xaz c h u rec0) 0 1 2 8 9))))))
noncomputable abbrev x1ez:=VX x4j 9 r_0
theorem xrd:x1ez c h u (xsq x4j) r_0 eNil=j2 (xb1 c h u) 0 1:=(kq (j2 (xb1 c h u) 0 1))
noncomputable abbrev x1f0:=VX x2v 31 r_8
theorem xre:x1f0 c h u (xsq x2v) r_8 eNil=j3 (xb2 c h u) 0 1 2:=(kq (j3 (xb2 c h u) 0 1 2))
noncomputable abbrev x1f1:=VX x4k 53 r_1
theorem xrf:x1f1 c h u (xsq x4k) r_1 eNil=j1 (xb5 c h u) 0:=(tq (j1 (xb5 c h u) 0) (sqN 2 (sq2 (kq (j0 (xjc c h u))) (tq (j1 (xb4 c h u) 1) (sqN 1 (bk 0 (lq (x62 c h u) (λr=>j2 r 1 3) λrec0=>(kq (j2 (xb3 c h u rec0) 1 3)))))))))
noncomputable abbrev x1f2:=VX x2w 52 r_1
theorem xrg:x1f2 c h u (xsq x2w) r_1 eNil=j1 (xb7 c h u) 0:=(tq (j1 (xb7 c h u) 0) (sqN 4 (sq2 (kq (j1 (xjd c h u) 6)) (tq (j3 (xje c h u) 1 5 6) (sqN 1 (bk 0 (lq (x63 c h u) (λr=>j4 r 1 5 6 7) λrec0=>(kq (j4 (xb6 c h u rec0) 1 5 6 7)))))))))
noncomputable abbrev x1f3:=VX x4l 14 r_0
theorem xrh:x1f3 c h u (xsq x4l) r_0 eNil=j2 (xb8 c h u) 0 1:=(tq (j2 (xb8 c h u) 0 1) (sqN 2 (sq2 (kq (j1 (x72 c h u) 0)) (kq (j2 (xjf c h u) 0 1)))))
noncomputable abbrev x1f4:=VX x4m 9 r_14
theorem xri:x1f4 c h u (xsq x4m) r_14 eNil=j2 (xb9 c h u) 0 1:=(kq (j2 (xb9 c h u) 0 1))
noncomputable abbrev x1f5:=VX x2x 13 r_15
theorem xrj:x1f5 c h u (xsq x2x) r_15 eNil=j3 (xba c h u) 0 1 2:=(kq (j3 (xba c h u) 0 1 2))
noncomputable abbrev x1f6:=VX x4n 11 r_14
theorem xrk:x1f6 c h u (xsq x4n) r_14 eNil=j1 (xbb c h u) 0:=(kq (j1 (xbb c h u) 0))
noncomputable abbrev x1f7:=VX x18 43 r_14
theorem xrl:x1f7 c h u (xsq x18) r_14 eNil=j4 (xbe c h u) 0 1 2 3:=(tq (j4 (xbe c h u) 0 1 2 3) (sqN 1 (bk 0 (lq (x1t c h u) (λr=>j6 r 0 2 3 12 13 14) λrec0=>(tq (j6 (xbd c h u rec0) 0 2 3 12 13 14) (sqN 2 (sq2 (kq (j6 (xjg c h u rec0) 0 2 3 12 13 14)) (bk 1 (tq (j6 (xjh c h u rec0) 0 2 3 12 13 14) (sqN 2 (bk 2 (lq (x3k c h u rec0) (λr=>j9 r 0 2 3 6 12 13 14 18 19) λs=>(kq (j9 (xbc c h u rec0 s) 0 2 3 6 12 13 14 18 19))))))))))))))
noncomputable abbrev x1f8:=VX x2y 42 r_10
theorem xrm:x1f8 c h u (xsq x2y) r_10 eNil=j1 (xbg c h u) 0:=(tq (j1 (xbg c h u) 0) (sqN 2 (sq2 (kq (j0 (xji c h u))) (tq (j1 (xjj c h u) 0) (sqN 1 (bk 0 (lq (x3l c h u) (λr=>j4 r 0 9 10 11) λrec0=>(kq (j4 (xbf c h u rec0) 0 9 10 11)))))))))
noncomputable abbrev x1f9:=VX x2z 7 r_1
theorem xrn:x1f9 c h u (xsq x2z) r_1 eNil=j1 (xbh c h u) 0:=(kq (j1 (xbh c h u) 0))
noncomputable abbrev x1fa:=VX x30 132 r_1
theorem xro:x1fa c h u (xsq x30) r_1 eNil=j1 (xbj c h u) 0:=(tq (j1 (xbj c h u) 0) (sqN 2 (sq2 (kq (j1 (xjk c h u) 3)) (tq (j2 (xjo c h u) 1 3) (sqN 1 (bk 0 (lq (x1u c h u) (λr=>j4 r 3 28 29 30) λrec0=>(tq (j4 (xbi c h u rec0) 3 28 29 30) (sqN 2 (sq2 (kq (j4 (xjl c h u rec0) 3 28 29 30)) (bk 1 (tq (j4 (xjn c h u rec0) 3 28 29 30) (sqN 1 (sq2 (kq (j6 (x3m c h u rec0) 3 4 5 28 29 30)) (kq (j6 (xjm c h u rec0) 3 4 5 28 29 30))))))))))))))))
noncomputable abbrev x1fb:=VX xz 5 r_1
theorem xpi:x1fb c h u (xsq xz) r_1 eNil=j1 (xbk c h u) 0:=(kq (j1 (xbk c h u) 0))
noncomputable abbrev x1fc:=VX x31 160 r_14
theorem xrp:x1fc c h u (xsq x31) r_14 eNil=j2 (xbs c h u) 0 1:=(tq (j2 (xbs c h u) 0 1) (sqN 2 (sq2 (tq (j4 (xbq c h u) 0 1 4 5) (sqN 1 (sq2 (sq2 (tq (j5 (xbm c h u) 0 1 4 5 8) (sqN 3 (bk 6 (lq (x64 c h u) (λr=>j6 r 0 4 5 136 137 138) λrec0=>(kq (j6 (xbl c h u rec0) 0 4 5 136 137 138)))))) (tq (j5 (xbo c h u) 0 1 4 5 8) (sqN 1 (bk 4 (lq (x65 c h u) (λr=>j6 r 0 1 4 5 8 10) λs=>(kq (j6 (xbn c h u s) 0 1 4 5 8 10))))))) (tq (j5 (xjp c h u) 0 1 4 5 8) (sqN 1 (bk 2 (lq (x66 c h u) (λr=>j6 r 0 1 4 5 8 9) λw=>(kq (j6 (xbp c h u w) 0 1 4 5 8 9))))))))) (tq (j4 (xjq c h u) 0 1 4 5) (sqN 1 (bk 0 (lq (x3n c h u) (λr=>j7 r 0 1 4 5 17 18 19) λz=>(tq (j7 (x74 c h u z) 0 1 4 5 17 18 19) (sqN 2 (sq2 (kq (j7 (x1v c h u z) 0 1 4 5 17 18 19)) (kq (j7 (xbr c h u z) 0 1 4 5 17 18 19))))))))))))
noncomputable abbrev x1fd:=VX x4o 53 r_1
theorem xrq:x1fd c h u (xsq x4o) r_1 eNil=j1 (x78 c h u) 0:=(tq (j1 (x78 c h u) 0) (sqN 2 (sq2 (kq (j2 (xbt c h u) 1 3)) (tq (j2 (xjr c h u) 1 3) (sqN 1 (bk 0 (lq (x1w c h u) (λr=>j5 r 1 3 12 13 14) λrec0=>(tq (j5 (x77 c h u rec0) 1 3 12 13 14) (sqN 2 (sq2 (kq (j5 (x76 c h u rec0) 1 3 12 13 14)) (kq (j5 (xbu c h u rec0) 1 3 12 13 14))))))))))))
noncomputable abbrev x1fe:=VX x42 7 r_1
theorem xpg:x1fe c h u (xsq x42) r_1 eNil=j1 (xbv c h u) 0:=(kq (j1 (xbv c h u) 0))
noncomputable abbrev x1ff:=VX x41 19 r_0
theorem xpf:x1ff c h u (xsq x41) r_0 eNil=j2 (xbw c h u) 0 1:=(kq (j2 (xbw c h u) 0 1))
noncomputable abbrev x1fg:=VX x4p 5 r_1
theorem xrr:x1fg c h u (xsq x4p) r_1 eNil=j1 (xbx c h u) 0:=(kq (j1 (xbx c h u) 0))
noncomputable abbrev x1fh:=VX x32 50 r_10
theorem xrs:x1fh c h u (xsq x32) r_10 eNil=j1 (xc1 c h u) 0:=(tq (j1 (xc1 c h u) 0) (sqN 2 (sq2 (kq (j0 (xjs c h u))) (tq (j1 (xjw c h u) 0) (sqN 1 (bk 0 (lq (x1x c h u) (λr=>j2 r 0 4) λrec0=>(tq (j2 (xc0 c h u rec0) 0 4) (sqN 1 (sq2 (kq (j2 (xjt c h u rec0) 0 4)) (bk 1 (tq (j2 (xjv c h u rec0) 0 4) (sqN 2 (sq2 (kq (j3 (xby c h u rec0) 0 4 5)) (tq (j3 (xju c h u rec0) 0 4 5) (sqN 1 (bk 2 (lq (x67 c h u rec0) (λr=>j4 r 0 4 5 6) λs=>(kq (j4 (xbz c h u rec0 s) 0 4 5 6))))))))))))))))))))
noncomputable abbrev x1fi:=VX x4q 19 r_0
theorem xrt:x1fi c h u (xsq x4q) r_0 eNil=j2 (xc3 c h u) 0 1:=(tq (j2 (xc3 c h u) 0 1) (sqN 1 (sq2 (kq (j0 (xjx c h u))) (tq (j2 (xjy c h u) 0 1) (sqN 1 (bk 0 (lq (x68 c h u) (λr=>j4 r 0 1 7 8) λrec0=>(kq (j4 (xc2 c h u rec0) 0 1 7 8)))))))))
noncomputable abbrev x1fj:=VX x33 42 r_16
theorem xru:x1fj c h u (xsq x33) r_16 eNil=j5 (xc6 c h u) 0 1 2 3 4:=(tq (j5 (xc6 c h u) 0 1 2 3 4) (sqN 2 (sq2 (kq (j2 (xc4 c h u) 10 11)) (tq (j7 (xk1 c h u) 5 6 7 8 9 10 11) (sqN 1 (bk 0 (tq (j8 (xk0 c h u) 5 6 7 8 9 10 11 22) (rg2 (.tmp 22) #[23,24] (λlid u=>(kq (j9 (xjz c h u lid) 5 6 7 8 9 10 11 12 13))) (λlid u=>(kq (j9 (xc5 c h u lid) 5 6 7 8 9 10 11 23 24)))))))))))
noncomputable abbrev x1fk:=VX x34 98 r_10
theorem xrv:x1fk c h u (xsq x34) r_10 eNil=j1 (xcb c h u) 0:=(tq (j1 (xcb c h u) 0) (sqN 4 (sq2 (tq (j3 (xk5 c h u) 1 4 5) (sqN 1 (sq2 (kq (j2 (xk2 c h u) 5 10)) (tq (j4 (xk4 c h u) 1 4 5 10) (sqN 1 (bk 4 (lq (x69 c h u) (λr=>j5 r 1 4 5 10 11) λrec0=>(tq (j5 (xc7 c h u rec0) 1 4 5 10 11) (sqN 1 (sq2 (kq (j5 (x79 c h u rec0) 1 4 5 10 11)) (kq (j5 (xk3 c h u rec0) 1 4 5 10 11)))))))))))) (tq (j4 (xk9 c h u) 1 4 5 6) (sqN 1 (bk 0 (lq (x1y c h u) (λr=>j6 r 1 4 5 6 18 19) λs=>(tq (j6 (xca c h u s) 1 4 5 6 18 19) (sqN 2 (sq2 (kq (j6 (x6a c h u s) 1 4 5 6 18 19)) (bk 1 (tq (j6 (xk8 c h u s) 1 4 5 6 18 19) (sqN 1 (sq2 (kq (j7 (xc8 c h u s) 1 4 5 6 7 18 19)) (tq (j7 (xk7 c h u s) 1 4 5 6 7 18 19) (sqN 1 (bk 2 (lq (x3p c h u s) (λr=>j8 r 1 4 5 6 7 8 18 19) λw=>(tq (j8 (xc9 c h u s w) 1 4 5 6 7 8 18 19) (sqN 1 (sq2 (kq (j8 (x3o c h u s w) 1 4 5 6 7 8 18 19)) (kq (j8 (xk6 c h u s w) 1 4 5 6 7 8 18 19)))))))))))))))))))))))
noncomputable abbrev x1fl:=VX x6l 63 r_14
theorem xrw:x1fl c h u (xsq x6l) r_14 eNil=j3 (xce c h u) 0 1 2:=(tq (j3 (xce c h u) 0 1 2) (sqN 2 (sq2 (tq (j5 (xkd c h u) 0 1 2 6 7) (sqN 1 (bk 2 (lq (xcc c h u) (λr=>j4 r 0 1 2 6) λrec0=>(tq (j4 (xkc c h u rec0) 0 1 2 6) (sqN 1 (bk 3 (tq (j4 (xlu c h u rec0) 0 1 2 6) (sqN 1 (sq2 (sq2 (kq (j4 (xka c h u rec0) 0 1 2 6)) (kq (j5 (xlr c h u rec0) 0 1 2 6 7))) (bk 4 (lq (xkb c h u rec0) (λr=>j6 r 0 1 2 6 7 8) λs=>(kq (j6 (xlt c h u rec0 s) 0 1 2 6 7 8)))))))))))))) (bk 0 (lq (xcd c h u) (λr=>j6 r 0 1 2 6 7 8) λw=>(kq (j6 (xke c h u w) 0 1 2 6 7 8)))))))
noncomputable abbrev x1fm:=VX x35 134 r_14
theorem xrx:x1fm c h u (xsq x35) r_14 eNil=j4 (xcg c h u) 0 1 2 3:=(tq (j4 (xcg c h u) 0 1 2 3) (sqN 2 (bk 0 (lq (xcf c h u) (λr=>j6 r 0 1 2 3 8 9) λrec0=>(bk 1 (tq (j6 (xki c h u rec0) 0 1 2 3 8 9) (sqN 3 (sq2 (tq (j7 (xkh c h u rec0) 0 1 2 3 8 9 10) (sqN 1 (sq2 (sq2 (kq (j8 (xkf c h u rec0) 0 1 2 3 8 9 10 11)) (kq (j9 (xkg c h u rec0) 0 1 2 3 8 9 10 11 12))) (kq (j9 (xlv c h u rec0) 0 1 2 3 8 9 10 11 12))))) (kq (j7 (xlw c h u rec0) 0 1 2 3 8 9 10))))))))))
noncomputable abbrev x1fn:=VX x4r 8 r_1
theorem xry:x1fn c h u (xsq x4r) r_1 eNil=j1 (xch c h u) 0:=(kq (j1 (xch c h u) 0))
noncomputable abbrev x1fo:=VX x4s 49 r_1
theorem xrz:x1fo c h u (xsq x4s) r_1 eNil=j1 (xcl c h u) 0:=(tq (j1 (xcl c h u) 0) (sqN 2 (sq2 (kq (j0 (xkj c h u))) (tq (j1 (xkm c h u) 0) (sqN 1 (bk 0 (lq (x3q c h u) (λr=>j3 r 13 14 15) λrec0=>(tq (j3 (xck c h u rec0) 13 14 15) (sqN 2 (sq2 (kq (j3 (xci c h u rec0) 13 14 15)) (bk 1 (tq (j3 (xkl c h u rec0) 13 14 15) (sqN 1 (bk 2 (sq2 (kq (j6 (xcj c h u rec0) 3 4 13 14 15 20)) (kq (j5 (xkk c h u rec0) 3 4 13 14 15)))))))))))))))))
noncomputable abbrev x1fp:=VX x4t 9 r_0
theorem xs0:x1fp c h u (xsq x4t) r_0 eNil=j2 (xcm c h u) 0 1:=(kq (j2 (xcm c h u) 0 1))
noncomputable abbrev x1fq:=VX xc 9 r_11
theorem xs1:x1fq c h u (xsq xc) r_11 eNil=j2 (xcn c h u) 0 1:=(kq (j2 (xcn c h u) 0 1))
noncomputable abbrev x1fr:=VX x24 139 r_17
theorem xpc:x1fr c h u (xsq x24) r_17 eNil=j2 (xcp c h u) 0 1:=(tq (j2 (xcp c h u) 0 1) (sqN 4 (bk 0 (lq (x1b c h u) (λr=>j4 r 2 4 5 6) λrec0=>(bk 1 (tq (j4 (xkp c h u rec0) 2 4 5 6) (sqN 1 (sq2 (tq (j5 (x3s c h u rec0) 2 4 5 6 7) (sqN 3 (bk 4 (tq (j6 (xkn c h u rec0) 2 4 5 6 7 86) (rg (.tmp 86) #[87] (λu=>(kq (j4 (x7b c h u) 2 5 7 10))) (λu=>(kq (j4 (x3r c h u) 2 5 7 87)))))))) (tq (j5 (xko c h u rec0) 2 4 5 6 7) (sqN 1 (bk 2 (lq (x3t c h u rec0) (λr=>j8 r 2 4 5 6 7 47 48 49) λs=>(tq (j8 (x7c c h u rec0 s) 2 4 5 6 7 47 48 49) (sqN 2 (sq2 (kq (j8 (x1z c h u rec0 s) 2 4 5 6 7 47 48 49)) (kq (j8 (xco c h u rec0 s) 2 4 5 6 7 47 48 49)))))))))))))))))
noncomputable abbrev x1fs:=VX x4u 45 r_0
theorem xs2:x1fs c h u (xsq x4u) r_0 eNil=j2 (xcs c h u) 0 1:=(tq (j2 (xcs c h u) 0 1) (sqN 3 (sq2 (kq (j1 (xkq c h u) 5)) (tq (j3 (xkr c h u) 1 5 6) (sqN 1 (bk 0 (lq (x20 c h u) (λr=>j5 r 1 5 6 14 15) λrec0=>(tq (j5 (x7f c h u rec0) 1 5 6 14 15) (sqN 2 (sq2 (kq (j5 (x7d c h u rec0) 1 5 6 14 15)) (bk 1 (tq (j5 (xcr c h u rec0) 1 5 6 14 15) (sqN 4 (sq2 (kq (j5 (xcq c h u rec0) 1 5 6 14 15)) (bk 2 (lq (x3u c h u rec0) (λr=>j6 r 1 5 6 8 14 15) λs=>(kq (j6 (x7e c h u rec0 s) 1 5 6 8 14 15))))))))))))))))))
noncomputable abbrev x1ft:=VX x1d 20 r_14
theorem xpe:x1ft c h u (xsq x1d) r_14 eNil=j3 (x7g c h u) 0 1 2:=(tq (j3 (x7g c h u) 0 1 2) (sqN 1 (bk 0 (lq (x6c c h u) (λr=>j4 r 1 10 11 12) λrec0=>(kq (j4 (xct c h u rec0) 1 10 11 12))))))
noncomputable abbrev x1fu:=VX x4v 55 r_1
theorem xs3:x1fu c h u (xsq x4v) r_1 eNil=j1 (xcv c h u) 0:=(tq (j1 (xcv c h u) 0) (sqN 2 (sq2 (kq (j0 (xks c h u))) (tq (j1 (xkt c h u) 0) (sqN 1 (bk 0 (lq (x3v c h u) (λr=>j2 r 0 3) λrec0=>(kq (j2 (xcu c h u rec0) 0 3)))))))))
noncomputable abbrev x1fv:=VX x1m 18 r_0
theorem xs4:x1fv c h u (xsq x1m) r_0 eNil=j2 (xkv c h u) 0 1:=(tq (j2 (xkv c h u) 0 1) (sqN 1 (sq2 (kq (j0 (xku c h u))) (tq (j2 (xlx c h u) 0 1) (sqN 1 (bk 0 (lq (x6d c h u) (λr=>j3 r 0 1 5) λrec0=>(kq (j3 (xcw c h u rec0) 0 1 5)))))))))
noncomputable abbrev x1fw:=VX x36 53 r_14
theorem xs5:x1fw c h u (xsq x36) r_14 eNil=j4 (xcz c h u) 0 1 2 3:=(tq (j4 (xcz c h u) 0 1 2 3) (sqN 1 (bk 0 (lq (x21 c h u) (λr=>j5 r 0 1 2 3 8) λrec0=>(tq (j5 (x7h c h u rec0) 0 1 2 3 8) (sqN 1 (sq2 (kq (j5 (xcx c h u rec0) 0 1 2 3 8)) (bk 1 (tq (j5 (xkw c h u rec0) 0 1 2 3 8) (sqN 1 (bk 2 (lq (x6e c h u rec0) (λr=>j6 r 0 1 2 3 8 9) λs=>(kq (j6 (xcy c h u rec0 s) 0 1 2 3 8 9))))))))))))))
noncomputable abbrev x1fx:=VX x4w 49 r_14
theorem xs6:x1fx c h u (xsq x4w) r_14 eNil=j3 (xd2 c h u) 0 1 2:=(tq (j3 (xd2 c h u) 0 1 2) (sqN 1 (bk 0 (lq (x22 c h u) (λr=>j4 r 0 1 2 6) λrec0=>(tq (j4 (x7i c h u rec0) 0 1 2 6) (sqN 1 (sq2 (kq (j4 (xd0 c h u rec0) 0 1 2 6)) (bk 1 (tq (j4 (xkx c h u rec0) 0 1 2 6) (sqN 1 (bk 2 (lq (x6f c h u rec0) (λr=>j5 r 0 1 2 6 7) λs=>(kq (j5 (xd1 c h u rec0 s) 0 1 2 6 7))))))))))))))
noncomputable abbrev x1fy:=VX x37 17 r_0
theorem xs7:x1fy c h u (xsq x37) r_0 eNil=j2 (xd3 c h u) 0 1:=(kq (j2 (xd3 c h u) 0 1))
noncomputable abbrev x1fz:=VX x4x 25 r_1
theorem xs8:x1fz c h u (xsq x4x) r_1 eNil=j1 (xl1 c h u) 0:=(tq (j1 (xl1 c h u) 0) (sqN 1 (sq2 (sq2 (sq2 (kq (j2 (xky c h u) 0 2)) (kq (j2 (xkz c h u) 0 2))) (kq (j2 (xl0 c h u) 0 2))) (kq (j2 (xly c h u) 0 2)))))
noncomputable abbrev x1g0:=VX x4y 19 r_0
theorem xs9:x1g0 c h u (xsq x4y) r_0 eNil=j2 (xd5 c h u) 0 1:=(tq (j2 (xd5 c h u) 0 1) (sqN 1 (sq2 (kq (j0 (xl2 c h u))) (tq (j2 (xl3 c h u) 0 1) (sqN 1 (bk 0 (lq (x6g c h u) (λr=>j4 r 0 1 7 8) λrec0=>(kq (j4 (xd4 c h u rec0) 0 1 7 8)))))))))
noncomputable abbrev x1g1:=VX xv 48 r_0
theorem xsa:x1g1 c h u (xsq xv) r_0 eNil=j2 (xd8 c h u) 0 1:=(tq (j2 (xd8 c h u) 0 1) (sqN 1 (sq2 (tq (j2 (xl6 c h u) 0 1) (sqN 1 (sq2 (tq (j2 (xl4 c h u) 0 6) (sqN 2 (sq2 (kq (j1 (xd6 c h u) 7)) (bk 0 (lq (x3x c h u) (λr=>j2 r 7 8) λrec0=>(kq (j2 (xd7 c h u rec0) 7 8))))))) (kq (j3 (xl5 c h u) 0 5 6))))) (kq (j2 (xl8 c h u) 0 1)))))
noncomputable abbrev x1g2:=VX x40 6 r_0
theorem xpd:x1g2 c h u (xsq x40) r_0 eNil=j2 (xd9 c h u) 0 1:=(kq (j2 (xd9 c h u) 0 1))
noncomputable abbrev x1g3:=VX xp 18 r_14
theorem xpb:x1g3 c h u (xsq xp) r_14 eNil=j4 (x6h c h u) 0 1 2 3:=(kq (j4 (x6h c h u) 0 1 2 3))
noncomputable abbrev x1g4:=VX x38 6 r_1
theorem xsb:x1g4 c h u (xsq x38) r_1 eNil=j1 (xda c h u) 0:=(kq (j1 (xda c h u) 0))
noncomputable abbrev x1g5:=VX x23 76 r_14
theorem xp9:x1g5 c h u (xsq x23) r_14 eNil=j3 (xdd c h u) 0 1 2:=(tq (j3 (xdd c h u) 0 1 2) (sqN 1 (bk 0 (lq (x1c c h u) (λr=>j6 r 0 1 2 14 15 16) λrec0=>(tq (j6 (xdc c h u rec0) 0 1 2 14 15 16) (sqN 2 (sq2 (kq (j6 (xdb c h u rec0) 0 1 2 14 15 16)) (bk 1 (tq (j6 (xl9 c h u rec0) 0 1 2 14 15 16) (sqN 3 (sq2 (kq (j7 (x7j c h u rec0) 0 1 2 7 14 15 16)) (kq (j9 (x7k c h u rec0) 0 1 2 5 6 7 14 15 16)))))))))))))
end Go.Ix
