import Derived.Test.YthfjdkhccimggaaGreatDoorFxText0
import Derived.Test.YthfjdkhccimggaaGreatDoorFxText1
import Derived.Test.YthfjdkhccimggaaGreatDoorFxEnt
import Derived.Test.YthfjdkhccimggaaGreatDoorFxRules
import Derived.Test.YthfjdkhccimggaaGreatDoorFxProj
import Derived.ProofKit
set_option linter.unusedVariables false
namespace Go.Ix
open Go.Proofs
variable{c:x14d}{h:FHs}{u:Nat}
noncomputable abbrev x1gn:=VX x2i 77 r_0
theorem xya:x1gn c h u (x14f x2i) r_0 eNil=j3 (x70 c h u) 0 1 2:=(tq (j3 (x70 c h u) 0 1 2) (sqN 6 (sq2 (kq (j6 (x3h c h u) 2 3 7 8 10 11)) (kq (j7 (x99 c h u) 1 2 3 7 8 10 11)))))
noncomputable abbrev x1go:=VX x1x 71 r_1
theorem xyb:x1go c h u (x14f x1x) r_1 eNil=j0 (x9a c h u):=(kq (j0 (x9a c h u)))
noncomputable abbrev x1gp:=VX x3t 31 r_2
theorem xyc:x1gp c h u (x14f x3t) r_2 eNil=j3 (x9b c h u) 0 1 2:=(kq (j3 (x9b c h u) 0 1 2))
noncomputable abbrev x1gq:=VX x3u 129 r_3
theorem xyd:x1gq c h u (x14f x3u) r_3 eNil=j1 (x9h c h u) 0:=(tq (j1 (x9h c h u) 0) (sqN 2 (sq2 (tq (j1 (xiy c h u) 1) (sqN 1 (sq2 (tq (j1 (xiv c h u) 1) (sqN 1 (sq2 (kq (j0 (xis c h u))) (tq (j1 (xiu c h u) 1) (sqN 1 (bk 6 (lq (x9c c h u) (λr=>j4 r 1 107 108 109) λrec0=>(kq (j4 (xit c h u rec0) 1 107 108 109))))))))) (tq (j1 (xix c h u) 1) (sqN 1 (bk 3 (lq (x9d c h u) (λr=>j4 r 1 60 61 62) λs=>(kq (j4 (xiw c h u s) 1 60 61 62))))))))) (tq (j1 (xj0 c h u) 1) (sqN 1 (bk 1 (lq (x9f c h u) (λr=>j4 r 1 30 31 32) λw=>(kq (j4 (xiz c h u w) 1 30 31 32)))))))))
noncomputable abbrev x1gr:=VX x3v 26 r_4
theorem xye:x1gr c h u (x14f x3v) r_4 eNil=j2 (x9j c h u) 0 1:=(tq (j2 (x9j c h u) 0 1) (sqN 2 (sq2 (kq (j0 (xj1 c h u))) (tq (j2 (xj3 c h u) 0 1) (sqN 1 (bk 0 (lq (x9i c h u) (λr=>j3 r 0 1 5) λrec0=>(kq (j3 (xj2 c h u rec0) 0 1 5)))))))))
noncomputable abbrev x1gs:=VX x13 41 r_3
theorem xyf:x1gs c h u (x14f x13) r_3 eNil=j1 (x76 c h u) 0:=(tq (j1 (x76 c h u) 0) (sqN 1 (sq2 (kq (j1 (x9k c h u) 1)) (tq (j1 (x9l c h u) 1) (sqN 1 (bk 0 (lq (x29 c h u) (λr=>j2 r 1 3) λrec0=>(kq (j2 (x75 c h u rec0) 1 3)))))))))
noncomputable abbrev x1gt:=VX x14 80 r_5
theorem xyg:x1gt c h u (x14f x14) r_5 eNil=j2 (x78 c h u) 0 1:=(tq (j2 (x78 c h u) 0 1) (sqN 3 (sq2 (kq (j1 (x9m c h u) 1)) (tq (j3 (x9n c h u) 1 2 6) (sqN 1 (bk 1 (lq (x1j c h u) (λr=>j6 r 1 2 6 27 28 29) λrec0=>(kq (j6 (x77 c h u rec0) 1 2 6 27 28 29)))))))))
noncomputable abbrev x1gu:=VX xv 14 r_6
theorem xyh:x1gu c h u (x14f xv) r_6 eNil=j1 (x79 c h u) 0:=(kq (j1 (x79 c h u) 0))
noncomputable abbrev x1gv:=VX x15 6 r_3
theorem xyi:x1gv c h u (x14f x15) r_3 eNil=j1 (x3l c h u) 0:=(kq (j1 (x3l c h u) 0))
noncomputable abbrev x1gw:=VX x16 142 r_7
theorem xyj:x1gw c h u (x14f x16) r_7 eNil=j1 (x7e c h u) 0:=(tq (j1 (x7e c h u) 0) (sqN 3 (sq2 (tq (j1 (x7c c h u) 1) (sqN 1 (sq2 (kq (j1 (x9o c h u) 1)) (tq (j1 (x9p c h u) 1) (sqN 1 (bk 2 (lq (x1k c h u) (λr=>j2 r 1 7) λrec0=>(kq (j2 (x7b c h u rec0) 1 7))))))))) (tq (j2 (xj4 c h u) 1 4) (sqN 1 (bk 0 (lq (x1l c h u) (λr=>j3 r 1 4 5) λs=>(kq (j3 (x7d c h u s) 1 4 5)))))))))
noncomputable abbrev x1gx:=VX x17 72 r_5
theorem xyk:x1gx c h u (x14f x17) r_5 eNil=j2 (x7g c h u) 0 1:=(tq (j2 (x7g c h u) 0 1) (sqN 2 (sq2 (kq (j1 (x9q c h u) 1)) (tq (j2 (x9r c h u) 1 2) (sqN 1 (bk 0 (lq (x1m c h u) (λr=>j3 r 1 2 6) λrec0=>(kq (j3 (x7f c h u rec0) 1 2 6)))))))))
noncomputable abbrev x1gy:=VX xw 21 r_5
theorem xyl:x1gy c h u (x14f xw) r_5 eNil=j2 (x7h c h u) 0 1:=(kq (j2 (x7h c h u) 0 1))
noncomputable abbrev x1gz:=VX x18 128 r_7
theorem xym:x1gz c h u (x14f x18) r_7 eNil=j1 (x7l c h u) 0:=(tq (j1 (x7l c h u) 0) (sqN 2 (sq2 (tq (j1 (x7j c h u) 1) (sqN 1 (sq2 (kq (j1 (x9s c h u) 1)) (tq (j1 (x9t c h u) 1) (sqN 1 (bk 3 (lq (x1n c h u) (λr=>j4 r 1 83 84 85) λrec0=>(kq (j4 (x7i c h u rec0) 1 83 84 85))))))))) (tq (j1 (x9u c h u) 1) (sqN 1 (bk 0 (lq (x1o c h u) (λr=>j4 r 1 14 15 16) λs=>(kq (j4 (x7k c h u s) 1 14 15 16)))))))))
noncomputable abbrev x1h0:=VX x19 18 r_4
theorem xyn:x1h0 c h u (x14f x19) r_4 eNil=j2 (x9w c h u) 0 1:=(tq (j2 (x9w c h u) 0 1) (sqN 1 (sq2 (kq (j0 (x9v c h u))) (tq (j2 (xj5 c h u) 0 1) (sqN 1 (bk 0 (lq (x2b c h u) (λr=>j3 r 0 1 5) λrec0=>(kq (j3 (x7m c h u rec0) 0 1 5)))))))))
noncomputable abbrev x1h1:=VX x3x 12 r_7
theorem xyo:x1h1 c h u (x14f x3x) r_7 eNil=j1 (x9x c h u) 0:=(kq (j1 (x9x c h u) 0))
noncomputable abbrev x1h2:=VX xe 15 r_0
theorem xyp:x1h2 c h u (x14f xe) r_0 eNil=j3 (x7n c h u) 0 1 2:=(kq (j3 (x7n c h u) 0 1 2))
noncomputable abbrev x1h3:=VX x3y 38 r_8
theorem xyq:x1h3 c h u (x14f x3y) r_8 eNil=j3 (x9y c h u) 0 1 2:=(kq (j3 (x9y c h u) 0 1 2))
noncomputable abbrev x1h4:=VX x2j 18 r_9
theorem xyr:x1h4 c h u (x14f x2j) r_9 eNil=j0 (x9z c h u):=(kq (j0 (x9z c h u)))
noncomputable abbrev x1h5:=VX x2k 7 r_1
theorem xys:x1h5 c h u (x14f x2k) r_1 eNil=j0 (xa0 c h u):=(kq (j0 (xa0 c h u)))
noncomputable abbrev x1h6:=VX x3z 9 r_10
theorem xyt:x1h6 c h u (x14f x3z) r_10 eNil=j0 (xa1 c h u):=(kq (j0 (xa1 c h u)))
noncomputable abbrev x1h7:=VX x40 57 r_11
theorem xyu:x1h7 c h u (x14f x40) r_11 eNil=j3 (xa2 c h u) 0 1 2:=(kq (j3 (xa2 c h u) 0 1 2))
noncomputable abbrev x1h8:=VX x41 22 r_12
theorem xyv:x1h8 c h u (x14f x41) r_12 eNil=j1 (xa3 c h u) 0:=(kq (j1 (xa3 c h u) 0))
noncomputable abbrev x1h9:=VX x2l 28 r_13
theorem xyw:x1h9 c h u (x14f x2l) r_13 eNil=j3 (xa4 c h u) 0 1 2:=(kq (j3 (xa4 c h u) 0 1 2))
noncomputable abbrev x1ha:=VX x2m 19 r_3
theorem xyx:x1ha c h u (x14f x2m) r_3 eNil=j1 (xa6 c h u) 0:=(tq (j1 (xa6 c h u) 0) (sqN 1 (sq2 (kq (j0 (xj8 c h u))) (tq (j1 (xja c h u) 1) (sqN 1 (bk 0 (lq (xa5 c h u) (λr=>j2 r 1 3) λrec0=>(kq (j2 (xj9 c h u rec0) 1 3)))))))))
noncomputable abbrev x1hb:=VX x2n 38 r_14
theorem xyy:x1hb c h u (x14f x2n) r_14 eNil=j2 (xa8 c h u) 0 1:=(tq (j2 (xa8 c h u) 0 1) (sqN 4 (sq2 (kq (j1 (xjb c h u) 8)) (tq (j2 (xjd c h u) 1 8) (sqN 1 (bk 0 (lq (xa7 c h u) (λr=>j4 r 8 21 22 23) λrec0=>(kq (j4 (xjc c h u rec0) 8 21 22 23)))))))))
noncomputable abbrev x1hc:=VX xb 15 r_0
theorem xyz:x1hc c h u (x14f xb) r_0 eNil=j3 (x7o c h u) 0 1 2:=(kq (j3 (x7o c h u) 0 1 2))
noncomputable abbrev x1hd:=VX x1y 15 r_3
theorem xz0:x1hd c h u (x14f x1y) r_3 eNil=j1 (xaa c h u) 0:=(tq (j1 (xaa c h u) 0) (sqN 1 (sq2 (kq (j0 (xje c h u))) (tq (j1 (xjg c h u) 0) (sqN 1 (bk 0 (lq (xa9 c h u) (λr=>j3 r 5 6 7) λrec0=>(kq (j3 (xjf c h u rec0) 5 6 7)))))))))
noncomputable abbrev x1he:=VX xh 21 r_0
theorem xz1:x1he c h u (x14f xh) r_0 eNil=j3 (x7q c h u) 0 1 2:=(tq (j3 (x7q c h u) 0 1 2) (sqN 2 (sq2 (kq (j0 (xab c h u))) (tq (j3 (xac c h u) 0 1 2) (sqN 1 (bk 0 (lq (x2c c h u) (λr=>j4 r 0 1 11 12) λrec0=>(kq (j4 (x7p c h u rec0) 0 1 11 12)))))))))
noncomputable abbrev x1hf:=VX x42 10 r_15
theorem xz2:x1hf c h u (x14f x42) r_15 eNil=j2 (xad c h u) 0 1:=(kq (j2 (xad c h u) 0 1))
noncomputable abbrev x1hg:=VX x2o 100 r_3
theorem xz3:x1hg c h u (x14f x2o) r_3 eNil=j1 (xah c h u) 0:=(tq (j1 (xah c h u) 0) (sqN 3 (sq2 (tq (j1 (xjr c h u) 0) (sqN 1 (sq2 (kq (j0 (xji c h u))) (tq (j1 (xjq c h u) 7) (sqN 1 (bk 3 (lq (xaf c h u) (λr=>j4 r 7 43 44 45) λrec0=>(tq (j4 (xjp c h u rec0) 7 43 44 45) (sqN 2 (sq2 (kq (j4 (xjj c h u rec0) 7 43 44 45)) (bk 4 (tq (j4 (xjo c h u rec0) 7 43 44 45) (sqN 2 (bk 5 (lq (xae c h u rec0) (λr=>j9 r 7 8 9 43 44 45 52 53 54) λs=>(tq (j9 (xjn c h u rec0 s) 7 8 9 43 44 45 52 53 54) (sqN 2 (sq2 (kq (j9 (xjk c h u rec0 s) 7 8 9 43 44 45 52 53 54)) (bk 6 (tq (j9 (xjm c h u rec0 s) 7 8 9 43 44 45 52 53 54) (sqN 2 (sq2 (kq (j10 (x7r c h u rec0 s) 7 8 9 12 43 44 45 52 53 54)) (kq (j11 (xjl c h u rec0 s) 7 8 9 10 11 43 44 45 52 53 54)))))))))))))))))))))))) (tq (j2 (xju c h u) 0 3) (sqN 1 (bk 1 (lq (xag c h u) (λr=>j5 r 0 3 22 23 24) λw=>(kq (j5 (xjs c h u w) 0 3 22 23 24)))))))))
noncomputable abbrev x1hh:=VX xq 5 r_3
theorem xz4:x1hh c h u (x14f xq) r_3 eNil=j1 (xai c h u) 0:=(kq (j1 (xai c h u) 0))
noncomputable abbrev x1hi:=VX x1z 10 r_4
theorem xz5:x1hi c h u (x14f x1z) r_4 eNil=j2 (xaj c h u) 0 1:=(kq (j2 (xaj c h u) 0 1))
noncomputable abbrev x1hj:=VX x43 10 r_15
theorem xz6:x1hj c h u (x14f x43) r_15 eNil=j2 (xak c h u) 0 1:=(kq (j2 (xak c h u) 0 1))
noncomputable abbrev x1hk:=VX x44 10 r_15
theorem xz7:x1hk c h u (x14f x44) r_15 eNil=j2 (xal c h u) 0 1:=(kq (j2 (xal c h u) 0 1))
noncomputable abbrev x1hl:=VX x45 9 r_3
theorem xz8:x1hl c h u (x14f x45) r_3 eNil=j1 (xam c h u) 0:=(kq (j1 (xam c h u) 0))
noncomputable abbrev x1hm:=VX x46 12 r_4
theorem xz9:x1hm c h u (x14f x46) r_4 eNil=j2 (xan c h u) 0 1:=(kq (j2 (xan c h u) 0 1))
noncomputable abbrev x1hn:=VX x47 6 r_4
theorem xza:x1hn c h u (x14f x47) r_4 eNil=j2 (xao c h u) 0 1:=(kq (j2 (xao c h u) 0 1))
noncomputable abbrev x1ho:=VX xx 14 r_16
theorem xzb:x1ho c h u (x14f xx) r_16 eNil=j1 (x7s c h u) 0:=(kq (j1 (x7s c h u) 0))
noncomputable abbrev x1hp:=VX xy 36 r_4
theorem xzc:x1hp c h u (x14f xy) r_4 eNil=j2 (x7v c h u) 0 1:=(tq (j2 (x7v c h u) 0 1) (sqN 2 (sq2 (kq (j1 (x7t c h u) 5)) (bk 0 (lq (x2d c h u) (λr=>j3 r 1 2 5) λrec0=>(kq (j3 (x7u c h u rec0) 1 2 5)))))))
noncomputable abbrev x1hq:=VX x20 55 r_3
theorem xzd:x1hq c h u (x14f x20) r_3 eNil=j1 (x7x c h u) 0:=(tq (j1 (x7x c h u) 0) (sqN 2 (sq2 (kq (j0 (xap c h u))) (tq (j1 (xaq c h u) 0) (sqN 1 (bk 0 (lq (x1p c h u) (λr=>j2 r 0 3) λrec0=>(kq (j2 (x7w c h u rec0) 0 3)))))))))
noncomputable abbrev x1hr:=VX x1a 30 r_4
theorem xze:x1hr c h u (x14f x1a) r_4 eNil=j2 (x7y c h u) 0 1:=(tq (j2 (x7y c h u) 0 1) (sqN 2 (sq2 (kq (j1 (xar c h u) 5)) (bk 0 (lq (x3q c h u) (λr=>j3 r 1 2 5) λrec0=>(kq (j3 (xas c h u rec0) 1 2 5)))))))
noncomputable abbrev x1hs:=VX x1b 62 r_5
theorem xzf:x1hs c h u (x14f x1b) r_5 eNil=j2 (x80 c h u) 0 1:=(tq (j2 (x80 c h u) 0 1) (sqN 2 (sq2 (kq (j1 (xat c h u) 6)) (tq (j3 (xau c h u) 1 2 6) (sqN 1 (bk 0 (lq (x1q c h u) (λr=>j6 r 1 2 6 9 10 11) λrec0=>(kq (j6 (x7z c h u rec0) 1 2 6 9 10 11)))))))))
noncomputable abbrev x1ht:=VX x48 11 r_17
theorem xzg:x1ht c h u (x14f x48) r_17 eNil=j1 (xav c h u) 0:=(kq (j1 (xav c h u) 0))
noncomputable abbrev x1hu:=VX x49 97 r_4
theorem xzh:x1hu c h u (x14f x49) r_4 eNil=j2 (xax c h u) 0 1:=(tq (j2 (xax c h u) 0 1) (sqN 6 (sq2 (kq (j6 (xaw c h u) 0 3 5 7 8 10)) (kq (j6 (xjw c h u) 0 3 5 7 8 10)))))
noncomputable abbrev x1hv:=VX xf 10 r_15
theorem xzi:x1hv c h u (x14f xf) r_15 eNil=j2 (x81 c h u) 0 1:=(kq (j2 (x81 c h u) 0 1))
noncomputable abbrev x1hw:=VX xz 5 r_3
theorem xzj:x1hw c h u (x14f xz) r_3 eNil=j1 (x82 c h u) 0:=(kq (j1 (x82 c h u) 0))
noncomputable abbrev x1hx:=VX xl 5 r_3
theorem xzk:x1hx c h u (x14f xl) r_3 eNil=j1 (x83 c h u) 0:=(kq (j1 (x83 c h u) 0))
noncomputable abbrev x1hy:=VX x4a 64 r_18
theorem xzl:x1hy c h u (x14f x4a) r_18 eNil=j2 (xaz c h u) 0 1:=(tq (j2 (xaz c h u) 0 1) (sqN 3 (sq2 (kq (j3 (xjx c h u) 4 6 7)) (tq (j5 (xk0 c h u) 1 2 4 6 7) (sqN 1 (bk 0 (lq (xay c h u) (λr=>j7 r 1 4 6 7 17 18 19) λrec0=>(tq (j7 (xjz c h u rec0) 1 4 6 7 17 18 19) (sqN 2 (sq2 (kq (j7 (x84 c h u rec0) 1 4 6 7 17 18 19)) (kq (j7 (xjy c h u rec0) 1 4 6 7 17 18 19))))))))))))
noncomputable abbrev x1hz:=VX x1c 13 r_14
theorem xzm:x1hz c h u (x14f x1c) r_14 eNil=j2 (xb0 c h u) 0 1:=(kq (j2 (xb0 c h u) 0 1))
noncomputable abbrev x1i0:=VX x4b 29 r_4
theorem xzn:x1i0 c h u (x14f x4b) r_4 eNil=j2 (xb2 c h u) 0 1:=(tq (j2 (xb2 c h u) 0 1) (sqN 1 (sq2 (kq (j1 (xk1 c h u) 0)) (tq (j2 (xk3 c h u) 0 3) (sqN 1 (bk 0 (lq (xb1 c h u) (λr=>j4 r 0 14 15 16) λrec0=>(kq (j4 (xk2 c h u rec0) 0 14 15 16)))))))))
noncomputable abbrev x1i1:=VX x1d 54 r_3
theorem xzo:x1i1 c h u (x14f x1d) r_3 eNil=j1 (x87 c h u) 0:=(tq (j1 (x87 c h u) 0) (sqN 1 (sq2 (kq (j1 (xb3 c h u) 0)) (tq (j1 (xb4 c h u) 0) (sqN 1 (bk 0 (lq (x1s c h u) (λr=>j4 r 0 7 8 9) λrec0=>(kq (j4 (x86 c h u rec0) 0 7 8 9)))))))))
noncomputable abbrev x1i2:=VX x4c 29 r_3
theorem xzp:x1i2 c h u (x14f x4c) r_3 eNil=j1 (xb6 c h u) 0:=(tq (j1 (xb6 c h u) 0) (sqN 2 (sq2 (kq (j0 (xk4 c h u))) (tq (j1 (xk6 c h u) 0) (sqN 1 (bk 0 (lq (xb5 c h u) (λr=>j3 r 8 9 10) λrec0=>(kq (j3 (xk5 c h u rec0) 8 9 10)))))))))
noncomputable abbrev x1i3:=VX x4d 17 r_3
theorem xzq:x1i3 c h u (x14f x4d) r_3 eNil=j1 (xb8 c h u) 0:=(tq (j1 (xb8 c h u) 0) (sqN 2 (sq2 (kq (j1 (xk7 c h u) 3)) (tq (j2 (xk9 c h u) 0 3) (sqN 1 (bk 0 (lq (xb7 c h u) (λr=>j4 r 3 6 7 8) λrec0=>(kq (j4 (xk8 c h u rec0) 3 6 7 8)))))))))
noncomputable abbrev x1i4:=VX x4e 104 r_19
theorem xzr:x1i4 c h u (x14f x4e) r_19 eNil=j2 (xba c h u) 0 1:=(tq (j2 (xba c h u) 0 1) (sqN 3 (sq2 (sq2 (kq (j2 (x88 c h u) 4 5)) (kq (j4 (xka c h u) 4 5 6 7))) (tq (j6 (xkm c h u) 2 3 4 5 6 7) (sqN 1 (bk 0 (tq (j7 (xkl c h u) 2 3 4 5 6 7 15) (rg (.tmp 15) #[16] (λu=>(bk 1 (tq (j6 (xkj c h u) 2 3 5 6 7 8) (sqN 4 (bk 2 (tq (j7 (xki c h u) 2 3 5 7 9 10 32) (sqN 1 (tq (j8 (xkh c h u) 2 3 5 7 9 10 32 64) (cd (kq (j2 (xkb c h u) 5 9)) (tq (j7 (xkg c h u) 2 3 5 7 9 10 32) (sqN 1 (tq (j7 (xkf c h u) 2 3 5 7 9 10 72) (cd (kq (j2 (xkc c h u) 5 9)) (tq (j6 (xke c h u) 2 3 5 7 9 10) (sqN 1 (sq2 (kq (j2 (xb9 c h u) 7 11)) (kq (j4 (xkd c h u) 5 7 9 11)))))))))))))))))) (λu=>(kq (j6 (xkk c h u) 2 3 5 6 7 16)))))))))))
noncomputable abbrev x1i5:=VX x2p 9 r_4
theorem xzs:x1i5 c h u (x14f x2p) r_4 eNil=j2 (xbb c h u) 0 1:=(kq (j2 (xbb c h u) 0 1))
noncomputable abbrev x1i6:=VX x4f 12 r_4
theorem xzt:x1i6 c h u (x14f x4f) r_4 eNil=j2 (xbc c h u) 0 1:=(kq (j2 (xbc c h u) 0 1))
noncomputable abbrev x1i7:=VX x2q 32 r_20
theorem xzu:x1i7 c h u (x14f x2q) r_20 eNil=j2 (xbd c h u) 0 1:=(kq (j2 (xbd c h u) 0 1))
noncomputable abbrev x1i8:=VX x2r 56 r_21
theorem xzv:x1i8 c h u (x14f x2r) r_21 eNil=j1 (xbe c h u) 0:=(tq (j1 (xbe c h u) 0) (sqN 1 (sq2 (kq (j1 (xko c h u) 1)) (bk 0 (sq2 (kq (j2 (x89 c h u) 1 7)) (kq (j1 (xkp c h u) 1)))))))
noncomputable abbrev x1i9:=VX x2s 23 r_4
theorem xzw:x1i9 c h u (x14f x2s) r_4 eNil=j2 (xbg c h u) 0 1:=(tq (j2 (xbg c h u) 0 1) (sqN 2 (sq2 (kq (j1 (xbf c h u) 5)) (kq (j3 (xkq c h u) 0 1 5)))))
noncomputable abbrev x1ia:=VX x4g 10 r_4
theorem xzx:x1ia c h u (x14f x4g) r_4 eNil=j2 (xbh c h u) 0 1:=(kq (j2 (xbh c h u) 0 1))
noncomputable abbrev x1ib:=VX x2t 12 r_3
theorem xzy:x1ib c h u (x14f x2t) r_3 eNil=j1 (xbi c h u) 0:=(kq (j1 (xbi c h u) 0))
noncomputable abbrev x1ic:=VX x21 8 r_22
theorem xzz:x1ic c h u (x14f x21) r_22 eNil=j1 (xbj c h u) 0:=(kq (j1 (xbj c h u) 0))
noncomputable abbrev x1id:=VX x2u 48 r_4
theorem x100:x1id c h u (x14f x2u) r_4 eNil=j2 (xbl c h u) 0 1:=(tq (j2 (xbl c h u) 0 1) (sqN 2 (sq2 (kq (j1 (xkr c h u) 5)) (tq (j3 (xkt c h u) 0 1 5) (sqN 1 (bk 0 (lq (xbk c h u) (λr=>j6 r 0 1 5 9 10 11) λrec0=>(kq (j6 (xks c h u rec0) 0 1 5 9 10 11)))))))))
noncomputable abbrev x1ie:=VX xg 21 r_4
theorem x101:x1ie c h u (x14f xg) r_4 eNil=j2 (xbm c h u) 0 1:=(kq (j2 (xbm c h u) 0 1))
noncomputable abbrev x1if:=VX x4h 47 r_4
theorem x102:x1if c h u (x14f x4h) r_4 eNil=j2 (xbn c h u) 0 1:=(kq (j2 (xbn c h u) 0 1))
noncomputable abbrev x1ig:=VX x4i 19 r_4
theorem x103:x1ig c h u (x14f x4i) r_4 eNil=j2 (xbp c h u) 0 1:=(tq (j2 (xbp c h u) 0 1) (sqN 1 (sq2 (kq (j0 (xku c h u))) (tq (j2 (xkw c h u) 0 1) (sqN 1 (bk 0 (lq (xbo c h u) (λr=>j4 r 0 1 7 8) λrec0=>(kq (j4 (xkv c h u rec0) 0 1 7 8)))))))))
noncomputable abbrev x1ih:=VX x4j 8 r_15
theorem x104:x1ih c h u (x14f x4j) r_15 eNil=j2 (xbq c h u) 0 1:=(kq (j2 (xbq c h u) 0 1))
noncomputable abbrev x1ii:=VX x4k 42 r_17
theorem x105:x1ii c h u (x14f x4k) r_17 eNil=j3 (xbs c h u) 0 1 2:=(tq (j3 (xbs c h u) 0 1 2) (sqN 1 (bk 0 (lq (xbr c h u) (λr=>j6 r 0 1 2 12 13 14) λrec0=>(kq (j6 (xkx c h u rec0) 0 1 2 12 13 14))))))
noncomputable abbrev x1ij:=VX x4l 21 r_5
theorem x106:x1ij c h u (x14f x4l) r_5 eNil=j2 (xbt c h u) 0 1:=(kq (j2 (xbt c h u) 0 1))
noncomputable abbrev x1ik:=VX x22 134 r_17
theorem x107:x1ik c h u (x14f x22) r_17 eNil=j4 (xby c h u) 0 1 2 3:=(tq (j4 (xby c h u) 0 1 2 3) (sqN 2 (bk 0 (lq (xbx c h u) (λr=>j6 r 0 1 2 3 8 9) λrec0=>(bk 1 (tq (j6 (xl0 c h u rec0) 0 1 2 3 8 9) (sqN 3 (sq2 (tq (j7 (xbw c h u rec0) 0 1 2 3 8 9 10) (sqN 1 (sq2 (sq2 (kq (j8 (xbu c h u rec0) 0 1 2 3 8 9 10 11)) (kq (j9 (xbv c h u rec0) 0 1 2 3 8 9 10 11 12))) (kq (j9 (xky c h u rec0) 0 1 2 3 8 9 10 11 12))))) (kq (j7 (xkz c h u rec0) 0 1 2 3 8 9 10))))))))))
noncomputable abbrev x1il:=VX x2v 8 r_3
theorem x108:x1il c h u (x14f x2v) r_3 eNil=j1 (xbz c h u) 0:=(kq (j1 (xbz c h u) 0))
noncomputable abbrev x1im:=VX x4m 19 r_4
theorem x109:x1im c h u (x14f x4m) r_4 eNil=j2 (xc1 c h u) 0 1:=(tq (j2 (xc1 c h u) 0 1) (sqN 1 (sq2 (kq (j0 (xl1 c h u))) (tq (j2 (xl3 c h u) 0 1) (sqN 1 (bk 0 (lq (xc0 c h u) (λr=>j4 r 0 1 7 8) λrec0=>(kq (j4 (xl2 c h u rec0) 0 1 7 8)))))))))
noncomputable abbrev x1in:=VX x4n 9 r_15
theorem x10a:x1in c h u (x14f x4n) r_15 eNil=j2 (xc2 c h u) 0 1:=(kq (j2 (xc2 c h u) 0 1))
noncomputable abbrev x1io:=VX x2w 37 r_3
theorem x10b:x1io c h u (x14f x2w) r_3 eNil=j1 (xc3 c h u) 0:=(kq (j1 (xc3 c h u) 0))
noncomputable abbrev x1ip:=VX x23 21 r_23
theorem x10c:x1ip c h u (x14f x23) r_23 eNil=j1 (xc4 c h u) 0:=(kq (j1 (xc4 c h u) 0))
noncomputable abbrev x1iq:=VX x4o 113 r_4
theorem x10d:x1iq c h u (x14f x4o) r_4 eNil=j2 (xc7 c h u) 0 1:=(tq (j2 (xc7 c h u) 0 1) (sqN 7 (sq2 (kq (j3 (xl4 c h u) 0 10 11)) (tq (j4 (xl7 c h u) 0 8 10 11) (sqN 1 (bk 1 (lq (xc6 c h u) (λr=>j7 r 0 8 10 11 80 81 82) λrec0=>(tq (j7 (xl6 c h u rec0) 0 8 10 11 80 81 82) (sqN 2 (sq2 (kq (j7 (xc5 c h u rec0) 0 8 10 11 80 81 82)) (kq (j7 (xl5 c h u rec0) 0 8 10 11 80 81 82))))))))))))
noncomputable abbrev x1ir:=VX x2x 58 r_0
theorem x10e:x1ir c h u (x14f x2x) r_0 eNil=j3 (xc8 c h u) 0 1 2:=(kq (j3 (xc8 c h u) 0 1 2))
noncomputable abbrev x1is:=VX x4p 9 r_3
theorem x10f:x1is c h u (x14f x4p) r_3 eNil=j1 (xc9 c h u) 0:=(kq (j1 (xc9 c h u) 0))
noncomputable abbrev x1it:=VX x4q 23 r_14
theorem x10g:x1it c h u (x14f x4q) r_14 eNil=j2 (xca c h u) 0 1:=(kq (j2 (xca c h u) 0 1))
noncomputable abbrev x1iu:=VX x96 5 r_3
theorem x10h:x1iu c h u (x14f x96) r_3 eNil=j1 (xcb c h u) 0:=(kq (j1 (xcb c h u) 0))
noncomputable abbrev x1iv:=VX x4r 44 r_5
theorem x10i:x1iv c h u (x14f x4r) r_5 eNil=j2 (xcc c h u) 0 1:=(kq (j2 (xcc c h u) 0 1))
noncomputable abbrev x1iw:=VX x24 8 r_4
theorem x10j:x1iw c h u (x14f x24) r_4 eNil=j2 (xcd c h u) 0 1:=(kq (j2 (xcd c h u) 0 1))
noncomputable abbrev x1ix:=VX x4s 19 r_4
theorem x10k:x1ix c h u (x14f x4s) r_4 eNil=j2 (xcf c h u) 0 1:=(tq (j2 (xcf c h u) 0 1) (sqN 1 (sq2 (kq (j0 (xl8 c h u))) (tq (j2 (xla c h u) 0 1) (sqN 1 (bk 0 (lq (xce c h u) (λr=>j4 r 0 1 7 8) λrec0=>(kq (j4 (xl9 c h u rec0) 0 1 7 8)))))))))
noncomputable abbrev x1iy:=VX x4t 8 r_15
theorem x10l:x1iy c h u (x14f x4t) r_15 eNil=j2 (xcg c h u) 0 1:=(kq (j2 (xcg c h u) 0 1))
noncomputable abbrev x1iz:=VX x4u 90 r_14
theorem x10m:x1iz c h u (x14f x4u) r_14 eNil=j2 (xcl c h u) 0 1:=(tq (j2 (xcl c h u) 0 1) (sqN 5 (sq2 (tq (j4 (xlf c h u) 1 2 8 9) (sqN 3 (sq2 (kq (j1 (xlb c h u) 14)) (tq (j4 (xle c h u) 1 12 13 14) (sqN 1 (bk 2 (lq (xci c h u) (λr=>j7 r 1 12 13 14 60 61 62) λrec0=>(tq (j7 (xld c h u rec0) 1 12 13 14 60 61 62) (sqN 2 (sq2 (kq (j7 (xch c h u rec0) 1 12 13 14 60 61 62)) (kq (j7 (xlc c h u rec0) 1 12 13 14 60 61 62)))))))))))) (tq (j4 (xli c h u) 1 2 8 9) (sqN 1 (bk 0 (lq (xck c h u) (λr=>j7 r 1 2 8 9 36 37 38) λs=>(tq (j7 (xlh c h u s) 1 2 8 9 36 37 38) (sqN 2 (sq2 (kq (j7 (xcj c h u s) 1 2 8 9 36 37 38)) (kq (j7 (xlg c h u s) 1 2 8 9 36 37 38))))))))))))
noncomputable abbrev x1j0:=VX x2y 10 r_4
theorem x10n:x1j0 c h u (x14f x2y) r_4 eNil=j2 (xcm c h u) 0 1:=(kq (j2 (xcm c h u) 0 1))
noncomputable abbrev x1j1:=VX x10 15 r_0
theorem x10o:x1j1 c h u (x14f x10) r_0 eNil=j3 (xcn c h u) 0 1 2:=(kq (j3 (xcn c h u) 0 1 2))
noncomputable abbrev x1j2:=VX x4v 21 r_0
theorem x10p:x1j2 c h u (x14f x4v) r_0 eNil=j3 (xcp c h u) 0 1 2:=(tq (j3 (xcp c h u) 0 1 2) (sqN 1 (sq2 (kq (j0 (xlk c h u))) (tq (j3 (xlm c h u) 0 1 2) (sqN 1 (bk 0 (lq (xco c h u) (λr=>j5 r 0 1 9 10 11) λrec0=>(kq (j5 (xll c h u rec0) 0 1 9 10 11)))))))))
noncomputable abbrev x1j3:=VX xr 22 r_4
theorem x10q:x1j3 c h u (x14f xr) r_4 eNil=j2 (xcq c h u) 0 1:=(kq (j2 (xcq c h u) 0 1))
noncomputable abbrev x1j4:=VX x1e 16 r_24
theorem x10r:x1j4 c h u (x14f x1e) r_24 eNil=j2 (xcr c h u) 0 1:=(kq (j2 (xcr c h u) 0 1))
noncomputable abbrev x1j5:=VX x4w 16 r_4
theorem x10s:x1j5 c h u (x14f x4w) r_4 eNil=j2 (xcs c h u) 0 1:=(kq (j2 (xcs c h u) 0 1))
noncomputable abbrev x1j6:=VX x4x 15 r_3
theorem x10t:x1j6 c h u (x14f x4x) r_3 eNil=j1 (xcu c h u) 0:=(tq (j1 (xcu c h u) 0) (sqN 1 (sq2 (kq (j0 (xln c h u))) (tq (j1 (xlp c h u) 0) (sqN 1 (bk 0 (lq (xct c h u) (λr=>j3 r 5 6 7) λrec0=>(kq (j3 (xlo c h u rec0) 5 6 7)))))))))
noncomputable abbrev x1j7:=VX x4y 47 r_4
theorem x10u:x1j7 c h u (x14f x4y) r_4 eNil=j2 (xcx c h u) 0 1:=(tq (j2 (xcx c h u) 0 1) (sqN 2 (sq2 (kq (j1 (xlq c h u) 5)) (tq (j3 (xlx c h u) 0 3 5) (sqN 1 (bk 0 (lq (xcw c h u) (λr=>j5 r 3 5 9 10 11) λrec0=>(tq (j5 (xlw c h u rec0) 3 5 9 10 11) (sqN 2 (sq2 (kq (j5 (x8b c h u rec0) 3 5 9 10 11)) (bk 1 (tq (j5 (xlv c h u rec0) 3 5 9 10 11) (sqN 3 (tq (j7 (xlu c h u rec0) 3 5 7 9 10 11 30) (cd (tq (j6 (xls c h u rec0) 3 5 7 9 10 11) (sqN 1 (sq2 (kq (j7 (xcv c h u rec0) 3 5 7 8 9 10 11)) (kq (j7 (xlr c h u rec0) 3 5 7 8 9 10 11))))) (kq (j5 (xlt c h u rec0) 3 5 9 10 11)))))))))))))))))
noncomputable abbrev x1j8:=VX x4z 49 r_17
theorem x10v:x1j8 c h u (x14f x4z) r_17 eNil=j3 (xd0 c h u) 0 1 2:=(tq (j3 (xd0 c h u) 0 1 2) (sqN 1 (bk 0 (lq (xcz c h u) (λr=>j4 r 0 1 2 6) λrec0=>(tq (j4 (xm1 c h u rec0) 0 1 2 6) (sqN 1 (sq2 (kq (j4 (xly c h u rec0) 0 1 2 6)) (bk 1 (tq (j4 (xm0 c h u rec0) 0 1 2 6) (sqN 1 (bk 2 (lq (xcy c h u rec0) (λr=>j5 r 0 1 2 6 7) λs=>(kq (j5 (xlz c h u rec0 s) 0 1 2 6 7))))))))))))))
noncomputable abbrev x1j9:=VX x50 56 r_17
theorem x10w:x1j9 c h u (x14f x50) r_17 eNil=j3 (xd3 c h u) 0 1 2:=(tq (j3 (xd3 c h u) 0 1 2) (sqN 3 (sq2 (tq (j4 (xm3 c h u) 0 6 7 8) (sqN 1 (bk 2 (lq (xd1 c h u) (λr=>j4 r 0 6 7 10) λrec0=>(kq (j4 (xm2 c h u rec0) 0 6 7 10)))))) (tq (j4 (xm5 c h u) 0 6 7 8) (sqN 1 (bk 0 (lq (xd2 c h u) (λr=>j5 r 0 6 7 8 9) λs=>(kq (j5 (xm4 c h u s) 0 6 7 8 9)))))))))
noncomputable abbrev x1ja:=VX x51 65 r_17
theorem x10x:x1ja c h u (x14f x51) r_17 eNil=j3 (xd6 c h u) 0 1 2:=(tq (j3 (xd6 c h u) 0 1 2) (sqN 2 (tq (j4 (xmc c h u) 0 1 6 15) (cd (tq (j3 (xma c h u) 0 1 6) (sqN 3 (bk 0 (lq (xd5 c h u) (λr=>j6 r 0 1 6 7 8 9) λrec0=>(tq (j6 (xm9 c h u rec0) 0 1 6 7 8 9) (sqN 1 (sq2 (kq (j6 (xm6 c h u rec0) 0 1 6 7 8 9)) (bk 1 (tq (j6 (xm8 c h u rec0) 0 1 6 7 8 9) (sqN 1 (sq2 (kq (j7 (xd4 c h u rec0) 0 1 6 7 8 9 10)) (kq (j7 (xm7 c h u rec0) 0 1 6 7 8 9 10))))))))))))) (kq (j0 (xmb c h u)))))))
noncomputable abbrev x1jb:=VX x52 57 r_25
theorem x10y:x1jb c h u (x14f x52) r_25 eNil=j3 (xd9 c h u) 0 1 2:=(tq (j3 (xd9 c h u) 0 1 2) (sqN 6 (sq2 (kq (j2 (xd7 c h u) 9 11)) (tq (j6 (xmg c h u) 0 8 9 10 11 12) (sqN 1 (tq (j7 (xmf c h u) 0 8 9 10 11 12 32) (cd (sq2 (kq (j5 (xd8 c h u) 0 9 10 11 12)) (kq (j6 (xmd c h u) 0 8 9 10 11 12))) (kq (j2 (xme c h u) 9 11)))))))))
noncomputable abbrev x1jc:=VX x53 32 r_17
theorem x10z:x1jc c h u (x14f x53) r_17 eNil=j3 (xdb c h u) 0 1 2:=(tq (j3 (xdb c h u) 0 1 2) (sqN 2 (bk 0 (lq (xda c h u) (λr=>j3 r 0 6 7) λrec0=>(kq (j3 (xmh c h u rec0) 0 6 7))))))
noncomputable abbrev x1jd:=VX x54 133 r_0
theorem x110:x1jd c h u (x14f x54) r_0 eNil=j3 (xdg c h u) 0 1 2:=(tq (j3 (xdg c h u) 0 1 2) (sqN 2 (sq2 (kq (j0 (xmi c h u))) (tq (j4 (xmv c h u) 0 1 2 7) (sqN 1 (bk 0 (lq (xdf c h u) (λr=>j5 r 0 1 2 7 8) λrec0=>(tq (j5 (xmu c h u rec0) 0 1 2 7 8) (sqN 1 (sq2 (kq (j5 (x8c c h u rec0) 0 1 2 7 8)) (bk 1 (sq2 (tq (j5 (xms c h u rec0) 0 1 2 7 8) (sqN 3 (sq2 (tq (j5 (x8d c h u rec0) 0 1 2 7 8) (sqN 1 (tq (j6 (xmm c h u rec0) 0 1 2 7 8 98) (cd (tq (j5 (xmk c h u rec0) 0 1 2 7 8) (sqN 1 (bk 6 (lq (xdc c h u rec0) (λr=>j6 r 0 1 2 7 8 10) λs=>(kq (j6 (xmj c h u rec0 s) 0 1 2 7 8 10)))))) (kq (j5 (xml c h u rec0) 0 1 2 7 8)))))) (tq (j5 (xmr c h u rec0) 0 1 2 7 8) (sqN 1 (tq (j6 (xmq c h u rec0) 0 1 2 7 8 61) (cd (tq (j5 (xmo c h u rec0) 0 1 2 7 8) (sqN 1 (bk 4 (lq (xdd c h u rec0) (λr=>j6 r 0 1 2 7 8 9) λw=>(kq (j6 (xmn c h u rec0 w) 0 1 2 7 8 9)))))) (kq (j5 (xmp c h u rec0) 0 1 2 7 8))))))))) (bk 2 (lq (xde c h u rec0) (λr=>j5 r 0 1 2 7 8) λz=>(kq (j5 (xmt c h u rec0 z) 0 1 2 7 8))))))))))))))))
noncomputable abbrev x1je:=VX xa 17 r_4
theorem x111:x1je c h u (x14f xa) r_4 eNil=j2 (xdh c h u) 0 1:=(kq (j2 (xdh c h u) 0 1))
noncomputable abbrev x1jf:=VX x55 84 r_26
theorem x112:x1jf c h u (x14f x55) r_26 eNil=j4 (xdl c h u) 0 1 2 3:=(tq (j4 (xdl c h u) 0 1 2 3) (sqN 3 (sq2 (kq (j1 (xmw c h u) 9)) (bk 0 (lq (xdk c h u) (λr=>j4 r 0 1 9 10) λrec0=>(bk 1 (sq2 (sq2 (kq (j4 (xmx c h u rec0) 0 1 9 10)) (bk 4 (lq (xdi c h u rec0) (λr=>j4 r 0 1 9 10) λs=>(kq (j4 (xmy c h u rec0 s) 0 1 9 10))))) (bk 2 (lq (xdj c h u rec0) (λr=>j4 r 0 1 9 10) λw=>(kq (j4 (xmz c h u rec0 w) 0 1 9 10)))))))))))
noncomputable abbrev x1jg:=VX x56 168 r_27
theorem x113:x1jg c h u (x14f x56) r_27 eNil=j4 (xdr c h u) 0 1 2 3:=(tq (j4 (xdr c h u) 0 1 2 3) (sqN 3 (sq2 (sq2 (tq (j4 (xn4 c h u) 0 1 10 11) (sqN 4 (sq2 (kq (j3 (xn0 c h u) 0 1 11)) (bk 4 (lq (xdo c h u) (λr=>j4 r 0 1 10 11) λrec0=>(bk 5 (sq2 (sq2 (kq (j4 (xn1 c h u rec0) 0 1 10 11)) (bk 8 (lq (xdm c h u rec0) (λr=>j4 r 0 1 10 11) λs=>(kq (j4 (xn2 c h u rec0 s) 0 1 10 11))))) (bk 6 (lq (xdn c h u rec0) (λr=>j4 r 0 1 10 11) λw=>(kq (j4 (xn3 c h u rec0 w) 0 1 10 11))))))))))) (bk 2 (lq (xdp c h u) (λr=>j4 r 0 1 10 11) λz=>(kq (j4 (xn5 c h u z) 0 1 10 11))))) (bk 0 (lq (xdq c h u) (λr=>j4 r 0 1 10 11) λy=>(kq (j4 (xn6 c h u y) 0 1 10 11)))))))
noncomputable abbrev x1jh:=VX x57 19 r_3
theorem x114:x1jh c h u (x14f x57) r_3 eNil=j1 (xdu c h u) 0:=(tq (j1 (xdu c h u) 0) (sqN 1 (sq2 (sq2 (kq (j2 (xds c h u) 0 2)) (kq (j2 (xdt c h u) 0 2))) (kq (j2 (xn7 c h u) 0 2)))))
noncomputable abbrev x1ji:=VX x2z 25 r_3
theorem x115:x1ji c h u (x14f x2z) r_3 eNil=j1 (xdy c h u) 0:=(tq (j1 (xdy c h u) 0) (sqN 1 (sq2 (sq2 (sq2 (kq (j2 (xdv c h u) 0 2)) (kq (j2 (xdw c h u) 0 2))) (kq (j2 (xdx c h u) 0 2))) (kq (j2 (xn8 c h u) 0 2)))))
noncomputable abbrev x1jj:=VX x58 22 r_7
theorem x116:x1jj c h u (x14f x58) r_7 eNil=j1 (xdz c h u) 0:=(kq (j1 (xdz c h u) 0))
noncomputable abbrev x1jk:=VX x1f 30 r_4
theorem x117:x1jk c h u (x14f x1f) r_4 eNil=j2 (xe1 c h u) 0 1:=(tq (j2 (xe1 c h u) 0 1) (sqN 1 (sq2 (kq (j0 (xnb c h u))) (tq (j2 (xnd c h u) 0 1) (sqN 1 (bk 0 (lq (xe0 c h u) (λr=>j4 r 0 9 10 11) λrec0=>(kq (j4 (xnc c h u rec0) 0 9 10 11)))))))))
noncomputable abbrev x1jl:=VX x59 24 r_7
theorem x118:x1jl c h u (x14f x59) r_7 eNil=j1 (xe2 c h u) 0:=(kq (j1 (xe2 c h u) 0))
noncomputable abbrev x1jm:=VX x5a 18 r_7
theorem x119:x1jm c h u (x14f x5a) r_7 eNil=j1 (xe3 c h u) 0:=(kq (j1 (xe3 c h u) 0))
noncomputable abbrev x1jn:=VX x5b 22 r_7
theorem x11a:x1jn c h u (x14f x5b) r_7 eNil=j1 (xe4 c h u) 0:=(kq (j1 (xe4 c h u) 0))
noncomputable abbrev x1jo:=VX x5c 8 r_7
theorem x11b:x1jo c h u (x14f x5c) r_7 eNil=j1 (xe5 c h u) 0:=(kq (j1 (xe5 c h u) 0))
noncomputable abbrev x1jp:=VX x5d 8 r_7
theorem x11c:x1jp c h u (x14f x5d) r_7 eNil=j1 (xe6 c h u) 0:=(kq (j1 (xe6 c h u) 0))
noncomputable abbrev x1jq:=VX x30 26 r_7
theorem x11d:x1jq c h u (x14f x30) r_7 eNil=j1 (xe7 c h u) 0:=(kq (j1 (xe7 c h u) 0))
noncomputable abbrev x1jr:=VX x5e 8 r_4
theorem x11e:x1jr c h u (x14f x5e) r_4 eNil=j2 (xe9 c h u) 0 1:=(kq (j2 (xe9 c h u) 0 1))
noncomputable abbrev x1js:=VX x5f 8 r_3
theorem x11f:x1js c h u (x14f x5f) r_3 eNil=j1 (xea c h u) 0:=(kq (j1 (xea c h u) 0))
noncomputable abbrev x1jt:=VX x5g 8 r_4
theorem x11g:x1jt c h u (x14f x5g) r_4 eNil=j2 (xeb c h u) 0 1:=(kq (j2 (xeb c h u) 0 1))
noncomputable abbrev x1ju:=VX x5h 9 r_4
theorem x11h:x1ju c h u (x14f x5h) r_4 eNil=j2 (xec c h u) 0 1:=(kq (j2 (xec c h u) 0 1))
noncomputable abbrev x1jv:=VX x31 8 r_4
theorem x11i:x1jv c h u (x14f x31) r_4 eNil=j2 (xed c h u) 0 1:=(kq (j2 (xed c h u) 0 1))
noncomputable abbrev x1jw:=VX x32 143 r_4
theorem x11j:x1jw c h u (x14f x32) r_4 eNil=j2 (xeg c h u) 0 1:=(tq (j2 (xeg c h u) 0 1) (sqN 8 (sq2 (kq (j0 (xnk c h u))) (bk 1 (lq (xef c h u) (λr=>j8 r 0 1 5 6 7 8 9 10) λrec0=>(tq (j8 (xnn c h u rec0) 0 1 5 6 7 8 9 10) (sqN 1 (bk 2 (sq2 (kq (j8 (xee c h u rec0) 0 1 5 6 7 8 9 10)) (kq (j8 (xnm c h u rec0) 0 1 5 6 7 8 9 10)))))))))))
noncomputable abbrev x1jx:=VX x5i 54 r_4
theorem x11k:x1jx c h u (x14f x5i) r_4 eNil=j2 (xei c h u) 0 1:=(tq (j2 (xei c h u) 0 1) (sqN 1 (sq2 (kq (j2 (xno c h u) 0 1)) (tq (j2 (xnt c h u) 0 1) (sqN 1 (tq (j3 (xns c h u) 0 1 11) (cd (tq (j1 (xnq c h u) 0) (sqN 3 (sq2 (kq (j3 (xeh c h u) 0 5 6)) (kq (j3 (xnp c h u) 0 5 6))))) (kq (j2 (xnr c h u) 0 1)))))))))
noncomputable abbrev x1jy:=VX x5j 36 r_3
theorem x11l:x1jy c h u (x14f x5j) r_3 eNil=j1 (xej c h u) 0:=(kq (j1 (xej c h u) 0))
noncomputable abbrev x1jz:=VX xt 15 r_0
theorem x11m:x1jz c h u (x14f xt) r_0 eNil=j3 (xek c h u) 0 1 2:=(kq (j3 (xek c h u) 0 1 2))
noncomputable abbrev x1k0:=VX x5k 42 r_4
theorem x11n:x1k0 c h u (x14f x5k) r_4 eNil=j2 (xem c h u) 0 1:=(tq (j2 (xem c h u) 0 1) (sqN 3 (sq2 (kq (j1 (xnu c h u) 6)) (tq (j4 (xnw c h u) 1 2 5 6) (sqN 1 (bk 0 (lq (xel c h u) (λr=>j6 r 1 5 6 14 15 16) λrec0=>(kq (j6 (xnv c h u rec0) 1 5 6 14 15 16)))))))))
noncomputable abbrev x1k1:=VX x33 38 r_4
theorem x11o:x1k1 c h u (x14f x33) r_4 eNil=j2 (xep c h u) 0 1:=(tq (j2 (xep c h u) 0 1) (sqN 5 (sq2 (kq (j1 (xnx c h u) 5)) (tq (j3 (xo0 c h u) 5 6 8) (sqN 1 (bk 0 (lq (xeo c h u) (λr=>j5 r 5 6 8 24 25) λrec0=>(tq (j5 (xnz c h u rec0) 5 6 8 24 25) (sqN 2 (sq2 (kq (j5 (xen c h u rec0) 5 6 8 24 25)) (kq (j5 (xny c h u rec0) 5 6 8 24 25))))))))))))
noncomputable abbrev x1k2:=VX x5l 30 r_4
theorem x11p:x1k2 c h u (x14f x5l) r_4 eNil=j2 (xes c h u) 0 1:=(tq (j2 (xes c h u) 0 1) (sqN 2 (sq2 (kq (j1 (xo2 c h u) 5)) (tq (j3 (xo5 c h u) 1 2 5) (sqN 1 (bk 0 (lq (xer c h u) (λr=>j5 r 1 5 15 16 17) λrec0=>(tq (j5 (xo4 c h u rec0) 1 5 15 16 17) (sqN 2 (sq2 (kq (j5 (xeq c h u rec0) 1 5 15 16 17)) (kq (j5 (xo3 c h u rec0) 1 5 15 16 17))))))))))))
noncomputable abbrev x1k3:=VX x5m 15 r_0
theorem x11q:x1k3 c h u (x14f x5m) r_0 eNil=j3 (xet c h u) 0 1 2:=(kq (j3 (xet c h u) 0 1 2))
noncomputable abbrev x1k4:=VX x5n 16 r_4
theorem x11r:x1k4 c h u (x14f x5n) r_4 eNil=j2 (xeu c h u) 0 1:=(kq (j2 (xeu c h u) 0 1))
noncomputable abbrev x1k5:=VX x34 76 r_17
theorem x11s:x1k5 c h u (x14f x34) r_17 eNil=j4 (xex c h u) 0 1 2 3:=(tq (j4 (xex c h u) 0 1 2 3) (sqN 1 (bk 0 (lq (xew c h u) (λr=>j4 r 0 2 3 8) λrec0=>(bk 1 (tq (j4 (xo7 c h u rec0) 0 2 3 8) (sqN 2 (sq2 (kq (j5 (xev c h u rec0) 0 2 3 8 9)) (kq (j5 (xo6 c h u rec0) 0 2 3 8 9))))))))))
noncomputable abbrev x1k6:=VX x5o 7 r_3
theorem x11t:x1k6 c h u (x14f x5o) r_3 eNil=j1 (xey c h u) 0:=(kq (j1 (xey c h u) 0))
noncomputable abbrev x1k7:=VX x5p 33 r_3
theorem x11u:x1k7 c h u (x14f x5p) r_3 eNil=j1 (xez c h u) 0:=(kq (j1 (xez c h u) 0))
noncomputable abbrev x1k8:=VX x25 15 r_0
theorem x11v:x1k8 c h u (x14f x25) r_0 eNil=j3 (xf0 c h u) 0 1 2:=(kq (j3 (xf0 c h u) 0 1 2))
noncomputable abbrev x1k9:=VX x35 36 r_28
theorem x11w:x1k9 c h u (x14f x35) r_28 eNil=j5 (xf1 c h u) 0 1 2 3 4:=(kq (j5 (xf1 c h u) 0 1 2 3 4))
noncomputable abbrev x1ka:=VX x36 6 r_3
theorem x11x:x1ka c h u (x14f x36) r_3 eNil=j1 (xf2 c h u) 0:=(kq (j1 (xf2 c h u) 0))
noncomputable abbrev x1kb:=VX x5q 8 r_4
theorem x11y:x1kb c h u (x14f x5q) r_4 eNil=j2 (xf3 c h u) 0 1:=(kq (j2 (xf3 c h u) 0 1))
noncomputable abbrev x1kc:=VX x37 18 r_4
theorem x11z:x1kc c h u (x14f x37) r_4 eNil=j2 (xf4 c h u) 0 1:=(kq (j2 (xf4 c h u) 0 1))
noncomputable abbrev x1kd:=VX x5r 66 r_26
theorem x120:x1kd c h u (x14f x5r) r_26 eNil=j4 (xf8 c h u) 0 1 2 3:=(tq (j4 (xf8 c h u) 0 1 2 3) (sqN 3 (sq2 (tq (j4 (xf7 c h u) 0 1 2 3) (sqN 4 (sq2 (kq (j3 (xf5 c h u) 0 9 10)) (bk 0 (lq (xf6 c h u) (λr=>j6 r 0 1 2 3 9 10) λrec0=>(kq (j6 (xo8 c h u rec0) 0 1 2 3 9 10))))))) (kq (j4 (xo9 c h u) 0 1 2 3)))))
noncomputable abbrev x1ke:=VX x5s 19 r_4
theorem x121:x1ke c h u (x14f x5s) r_4 eNil=j2 (xfa c h u) 0 1:=(tq (j2 (xfa c h u) 0 1) (sqN 1 (sq2 (kq (j0 (xoa c h u))) (tq (j2 (xoc c h u) 0 1) (sqN 1 (bk 0 (lq (xf9 c h u) (λr=>j4 r 0 1 7 8) λrec0=>(kq (j4 (xob c h u rec0) 0 1 7 8)))))))))
noncomputable abbrev x1kf:=VX x5t 6 r_3
theorem x122:x1kf c h u (x14f x5t) r_3 eNil=j1 (xfb c h u) 0:=(kq (j1 (xfb c h u) 0))
noncomputable abbrev x1kg:=VX x5u 81 r_4
theorem x123:x1kg c h u (x14f x5u) r_4 eNil=j2 (xfe c h u) 0 1:=(tq (j2 (xfe c h u) 0 1) (sqN 4 (sq2 (tq (j6 (xog c h u) 0 1 5 6 7 8) (sqN 1 (sq2 (kq (j0 (xod c h u))) (tq (j6 (xof c h u) 0 1 5 6 7 8) (sqN 1 (bk 2 (lq (xfc c h u) (λr=>j7 r 0 1 5 6 7 8 10) λrec0=>(kq (j7 (xoe c h u rec0) 0 1 5 6 7 8 10))))))))) (tq (j6 (xoi c h u) 0 1 5 6 7 8) (sqN 1 (bk 0 (lq (xfd c h u) (λr=>j7 r 0 1 5 6 7 8 9) λs=>(kq (j7 (xoh c h u s) 0 1 5 6 7 8 9)))))))))
noncomputable abbrev x1kh:=VX x5v 15 r_3
theorem x124:x1kh c h u (x14f x5v) r_3 eNil=j1 (xff c h u) 0:=(kq (j1 (xff c h u) 0))
noncomputable abbrev x1ki:=VX x5w 15 r_3
theorem x125:x1ki c h u (x14f x5w) r_3 eNil=j1 (xfg c h u) 0:=(kq (j1 (xfg c h u) 0))
noncomputable abbrev x1kj:=VX x5x 167 r_17
theorem x126:x1kj c h u (x14f x5x) r_17 eNil=j2 (xfk c h u) 0 1:=(tq (j2 (xfk c h u) 0 1) (sqN 1 (sq2 (tq (j3 (xok c h u) 0 1 4) (sqN 1 (sq2 (sq2 (kq (j3 (xfh c h u) 0 4 12)) (kq (j3 (xfi c h u) 0 4 12))) (kq (j3 (xoj c h u) 0 4 12))))) (bk 0 (lq (xfj c h u) (λr=>j3 r 0 1 4) λrec0=>(kq (j3 (xol c h u rec0) 0 1 4)))))))
noncomputable abbrev x1kk:=VX x5y 102 r_29
theorem x127:x1kk c h u (x14f x5y) r_29 eNil=j5 (xfq c h u) 0 1 2 3 4:=(tq (j5 (xfq c h u) 0 1 2 3 4) (sqN 1 (sq2 (tq (j7 (xov c h u) 0 1 2 3 4 10 11) (sqN 2 (sq2 (sq2 (sq2 (kq (j6 (xfl c h u) 0 4 10 11 12 13)) (kq (j7 (xfm c h u) 0 3 4 10 11 12 13))) (tq (j9 (xfp c h u) 0 1 2 3 4 10 11 12 13) (sqN 1 (tq (j10 (xot c h u) 0 1 2 3 4 10 11 12 13 34) (cd (tq (j9 (xoo c h u) 0 1 2 3 4 10 11 12 13) (sqN 3 (sq2 (kq (j8 (xom c h u) 0 1 3 4 10 11 12 13)) (bk 0 (lq (xfn c h u) (λr=>j11 r 0 1 3 4 10 11 12 13 14 15 16) λrec0=>(kq (j11 (xon c h u rec0) 0 1 3 4 10 11 12 13 14 15 16))))))) (tq (j9 (xos c h u) 0 1 2 3 4 10 11 12 13) (sqN 1 (sq2 (kq (j8 (xop c h u) 0 1 3 4 10 11 12 13)) (bk 2 (lq (xfo c h u) (λr=>j9 r 0 1 3 4 10 11 12 13 17) λs=>(kq (j9 (xoq c h u s) 0 1 3 4 10 11 12 13 17)))))))))))) (kq (j9 (xou c h u) 0 1 2 3 4 10 11 12 13))))) (kq (j7 (xow c h u) 0 1 2 3 4 10 11)))))
noncomputable abbrev x1kl:=VX x5z 11 r_3
theorem x128:x1kl c h u (x14f x5z) r_3 eNil=j1 (xfr c h u) 0:=(kq (j1 (xfr c h u) 0))
noncomputable abbrev x1km:=VX x38 9 r_4
theorem x129:x1km c h u (x14f x38) r_4 eNil=j2 (xfs c h u) 0 1:=(kq (j2 (xfs c h u) 0 1))
noncomputable abbrev x1kn:=VX x60 6 r_3
theorem x12a:x1kn c h u (x14f x60) r_3 eNil=j1 (xft c h u) 0:=(kq (j1 (xft c h u) 0))
noncomputable abbrev x1ko:=VX x39 10 r_4
theorem x12b:x1ko c h u (x14f x39) r_4 eNil=j2 (xfu c h u) 0 1:=(kq (j2 (xfu c h u) 0 1))
noncomputable abbrev x1kp:=VX x61 6 r_3
theorem x12c:x1kp c h u (x14f x61) r_3 eNil=j1 (xfv c h u) 0:=(kq (j1 (xfv c h u) 0))
noncomputable abbrev x1kq:=VX x62 51 r_3
theorem x12d:x1kq c h u (x14f x62) r_3 eNil=j1 (xfz c h u) 0:=(tq (j1 (xfz c h u) 0) (sqN 2 (sq2 (tq (j3 (xp1 c h u) 1 3 4) (sqN 2 (sq2 (kq (j1 (xox c h u) 4)) (tq (j4 (xp0 c h u) 1 3 4 6) (sqN 1 (bk 2 (lq (xfx c h u) (λr=>j6 r 1 4 6 29 30 31) λrec0=>(tq (j6 (xoz c h u rec0) 1 4 6 29 30 31) (sqN 2 (sq2 (kq (j6 (xfw c h u rec0) 1 4 6 29 30 31)) (kq (j6 (xoy c h u rec0) 1 4 6 29 30 31)))))))))))) (tq (j3 (xp3 c h u) 1 3 4) (sqN 1 (bk 0 (lq (xfy c h u) (λr=>j5 r 1 3 4 12 13) λs=>(kq (j5 (xp2 c h u s) 1 3 4 12 13)))))))))
noncomputable abbrev x1kr:=VX x63 43 r_17
theorem x12e:x1kr c h u (x14f x63) r_17 eNil=j7 (xg1 c h u) 0 1 2 3 4 5 6:=(tq (j7 (xg1 c h u) 0 1 2 3 4 5 6) (sqN 3 (bk 0 (tq (j6 (xp6 c h u) 1 4 5 6 7 16) (rg (.tmp 16) #[17,18] (λu=>(kq (j7 (xp4 c h u) 1 4 5 6 7 8 9))) (λu=>(kq (j7 (xp5 c h u) 1 4 5 6 7 17 18))))))))
noncomputable abbrev x1ks:=VX x64 8 r_0
theorem x12f:x1ks c h u (x14f x64) r_0 eNil=j3 (xg2 c h u) 0 1 2:=(kq (j3 (xg2 c h u) 0 1 2))
noncomputable abbrev x1kt:=VX x3a 15 r_3
theorem x12g:x1kt c h u (x14f x3a) r_3 eNil=j1 (xg4 c h u) 0:=(tq (j1 (xg4 c h u) 0) (sqN 2 (sq2 (kq (j1 (xp7 c h u) 3)) (tq (j2 (xp9 c h u) 0 3) (sqN 1 (bk 0 (lq (xg3 c h u) (λr=>j3 r 3 5 6) λrec0=>(kq (j3 (xp8 c h u rec0) 3 5 6)))))))))
noncomputable abbrev x1ku:=VX x3b 44 r_4
theorem x12h:x1ku c h u (x14f x3b) r_4 eNil=j2 (xg7 c h u) 0 1:=(tq (j2 (xg7 c h u) 0 1) (sqN 2 (sq2 (kq (j2 (xpa c h u) 5 6)) (tq (j3 (xpd c h u) 0 5 6) (sqN 1 (bk 0 (lq (xg6 c h u) (λr=>j6 r 0 5 6 19 20 21) λrec0=>(tq (j6 (xpc c h u rec0) 0 5 6 19 20 21) (sqN 2 (sq2 (kq (j6 (xg5 c h u rec0) 0 5 6 19 20 21)) (kq (j6 (xpb c h u rec0) 0 5 6 19 20 21))))))))))))
noncomputable abbrev x1kv:=VX x26 28 r_27
theorem x12i:x1kv c h u (x14f x26) r_27 eNil=j4 (xg8 c h u) 0 1 2 3:=(kq (j4 (xg8 c h u) 0 1 2 3))
noncomputable abbrev x1kw:=VX x97 77 r_7
theorem x12j:x1kw c h u (x14f x97) r_7 eNil=j1 (xgc c h u) 0:=(tq (j1 (xgc c h u) 0) (sqN 2 (sq2 (kq (j1 (xpe c h u) 0)) (tq (j2 (xpm c h u) 0 4) (sqN 1 (tq (j2 (xpl c h u) 0 30) (cd (tq (j1 (xpj c h u) 0) (sqN 1 (sq2 (tq (j2 (xgb c h u) 0 5) (sqN 1 (sq2 (sq2 (kq (j1 (xg9 c h u) 6)) (kq (j2 (xpf c h u) 5 6))) (tq (j3 (xph c h u) 0 5 6) (sqN 1 (bk 0 (lq (xga c h u) (λr=>j5 r 5 6 47 48 49) λrec0=>(kq (j5 (xpg c h u rec0) 5 6 47 48 49))))))))) (kq (j2 (xpi c h u) 0 5))))) (kq (j1 (xpk c h u) 0)))))))))
noncomputable abbrev x1kx:=VX x98 43 r_28
theorem x12k:x1kx c h u (x14f x98) r_28 eNil=j5 (xgd c h u) 0 1 2 3 4:=(kq (j5 (xgd c h u) 0 1 2 3 4))
noncomputable abbrev x1ky:=VX x65 13 r_4
theorem x12l:x1ky c h u (x14f x65) r_4 eNil=j2 (xge c h u) 0 1:=(kq (j2 (xge c h u) 0 1))
noncomputable abbrev x1kz:=VX x66 50 r_4
theorem x12m:x1kz c h u (x14f x66) r_4 eNil=j2 (xgi c h u) 0 1:=(tq (j2 (xgi c h u) 0 1) (sqN 2 (sq2 (tq (j2 (xgh c h u) 0 1) (sqN 1 (sq2 (sq2 (kq (j1 (xgf c h u) 6)) (kq (j3 (xpn c h u) 0 1 6))) (tq (j3 (xpp c h u) 0 1 6) (sqN 1 (bk 0 (lq (xgg c h u) (λr=>j4 r 0 1 6 7) λrec0=>(kq (j4 (xpo c h u rec0) 0 1 6 7))))))))) (kq (j3 (xpq c h u) 0 1 5)))))
noncomputable abbrev x1l0:=VX x67 34 r_4
theorem x12n:x1l0 c h u (x14f x67) r_4 eNil=j2 (xgk c h u) 0 1:=(tq (j2 (xgk c h u) 0 1) (sqN 4 (bk 0 (lq (xgj c h u) (λr=>j3 r 0 1 5) λrec0=>(kq (j3 (xpr c h u rec0) 0 1 5))))))
noncomputable abbrev x1l1:=VX x68 39 r_7
theorem x12o:x1l1 c h u (x14f x68) r_7 eNil=j1 (xgo c h u) 0:=(tq (j1 (xgo c h u) 0) (sqN 2 (sq2 (tq (j2 (xpx c h u) 0 4) (sqN 1 (sq2 (kq (j2 (xps c h u) 4 6)) (tq (j4 (xpw c h u) 0 4 6 7) (sqN 1 (bk 2 (lq (xgm c h u) (λr=>j4 r 4 6 7 8) λrec0=>(tq (j4 (xpv c h u rec0) 4 6 7 8) (sqN 1 (sq2 (kq (j4 (xpt c h u rec0) 4 6 7 8)) (bk 3 (sq2 (kq (j4 (xgl c h u rec0) 4 6 7 8)) (kq (j4 (xpu c h u rec0) 4 6 7 8)))))))))))))) (tq (j2 (xpz c h u) 0 4) (sqN 1 (bk 0 (lq (xgn c h u) (λr=>j3 r 0 4 5) λs=>(kq (j3 (xpy c h u s) 0 4 5)))))))))
noncomputable abbrev x1l2:=VX x69 6 r_3
theorem x12p:x1l2 c h u (x14f x69) r_3 eNil=j1 (xgp c h u) 0:=(kq (j1 (xgp c h u) 0))
noncomputable abbrev x1l3:=VX x6a 4 r_3
theorem x12q:x1l3 c h u (x14f x6a) r_3 eNil=j1 (xgq c h u) 0:=(kq (j1 (xgq c h u) 0))
noncomputable abbrev x1l4:=VX x6b 8 r_3
theorem x12r:x1l4 c h u (x14f x6b) r_3 eNil=j1 (xgr c h u) 0:=(kq (j1 (xgr c h u) 0))
noncomputable abbrev x1l5:=VX x6c 8 r_3
theorem x12s:x1l5 c h u (x14f x6c) r_3 eNil=j1 (xgs c h u) 0:=(kq (j1 (xgs c h u) 0))
noncomputable abbrev x1l6:=VX x6d 66 r_7
theorem x12t:x1l6 c h u (x14f x6d) r_7 eNil=j1 (xgu c h u) 0:=(tq (j1 (xgu c h u) 0) (sqN 4 (sq2 (kq (j0 (xq0 c h u))) (tq (j2 (xq3 c h u) 1 6) (sqN 1 (bk 0 (lq (xgt c h u) (λr=>j5 r 1 6 26 27 28) λrec0=>(kq (j5 (xq1 c h u rec0) 1 6 26 27 28)))))))))
noncomputable abbrev x1l7:=VX x3s 19 r_4
theorem xy9:x1l7 c h u (x14f x3s) r_4 eNil=j2 (xgw c h u) 0 1:=(tq (j2 (xgw c h u) 0 1) (sqN 1 (sq2 (kq (j0 (xq4 c h u))) (tq (j2 (xq6 c h u) 0 1) (sqN 1 (bk 0 (lq (xgv c h u) (λr=>j4 r 0 1 7 8) λrec0=>(kq (j4 (xq5 c h u rec0) 0 1 7 8)))))))))
noncomputable abbrev x1l8:=VX x6e 9 r_17
theorem x12u:x1l8 c h u (x14f x6e) r_17 eNil=j2 (xgx c h u) 0 1:=(kq (j2 (xgx c h u) 0 1))
noncomputable abbrev x1l9:=VX x6f 13 r_30
theorem x12v:x1l9 c h u (x14f x6f) r_30 eNil=j3 (xgy c h u) 0 1 2:=(kq (j3 (xgy c h u) 0 1 2))
noncomputable abbrev x1la:=VX x3c 41 r_4
theorem x12w:x1la c h u (x14f x3c) r_4 eNil=j2 (xgz c h u) 0 1:=(kq (j2 (xgz c h u) 0 1))
noncomputable abbrev x1lb:=VX x6g 43 r_17
theorem x12x:x1lb c h u (x14f x6g) r_17 eNil=j4 (xh2 c h u) 0 1 2 3:=(tq (j4 (xh2 c h u) 0 1 2 3) (sqN 1 (bk 0 (lq (xh1 c h u) (λr=>j6 r 0 2 3 12 13 14) λrec0=>(tq (j6 (xqb c h u rec0) 0 2 3 12 13 14) (sqN 2 (sq2 (kq (j6 (xq7 c h u rec0) 0 2 3 12 13 14)) (bk 1 (tq (j6 (xqa c h u rec0) 0 2 3 12 13 14) (sqN 2 (bk 2 (lq (xh0 c h u rec0) (λr=>j9 r 0 2 3 6 12 13 14 18 19) λs=>(kq (j9 (xq8 c h u rec0 s) 0 2 3 6 12 13 14 18 19))))))))))))))
noncomputable abbrev x1lc:=VX x6h 25 r_5
theorem x12y:x1lc c h u (x14f x6h) r_5 eNil=j2 (xh3 c h u) 0 1:=(kq (j2 (xh3 c h u) 0 1))
noncomputable abbrev x1ld:=VX x6i 73 r_25
theorem x12z:x1ld c h u (x14f x6i) r_25 eNil=j3 (xh6 c h u) 0 1 2:=(tq (j3 (xh6 c h u) 0 1 2) (sqN 3 (sq2 (tq (j4 (x8h c h u) 0 1 2 8) (sqN 3 (sq2 (tq (j3 (xh5 c h u) 2 8 9) (sqN 4 (sq2 (kq (j1 (xh4 c h u) 11)) (kq (j2 (xqc c h u) 8 11))))) (kq (j3 (xqd c h u) 2 8 9))))) (kq (j4 (xqe c h u) 0 1 2 8)))))
noncomputable abbrev x1le:=VX x6j 11 r_4
theorem x130:x1le c h u (x14f x6j) r_4 eNil=j2 (xh7 c h u) 0 1:=(kq (j2 (xh7 c h u) 0 1))
noncomputable abbrev x1lf:=VX x6k 11 r_4
theorem x131:x1lf c h u (x14f x6k) r_4 eNil=j2 (xh8 c h u) 0 1:=(kq (j2 (xh8 c h u) 0 1))
noncomputable abbrev x1lg:=VX x6l 16 r_0
theorem x132:x1lg c h u (x14f x6l) r_0 eNil=j3 (xh9 c h u) 0 1 2:=(kq (j3 (xh9 c h u) 0 1 2))
noncomputable abbrev x1lh:=VX x6m 16 r_0
theorem x133:x1lh c h u (x14f x6m) r_0 eNil=j3 (xha c h u) 0 1 2:=(kq (j3 (xha c h u) 0 1 2))
noncomputable abbrev x1li:=VX x3d 10 r_3
theorem x134:x1li c h u (x14f x3d) r_3 eNil=j1 (xhb c h u) 0:=(tq (j1 (xhb c h u) 0) (sqN 1 (sq2 (kq (j1 (xy4 c h u) 2)) (tq (j2 (xqh c h u) 0 2) (sqN 1 (bk 0 (lq (xqg c h u) (λr=>j2 r 2 4) λrec0=>(kq (j2 (xqf c h u rec0) 2 4)))))))))
noncomputable abbrev x1lj:=VX x6n 19 r_7
theorem x135:x1lj c h u (x14f x6n) r_7 eNil=j1 (xhc c h u) 0:=(kq (j1 (xhc c h u) 0))
noncomputable abbrev x1lk:=VX x6o 14 r_3
theorem x136:x1lk c h u (x14f x6o) r_3 eNil=j1 (xhd c h u) 0:=(kq (j1 (xhd c h u) 0))
noncomputable abbrev x1ll:=VX x6p 14 r_3
theorem x137:x1ll c h u (x14f x6p) r_3 eNil=j1 (xhe c h u) 0:=(kq (j1 (xhe c h u) 0))
noncomputable abbrev x1lm:=VX x6q 42 r_7
theorem x138:x1lm c h u (x14f x6q) r_7 eNil=j1 (xhg c h u) 0:=(tq (j1 (xhg c h u) 0) (sqN 2 (sq2 (kq (j0 (xqi c h u))) (tq (j1 (xqk c h u) 0) (sqN 1 (bk 0 (lq (xhf c h u) (λr=>j4 r 0 9 10 11) λrec0=>(kq (j4 (xqj c h u rec0) 0 9 10 11)))))))))
noncomputable abbrev x1ln:=VX x6r 63 r_17
theorem x139:x1ln c h u (x14f x6r) r_17 eNil=j3 (xhl c h u) 0 1 2:=(tq (j3 (xhl c h u) 0 1 2) (sqN 2 (sq2 (tq (j5 (xqp c h u) 0 1 2 6 7) (sqN 1 (bk 2 (lq (xhj c h u) (λr=>j4 r 0 1 2 6) λrec0=>(tq (j4 (xqo c h u rec0) 0 1 2 6) (sqN 1 (bk 3 (tq (j4 (xqn c h u rec0) 0 1 2 6) (sqN 1 (sq2 (sq2 (kq (j4 (xhh c h u rec0) 0 1 2 6)) (kq (j5 (xql c h u rec0) 0 1 2 6 7))) (bk 4 (lq (xhi c h u rec0) (λr=>j6 r 0 1 2 6 7 8) λs=>(kq (j6 (xqm c h u rec0 s) 0 1 2 6 7 8)))))))))))))) (bk 0 (lq (xhk c h u) (λr=>j6 r 0 1 2 6 7 8) λw=>(kq (j6 (xqq c h u w) 0 1 2 6 7 8)))))))
noncomputable abbrev x1lo:=VX x3e 7 r_3
theorem x13a:x1lo c h u (x14f x3e) r_3 eNil=j1 (xhm c h u) 0:=(kq (j1 (xhm c h u) 0))
noncomputable abbrev x1lp:=VX x6s 172 r_25
theorem x13b:x1lp c h u (x14f x6s) r_25 eNil=j3 (xhr c h u) 0 1 2:=(tq (j3 (xhr c h u) 0 1 2) (sqN 4 (sq2 (sq2 (tq (j5 (xhq c h u) 0 1 2 8 9) (sqN 1 (sq2 (tq (j6 (x8j c h u) 0 1 2 8 9 10) (sqN 3 (sq2 (kq (j3 (xqr c h u) 9 12 13)) (tq (j8 (xqv c h u) 0 1 8 9 10 11 12 13) (sqN 1 (bk 3 (lq (xhp c h u) (λr=>j10 r 1 8 9 10 11 12 13 99 100 101) λrec0=>(tq (j10 (xqu c h u rec0) 1 8 9 10 11 12 13 99 100 101) (sqN 2 (sq2 (kq (j10 (xhn c h u rec0) 1 8 9 10 11 12 13 99 100 101)) (bk 4 (tq (j10 (xqt c h u rec0) 1 8 9 10 11 12 13 99 100 101) (sqN 2 (sq2 (kq (j11 (xho c h u rec0) 1 8 9 10 11 12 13 16 99 100 101)) (kq (j11 (xqs c h u rec0) 1 8 9 10 11 12 13 15 99 100 101)))))))))))))))) (kq (j5 (xqw c h u) 0 1 2 8 9))))) (kq (j5 (x1v c h u) 0 1 2 8 9))) (kq (j5 (xqx c h u) 0 1 2 8 9)))))
noncomputable abbrev x1lq:=VX x1g 18 r_3
theorem x13c:x1lq c h u (x14f x1g) r_3 eNil=j1 (xhs c h u) 0:=(kq (j1 (xhs c h u) 0))
noncomputable abbrev x1lr:=VX x3f 7 r_3
theorem x13d:x1lr c h u (x14f x3f) r_3 eNil=j1 (xht c h u) 0:=(kq (j1 (xht c h u) 0))
noncomputable abbrev x1ls:=VX x6t 117 r_7
theorem x13e:x1ls c h u (x14f x6t) r_7 eNil=j1 (xhu c h u) 0:=(kq (j1 (xhu c h u) 0))
noncomputable abbrev x1lt:=VX x6u 49 r_3
theorem x13f:x1lt c h u (x14f x6u) r_3 eNil=j1 (xhy c h u) 0:=(tq (j1 (xhy c h u) 0) (sqN 2 (sq2 (kq (j0 (xqy c h u))) (tq (j1 (xr2 c h u) 0) (sqN 1 (bk 0 (lq (xhx c h u) (λr=>j3 r 13 14 15) λrec0=>(tq (j3 (xr1 c h u rec0) 13 14 15) (sqN 2 (sq2 (kq (j3 (xhv c h u rec0) 13 14 15)) (bk 1 (tq (j3 (xr0 c h u rec0) 13 14 15) (sqN 1 (bk 2 (sq2 (kq (j6 (xhw c h u rec0) 3 4 13 14 15 20)) (kq (j5 (xqz c h u rec0) 3 4 13 14 15)))))))))))))))))
noncomputable abbrev x1lu:=VX x6v 9 r_4
theorem x13g:x1lu c h u (x14f x6v) r_4 eNil=j2 (xhz c h u) 0 1:=(kq (j2 (xhz c h u) 0 1))
noncomputable abbrev x1lv:=VX x6w 9 r_15
theorem x13h:x1lv c h u (x14f x6w) r_15 eNil=j2 (xi0 c h u) 0 1:=(kq (j2 (xi0 c h u) 0 1))
noncomputable abbrev x1lw:=VX x3g 53 r_17
theorem x13i:x1lw c h u (x14f x3g) r_17 eNil=j4 (xi3 c h u) 0 1 2 3:=(tq (j4 (xi3 c h u) 0 1 2 3) (sqN 1 (bk 0 (lq (xi2 c h u) (λr=>j5 r 0 1 2 3 8) λrec0=>(tq (j5 (xr6 c h u rec0) 0 1 2 3 8) (sqN 1 (sq2 (kq (j5 (xr3 c h u rec0) 0 1 2 3 8)) (bk 1 (tq (j5 (xr5 c h u rec0) 0 1 2 3 8) (sqN 1 (bk 2 (lq (xi1 c h u rec0) (λr=>j6 r 0 1 2 3 8 9) λs=>(kq (j6 (xr4 c h u rec0 s) 0 1 2 3 8 9))))))))))))))
noncomputable abbrev x1lx:=VX x1h 220 r_17
theorem x13j:x1lx c h u (x14f x1h) r_17 eNil=j5 (xic c h u) 0 1 2 3 4:=(sq2 (sq2 (tq (j5 (xrb c h u) 0 1 2 3 4) (sqN 3 (sq2 (tq (j9 (xi7 c h u) 0 1 2 3 4 18 19 20 21) (sqN 1 (sq2 (tq (j8 (xr8 c h u) 0 1 2 3 4 18 19 20) (sqN 1 (sq2 (sq2 (kq (j5 (xi4 c h u) 0 3 4 18 24)) (kq (j7 (xi5 c h u) 0 1 3 4 18 20 24))) (kq (j8 (xr7 c h u) 0 1 2 3 4 18 20 24))))) (bk 8 (lq (xi6 c h u) (λr=>j10 r 0 1 2 3 4 18 19 20 21 22) λrec0=>(kq (j10 (xr9 c h u rec0) 0 1 2 3 4 18 19 20 21 22))))))) (kq (j7 (xra c h u) 0 1 2 3 4 18 19))))) (tq (j5 (xrj c h u) 0 1 2 3 4) (sqN 1 (tq (j6 (xri c h u) 0 1 2 3 4 80) (cd (tq (j4 (xrg c h u) 0 1 2 4) (sqN 2 (sq2 (sq2 (kq (j0 (xrc c h u))) (tq (j3 (xre c h u) 0 2 14) (sqN 1 (bk 6 (lq (xi8 c h u) (λr=>j3 r 0 14 17) λs=>(kq (j3 (xrd c h u s) 0 14 17))))))) (bk 4 (lq (xi9 c h u) (λr=>j5 r 0 2 4 14 15) λw=>(kq (j5 (xrf c h u w) 0 2 4 14 15))))))) (kq (j5 (xrh c h u) 0 1 2 3 4))))))) (tq (j5 (xic c h u) 0 1 2 3 4) (sqN 1 (tq (j6 (xrq c h u) 0 1 2 3 4 28) (cd (tq (j5 (xro c h u) 0 1 2 3 4) (sqN 2 (sq2 (sq2 (kq (j0 (xrk c h u))) (tq (j3 (xrm c h u) 0 1 10) (sqN 1 (bk 2 (lq (xia c h u) (λr=>j3 r 0 10 13) λz=>(kq (j3 (xrl c h u z) 0 10 13))))))) (bk 0 (lq (xib c h u) (λr=>j5 r 0 1 4 10 11) λy=>(kq (j5 (xrn c h u y) 0 1 4 10 11))))))) (kq (j5 (xrp c h u) 0 1 2 3 4)))))))
noncomputable abbrev x1ly:=VX xc 5 r_3
theorem x13k:x1ly c h u (x14f xc) r_3 eNil=j1 (xid c h u) 0:=(kq (j1 (xid c h u) 0))
noncomputable abbrev x1lz:=VX x6x 94 r_3
theorem x13l:x1lz c h u (x14f x6x) r_3 eNil=j1 (xif c h u) 0:=(tq (j1 (xif c h u) 0) (sqN 3 (sq2 (tq (j3 (xie c h u) 0 3 4) (sqN 1 (sq2 (sq2 (kq (j1 (xrr c h u) 3)) (bk 0 (lq (x8l c h u) (λr=>j4 r 0 3 4 5) λrec0=>(tq (j4 (xrt c h u rec0) 0 3 4 5) (sqN 1 (sq2 (kq (j4 (x8k c h u rec0) 0 3 4 5)) (kq (j4 (xrs c h u rec0) 0 3 4 5)))))))) (kq (j4 (xru c h u) 0 3 4 5))))) (kq (j3 (xrv c h u) 0 3 4)))))
noncomputable abbrev x1m0:=VX x6y 19 r_4
theorem x13m:x1m0 c h u (x14f x6y) r_4 eNil=j2 (xih c h u) 0 1:=(tq (j2 (xih c h u) 0 1) (sqN 1 (sq2 (kq (j0 (xrw c h u))) (tq (j2 (xry c h u) 0 1) (sqN 1 (bk 0 (lq (xig c h u) (λr=>j4 r 0 1 7 8) λrec0=>(kq (j4 (xrx c h u rec0) 0 1 7 8)))))))))
noncomputable abbrev x1m1:=VX x6z 58 r_17
theorem x13n:x1m1 c h u (x14f x6z) r_17 eNil=j5 (xij c h u) 0 1 2 3 4:=(tq (j5 (xij c h u) 0 1 2 3 4) (sqN 2 (sq2 (kq (j4 (xrz c h u) 0 2 4 10)) (bk 0 (lq (xii c h u) (λr=>j5 r 0 2 4 10 11) λrec0=>(kq (j5 (xs0 c h u rec0) 0 2 4 10 11)))))))
noncomputable abbrev x1m2:=VX x27 38 r_17
theorem x13o:x1m2 c h u (x14f x27) r_17 eNil=j4 (xil c h u) 0 1 2 3:=(tq (j4 (xil c h u) 0 1 2 3) (sqN 1 (bk 0 (lq (xik c h u) (λr=>j5 r 0 1 2 3 10) λrec0=>(kq (j5 (xs1 c h u rec0) 0 1 2 3 10))))))
end Go.Ix
