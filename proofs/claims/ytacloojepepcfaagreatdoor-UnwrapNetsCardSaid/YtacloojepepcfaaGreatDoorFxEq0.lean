import Derived.Test.YtacloojepepcfaaGreatDoorFxText0
import Derived.Test.YtacloojepepcfaaGreatDoorFxText1
import Derived.Test.YtacloojepepcfaaGreatDoorFxEnt
import Derived.Test.YtacloojepepcfaaGreatDoorFxRules
import Derived.Test.YtacloojepepcfaaGreatDoorFxProj
import Derived.ProofKit
set_option linter.unusedVariables false
namespace Go.Ix
open Go.Proofs
variable{c:xou}{h:FHs}{u:Nat}
noncomputable abbrev x14p:=VX x2y 144 r_0
theorem xlx:x14p c h u (xp0 x2y) r_0 eNil=j2 (x5c c h u) 0 1:=(kq (j2 (x5c c h u) 0 1))
noncomputable abbrev x14q:=VX x1z 79 r_1
theorem xly:x14q c h u (xp0 x1z) r_1 eNil=j0 (x8a c h u):=(kq (j0 (x8a c h u)))
noncomputable abbrev x14r:=VX xr 62 r_2
theorem xlz:x14r c h u (xp0 xr) r_2 eNil=j1 (x5e c h u) 0:=(tq (j1 (x5e c h u) 0) (sqN 2 (sq2 (kq (j0 (x8c c h u))) (tq (j1 (x8d c h u) 1) (sqN 1 (bk 1 (lq (x2c c h u) (λr=>j4 r 1 17 18 19) λrec0=>(kq (j4 (x5d c h u rec0) 1 17 18 19)))))))))
noncomputable abbrev x14s:=VX xt 10 r_3
theorem xm0:x14s c h u (xp0 xt) r_3 eNil=j1 (x37 c h u) 0:=(kq (j1 (x37 c h u) 0))
noncomputable abbrev x14t:=VX x20 16 r_2
theorem xm1:x14t c h u (xp0 x20) r_2 eNil=j1 (x38 c h u) 0:=(kq (j1 (x38 c h u) 0))
noncomputable abbrev x14u:=VX x21 40 r_4
theorem xm2:x14u c h u (xp0 x21) r_4 eNil=j1 (x5h c h u) 0:=(tq (j1 (x5h c h u) 0) (sqN 2 (sq2 (kq (j1 (x8e c h u) 3)) (tq (j2 (x8j c h u) 1 3) (sqN 1 (bk 0 (lq (xq c h u) (λr=>j4 r 3 13 14 15) λrec0=>(tq (j4 (x5g c h u rec0) 3 13 14 15) (sqN 2 (sq2 (kq (j4 (x8g c h u rec0) 3 13 14 15)) (bk 1 (tq (j4 (x8h c h u rec0) 3 13 14 15) (sqN 2 (bk 2 (lq (x1u c h u rec0) (λr=>j6 r 3 13 14 15 27 28) λs=>(kq (j6 (x5f c h u rec0 s) 3 13 14 15 27 28)))))))))))))))))
noncomputable abbrev x14v:=VX x10 60 r_2
theorem xm3:x14v c h u (xp0 x10) r_2 eNil=j1 (x5j c h u) 0:=(tq (j1 (x5j c h u) 0) (sqN 3 (sq2 (kq (j0 (x8k c h u))) (tq (j1 (x8l c h u) 1) (sqN 1 (bk 0 (lq (x2e c h u) (λr=>j2 r 1 4) λrec0=>(kq (j2 (x5i c h u rec0) 1 4)))))))))
noncomputable abbrev x14w:=VX x22 43 r_4
theorem xm4:x14w c h u (xp0 x22) r_4 eNil=j1 (x5l c h u) 0:=(tq (j1 (x5l c h u) 0) (sqN 2 (sq2 (kq (j1 (x8m c h u) 3)) (tq (j2 (x8n c h u) 1 3) (sqN 1 (bk 0 (lq (x2f c h u) (λr=>j3 r 1 3 4) λrec0=>(kq (j3 (x5k c h u rec0) 1 3 4)))))))))
noncomputable abbrev x14x:=VX x1g 80 r_5
theorem xm5:x14x c h u (xp0 x1g) r_5 eNil=j1 (x5n c h u) 0:=(tq (j1 (x5n c h u) 0) (sqN 2 (sq2 (tq (j3 (x3a c h u) 2 3 4) (sqN 2 (sq2 (kq (j3 (x5m c h u) 2 3 8)) (tq (j4 (x8q c h u) 2 3 4 8) (sqN 1 (bk 2 (tq (j4 (x8p c h u) 2 3 8 50) (rg (.tmp 50) #[51] (λu=>(kq (j2 (x8o c h u) 8 9))) (λu=>(kq (j2 (x39 c h u) 8 51))))))))))) (tq (j4 (x8t c h u) 0 2 3 4) (sqN 1 (bk 0 (tq (j4 (x8s c h u) 2 3 4 13) (rg2 (.tmp 13) #[14] (λlid u=>(kq (j4 (x8r c h u lid) 2 3 4 5))) (λlid u=>(kq (j4 (x2h c h u lid) 2 3 4 14)))))))))))
noncomputable abbrev x14y:=VX x1h 82 r_6
theorem xm6:x14y c h u (xp0 x1h) r_6 eNil=j1 (x5s c h u) 0:=(tq (j1 (x5s c h u) 0) (sqN 3 (sq2 (tq (j2 (x5q c h u) 2 5) (sqN 2 (sq2 (kq (j2 (x5o c h u) 2 9)) (tq (j3 (x8u c h u) 2 5 9) (sqN 1 (bk 2 (lq (x2i c h u) (λr=>j4 r 2 5 9 10) λrec0=>(kq (j4 (x5p c h u rec0) 2 5 9 10))))))))) (tq (j3 (x8v c h u) 2 4 5) (sqN 1 (bk 0 (lq (x2j c h u) (λr=>j4 r 2 4 5 6) λs=>(kq (j4 (x5r c h u s) 2 4 5 6)))))))))
noncomputable abbrev x14z:=VX x11 38 r_0
theorem xm7:x14z c h u (xp0 x11) r_0 eNil=j2 (x2l c h u) 0 1:=(tq (j2 (x2l c h u) 0 1) (sqN 2 (sq2 (kq (j0 (x8w c h u))) (tq (j2 (x8x c h u) 2 3) (sqN 1 (bk 0 (lq (x2k c h u) (λr=>j3 r 2 3 5) λrec0=>(kq (j3 (x5t c h u rec0) 2 3 5)))))))))
noncomputable abbrev x150:=VX x12 26 r_0
theorem xm8:x150 c h u (xp0 x12) r_0 eNil=j2 (x5v c h u) 0 1:=(tq (j2 (x5v c h u) 0 1) (sqN 2 (sq2 (kq (j0 (x8y c h u))) (tq (j2 (x8z c h u) 0 1) (sqN 1 (bk 0 (lq (x2m c h u) (λr=>j3 r 0 1 5) λrec0=>(kq (j3 (x5u c h u rec0) 0 1 5)))))))))
noncomputable abbrev x151:=VX x1i 82 r_4
theorem xm9:x151 c h u (xp0 x1i) r_4 eNil=j1 (x5z c h u) 0:=(tq (j1 (x5z c h u) 0) (sqN 2 (sq2 (sq2 (kq (j1 (x3b c h u) 3)) (tq (j2 (x5x c h u) 1 3) (sqN 1 (bk 2 (lq (xy c h u) (λr=>j3 r 1 3 5) λrec0=>(tq (j3 (x5w c h u rec0) 1 3 5) (sqN 1 (sq2 (kq (j3 (x90 c h u rec0) 1 3 5)) (bk 3 (tq (j3 (x92 c h u rec0) 1 3 5) (sqN 1 (sq2 (kq (j4 (x3c c h u rec0) 1 3 5 6)) (tq (j4 (x91 c h u rec0) 1 3 5 6) (sqN 1 (bk 4 (lq (x19 c h u rec0) (λr=>j5 r 1 3 5 6 7) λs=>(tq (j5 (x2o c h u rec0 s) 1 3 5 6 7) (sqN 1 (sq2 (kq (j5 (x2n c h u rec0 s) 1 3 5 6 7)) (kq (j5 (x3d c h u rec0 s) 1 3 5 6 7))))))))))))))))))))) (tq (j2 (x93 c h u) 1 3) (sqN 1 (bk 0 (lq (x2p c h u) (λr=>j3 r 1 3 4) λw=>(kq (j3 (x5y c h u w) 1 3 4)))))))))
noncomputable abbrev x152:=VX x44 33 r_7
theorem xma:x152 c h u (xp0 x44) r_7 eNil=j1 (x94 c h u) 0:=(kq (j1 (x94 c h u) 0))
noncomputable abbrev x153:=VX x30 9 r_3
theorem xmb:x153 c h u (xp0 x30) r_3 eNil=j1 (x95 c h u) 0:=(kq (j1 (x95 c h u) 0))
noncomputable abbrev x154:=VX x45 66 r_8
theorem xmc:x154 c h u (xp0 x45) r_8 eNil=j3 (x96 c h u) 0 1 2:=(kq (j3 (x96 c h u) 0 1 2))
noncomputable abbrev x155:=VX x46 72 r_9
theorem xmd:x155 c h u (xp0 x46) r_9 eNil=j1 (x99 c h u) 0:=(tq (j1 (x99 c h u) 0) (sqN 5 (sq2 (kq (j4 (xdv c h u) 2 7 8 9)) (tq (j4 (xdy c h u) 2 7 8 9) (sqN 1 (bk 0 (lq (x98 c h u) (λr=>j7 r 2 7 8 9 37 38 39) λrec0=>(tq (j7 (xdx c h u rec0) 2 7 8 9 37 38 39) (sqN 2 (sq2 (kq (j7 (x97 c h u rec0) 2 7 8 9 37 38 39)) (kq (j7 (xdw c h u rec0) 2 7 8 9 37 38 39))))))))))))
noncomputable abbrev x156:=VX x31 20 r_10
theorem xme:x156 c h u (xp0 x31) r_10 eNil=j1 (x9b c h u) 0:=(tq (j1 (x9b c h u) 0) (sqN 2 (sq2 (kq (j2 (x9a c h u) 2 3)) (kq (j3 (xdz c h u) 0 2 3)))))
noncomputable abbrev x157:=VX x47 20 r_2
theorem xmf:x157 c h u (xp0 x47) r_2 eNil=j1 (x9d c h u) 0:=(kq (j1 (x9d c h u) 0))
noncomputable abbrev x158:=VX xi 15 r_11
theorem xlk:x158 c h u (xp0 xi) r_11 eNil=j3 (x60 c h u) 0 1 2:=(kq (j3 (x60 c h u) 0 1 2))
noncomputable abbrev x159:=VX x1j 5 r_4
theorem xmg:x159 c h u (xp0 x1j) r_4 eNil=j1 (x61 c h u) 0:=(kq (j1 (x61 c h u) 0))
noncomputable abbrev x15a:=VX x13 14 r_12
theorem xmh:x15a c h u (xp0 x13) r_12 eNil=j1 (x62 c h u) 0:=(kq (j1 (x62 c h u) 0))
noncomputable abbrev x15b:=VX x14 53 r_4
theorem xmi:x15b c h u (xp0 x14) r_4 eNil=j1 (x3g c h u) 0:=(tq (j1 (x3g c h u) 0) (sqN 2 (sq2 (kq (j2 (x63 c h u) 1 3)) (tq (j2 (x9e c h u) 1 3) (sqN 1 (bk 0 (lq (x1a c h u) (λr=>j5 r 1 3 12 13 14) λrec0=>(tq (j5 (x3f c h u rec0) 1 3 12 13 14) (sqN 2 (sq2 (kq (j5 (x3e c h u rec0) 1 3 12 13 14)) (kq (j5 (x64 c h u rec0) 1 3 12 13 14))))))))))))
noncomputable abbrev x15c:=VX xl 15 r_11
theorem xmj:x15c c h u (xp0 xl) r_11 eNil=j3 (x65 c h u) 0 1 2:=(kq (j3 (x65 c h u) 0 1 2))
noncomputable abbrev x15d:=VX xm 27 r_4
theorem xmk:x15d c h u (xp0 xm) r_4 eNil=j1 (x68 c h u) 0:=(tq (j1 (x68 c h u) 0) (sqN 3 (sq2 (sq2 (kq (j2 (x66 c h u) 3 4)) (bk 0 (lq (x1b c h u) (λr=>j3 r 0 3 4) λrec0=>(kq (j3 (x3h c h u rec0) 0 3 4))))) (kq (j3 (x9g c h u) 0 3 4)))))
noncomputable abbrev x15e:=VX x1k 8 r_0
theorem xml:x15e c h u (xp0 x1k) r_0 eNil=j2 (x69 c h u) 0 1:=(kq (j2 (x69 c h u) 0 1))
noncomputable abbrev x15f:=VX x23 8 r_0
theorem xmm:x15f c h u (xp0 x23) r_0 eNil=j2 (x6a c h u) 0 1:=(kq (j2 (x6a c h u) 0 1))
noncomputable abbrev x15g:=VX x1l 9 r_0
theorem xmn:x15g c h u (xp0 x1l) r_0 eNil=j2 (x6b c h u) 0 1:=(tq (j2 (x6b c h u) 0 1) (sqN 1 (sq2 (kq (j2 (x9h c h u) 2 3)) (kq (j2 (x9i c h u) 2 3)))))
noncomputable abbrev x15h:=VX x15 34 r_0
theorem xmo:x15h c h u (xp0 x15) r_0 eNil=j2 (x6d c h u) 0 1:=(tq (j2 (x6d c h u) 0 1) (sqN 3 (sq2 (kq (j3 (x9j c h u) 0 5 6)) (tq (j4 (x9l c h u) 0 1 5 6) (sqN 1 (bk 0 (lq (x2q c h u) (λr=>j5 r 0 1 5 6 7) λrec0=>(tq (j5 (x6c c h u rec0) 0 1 5 6 7) (sqN 1 (sq2 (kq (j5 (x3i c h u rec0) 0 1 5 6 7)) (kq (j5 (x9k c h u rec0) 0 1 5 6 7))))))))))))
noncomputable abbrev x15i:=VX x16 70 r_13
theorem xmp:x15i c h u (xp0 x16) r_13 eNil=j2 (x6h c h u) 0 1:=(tq (j2 (x6h c h u) 0 1) (sqN 2 (sq2 (tq (j3 (x3j c h u) 0 1 6) (sqN 2 (sq2 (sq2 (kq (j1 (x6e c h u) 7)) (kq (j2 (x9m c h u) 6 7))) (tq (j3 (x6g c h u) 0 6 7) (sqN 1 (bk 0 (lq (x2r c h u) (λr=>j4 r 0 6 7 8) λrec0=>(kq (j4 (x6f c h u rec0) 0 6 7 8))))))))) (kq (j3 (x9n c h u) 0 1 6)))))
noncomputable abbrev x15j:=VX x24 11 r_4
theorem xmq:x15j c h u (xp0 x24) r_4 eNil=j1 (x6i c h u) 0:=(kq (j1 (x6i c h u) 0))
noncomputable abbrev x15k:=VX x1m 38 r_4
theorem xmr:x15k c h u (xp0 x1m) r_4 eNil=j1 (x6k c h u) 0:=(tq (j1 (x6k c h u) 0) (sqN 3 (sq2 (kq (j1 (x9o c h u) 3)) (tq (j3 (x9p c h u) 0 3 4) (sqN 1 (bk 0 (lq (x1v c h u) (λr=>j4 r 0 3 4 5) λrec0=>(tq (j4 (x3l c h u rec0) 0 3 4 5) (sqN 1 (sq2 (kq (j4 (x3k c h u rec0) 0 3 4 5)) (kq (j4 (x6j c h u rec0) 0 3 4 5))))))))))))
noncomputable abbrev x15l:=VX x1n 64 r_4
theorem xms:x15l c h u (xp0 x1n) r_4 eNil=j1 (x9u c h u) 0:=(tq (j1 (x9u c h u) 0) (sqN 2 (sq2 (tq (j2 (xe6 c h u) 1 3) (sqN 2 (sq2 (kq (j1 (xe0 c h u) 3)) (tq (j3 (xe5 c h u) 3 5 6) (sqN 1 (bk 2 (lq (x9s c h u) (λr=>j5 r 3 6 26 27 28) λrec0=>(tq (j5 (xe4 c h u rec0) 3 6 26 27 28) (sqN 2 (sq2 (kq (j5 (xe1 c h u rec0) 3 6 26 27 28)) (bk 3 (tq (j5 (xe3 c h u rec0) 3 6 26 27 28) (sqN 1 (sq2 (kq (j7 (x9q c h u rec0) 3 6 7 8 26 27 28)) (kq (j7 (xe2 c h u rec0) 3 6 7 8 26 27 28)))))))))))))))) (bk 0 (lq (x9t c h u) (λr=>j2 r 1 3) λs=>(kq (j2 (xe7 c h u s) 1 3)))))))
noncomputable abbrev x15m:=VX x32 27 r_0
theorem xmt:x15m c h u (xp0 x32) r_0 eNil=j2 (x9w c h u) 0 1:=(tq (j2 (x9w c h u) 0 1) (sqN 2 (sq2 (kq (j1 (xe8 c h u) 5)) (tq (j3 (xea c h u) 1 2 5) (sqN 1 (bk 0 (lq (x9v c h u) (λr=>j5 r 1 5 10 11 12) λrec0=>(kq (j5 (xe9 c h u rec0) 1 5 10 11 12)))))))))
noncomputable abbrev x15n:=VX x25 47 r_0
theorem xmu:x15n c h u (xp0 x25) r_0 eNil=j2 (x9z c h u) 0 1:=(tq (j2 (x9z c h u) 0 1) (sqN 2 (sq2 (kq (j1 (xeb c h u) 5)) (tq (j3 (xee c h u) 0 1 5) (sqN 1 (bk 0 (lq (x9y c h u) (λr=>j5 r 0 1 5 12 13) λrec0=>(tq (j5 (xed c h u rec0) 0 1 5 12 13) (sqN 2 (sq2 (kq (j5 (x9x c h u rec0) 0 1 5 12 13)) (kq (j5 (xec c h u rec0) 0 1 5 12 13))))))))))))
noncomputable abbrev x15o:=VX x33 67 r_4
theorem xmv:x15o c h u (xp0 x33) r_4 eNil=j1 (xa1 c h u) 0:=(tq (j1 (xa1 c h u) 0) (sqN 6 (sq2 (kq (j0 (xef c h u))) (tq (j1 (xeh c h u) 1) (sqN 1 (bk 0 (lq (xa0 c h u) (λr=>j3 r 57 58 59) λrec0=>(kq (j3 (xeg c h u rec0) 57 58 59)))))))))
noncomputable abbrev x15p:=VX x34 71 r_3
theorem xmw:x15p c h u (xp0 x34) r_3 eNil=j1 (xa2 c h u) 0:=(tq (j1 (xa2 c h u) 0) (sqN 4 (sq2 (kq (j2 (xei c h u) 2 4)) (tq (j4 (xem c h u) 2 3 4 5) (sqN 1 (bk 0 (tq (j5 (xel c h u) 2 3 4 5 26) (rg (.tmp 26) #[27,28] (λu=>(kq (j5 (xej c h u) 3 4 5 6 7))) (λu=>(kq (j5 (xek c h u) 3 4 5 27 28)))))))))))
noncomputable abbrev x15q:=VX x48 8 r_4
theorem xmx:x15q c h u (xp0 x48) r_4 eNil=j1 (xa3 c h u) 0:=(kq (j1 (xa3 c h u) 0))
noncomputable abbrev x15r:=VX x1f 5 r_4
theorem xls:x15r c h u (xp0 x1f) r_4 eNil=j1 (xa4 c h u) 0:=(kq (j1 (xa4 c h u) 0))
noncomputable abbrev x15s:=VX x49 26 r_4
theorem xmy:x15s c h u (xp0 x49) r_4 eNil=j1 (xa6 c h u) 0:=(tq (j1 (xa6 c h u) 0) (sqN 3 (sq2 (kq (j2 (xen c h u) 1 4)) (tq (j3 (xep c h u) 1 3 4) (sqN 1 (bk 0 (lq (xa5 c h u) (λr=>j5 r 1 3 4 10 11) λrec0=>(kq (j5 (xeo c h u rec0) 1 3 4 10 11)))))))))
noncomputable abbrev x15t:=VX x4a 29 r_0
theorem xmz:x15t c h u (xp0 x4a) r_0 eNil=j2 (xa9 c h u) 0 1:=(tq (j2 (xa9 c h u) 0 1) (sqN 2 (sq2 (kq (j1 (xeq c h u) 5)) (tq (j3 (xet c h u) 1 2 5) (sqN 1 (bk 0 (lq (xa8 c h u) (λr=>j5 r 1 5 10 11 12) λrec0=>(tq (j5 (xes c h u rec0) 1 5 10 11 12) (sqN 2 (sq2 (kq (j5 (xa7 c h u rec0) 1 5 10 11 12)) (kq (j5 (xer c h u rec0) 1 5 10 11 12))))))))))))
noncomputable abbrev x15u:=VX x4b 15 r_14
theorem xn0:x15u c h u (xp0 x4b) r_14 eNil=j2 (xaa c h u) 0 1:=(kq (j2 (xaa c h u) 0 1))
noncomputable abbrev x15v:=VX x1o 45 r_0
theorem xn1:x15v c h u (xp0 x1o) r_0 eNil=j2 (x6n c h u) 0 1:=(tq (j2 (x6n c h u) 0 1) (sqN 3 (sq2 (kq (j1 (xab c h u) 5)) (tq (j3 (xac c h u) 1 5 6) (sqN 1 (bk 0 (lq (x1c c h u) (λr=>j5 r 1 5 6 14 15) λrec0=>(tq (j5 (x3q c h u rec0) 1 5 6 14 15) (sqN 2 (sq2 (kq (j5 (x3o c h u rec0) 1 5 6 14 15)) (bk 1 (tq (j5 (x6m c h u rec0) 1 5 6 14 15) (sqN 4 (sq2 (kq (j5 (x6l c h u rec0) 1 5 6 14 15)) (bk 2 (lq (x1w c h u rec0) (λr=>j6 r 1 5 6 8 14 15) λs=>(kq (j6 (x3p c h u rec0 s) 1 5 6 8 14 15))))))))))))))))))
noncomputable abbrev x15w:=VX xz 20 r_15
theorem xlo:x15w c h u (xp0 xz) r_15 eNil=j3 (x3r c h u) 0 1 2:=(tq (j3 (x3r c h u) 0 1 2) (sqN 1 (bk 0 (lq (x2s c h u) (λr=>j4 r 1 10 11 12) λrec0=>(kq (j4 (x6o c h u rec0) 1 10 11 12))))))
noncomputable abbrev x15x:=VX x7u 5 r_4
theorem xn2:x15x c h u (xp0 x7u) r_4 eNil=j1 (xad c h u) 0:=(kq (j1 (xad c h u) 0))
noncomputable abbrev x15y:=VX x7v 25 r_15
theorem xn3:x15y c h u (xp0 x7v) r_15 eNil=j2 (xae c h u) 0 1:=(tq (j2 (xae c h u) 0 1) (sqN 1 (sq2 (kq (j2 (xeu c h u) 0 1)) (kq (j2 (xev c h u) 0 1)))))
noncomputable abbrev x15z:=VX x7w 19 r_13
theorem xn4:x15z c h u (xp0 x7w) r_13 eNil=j2 (xaf c h u) 0 1:=(kq (j2 (xaf c h u) 0 1))
noncomputable abbrev x160:=VX x7x 14 r_4
theorem xn5:x160 c h u (xp0 x7x) r_4 eNil=j1 (xag c h u) 0:=(kq (j1 (xag c h u) 0))
noncomputable abbrev x161:=VX x26 7 r_4
theorem xn6:x161 c h u (xp0 x26) r_4 eNil=j1 (x6p c h u) 0:=(kq (j1 (x6p c h u) 0))
noncomputable abbrev x162:=VX x1p 8 r_11
theorem xn7:x162 c h u (xp0 x1p) r_11 eNil=j3 (xah c h u) 0 1 2:=(kq (j3 (xah c h u) 0 1 2))
noncomputable abbrev x163:=VX x7z 77 r_2
theorem xn8:x163 c h u (xp0 x7z) r_2 eNil=j1 (xal c h u) 0:=(tq (j1 (xal c h u) 0) (sqN 2 (sq2 (kq (j1 (xex c h u) 0)) (tq (j2 (xf5 c h u) 0 4) (sqN 1 (tq (j2 (xf4 c h u) 0 30) (cd (tq (j1 (xf2 c h u) 0) (sqN 1 (sq2 (tq (j2 (xak c h u) 0 5) (sqN 1 (sq2 (sq2 (kq (j1 (xai c h u) 6)) (kq (j2 (xey c h u) 5 6))) (tq (j3 (xf0 c h u) 0 5 6) (sqN 1 (bk 0 (lq (xaj c h u) (λr=>j5 r 5 6 47 48 49) λrec0=>(kq (j5 (xez c h u rec0) 5 6 47 48 49))))))))) (kq (j2 (xf1 c h u) 0 5))))) (kq (j1 (xf3 c h u) 0)))))))))
noncomputable abbrev x164:=VX x80 43 r_16
theorem xn9:x164 c h u (xp0 x80) r_16 eNil=j5 (xam c h u) 0 1 2 3 4:=(kq (j5 (xam c h u) 0 1 2 3 4))
noncomputable abbrev x165:=VX x27 13 r_0
theorem xna:x165 c h u (xp0 x27) r_0 eNil=j2 (x6r c h u) 0 1:=(kq (j2 (x6r c h u) 0 1))
noncomputable abbrev x166:=VX xo 31 r_15
theorem xnb:x166 c h u (xp0 xo) r_15 eNil=j3 (x6t c h u) 0 1 2:=(tq (j3 (x6t c h u) 0 1 2) (sqN 1 (bk 0 (lq (x2t c h u) (λr=>j4 r 0 1 2 4) λrec0=>(kq (j4 (x6s c h u rec0) 0 1 2 4))))))
noncomputable abbrev x167:=VX x4c 132 r_4
theorem xnc:x167 c h u (xp0 x4c) r_4 eNil=j1 (xao c h u) 0:=(tq (j1 (xao c h u) 0) (sqN 2 (sq2 (kq (j1 (xf6 c h u) 3)) (tq (j2 (xfb c h u) 1 3) (sqN 1 (bk 0 (lq (xan c h u) (λr=>j4 r 3 28 29 30) λrec0=>(tq (j4 (xfa c h u rec0) 3 28 29 30) (sqN 2 (sq2 (kq (j4 (xf7 c h u rec0) 3 28 29 30)) (bk 1 (tq (j4 (xf9 c h u rec0) 3 28 29 30) (sqN 1 (sq2 (kq (j6 (x6u c h u rec0) 3 4 5 28 29 30)) (kq (j6 (xf8 c h u rec0) 3 4 5 28 29 30))))))))))))))))
noncomputable abbrev x168:=VX x2x 19 r_0
theorem xlv:x168 c h u (xp0 x2x) r_0 eNil=j2 (xaq c h u) 0 1:=(tq (j2 (xaq c h u) 0 1) (sqN 1 (sq2 (kq (j0 (xfc c h u))) (tq (j2 (xfe c h u) 0 1) (sqN 1 (bk 0 (lq (xap c h u) (λr=>j4 r 0 1 7 8) λrec0=>(kq (j4 (xfd c h u rec0) 0 1 7 8)))))))))
noncomputable abbrev x169:=VX x41 5 r_4
theorem xlw:x169 c h u (xp0 x41) r_4 eNil=j1 (xar c h u) 0:=(kq (j1 (xar c h u) 0))
noncomputable abbrev x16a:=VX x4d 160 r_15
theorem xnd:x16a c h u (xp0 x4d) r_15 eNil=j2 (xax c h u) 0 1:=(tq (j2 (xax c h u) 0 1) (sqN 2 (sq2 (tq (j4 (xfl c h u) 0 1 4 5) (sqN 1 (sq2 (sq2 (tq (j5 (xfg c h u) 0 1 4 5 8) (sqN 3 (bk 6 (lq (xas c h u) (λr=>j6 r 0 4 5 136 137 138) λrec0=>(kq (j6 (xff c h u rec0) 0 4 5 136 137 138)))))) (tq (j5 (xfi c h u) 0 1 4 5 8) (sqN 1 (bk 4 (lq (xat c h u) (λr=>j6 r 0 1 4 5 8 10) λs=>(kq (j6 (xfh c h u s) 0 1 4 5 8 10))))))) (tq (j5 (xfk c h u) 0 1 4 5 8) (sqN 1 (bk 2 (lq (xau c h u) (λr=>j6 r 0 1 4 5 8 9) λw=>(kq (j6 (xfj c h u w) 0 1 4 5 8 9))))))))) (tq (j4 (xfo c h u) 0 1 4 5) (sqN 1 (bk 0 (lq (xaw c h u) (λr=>j7 r 0 1 4 5 17 18 19) λz=>(tq (j7 (xfn c h u z) 0 1 4 5 17 18 19) (sqN 2 (sq2 (kq (j7 (xav c h u z) 0 1 4 5 17 18 19)) (kq (j7 (xfm c h u z) 0 1 4 5 17 18 19))))))))))))
noncomputable abbrev x16b:=VX x40 7 r_4
theorem xlu:x16b c h u (xp0 x40) r_4 eNil=j1 (xay c h u) 0:=(kq (j1 (xay c h u) 0))
noncomputable abbrev x16c:=VX x3z 19 r_0
theorem xlt:x16c c h u (xp0 x3z) r_0 eNil=j2 (xaz c h u) 0 1:=(kq (j2 (xaz c h u) 0 1))
noncomputable abbrev x16d:=VX x2v 139 r_17
theorem xlm:x16d c h u (xp0 x2v) r_17 eNil=j2 (xb3 c h u) 0 1:=(tq (j2 (xb3 c h u) 0 1) (sqN 4 (bk 0 (lq (xb2 c h u) (λr=>j4 r 2 4 5 6) λrec0=>(bk 1 (tq (j4 (xfw c h u rec0) 2 4 5 6) (sqN 1 (sq2 (tq (j5 (xfs c h u rec0) 2 4 5 6 7) (sqN 3 (bk 4 (tq (j6 (xfr c h u rec0) 2 4 5 6 7 86) (rg (.tmp 86) #[87] (λu=>(kq (j4 (xfp c h u) 2 5 7 10))) (λu=>(kq (j4 (xfq c h u) 2 5 7 87)))))))) (tq (j5 (xfv c h u rec0) 2 4 5 6 7) (sqN 1 (bk 2 (lq (xb1 c h u rec0) (λr=>j8 r 2 4 5 6 7 47 48 49) λs=>(tq (j8 (xfu c h u rec0 s) 2 4 5 6 7 47 48 49) (sqN 2 (sq2 (kq (j8 (xb0 c h u rec0 s) 2 4 5 6 7 47 48 49)) (kq (j8 (xft c h u rec0 s) 2 4 5 6 7 47 48 49)))))))))))))))))
noncomputable abbrev x16e:=VX x4e 22 r_11
theorem xne:x16e c h u (xp0 x4e) r_11 eNil=j3 (xb4 c h u) 0 1 2:=(kq (j3 (xb4 c h u) 0 1 2))
noncomputable abbrev x16f:=VX x4f 9 r_0
theorem xnf:x16f c h u (xp0 x4f) r_0 eNil=j2 (xb5 c h u) 0 1:=(kq (j2 (xb5 c h u) 0 1))
noncomputable abbrev x16g:=VX x4g 7 r_4
theorem xng:x16g c h u (xp0 x4g) r_4 eNil=j1 (xb6 c h u) 0:=(kq (j1 (xb6 c h u) 0))
noncomputable abbrev x16h:=VX x35 36 r_4
theorem xnh:x16h c h u (xp0 x35) r_4 eNil=j1 (xba c h u) 0:=(tq (j1 (xba c h u) 0) (sqN 2 (sq2 (tq (j2 (xg0 c h u) 0 3) (sqN 1 (sq2 (kq (j1 (xfx c h u) 6)) (tq (j2 (xfz c h u) 0 6) (sqN 1 (bk 2 (lq (xb7 c h u) (λr=>j4 r 6 25 26 27) λrec0=>(kq (j4 (xfy c h u rec0) 6 25 26 27))))))))) (tq (j2 (xg4 c h u) 0 3) (sqN 1 (bk 0 (lq (xb9 c h u) (λr=>j5 r 0 3 9 10 11) λs=>(tq (j5 (xg3 c h u s) 0 3 9 10 11) (sqN 2 (sq2 (kq (j5 (xg1 c h u s) 0 3 9 10 11)) (kq (j5 (xg2 c h u s) 0 3 9 10 11))))))))))))
noncomputable abbrev x16i:=VX x4h 6 r_0
theorem xni:x16i c h u (xp0 x4h) r_0 eNil=j2 (xbb c h u) 0 1:=(kq (j2 (xbb c h u) 0 1))
noncomputable abbrev x16j:=VX x2w 12 r_4
theorem xlr:x16j c h u (xp0 x2w) r_4 eNil=j1 (xbd c h u) 0:=(tq (j1 (xbd c h u) 0) (sqN 2 (sq2 (kq (j1 (xbc c h u) 0)) (kq (j1 (xg5 c h u) 0)))))
noncomputable abbrev x16k:=VX x3y 53 r_15
theorem xlq:x16k c h u (xp0 x3y) r_15 eNil=j4 (xbg c h u) 0 1 2 3:=(tq (j4 (xbg c h u) 0 1 2 3) (sqN 1 (bk 0 (lq (xbf c h u) (λr=>j5 r 0 1 3 9 10) λrec0=>(tq (j5 (xg7 c h u rec0) 0 1 3 9 10) (sqN 2 (sq2 (kq (j5 (xbe c h u rec0) 0 1 3 9 10)) (kq (j5 (xg6 c h u rec0) 0 1 3 9 10)))))))))
noncomputable abbrev x16l:=VX xu 48 r_0
theorem xnj:x16l c h u (xp0 xu) r_0 eNil=j2 (x6x c h u) 0 1:=(tq (j2 (x6x c h u) 0 1) (sqN 1 (sq2 (tq (j2 (xbj c h u) 0 1) (sqN 1 (sq2 (tq (j2 (xbh c h u) 0 6) (sqN 2 (sq2 (kq (j1 (x6v c h u) 7)) (bk 0 (lq (x1x c h u) (λr=>j2 r 7 8) λrec0=>(kq (j2 (x6w c h u rec0) 7 8))))))) (kq (j3 (xbi c h u) 0 5 6))))) (kq (j2 (xbk c h u) 0 1)))))
noncomputable abbrev x16m:=VX xk 18 r_15
theorem xll:x16m c h u (xp0 xk) r_15 eNil=j4 (x2u c h u) 0 1 2 3:=(kq (j4 (x2u c h u) 0 1 2 3))
noncomputable abbrev x16n:=VX x4i 54 r_0
theorem xnk:x16n c h u (xp0 x4i) r_0 eNil=j2 (xbm c h u) 0 1:=(tq (j2 (xbm c h u) 0 1) (sqN 1 (sq2 (kq (j2 (xg8 c h u) 0 1)) (tq (j2 (xgd c h u) 0 1) (sqN 1 (tq (j3 (xgc c h u) 0 1 11) (cd (tq (j1 (xga c h u) 0) (sqN 3 (sq2 (kq (j3 (xbl c h u) 0 5 6)) (kq (j3 (xg9 c h u) 0 5 6))))) (kq (j2 (xgb c h u) 0 1)))))))))
noncomputable abbrev x16o:=VX x4j 30 r_15
theorem xnl:x16o c h u (xp0 x4j) r_15 eNil=j2 (xbn c h u) 0 1:=(kq (j2 (xbn c h u) 0 1))
noncomputable abbrev x16p:=VX xv 52 r_15
theorem xnm:x16p c h u (xp0 xv) r_15 eNil=j4 (x6y c h u) 0 1 2 3:=(sq2 (sq2 (kq (j2 (xbo c h u) 0 2)) (bk 2 (lq (x3u c h u) (λr=>j4 r 0 1 2 3) λrec0=>(kq (j4 (xbp c h u rec0) 0 1 2 3))))) (tq (j4 (x6y c h u) 0 1 2 3) (sqN 1 (tq (j5 (xbs c h u) 0 1 2 3 11) (cd (sq2 (kq (j0 (xge c h u))) (bk 0 (lq (xbq c h u) (λr=>j2 r 0 2) λs=>(kq (j2 (xgf c h u s) 0 2))))) (kq (j4 (xbr c h u) 0 1 2 3)))))))
noncomputable abbrev x16q:=VX x4k 19 r_2
theorem xnn:x16q c h u (xp0 x4k) r_2 eNil=j1 (xbt c h u) 0:=(kq (j1 (xbt c h u) 0))
noncomputable abbrev x16r:=VX x28 8 r_0
theorem xno:x16r c h u (xp0 x28) r_0 eNil=j2 (x6z c h u) 0 1:=(kq (j2 (x6z c h u) 0 1))
noncomputable abbrev x16s:=VX x4l 73 r_18
theorem xnp:x16s c h u (xp0 x4l) r_18 eNil=j3 (xbw c h u) 0 1 2:=(tq (j3 (xbw c h u) 0 1 2) (sqN 3 (sq2 (tq (j4 (x70 c h u) 0 1 2 8) (sqN 3 (sq2 (tq (j3 (xbv c h u) 2 8 9) (sqN 4 (sq2 (kq (j1 (xbu c h u) 11)) (kq (j2 (xgg c h u) 8 11))))) (kq (j3 (xgh c h u) 2 8 9))))) (kq (j4 (xgi c h u) 0 1 2 8)))))
noncomputable abbrev x16t:=VX x4m 11 r_0
theorem xnq:x16t c h u (xp0 x4m) r_0 eNil=j2 (xbx c h u) 0 1:=(kq (j2 (xbx c h u) 0 1))
noncomputable abbrev x16u:=VX x4n 11 r_0
theorem xnr:x16u c h u (xp0 x4n) r_0 eNil=j2 (xby c h u) 0 1:=(kq (j2 (xby c h u) 0 1))
noncomputable abbrev x16v:=VX x4o 16 r_11
theorem xns:x16v c h u (xp0 x4o) r_11 eNil=j3 (xbz c h u) 0 1 2:=(kq (j3 (xbz c h u) 0 1 2))
noncomputable abbrev x16w:=VX x4p 16 r_11
theorem xnt:x16w c h u (xp0 x4p) r_11 eNil=j3 (xc0 c h u) 0 1 2:=(kq (j3 (xc0 c h u) 0 1 2))
noncomputable abbrev x16x:=VX x29 18 r_0
theorem xnu:x16x c h u (xp0 x29) r_0 eNil=j2 (x72 c h u) 0 1:=(kq (j2 (x72 c h u) 0 1))
noncomputable abbrev x16y:=VX x3w 6 r_0
theorem xln:x16y c h u (xp0 x3w) r_0 eNil=j2 (xc1 c h u) 0 1:=(kq (j2 (xc1 c h u) 0 1))
noncomputable abbrev x16z:=VX x4q 9 r_0
theorem xnv:x16z c h u (xp0 x4q) r_0 eNil=j2 (xc2 c h u) 0 1:=(kq (j2 (xc2 c h u) 0 1))
noncomputable abbrev x170:=VX x4r 13 r_14
theorem xnw:x170 c h u (xp0 x4r) r_14 eNil=j2 (xc3 c h u) 0 1:=(kq (j2 (xc3 c h u) 0 1))
noncomputable abbrev x171:=VX x4s 27 r_0
theorem xnx:x171 c h u (xp0 x4s) r_0 eNil=j2 (xc5 c h u) 0 1:=(tq (j2 (xc5 c h u) 0 1) (sqN 1 (sq2 (sq2 (kq (j1 (xc4 c h u) 0)) (kq (j2 (xgj c h u) 0 1))) (kq (j2 (xgk c h u) 0 1)))))
noncomputable abbrev x172:=VX x4t 55 r_15
theorem xny:x172 c h u (xp0 x4t) r_15 eNil=j3 (xc9 c h u) 0 1 2:=(tq (j3 (xc9 c h u) 0 1 2) (sqN 2 (bk 0 (lq (xc8 c h u) (λr=>j6 r 0 1 2 4 9 10) λrec0=>(tq (j6 (xgq c h u rec0) 0 1 2 4 9 10) (sqN 2 (sq2 (kq (j6 (xgl c h u rec0) 0 1 2 4 9 10)) (bk 1 (tq (j6 (xgo c h u rec0) 0 1 2 4 9 10) (sqN 2 (bk 2 (lq (xc7 c h u rec0) (λr=>j10 r 0 1 2 4 5 6 9 10 16 17) λs=>(tq (j10 (xgn c h u rec0 s) 0 1 2 4 5 6 9 10 16 17) (sqN 2 (sq2 (kq (j10 (xc6 c h u rec0 s) 0 1 2 4 5 6 9 10 16 17)) (kq (j10 (xgm c h u rec0 s) 0 1 2 4 5 6 9 10 16 17)))))))))))))))))
noncomputable abbrev x173:=VX x2a 30 r_13
theorem xnz:x173 c h u (xp0 x2a) r_13 eNil=j2 (xca c h u) 0 1:=(kq (j2 (xca c h u) 0 1))
noncomputable abbrev x174:=VX x4u 15 r_4
theorem xo0:x174 c h u (xp0 x4u) r_4 eNil=j1 (xcb c h u) 0:=(kq (j1 (xcb c h u) 0))
noncomputable abbrev x175:=VX x4v 15 r_4
theorem xo1:x175 c h u (xp0 x4v) r_4 eNil=j1 (xcc c h u) 0:=(kq (j1 (xcc c h u) 0))
noncomputable abbrev x176:=VX x4w 167 r_15
theorem xo2:x176 c h u (xp0 x4w) r_15 eNil=j2 (xcg c h u) 0 1:=(tq (j2 (xcg c h u) 0 1) (sqN 1 (sq2 (tq (j3 (xgs c h u) 0 1 4) (sqN 1 (sq2 (sq2 (kq (j3 (xcd c h u) 0 4 12)) (kq (j3 (xce c h u) 0 4 12))) (kq (j3 (xgr c h u) 0 4 12))))) (bk 0 (lq (xcf c h u) (λr=>j3 r 0 1 4) λrec0=>(kq (j3 (xgt c h u rec0) 0 1 4)))))))
noncomputable abbrev x177:=VX x4x 102 r_19
theorem xo3:x177 c h u (xp0 x4x) r_19 eNil=j5 (xcm c h u) 0 1 2 3 4:=(tq (j5 (xcm c h u) 0 1 2 3 4) (sqN 1 (sq2 (tq (j7 (xh2 c h u) 0 1 2 3 4 10 11) (sqN 2 (sq2 (sq2 (sq2 (kq (j6 (xch c h u) 0 4 10 11 12 13)) (kq (j7 (xci c h u) 0 3 4 10 11 12 13))) (tq (j9 (xcl c h u) 0 1 2 3 4 10 11 12 13) (sqN 1 (tq (j10 (xh0 c h u) 0 1 2 3 4 10 11 12 13 34) (cd (tq (j9 (xgw c h u) 0 1 2 3 4 10 11 12 13) (sqN 3 (sq2 (kq (j8 (xgu c h u) 0 1 3 4 10 11 12 13)) (bk 0 (lq (xcj c h u) (λr=>j11 r 0 1 3 4 10 11 12 13 14 15 16) λrec0=>(kq (j11 (xgv c h u rec0) 0 1 3 4 10 11 12 13 14 15 16))))))) (tq (j9 (xgz c h u) 0 1 2 3 4 10 11 12 13) (sqN 1 (sq2 (kq (j8 (xgx c h u) 0 1 3 4 10 11 12 13)) (bk 2 (lq (xck c h u) (λr=>j9 r 0 1 3 4 10 11 12 13 17) λs=>(kq (j9 (xgy c h u s) 0 1 3 4 10 11 12 13 17)))))))))))) (kq (j9 (xh1 c h u) 0 1 2 3 4 10 11 12 13))))) (kq (j7 (xh3 c h u) 0 1 2 3 4 10 11)))))
noncomputable abbrev x178:=VX x4y 117 r_2
theorem xo4:x178 c h u (xp0 x4y) r_2 eNil=j1 (xcn c h u) 0:=(kq (j1 (xcn c h u) 0))
noncomputable abbrev x179:=VX x2b 143 r_0
theorem xo5:x179 c h u (xp0 x2b) r_0 eNil=j2 (x73 c h u) 0 1:=(tq (j2 (x73 c h u) 0 1) (sqN 8 (sq2 (kq (j0 (xh4 c h u))) (bk 1 (lq (xcp c h u) (λr=>j8 r 0 1 5 6 7 8 9 10) λrec0=>(tq (j8 (xh7 c h u rec0) 0 1 5 6 7 8 9 10) (sqN 1 (bk 2 (sq2 (kq (j8 (xco c h u rec0) 0 1 5 6 7 8 9 10)) (kq (j8 (xh6 c h u rec0) 0 1 5 6 7 8 9 10)))))))))))
noncomputable abbrev x17a:=VX x4z 172 r_18
theorem xo6:x17a c h u (xp0 x4z) r_18 eNil=j3 (xcu c h u) 0 1 2:=(tq (j3 (xcu c h u) 0 1 2) (sqN 4 (sq2 (sq2 (tq (j5 (xct c h u) 0 1 2 8 9) (sqN 1 (sq2 (tq (j6 (x74 c h u) 0 1 2 8 9 10) (sqN 3 (sq2 (kq (j3 (xh8 c h u) 9 12 13)) (tq (j8 (xhc c h u) 0 1 8 9 10 11 12 13) (sqN 1 (bk 3 (lq (xcs c h u) (λr=>j10 r 1 8 9 10 11 12 13 99 100 101) λrec0=>(tq (j10 (xhb c h u rec0) 1 8 9 10 11 12 13 99 100 101) (sqN 2 (sq2 (kq (j10 (xcq c h u rec0) 1 8 9 10 11 12 13 99 100 101)) (bk 4 (tq (j10 (xha c h u rec0) 1 8 9 10 11 12 13 99 100 101) (sqN 2 (sq2 (kq (j11 (xcr c h u rec0) 1 8 9 10 11 12 13 16 99 100 101)) (kq (j11 (xh9 c h u rec0) 1 8 9 10 11 12 13 15 99 100 101)))))))))))))))) (kq (j5 (xhd c h u) 0 1 2 8 9))))) (kq (j5 (x1y c h u) 0 1 2 8 9))) (kq (j5 (xhe c h u) 0 1 2 8 9)))))
noncomputable abbrev x17b:=VX x1q 18 r_4
theorem xo7:x17b c h u (xp0 x1q) r_4 eNil=j1 (xcv c h u) 0:=(kq (j1 (xcv c h u) 0))
noncomputable abbrev x17c:=VX x36 7 r_4
theorem xo8:x17c c h u (xp0 x36) r_4 eNil=j1 (xcw c h u) 0:=(kq (j1 (xcw c h u) 0))
noncomputable abbrev x17d:=VX x3v 76 r_15
theorem xlj:x17d c h u (xp0 x3v) r_15 eNil=j3 (xcz c h u) 0 1 2:=(tq (j3 (xcz c h u) 0 1 2) (sqN 1 (bk 0 (lq (xcy c h u) (λr=>j6 r 0 1 2 14 15 16) λrec0=>(tq (j6 (xhi c h u rec0) 0 1 2 14 15 16) (sqN 2 (sq2 (kq (j6 (xhf c h u rec0) 0 1 2 14 15 16)) (bk 1 (tq (j6 (xhh c h u rec0) 0 1 2 14 15 16) (sqN 3 (sq2 (kq (j7 (xcx c h u rec0) 0 1 2 7 14 15 16)) (kq (j9 (xhg c h u rec0) 0 1 2 5 6 7 14 15 16)))))))))))))
noncomputable abbrev x17e:=VX x50 17 r_13
theorem xo9:x17e c h u (xp0 x50) r_13 eNil=j2 (xd0 c h u) 0 1:=(kq (j2 (xd0 c h u) 0 1))
noncomputable abbrev x17f:=VX x3x 51 r_13
theorem xlp:x17f c h u (xp0 x3x) r_13 eNil=j2 (xd1 c h u) 0 1:=(kq (j2 (xd1 c h u) 0 1))
noncomputable abbrev x17g:=VX x51 6 r_4
theorem xoa:x17g c h u (xp0 x51) r_4 eNil=j1 (xd2 c h u) 0:=(kq (j1 (xd2 c h u) 0))
noncomputable abbrev x17h:=VX x52 25 r_4
theorem xob:x17h c h u (xp0 x52) r_4 eNil=j1 (xd6 c h u) 0:=(tq (j1 (xd6 c h u) 0) (sqN 1 (sq2 (sq2 (sq2 (kq (j2 (xd3 c h u) 0 2)) (kq (j2 (xd4 c h u) 0 2))) (kq (j2 (xd5 c h u) 0 2))) (kq (j2 (xhj c h u) 0 2)))))
noncomputable abbrev x17i:=VX x53 4 r_4
theorem xoc:x17i c h u (xp0 x53) r_4 eNil=j1 (xd7 c h u) 0:=(kq (j1 (xd7 c h u) 0))
noncomputable abbrev x17j:=VX x54 8 r_4
theorem xod:x17j c h u (xp0 x54) r_4 eNil=j1 (xd8 c h u) 0:=(kq (j1 (xd8 c h u) 0))
noncomputable abbrev x17k:=VX x55 8 r_4
theorem xoe:x17k c h u (xp0 x55) r_4 eNil=j1 (xd9 c h u) 0:=(kq (j1 (xd9 c h u) 0))
noncomputable abbrev x17l:=VX x1r 8 r_0
theorem xof:x17l c h u (xp0 x1r) r_0 eNil=j2 (x75 c h u) 0 1:=(kq (j2 (x75 c h u) 0 1))
noncomputable abbrev x17m:=VX x56 6 r_4
theorem xog:x17m c h u (xp0 x56) r_4 eNil=j1 (xda c h u) 0:=(kq (j1 (xda c h u) 0))
noncomputable abbrev x17n:=VX x57 81 r_0
theorem xoh:x17n c h u (xp0 x57) r_0 eNil=j2 (xdd c h u) 0 1:=(tq (j2 (xdd c h u) 0 1) (sqN 4 (sq2 (tq (j6 (xhn c h u) 0 1 5 6 7 8) (sqN 1 (sq2 (kq (j0 (xhk c h u))) (tq (j6 (xhm c h u) 0 1 5 6 7 8) (sqN 1 (bk 2 (lq (xdb c h u) (λr=>j7 r 0 1 5 6 7 8 10) λrec0=>(kq (j7 (xhl c h u rec0) 0 1 5 6 7 8 10))))))))) (tq (j6 (xhp c h u) 0 1 5 6 7 8) (sqN 1 (bk 0 (lq (xdc c h u) (λr=>j7 r 0 1 5 6 7 8 9) λs=>(kq (j7 (xho c h u s) 0 1 5 6 7 8 9)))))))))
noncomputable abbrev x17o:=VX xh 5 r_4
theorem xoi:x17o c h u (xp0 xh) r_4 eNil=j1 (xde c h u) 0:=(kq (j1 (xde c h u) 0))
noncomputable abbrev x17p:=VX x58 94 r_4
theorem xoj:x17p c h u (xp0 x58) r_4 eNil=j1 (xdg c h u) 0:=(tq (j1 (xdg c h u) 0) (sqN 3 (sq2 (tq (j3 (xdf c h u) 0 3 4) (sqN 1 (sq2 (sq2 (kq (j1 (xhq c h u) 3)) (bk 0 (lq (x77 c h u) (λr=>j4 r 0 3 4 5) λrec0=>(tq (j4 (xhs c h u rec0) 0 3 4 5) (sqN 1 (sq2 (kq (j4 (x76 c h u rec0) 0 3 4 5)) (kq (j4 (xhr c h u rec0) 0 3 4 5)))))))) (kq (j4 (xht c h u) 0 3 4 5))))) (kq (j3 (xhu c h u) 0 3 4)))))
noncomputable abbrev x17q:=VX x59 14 r_4
theorem xok:x17q c h u (xp0 x59) r_4 eNil=j1 (xdh c h u) 0:=(kq (j1 (xdh c h u) 0))
noncomputable abbrev x17r:=VX x5a 14 r_4
theorem xol:x17r c h u (xp0 x5a) r_4 eNil=j1 (xdi c h u) 0:=(kq (j1 (xdi c h u) 0))
noncomputable abbrev x17s:=VX x5b 39 r_2
theorem xom:x17s c h u (xp0 x5b) r_2 eNil=j1 (xdm c h u) 0:=(tq (j1 (xdm c h u) 0) (sqN 2 (sq2 (tq (j2 (xi0 c h u) 0 4) (sqN 1 (sq2 (kq (j2 (xhv c h u) 4 6)) (tq (j4 (xhz c h u) 0 4 6 7) (sqN 1 (bk 2 (lq (xdk c h u) (λr=>j4 r 4 6 7 8) λrec0=>(tq (j4 (xhy c h u rec0) 4 6 7 8) (sqN 1 (sq2 (kq (j4 (xhw c h u rec0) 4 6 7 8)) (bk 3 (sq2 (kq (j4 (xdj c h u rec0) 4 6 7 8)) (kq (j4 (xhx c h u rec0) 4 6 7 8)))))))))))))) (tq (j2 (xi2 c h u) 0 4) (sqN 1 (bk 0 (lq (xdl c h u) (λr=>j3 r 0 4 5) λs=>(kq (j3 (xi1 c h u s) 0 4 5)))))))))
end Go.Ix
