import Derived.Test.YtdcffnlnagmbhaaGreatDoorFxText0
import Derived.Test.YtdcffnlnagmbhaaGreatDoorFxEnt
import Derived.Test.YtdcffnlnagmbhaaGreatDoorFxRules
import Derived.Test.YtdcffnlnagmbhaaGreatDoorFxProj
import Derived.ProofKit
set_option linter.unusedVariables false
namespace Go.Ix
open Go.Proofs
variable{c:xpb}{h:FHs}{u:Nat}
noncomputable abbrev x139:=VX x2j 116 r_0
theorem xli:x139 c h u (xpd x2j) r_0 eNil=j3 (x4y c h u) 0 1 2:=(kq (j3 (x4y c h u) 0 1 2))
noncomputable abbrev x13a:=VX x1r 97 r_1
theorem xlj:x13a c h u (xpd x1r) r_1 eNil=j0 (x7i c h u):=(kq (j0 (x7i c h u)))
noncomputable abbrev x13b:=VX x19 17 r_2
theorem xlk:x13b c h u (xpd x19) r_2 eNil=j1 (x50 c h u) 0:=(kq (j1 (x50 c h u) 0))
noncomputable abbrev x13c:=VX x1a 13 r_2
theorem xll:x13c c h u (xpd x1a) r_2 eNil=j1 (x51 c h u) 0:=(kq (j1 (x51 c h u) 0))
noncomputable abbrev x13d:=VX xz 40 r_3
theorem xlm:x13d c h u (xpd xz) r_3 eNil=j1 (x52 c h u) 0:=(kq (j1 (x52 c h u) 0))
noncomputable abbrev x13e:=VX x10 35 r_4
theorem xln:x13e c h u (xpd x10) r_4 eNil=j1 (x53 c h u) 0:=(kq (j1 (x53 c h u) 0))
noncomputable abbrev x13f:=VX x1b 40 r_3
theorem xlo:x13f c h u (xpd x1b) r_3 eNil=j1 (x54 c h u) 0:=(kq (j1 (x54 c h u) 0))
noncomputable abbrev x13g:=VX x1c 47 r_4
theorem xlp:x13g c h u (xpd x1c) r_4 eNil=j1 (x55 c h u) 0:=(kq (j1 (x55 c h u) 0))
noncomputable abbrev x13h:=VX x1d 17 r_2
theorem xlq:x13h c h u (xpd x1d) r_2 eNil=j1 (x56 c h u) 0:=(kq (j1 (x56 c h u) 0))
noncomputable abbrev x13i:=VX x1e 25 r_2
theorem xlr:x13i c h u (xpd x1e) r_2 eNil=j1 (x57 c h u) 0:=(kq (j1 (x57 c h u) 0))
noncomputable abbrev x13j:=VX x1f 33 r_2
theorem xls:x13j c h u (xpd x1f) r_2 eNil=j1 (x58 c h u) 0:=(kq (j1 (x58 c h u) 0))
noncomputable abbrev x13k:=VX x1g 26 r_2
theorem xlt:x13k c h u (xpd x1g) r_2 eNil=j1 (x5a c h u) 0:=(tq (j1 (x5a c h u) 0) (sqN 2 (sq2 (kq (j0 (x7j c h u))) (tq (j1 (x7l c h u) 1) (sqN 1 (bk 0 (lq (x59 c h u) (λr=>j2 r 1 3) λrec0=>(kq (j2 (x7k c h u rec0) 1 3)))))))))
noncomputable abbrev x13l:=VX x3h 42 r_5
theorem xlu:x13l c h u (xpd x3h) r_5 eNil=j3 (x7m c h u) 0 1 2:=(kq (j3 (x7m c h u) 0 1 2))
noncomputable abbrev x13m:=VX x2k 6 r_6
theorem xlv:x13m c h u (xpd x2k) r_6 eNil=j0 (x7n c h u):=(kq (j0 (x7n c h u)))
noncomputable abbrev x13n:=VX x3i 55 r_7
theorem xlw:x13n c h u (xpd x3i) r_7 eNil=j3 (x7o c h u) 0 1 2:=(kq (j3 (x7o c h u) 0 1 2))
noncomputable abbrev x13o:=VX x3j 23 r_4
theorem xlx:x13o c h u (xpd x3j) r_4 eNil=j1 (x7p c h u) 0:=(kq (j1 (x7p c h u) 0))
noncomputable abbrev x13p:=VX x3k 8 r_1
theorem xly:x13p c h u (xpd x3k) r_1 eNil=j0 (x7q c h u):=(kq (j0 (x7q c h u)))
noncomputable abbrev x13q:=VX x3l 39 r_8
theorem xlz:x13q c h u (xpd x3l) r_8 eNil=j2 (x7s c h u) 0 1:=(tq (j2 (x7s c h u) 0 1) (sqN 4 (sq2 (kq (j2 (xct c h u) 7 8)) (tq (j2 (xcv c h u) 7 8) (sqN 1 (bk 1 (lq (x7r c h u) (λr=>j5 r 7 8 23 24 25) λrec0=>(kq (j5 (xcu c h u rec0) 7 8 23 24 25)))))))))
noncomputable abbrev x13r:=VX x3m 35 r_9
theorem xm0:x13r c h u (xpd x3m) r_9 eNil=j3 (x7t c h u) 0 1 2:=(kq (j3 (x7t c h u) 0 1 2))
noncomputable abbrev x13s:=VX x1s 35 r_10
theorem xm1:x13s c h u (xpd x1s) r_10 eNil=j3 (x7w c h u) 0 1 2:=(tq (j3 (x7w c h u) 0 1 2) (sqN 2 (sq2 (kq (j2 (xcw c h u) 6 7)) (tq (j3 (xcy c h u) 2 6 7) (sqN 1 (bk 0 (lq (x7v c h u) (λr=>j4 r 2 6 7 8) λrec0=>(kq (j4 (xcx c h u rec0) 2 6 7 8)))))))))
noncomputable abbrev x13t:=VX x3n 28 r_11
theorem xm2:x13t c h u (xpd x3n) r_11 eNil=j2 (x7y c h u) 0 1:=(tq (j2 (x7y c h u) 0 1) (sqN 2 (sq2 (kq (j0 (xcz c h u))) (tq (j2 (xd2 c h u) 0 1) (sqN 1 (bk 0 (lq (x7x c h u) (λr=>j3 r 0 1 5) λrec0=>(kq (j3 (xd0 c h u rec0) 0 1 5)))))))))
noncomputable abbrev x13u:=VX x1h 20 r_2
theorem xm3:x13u c h u (xpd x1h) r_2 eNil=j1 (x5e c h u) 0:=(tq (j1 (x5e c h u) 0) (sqN 2 (sq2 (kq (j1 (x7z c h u) 3)) (tq (j2 (x81 c h u) 0 3) (sqN 1 (bk 0 (lq (x2c c h u) (λr=>j4 r 3 6 7 8) λrec0=>(kq (j4 (x5d c h u rec0) 3 6 7 8)))))))))
noncomputable abbrev x13v:=VX x1t 36 r_2
theorem xm4:x13v c h u (xpd x1t) r_2 eNil=j1 (x84 c h u) 0:=(tq (j1 (x84 c h u) 0) (sqN 2 (sq2 (tq (j2 (xd7 c h u) 0 3) (sqN 1 (sq2 (kq (j1 (xd3 c h u) 6)) (tq (j2 (xd5 c h u) 0 6) (sqN 1 (bk 2 (lq (x82 c h u) (λr=>j4 r 6 25 26 27) λrec0=>(kq (j4 (xd4 c h u rec0) 6 25 26 27))))))))) (tq (j2 (xdb c h u) 0 3) (sqN 1 (bk 0 (lq (x83 c h u) (λr=>j5 r 0 3 9 10 11) λs=>(tq (j5 (xda c h u s) 0 3 9 10 11) (sqN 2 (sq2 (kq (j5 (xd8 c h u s) 0 3 9 10 11)) (kq (j5 (xd9 c h u s) 0 3 9 10 11))))))))))))
noncomputable abbrev x13w:=VX xt 41 r_12
theorem xm5:x13w c h u (xpd xt) r_12 eNil=j2 (x5f c h u) 0 1:=(tq (j2 (x5f c h u) 0 1) (sqN 2 (sq2 (kq (j4 (x3a c h u) 1 4 5 6)) (tq (j5 (x87 c h u) 0 1 4 5 6) (sqN 1 (bk 0 (tq (j5 (x86 c h u) 1 4 5 6 11) (rg2 (.tmp 11) #[12] (λlid u=>(kq (j4 (x85 c h u lid) 4 5 6 7))) (λlid u=>(kq (j4 (x2e c h u lid) 4 5 6 12)))))))))))
noncomputable abbrev x13x:=VX x1i 36 r_2
theorem xm6:x13x c h u (xpd x1i) r_2 eNil=j1 (x5g c h u) 0:=(kq (j1 (x5g c h u) 0))
noncomputable abbrev x13y:=VX x1u 23 r_2
theorem xm7:x13y c h u (xpd x1u) r_2 eNil=j1 (x5i c h u) 0:=(tq (j1 (x5i c h u) 0) (sqN 2 (sq2 (kq (j0 (x88 c h u))) (tq (j1 (x8a c h u) 1) (sqN 1 (bk 0 (lq (x5h c h u) (λr=>j3 r 13 14 15) λrec0=>(kq (j3 (x89 c h u rec0) 13 14 15)))))))))
noncomputable abbrev x13z:=VX xu 38 r_13
theorem xm8:x13z c h u (xpd xu) r_13 eNil=j2 (x5k c h u) 0 1:=(tq (j2 (x5k c h u) 0 1) (sqN 3 (sq2 (kq (j2 (x8b c h u) 1 7)) (tq (j3 (x8c c h u) 1 6 7) (sqN 1 (bk 0 (lq (x2f c h u) (λr=>j4 r 1 6 7 8) λrec0=>(kq (j4 (x5j c h u rec0) 1 6 7 8)))))))))
noncomputable abbrev x140:=VX x1j 23 r_2
theorem xm9:x140 c h u (xpd x1j) r_2 eNil=j1 (x5m c h u) 0:=(tq (j1 (x5m c h u) 0) (sqN 2 (sq2 (kq (j1 (x8d c h u) 3)) (tq (j2 (x8g c h u) 0 3) (sqN 1 (bk 0 (lq (x1p c h u) (λr=>j3 r 0 3 4) λrec0=>(tq (j3 (x5l c h u rec0) 0 3 4) (sqN 1 (sq2 (kq (j3 (x8e c h u rec0) 0 3 4)) (bk 1 (sq2 (kq (j3 (x3b c h u rec0) 0 3 4)) (kq (j3 (x8f c h u rec0) 0 3 4))))))))))))))
noncomputable abbrev x141:=VX xp 15 r_0
theorem xma:x141 c h u (xpd xp) r_0 eNil=j3 (x5n c h u) 0 1 2:=(kq (j3 (x5n c h u) 0 1 2))
noncomputable abbrev x142:=VX x2l 29 r_14
theorem xmb:x142 c h u (xpd x2l) r_14 eNil=j1 (x8i c h u) 0:=(tq (j1 (x8i c h u) 0) (sqN 1 (sq2 (kq (j2 (xde c h u) 1 2)) (tq (j2 (xdh c h u) 1 2) (sqN 1 (bk 0 (lq (x8h c h u) (λr=>j4 r 1 2 11 12) λrec0=>(kq (j4 (xdf c h u rec0) 1 2 11 12)))))))))
noncomputable abbrev x143:=VX x2m 21 r_11
theorem xmc:x143 c h u (xpd x2m) r_11 eNil=j2 (x8j c h u) 0 1:=(kq (j2 (x8j c h u) 0 1))
noncomputable abbrev x144:=VX x2n 91 r_15
theorem xmd:x144 c h u (xpd x2n) r_15 eNil=j3 (x8k c h u) 0 1 2:=(tq (j3 (x8k c h u) 0 1 2) (sqN 6 (sq2 (sq2 (kq (j4 (xdi c h u) 6 9 10 11)) (tq (j7 (xdm c h u) 3 4 6 9 10 11 12) (sqN 1 (bk 2 (tq (j6 (xdl c h u) 6 9 10 11 12 55) (rg (.tmp 55) #[56,57] (λu=>(kq (j5 (xdj c h u) 9 10 12 15 16))) (λu=>(kq (j5 (xdk c h u) 9 10 12 56 57))))))))) (tq (j8 (xdr c h u) 3 4 6 8 9 10 11 12) (sqN 1 (bk 0 (tq (j8 (xdq c h u) 3 4 6 9 10 11 12 41) (rg (.tmp 41) #[42,43] (λu=>(kq (j3 (xdn c h u) 11 12 14))) (λu=>(kq (j3 (xdp c h u) 11 12 43)))))))))))
noncomputable abbrev x145:=VX x2o 18 r_16
theorem xme:x145 c h u (xpd x2o) r_16 eNil=j1 (x8l c h u) 0:=(kq (j1 (x8l c h u) 0))
noncomputable abbrev x146:=VX xe 15 r_0
theorem xmf:x146 c h u (xpd xe) r_0 eNil=j3 (x5o c h u) 0 1 2:=(kq (j3 (x5o c h u) 0 1 2))
noncomputable abbrev x147:=VX x3o 57 r_17
theorem xmg:x147 c h u (xpd x3o) r_17 eNil=j3 (x8p c h u) 0 1 2:=(tq (j3 (x8p c h u) 0 1 2) (sqN 3 (sq2 (kq (j3 (xds c h u) 6 8 9)) (tq (j6 (xdy c h u) 2 3 4 6 8 9) (sqN 1 (bk 0 (lq (x8o c h u) (λr=>j7 r 2 3 4 6 8 9 10) λrec0=>(tq (j7 (xdx c h u rec0) 2 3 4 6 8 9 10) (sqN 1 (sq2 (kq (j7 (xdt c h u rec0) 2 3 4 6 8 9 10)) (bk 1 (tq (j7 (xdw c h u rec0) 2 3 4 6 8 9 10) (sqN 1 (bk 2 (lq (x8n c h u rec0) (λr=>j8 r 2 3 4 6 8 9 10 11) λs=>(tq (j8 (xdv c h u rec0 s) 2 3 4 6 8 9 10 11) (sqN 1 (sq2 (kq (j8 (x8m c h u rec0 s) 2 3 4 6 8 9 10 11)) (kq (j8 (xdu c h u rec0 s) 2 3 4 6 8 9 10 11))))))))))))))))))))
noncomputable abbrev x148:=VX x3p 13 r_18
theorem xmh:x148 c h u (xpd x3p) r_18 eNil=j1 (x8q c h u) 0:=(kq (j1 (x8q c h u) 0))
noncomputable abbrev x149:=VX x3q 54 r_2
theorem xmi:x149 c h u (xpd x3q) r_2 eNil=j1 (x8v c h u) 0:=(tq (j1 (x8v c h u) 0) (sqN 5 (sq2 (kq (j1 (xdz c h u) 5)) (tq (j4 (xe2 c h u) 0 3 4 5) (sqN 1 (bk 0 (lq (x8t c h u) (λr=>j6 r 3 4 5 21 22 23) λrec0=>(tq (j6 (xe1 c h u rec0) 3 4 5 21 22 23) (sqN 2 (sq2 (kq (j6 (x8r c h u rec0) 3 4 5 21 22 23)) (kq (j6 (xe0 c h u rec0) 3 4 5 21 22 23))))))))))))
noncomputable abbrev x14a:=VX x3r 141 r_19
theorem xmj:x14a c h u (xpd x3r) r_19 eNil=j1 (x91 c h u) 0:=(tq (j1 (x91 c h u) 0) (sqN 3 (sq2 (tq (j3 (xe9 c h u) 2 3 4) (sqN 2 (sq2 (tq (j3 (xe6 c h u) 2 10 11) (sqN 1 (sq2 (kq (j2 (xe3 c h u) 2 10)) (tq (j3 (xe5 c h u) 2 10 11) (sqN 1 (bk 8 (lq (x8w c h u) (λr=>j4 r 2 10 11 120) λrec0=>(kq (j4 (xe4 c h u rec0) 2 10 11 120))))))))) (tq (j5 (xe8 c h u) 2 3 4 10 11) (sqN 1 (bk 6 (lq (x8x c h u) (λr=>j6 r 2 3 4 10 11 82) λs=>(kq (j6 (xe7 c h u s) 2 3 4 10 11 82))))))))) (tq (j4 (xej c h u) 0 2 3 4) (sqN 1 (bk 0 (lq (x90 c h u) (λr=>j6 r 2 3 4 14 15 16) λw=>(tq (j6 (xei c h u w) 2 3 4 14 15 16) (sqN 2 (sq2 (kq (j6 (xea c h u w) 2 3 4 14 15 16)) (bk 1 (tq (j6 (xeh c h u w) 2 3 4 14 15 16) (sqN 3 (bk 2 (lq (x8z c h u w) (λr=>j9 r 2 3 4 6 7 14 15 16 25) λz=>(tq (j9 (xeg c h u w z) 2 3 4 6 7 14 15 16 25) (sqN 2 (sq2 (kq (j9 (xeb c h u w z) 2 3 4 6 7 14 15 16 25)) (bk 3 (tq (j9 (xef c h u w z) 2 3 4 6 7 14 15 16 25) (sqN 1 (sq2 (kq (j10 (xec c h u w z) 2 3 4 6 7 8 14 15 16 25)) (tq (j10 (xee c h u w z) 2 3 4 6 7 8 14 15 16 25) (sqN 1 (bk 4 (lq (x8y c h u w z) (λr=>j11 r 2 3 4 6 7 8 14 15 16 25 28) λy=>(kq (j11 (xed c h u w z y) 2 3 4 6 7 8 14 15 16 25 28))))))))))))))))))))))))))))
noncomputable abbrev x14b:=VX x2p 5 r_2
theorem xmk:x14b c h u (xpd x2p) r_2 eNil=j1 (x92 c h u) 0:=(kq (j1 (x92 c h u) 0))
noncomputable abbrev x14c:=VX x1v 60 r_20
theorem xml:x14c c h u (xpd x1v) r_20 eNil=j2 (x93 c h u) 0 1:=(kq (j2 (x93 c h u) 0 1))
noncomputable abbrev x14d:=VX x2q 11 r_2
theorem xmm:x14d c h u (xpd x2q) r_2 eNil=j1 (x94 c h u) 0:=(kq (j1 (x94 c h u) 0))
noncomputable abbrev x14e:=VX x3s 91 r_0
theorem xmn:x14e c h u (xpd x3s) r_0 eNil=j3 (x97 c h u) 0 1 2:=(tq (j3 (x97 c h u) 0 1 2) (sqN 4 (sq2 (kq (j3 (xel c h u) 9 10 11)) (tq (j6 (xeq c h u) 3 7 8 9 10 11) (sqN 1 (bk 0 (lq (x96 c h u) (λr=>j9 r 3 7 8 9 10 11 38 39 40) λrec0=>(tq (j9 (xep c h u rec0) 3 7 8 9 10 11 38 39 40) (sqN 2 (sq2 (kq (j9 (xem c h u rec0) 3 7 8 9 10 11 38 39 40)) (bk 1 (tq (j9 (xeo c h u rec0) 3 7 8 9 10 11 38 39 40) (sqN 2 (bk 2 (lq (x95 c h u rec0) (λr=>j14 r 3 7 8 9 10 11 12 13 38 39 40 46 47 48) λs=>(kq (j14 (xen c h u rec0 s) 3 7 8 9 10 11 12 13 38 39 40 46 47 48)))))))))))))))))
noncomputable abbrev x14f:=VX x3t 27 r_11
theorem xmo:x14f c h u (xpd x3t) r_11 eNil=j2 (x99 c h u) 0 1:=(tq (j2 (x99 c h u) 0 1) (sqN 1 (sq2 (sq2 (kq (j1 (x98 c h u) 0)) (kq (j2 (xer c h u) 0 1))) (kq (j2 (xes c h u) 0 1)))))
noncomputable abbrev x14g:=VX x1k 8 r_11
theorem xmp:x14g c h u (xpd x1k) r_11 eNil=j2 (x5p c h u) 0 1:=(kq (j2 (x5p c h u) 0 1))
noncomputable abbrev x14h:=VX x1w 8 r_11
theorem xmq:x14h c h u (xpd x1w) r_11 eNil=j2 (x5q c h u) 0 1:=(kq (j2 (x5q c h u) 0 1))
noncomputable abbrev x14i:=VX x11 5 r_2
theorem xmr:x14i c h u (xpd x11) r_2 eNil=j1 (x5r c h u) 0:=(kq (j1 (x5r c h u) 0))
noncomputable abbrev x14j:=VX x12 34 r_11
theorem xms:x14j c h u (xpd x12) r_11 eNil=j2 (x5t c h u) 0 1:=(tq (j2 (x5t c h u) 0 1) (sqN 3 (sq2 (kq (j3 (x9a c h u) 0 5 6)) (tq (j4 (x9c c h u) 0 1 5 6) (sqN 1 (bk 0 (lq (x2g c h u) (λr=>j5 r 0 1 5 6 7) λrec0=>(tq (j5 (x5s c h u rec0) 0 1 5 6 7) (sqN 1 (sq2 (kq (j5 (x3c c h u rec0) 0 1 5 6 7)) (kq (j5 (x9b c h u rec0) 0 1 5 6 7))))))))))))
noncomputable abbrev x14k:=VX x13 70 r_13
theorem xmt:x14k c h u (xpd x13) r_13 eNil=j2 (x5x c h u) 0 1:=(tq (j2 (x5x c h u) 0 1) (sqN 2 (sq2 (tq (j3 (x3d c h u) 0 1 6) (sqN 2 (sq2 (sq2 (kq (j1 (x5u c h u) 7)) (kq (j2 (x9d c h u) 6 7))) (tq (j3 (x5w c h u) 0 6 7) (sqN 1 (bk 0 (lq (x2h c h u) (λr=>j4 r 0 6 7 8) λrec0=>(kq (j4 (x5v c h u rec0) 0 6 7 8))))))))) (kq (j3 (x9e c h u) 0 1 6)))))
noncomputable abbrev x14l:=VX x1x 27 r_2
theorem xmu:x14l c h u (xpd x1x) r_2 eNil=j1 (x60 c h u) 0:=(tq (j1 (x60 c h u) 0) (sqN 3 (sq2 (sq2 (kq (j2 (x5y c h u) 3 4)) (bk 0 (lq (x17 c h u) (λr=>j3 r 0 3 4) λrec0=>(kq (j3 (x3e c h u rec0) 0 3 4))))) (kq (j3 (x9f c h u) 0 3 4)))))
noncomputable abbrev x14m:=VX x2r 25 r_11
theorem xmv:x14m c h u (xpd x2r) r_11 eNil=j2 (x9g c h u) 0 1:=(kq (j2 (x9g c h u) 0 1))
noncomputable abbrev x14n:=VX x3u 18 r_21
theorem xmw:x14n c h u (xpd x3u) r_21 eNil=j2 (x9h c h u) 0 1:=(kq (j2 (x9h c h u) 0 1))
noncomputable abbrev x14o:=VX x14 7 r_2
theorem xmx:x14o c h u (xpd x14) r_2 eNil=j1 (x9i c h u) 0:=(kq (j1 (x9i c h u) 0))
noncomputable abbrev x14p:=VX x2s 6 r_11
theorem xmy:x14p c h u (xpd x2s) r_11 eNil=j2 (x9j c h u) 0 1:=(kq (j2 (x9j c h u) 0 1))
noncomputable abbrev x14q:=VX x1y 18 r_2
theorem xmz:x14q c h u (xpd x1y) r_2 eNil=j1 (x9k c h u) 0:=(kq (j1 (x9k c h u) 0))
noncomputable abbrev x14r:=VX x1z 13 r_11
theorem xn0:x14r c h u (xpd x1z) r_11 eNil=j2 (x9m c h u) 0 1:=(tq (j2 (x9m c h u) 0 1) (sqN 1 (sq2 (kq (j1 (xet c h u) 0)) (bk 0 (lq (x9l c h u) (λr=>j2 r 0 1) λrec0=>(kq (j2 (xeu c h u rec0) 0 1)))))))
noncomputable abbrev x14s:=VX x3v 26 r_11
theorem xn1:x14s c h u (xpd x3v) r_11 eNil=j2 (x9n c h u) 0 1:=(kq (j2 (x9n c h u) 0 1))
noncomputable abbrev x14t:=VX x3w 24 r_18
theorem xn2:x14t c h u (xpd x3w) r_18 eNil=j1 (x9p c h u) 0:=(tq (j1 (x9p c h u) 0) (sqN 2 (sq2 (kq (j0 (xev c h u))) (tq (j1 (xex c h u) 0) (sqN 1 (bk 0 (lq (x9o c h u) (λr=>j3 r 10 11 12) λrec0=>(kq (j3 (xew c h u rec0) 10 11 12)))))))))
noncomputable abbrev x14u:=VX x20 8 r_22
theorem xn3:x14u c h u (xpd x20) r_22 eNil=j2 (x9q c h u) 0 1:=(kq (j2 (x9q c h u) 0 1))
noncomputable abbrev x14v:=VX x2t 39 r_22
theorem xn4:x14v c h u (xpd x2t) r_22 eNil=j2 (x9r c h u) 0 1:=(kq (j2 (x9r c h u) 0 1))
noncomputable abbrev x14w:=VX x2u 22 r_11
theorem xn5:x14w c h u (xpd x2u) r_11 eNil=j2 (x9s c h u) 0 1:=(kq (j2 (x9s c h u) 0 1))
noncomputable abbrev x14x:=VX x21 11 r_2
theorem xn6:x14x c h u (xpd x21) r_2 eNil=j1 (x9t c h u) 0:=(kq (j1 (x9t c h u) 0))
noncomputable abbrev x14y:=VX x2v 11 r_23
theorem xn7:x14y c h u (xpd x2v) r_23 eNil=j3 (x9u c h u) 0 1 2:=(kq (j3 (x9u c h u) 0 1 2))
noncomputable abbrev x14z:=VX x3x 21 r_18
theorem xn8:x14z c h u (xpd x3x) r_18 eNil=j1 (x9v c h u) 0:=(kq (j1 (x9v c h u) 0))
noncomputable abbrev x150:=VX x22 16 r_11
theorem xn9:x150 c h u (xpd x22) r_11 eNil=j2 (x9x c h u) 0 1:=(tq (j2 (x9x c h u) 0 1) (sqN 2 (sq2 (kq (j1 (x9w c h u) 5)) (kq (j3 (xf0 c h u) 0 1 5)))))
noncomputable abbrev x151:=VX x2w 36 r_0
theorem xna:x151 c h u (xpd x2w) r_0 eNil=j3 (x9y c h u) 0 1 2:=(kq (j3 (x9y c h u) 0 1 2))
noncomputable abbrev x152:=VX x2x 12 r_11
theorem xnb:x152 c h u (xpd x2x) r_11 eNil=j2 (x9z c h u) 0 1:=(kq (j2 (x9z c h u) 0 1))
noncomputable abbrev x153:=VX x75 5 r_2
theorem xnc:x153 c h u (xpd x75) r_2 eNil=j1 (xa0 c h u) 0:=(kq (j1 (xa0 c h u) 0))
noncomputable abbrev x154:=VX x76 25 r_24
theorem xnd:x154 c h u (xpd x76) r_24 eNil=j2 (xa1 c h u) 0 1:=(tq (j2 (xa1 c h u) 0 1) (sqN 1 (sq2 (kq (j2 (xf1 c h u) 0 1)) (kq (j2 (xf2 c h u) 0 1)))))
noncomputable abbrev x155:=VX x77 19 r_13
theorem xne:x155 c h u (xpd x77) r_13 eNil=j2 (xa2 c h u) 0 1:=(kq (j2 (xa2 c h u) 0 1))
noncomputable abbrev x156:=VX x78 14 r_2
theorem xnf:x156 c h u (xpd x78) r_2 eNil=j1 (xa3 c h u) 0:=(kq (j1 (xa3 c h u) 0))
noncomputable abbrev x157:=VX x1l 8 r_0
theorem xng:x157 c h u (xpd x1l) r_0 eNil=j3 (xa4 c h u) 0 1 2:=(kq (j3 (xa4 c h u) 0 1 2))
noncomputable abbrev x158:=VX x79 77 r_18
theorem xnh:x158 c h u (xpd x79) r_18 eNil=j1 (xa8 c h u) 0:=(tq (j1 (xa8 c h u) 0) (sqN 2 (sq2 (kq (j1 (xf4 c h u) 0)) (tq (j2 (xfc c h u) 0 4) (sqN 1 (tq (j2 (xfb c h u) 0 30) (cd (tq (j1 (xf9 c h u) 0) (sqN 1 (sq2 (tq (j2 (xa7 c h u) 0 5) (sqN 1 (sq2 (sq2 (kq (j1 (xa5 c h u) 6)) (kq (j2 (xf5 c h u) 5 6))) (tq (j3 (xf7 c h u) 0 5 6) (sqN 1 (bk 0 (lq (xa6 c h u) (λr=>j5 r 5 6 47 48 49) λrec0=>(kq (j5 (xf6 c h u rec0) 5 6 47 48 49))))))))) (kq (j2 (xf8 c h u) 0 5))))) (kq (j1 (xfa c h u) 0)))))))))
noncomputable abbrev x159:=VX x7a 43 r_25
theorem xni:x159 c h u (xpd x7a) r_25 eNil=j5 (xa9 c h u) 0 1 2 3 4:=(kq (j5 (xa9 c h u) 0 1 2 3 4))
noncomputable abbrev x15a:=VX x23 13 r_11
theorem xnj:x15a c h u (xpd x23) r_11 eNil=j2 (x62 c h u) 0 1:=(kq (j2 (x62 c h u) 0 1))
noncomputable abbrev x15b:=VX x24 7 r_2
theorem xnk:x15b c h u (xpd x24) r_2 eNil=j1 (x63 c h u) 0:=(kq (j1 (x63 c h u) 0))
noncomputable abbrev x15c:=VX x3y 34 r_24
theorem xnl:x15c c h u (xpd x3y) r_24 eNil=j3 (xab c h u) 0 1 2:=(tq (j3 (xab c h u) 0 1 2) (sqN 1 (bk 0 (lq (xaa c h u) (λr=>j5 r 0 1 2 9 10) λrec0=>(kq (j5 (xfd c h u rec0) 0 1 2 9 10))))))
noncomputable abbrev x15d:=VX xq 12 r_2
theorem xnm:x15d c h u (xpd xq) r_2 eNil=j1 (xac c h u) 0:=(kq (j1 (xac c h u) 0))
noncomputable abbrev x15e:=VX x2y 18 r_2
theorem xnn:x15e c h u (xpd x2y) r_2 eNil=j1 (xae c h u) 0:=(tq (j1 (xae c h u) 0) (sqN 2 (sq2 (kq (j1 (xfe c h u) 3)) (tq (j2 (xfg c h u) 0 3) (sqN 1 (bk 0 (lq (xad c h u) (λr=>j4 r 3 6 7 8) λrec0=>(kq (j4 (xff c h u rec0) 3 6 7 8)))))))))
noncomputable abbrev x15f:=VX x3z 37 r_11
theorem xno:x15f c h u (xpd x3z) r_11 eNil=j2 (xaf c h u) 0 1:=(kq (j2 (xaf c h u) 0 1))
noncomputable abbrev x15g:=VX x2z 20 r_11
theorem xnp:x15g c h u (xpd x2z) r_11 eNil=j2 (xag c h u) 0 1:=(kq (j2 (xag c h u) 0 1))
noncomputable abbrev x15h:=VX x40 36 r_11
theorem xnq:x15h c h u (xpd x40) r_11 eNil=j2 (xai c h u) 0 1:=(tq (j2 (xai c h u) 0 1) (sqN 1 (sq2 (kq (j2 (xfh c h u) 0 1)) (tq (j2 (xfj c h u) 0 1) (sqN 1 (bk 0 (lq (xah c h u) (λr=>j5 r 0 1 9 10 11) λrec0=>(kq (j5 (xfi c h u rec0) 0 1 9 10 11)))))))))
noncomputable abbrev x15i:=VX x41 22 r_0
theorem xnr:x15i c h u (xpd x41) r_0 eNil=j3 (xaj c h u) 0 1 2:=(kq (j3 (xaj c h u) 0 1 2))
noncomputable abbrev x15j:=VX x42 24 r_13
theorem xns:x15j c h u (xpd x42) r_13 eNil=j2 (xal c h u) 0 1:=(tq (j2 (xal c h u) 0 1) (sqN 1 (sq2 (kq (j0 (xfk c h u))) (tq (j2 (xfm c h u) 0 1) (sqN 1 (bk 0 (lq (xak c h u) (λr=>j4 r 1 9 10 11) λrec0=>(kq (j4 (xfl c h u rec0) 1 9 10 11)))))))))
noncomputable abbrev x15k:=VX x43 12 r_11
theorem xnt:x15k c h u (xpd x43) r_11 eNil=j2 (xam c h u) 0 1:=(kq (j2 (xam c h u) 0 1))
noncomputable abbrev x15l:=VX x44 54 r_11
theorem xnu:x15l c h u (xpd x44) r_11 eNil=j2 (xao c h u) 0 1:=(tq (j2 (xao c h u) 0 1) (sqN 1 (sq2 (kq (j2 (xfn c h u) 0 1)) (tq (j2 (xfs c h u) 0 1) (sqN 1 (tq (j3 (xfr c h u) 0 1 11) (cd (tq (j1 (xfp c h u) 0) (sqN 3 (sq2 (kq (j3 (xan c h u) 0 5 6)) (kq (j3 (xfo c h u) 0 5 6))))) (kq (j2 (xfq c h u) 0 1)))))))))
noncomputable abbrev x15m:=VX x45 30 r_24
theorem xnv:x15m c h u (xpd x45) r_24 eNil=j2 (xap c h u) 0 1:=(kq (j2 (xap c h u) 0 1))
noncomputable abbrev x15n:=VX xw 52 r_24
theorem xnw:x15n c h u (xpd xw) r_24 eNil=j4 (x64 c h u) 0 1 2 3:=(sq2 (sq2 (kq (j2 (xaq c h u) 0 2)) (bk 2 (lq (x3g c h u) (λr=>j4 r 0 1 2 3) λrec0=>(kq (j4 (xar c h u rec0) 0 1 2 3))))) (tq (j4 (x64 c h u) 0 1 2 3) (sqN 1 (tq (j5 (xau c h u) 0 1 2 3 11) (cd (sq2 (kq (j0 (xft c h u))) (bk 0 (lq (xas c h u) (λr=>j2 r 0 2) λs=>(kq (j2 (xfu c h u s) 0 2))))) (kq (j4 (xat c h u) 0 1 2 3)))))))
noncomputable abbrev x15o:=VX x46 19 r_18
theorem xnx:x15o c h u (xpd x46) r_18 eNil=j1 (xav c h u) 0:=(kq (j1 (xav c h u) 0))
noncomputable abbrev x15p:=VX x25 8 r_11
theorem xny:x15p c h u (xpd x25) r_11 eNil=j2 (x65 c h u) 0 1:=(kq (j2 (x65 c h u) 0 1))
noncomputable abbrev x15q:=VX x47 73 r_9
theorem xnz:x15q c h u (xpd x47) r_9 eNil=j3 (xay c h u) 0 1 2:=(tq (j3 (xay c h u) 0 1 2) (sqN 3 (sq2 (tq (j4 (x66 c h u) 0 1 2 8) (sqN 3 (sq2 (tq (j3 (xax c h u) 2 8 9) (sqN 4 (sq2 (kq (j1 (xaw c h u) 11)) (kq (j2 (xfv c h u) 8 11))))) (kq (j3 (xfw c h u) 2 8 9))))) (kq (j4 (xfx c h u) 0 1 2 8)))))
noncomputable abbrev x15r:=VX x48 11 r_11
theorem xo0:x15r c h u (xpd x48) r_11 eNil=j2 (xaz c h u) 0 1:=(kq (j2 (xaz c h u) 0 1))
noncomputable abbrev x15s:=VX x49 11 r_11
theorem xo1:x15s c h u (xpd x49) r_11 eNil=j2 (xb0 c h u) 0 1:=(kq (j2 (xb0 c h u) 0 1))
noncomputable abbrev x15t:=VX x4a 16 r_0
theorem xo2:x15t c h u (xpd x4a) r_0 eNil=j3 (xb1 c h u) 0 1 2:=(kq (j3 (xb1 c h u) 0 1 2))
noncomputable abbrev x15u:=VX x4b 16 r_0
theorem xo3:x15u c h u (xpd x4b) r_0 eNil=j3 (xb2 c h u) 0 1 2:=(kq (j3 (xb2 c h u) 0 1 2))
noncomputable abbrev x15v:=VX x26 18 r_11
theorem xo4:x15v c h u (xpd x26) r_11 eNil=j2 (x68 c h u) 0 1:=(kq (j2 (x68 c h u) 0 1))
noncomputable abbrev x15w:=VX x2i 51 r_13
theorem xlh:x15w c h u (xpd x2i) r_13 eNil=j2 (xb3 c h u) 0 1:=(kq (j2 (xb3 c h u) 0 1))
noncomputable abbrev x15x:=VX x30 20 r_11
theorem xo5:x15x c h u (xpd x30) r_11 eNil=j2 (xb4 c h u) 0 1:=(kq (j2 (xb4 c h u) 0 1))
noncomputable abbrev x15y:=VX x31 6 r_2
theorem xo6:x15y c h u (xpd x31) r_2 eNil=j1 (xb5 c h u) 0:=(kq (j1 (xb5 c h u) 0))
noncomputable abbrev x15z:=VX x32 15 r_0
theorem xo7:x15z c h u (xpd x32) r_0 eNil=j3 (xb6 c h u) 0 1 2:=(kq (j3 (xb6 c h u) 0 1 2))
noncomputable abbrev x160:=VX x4c 40 r_11
theorem xo8:x160 c h u (xpd x4c) r_11 eNil=j2 (xba c h u) 0 1:=(tq (j2 (xba c h u) 0 1) (sqN 3 (sq2 (sq2 (kq (j0 (xfy c h u))) (tq (j2 (xg0 c h u) 1 6) (sqN 1 (bk 2 (lq (xb8 c h u) (λr=>j3 r 1 31 32) λrec0=>(kq (j3 (xfz c h u rec0) 1 31 32))))))) (tq (j2 (xg2 c h u) 1 6) (sqN 1 (bk 0 (lq (xb9 c h u) (λr=>j4 r 1 6 18 19) λs=>(kq (j4 (xg1 c h u s) 1 6 18 19)))))))))
noncomputable abbrev x161:=VX x4d 15 r_2
theorem xo9:x161 c h u (xpd x4d) r_2 eNil=j1 (xbb c h u) 0:=(kq (j1 (xbb c h u) 0))
noncomputable abbrev x162:=VX x4e 15 r_2
theorem xoa:x162 c h u (xpd x4e) r_2 eNil=j1 (xbc c h u) 0:=(kq (j1 (xbc c h u) 0))
noncomputable abbrev x163:=VX x4f 167 r_24
theorem xob:x163 c h u (xpd x4f) r_24 eNil=j2 (xbg c h u) 0 1:=(tq (j2 (xbg c h u) 0 1) (sqN 1 (sq2 (tq (j3 (xg5 c h u) 0 1 4) (sqN 1 (sq2 (sq2 (kq (j3 (xbd c h u) 0 4 12)) (kq (j3 (xbe c h u) 0 4 12))) (kq (j3 (xg4 c h u) 0 4 12))))) (bk 0 (lq (xbf c h u) (λr=>j3 r 0 1 4) λrec0=>(kq (j3 (xg6 c h u rec0) 0 1 4)))))))
noncomputable abbrev x164:=VX x4g 102 r_26
theorem xoc:x164 c h u (xpd x4g) r_26 eNil=j5 (xbm c h u) 0 1 2 3 4:=(tq (j5 (xbm c h u) 0 1 2 3 4) (sqN 1 (sq2 (tq (j7 (xgf c h u) 0 1 2 3 4 10 11) (sqN 2 (sq2 (sq2 (sq2 (kq (j6 (xbh c h u) 0 4 10 11 12 13)) (kq (j7 (xbi c h u) 0 3 4 10 11 12 13))) (tq (j9 (xbl c h u) 0 1 2 3 4 10 11 12 13) (sqN 1 (tq (j10 (xgd c h u) 0 1 2 3 4 10 11 12 13 34) (cd (tq (j9 (xg9 c h u) 0 1 2 3 4 10 11 12 13) (sqN 3 (sq2 (kq (j8 (xg7 c h u) 0 1 3 4 10 11 12 13)) (bk 0 (lq (xbj c h u) (λr=>j11 r 0 1 3 4 10 11 12 13 14 15 16) λrec0=>(kq (j11 (xg8 c h u rec0) 0 1 3 4 10 11 12 13 14 15 16))))))) (tq (j9 (xgc c h u) 0 1 2 3 4 10 11 12 13) (sqN 1 (sq2 (kq (j8 (xga c h u) 0 1 3 4 10 11 12 13)) (bk 2 (lq (xbk c h u) (λr=>j9 r 0 1 3 4 10 11 12 13 17) λs=>(kq (j9 (xgb c h u s) 0 1 3 4 10 11 12 13 17)))))))))))) (kq (j9 (xge c h u) 0 1 2 3 4 10 11 12 13))))) (kq (j7 (xgg c h u) 0 1 2 3 4 10 11)))))
noncomputable abbrev x165:=VX x4h 117 r_18
theorem xod:x165 c h u (xpd x4h) r_18 eNil=j1 (xbn c h u) 0:=(kq (j1 (xbn c h u) 0))
noncomputable abbrev x166:=VX x27 143 r_11
theorem xoe:x166 c h u (xpd x27) r_11 eNil=j2 (x69 c h u) 0 1:=(tq (j2 (x69 c h u) 0 1) (sqN 8 (sq2 (kq (j0 (xgh c h u))) (bk 1 (lq (xbp c h u) (λr=>j8 r 0 1 5 6 7 8 9 10) λrec0=>(tq (j8 (xgk c h u rec0) 0 1 5 6 7 8 9 10) (sqN 1 (bk 2 (sq2 (kq (j8 (xbo c h u rec0) 0 1 5 6 7 8 9 10)) (kq (j8 (xgj c h u rec0) 0 1 5 6 7 8 9 10)))))))))))
noncomputable abbrev x167:=VX x4i 172 r_9
theorem xof:x167 c h u (xpd x4i) r_9 eNil=j3 (xbu c h u) 0 1 2:=(tq (j3 (xbu c h u) 0 1 2) (sqN 4 (sq2 (sq2 (tq (j5 (xbt c h u) 0 1 2 8 9) (sqN 1 (sq2 (tq (j6 (x6a c h u) 0 1 2 8 9 10) (sqN 3 (sq2 (kq (j3 (xgl c h u) 9 12 13)) (tq (j8 (xgp c h u) 0 1 8 9 10 11 12 13) (sqN 1 (bk 3 (lq (xbs c h u) (λr=>j10 r 1 8 9 10 11 12 13 99 100 101) λrec0=>(tq (j10 (xgo c h u rec0) 1 8 9 10 11 12 13 99 100 101) (sqN 2 (sq2 (kq (j10 (xbq c h u rec0) 1 8 9 10 11 12 13 99 100 101)) (bk 4 (tq (j10 (xgn c h u rec0) 1 8 9 10 11 12 13 99 100 101) (sqN 2 (sq2 (kq (j11 (xbr c h u rec0) 1 8 9 10 11 12 13 16 99 100 101)) (kq (j11 (xgm c h u rec0) 1 8 9 10 11 12 13 15 99 100 101)))))))))))))))) (kq (j5 (xgq c h u) 0 1 2 8 9))))) (kq (j5 (x1q c h u) 0 1 2 8 9))) (kq (j5 (xgr c h u) 0 1 2 8 9)))))
noncomputable abbrev x168:=VX x1m 18 r_2
theorem xog:x168 c h u (xpd x1m) r_2 eNil=j1 (xbv c h u) 0:=(kq (j1 (xbv c h u) 0))
noncomputable abbrev x169:=VX x33 7 r_2
theorem xoh:x169 c h u (xpd x33) r_2 eNil=j1 (xbw c h u) 0:=(kq (j1 (xbw c h u) 0))
noncomputable abbrev x16a:=VX x34 6 r_2
theorem xoi:x16a c h u (xpd x34) r_2 eNil=j1 (xbx c h u) 0:=(kq (j1 (xbx c h u) 0))
noncomputable abbrev x16b:=VX x4j 15 r_11
theorem xoj:x16b c h u (xpd x4j) r_11 eNil=j2 (xby c h u) 0 1:=(tq (j2 (xby c h u) 0 1) (sqN 1 (sq2 (kq (j1 (x6b c h u) 0)) (kq (j2 (xgs c h u) 0 1)))))
noncomputable abbrev x16c:=VX x4k 7 r_2
theorem xok:x16c c h u (xpd x4k) r_2 eNil=j1 (xbz c h u) 0:=(kq (j1 (xbz c h u) 0))
noncomputable abbrev x16d:=VX x28 7 r_2
theorem xol:x16d c h u (xpd x28) r_2 eNil=j1 (xc0 c h u) 0:=(kq (j1 (xc0 c h u) 0))
noncomputable abbrev x16e:=VX x4l 6 r_2
theorem xom:x16e c h u (xpd x4l) r_2 eNil=j1 (xc2 c h u) 0:=(kq (j1 (xc2 c h u) 0))
noncomputable abbrev x16f:=VX x4m 25 r_2
theorem xon:x16f c h u (xpd x4m) r_2 eNil=j1 (xc6 c h u) 0:=(tq (j1 (xc6 c h u) 0) (sqN 1 (sq2 (sq2 (sq2 (kq (j2 (xc3 c h u) 0 2)) (kq (j2 (xc4 c h u) 0 2))) (kq (j2 (xc5 c h u) 0 2))) (kq (j2 (xgt c h u) 0 2)))))
noncomputable abbrev x16g:=VX x4n 4 r_2
theorem xoo:x16g c h u (xpd x4n) r_2 eNil=j1 (xc7 c h u) 0:=(kq (j1 (xc7 c h u) 0))
noncomputable abbrev x16h:=VX x4o 8 r_2
theorem xop:x16h c h u (xpd x4o) r_2 eNil=j1 (xc8 c h u) 0:=(kq (j1 (xc8 c h u) 0))
noncomputable abbrev x16i:=VX x4p 8 r_2
theorem xoq:x16i c h u (xpd x4p) r_2 eNil=j1 (xc9 c h u) 0:=(kq (j1 (xc9 c h u) 0))
noncomputable abbrev x16j:=VX x1n 8 r_11
theorem xor:x16j c h u (xpd x1n) r_11 eNil=j2 (x6d c h u) 0 1:=(kq (j2 (x6d c h u) 0 1))
noncomputable abbrev x16k:=VX x4q 6 r_2
theorem xos:x16k c h u (xpd x4q) r_2 eNil=j1 (xca c h u) 0:=(kq (j1 (xca c h u) 0))
noncomputable abbrev x16l:=VX x4r 81 r_11
theorem xot:x16l c h u (xpd x4r) r_11 eNil=j2 (xcd c h u) 0 1:=(tq (j2 (xcd c h u) 0 1) (sqN 4 (sq2 (tq (j6 (xgx c h u) 0 1 5 6 7 8) (sqN 1 (sq2 (kq (j0 (xgu c h u))) (tq (j6 (xgw c h u) 0 1 5 6 7 8) (sqN 1 (bk 2 (lq (xcb c h u) (λr=>j7 r 0 1 5 6 7 8 10) λrec0=>(kq (j7 (xgv c h u rec0) 0 1 5 6 7 8 10))))))))) (tq (j6 (xgz c h u) 0 1 5 6 7 8) (sqN 1 (bk 0 (lq (xcc c h u) (λr=>j7 r 0 1 5 6 7 8 9) λs=>(kq (j7 (xgy c h u s) 0 1 5 6 7 8 9)))))))))
noncomputable abbrev x16m:=VX xn 5 r_2
theorem xou:x16m c h u (xpd xn) r_2 eNil=j1 (xce c h u) 0:=(kq (j1 (xce c h u) 0))
noncomputable abbrev x16n:=VX x4s 94 r_2
theorem xov:x16n c h u (xpd x4s) r_2 eNil=j1 (xcg c h u) 0:=(tq (j1 (xcg c h u) 0) (sqN 3 (sq2 (tq (j3 (xcf c h u) 0 3 4) (sqN 1 (sq2 (sq2 (kq (j1 (xh0 c h u) 3)) (bk 0 (lq (x6f c h u) (λr=>j4 r 0 3 4 5) λrec0=>(tq (j4 (xh2 c h u rec0) 0 3 4 5) (sqN 1 (sq2 (kq (j4 (x6e c h u rec0) 0 3 4 5)) (kq (j4 (xh1 c h u rec0) 0 3 4 5)))))))) (kq (j4 (xh3 c h u) 0 3 4 5))))) (kq (j3 (xh4 c h u) 0 3 4)))))
noncomputable abbrev x16o:=VX x4t 26 r_2
theorem xow:x16o c h u (xpd x4t) r_2 eNil=j1 (xci c h u) 0:=(tq (j1 (xci c h u) 0) (sqN 4 (sq2 (kq (j1 (xch c h u) 3)) (kq (j2 (xh5 c h u) 3 4)))))
noncomputable abbrev x16p:=VX x4u 14 r_2
theorem xox:x16p c h u (xpd x4u) r_2 eNil=j1 (xcj c h u) 0:=(kq (j1 (xcj c h u) 0))
noncomputable abbrev x16q:=VX x4v 14 r_2
theorem xoy:x16q c h u (xpd x4v) r_2 eNil=j1 (xck c h u) 0:=(kq (j1 (xck c h u) 0))
noncomputable abbrev x16r:=VX x4w 39 r_18
theorem xoz:x16r c h u (xpd x4w) r_18 eNil=j1 (xco c h u) 0:=(tq (j1 (xco c h u) 0) (sqN 2 (sq2 (tq (j2 (xhb c h u) 0 4) (sqN 1 (sq2 (kq (j2 (xh6 c h u) 4 6)) (tq (j4 (xha c h u) 0 4 6 7) (sqN 1 (bk 2 (lq (xcm c h u) (λr=>j4 r 4 6 7 8) λrec0=>(tq (j4 (xh9 c h u rec0) 4 6 7 8) (sqN 1 (sq2 (kq (j4 (xh7 c h u rec0) 4 6 7 8)) (bk 3 (sq2 (kq (j4 (xcl c h u rec0) 4 6 7 8)) (kq (j4 (xh8 c h u rec0) 4 6 7 8)))))))))))))) (tq (j2 (xhd c h u) 0 4) (sqN 1 (bk 0 (lq (xcn c h u) (λr=>j3 r 0 4 5) λs=>(kq (j3 (xhc c h u s) 0 4 5)))))))))
noncomputable abbrev x16s:=VX x4x 13 r_11
theorem xp0:x16s c h u (xpd x4x) r_11 eNil=j2 (xcp c h u) 0 1:=(kq (j2 (xcp c h u) 0 1))
end Go.Ix
