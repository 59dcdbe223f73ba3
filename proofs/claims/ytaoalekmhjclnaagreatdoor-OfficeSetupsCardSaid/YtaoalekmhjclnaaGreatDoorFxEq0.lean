import Derived.Test.YtaoalekmhjclnaaGreatDoorFxText0
import Derived.Test.YtaoalekmhjclnaaGreatDoorFxText1
import Derived.Test.YtaoalekmhjclnaaGreatDoorFxEnt
import Derived.Test.YtaoalekmhjclnaaGreatDoorFxRules
import Derived.Test.YtaoalekmhjclnaaGreatDoorFxProj
import Derived.ProofKit
set_option linter.unusedVariables false
namespace Go.Ix
open Go.Proofs
variable{c:x17y}{h:FHs}{u:Nat}
noncomputable abbrev x1mj:=VX x4b 65 r_0
theorem x11m:x1mj c h u (x181 x4b) r_0 eNil=j2 (x8f c h u) 0 1:=(tq (j2 (x8f c h u) 0 1) (sqN 7 (sq2 (kq (j5 (x3j c h u) 1 2 6 7 8)) (kq (j5 (xcq c h u) 1 2 6 7 8)))))
noncomputable abbrev x1mk:=VX x2x 71 r_1
theorem x11n:x1mk c h u (x181 x2x) r_1 eNil=j0 (xcr c h u):=(kq (j0 (xcr c h u)))
noncomputable abbrev x1ml:=VX x1u 77 r_2
theorem x11o:x1ml c h u (x181 x1u) r_2 eNil=j1 (x8k c h u) 0:=(tq (j1 (x8k c h u) 0) (sqN 2 (sq2 (sq2 (sq2 (kq (j0 (xcs c h u))) (tq (j1 (xct c h u) 1) (sqN 1 (bk 4 (lq (x3l c h u) (λr=>j2 r 1 5) λrec0=>(kq (j2 (x8h c h u rec0) 1 5))))))) (tq (j1 (xcu c h u) 1) (sqN 1 (bk 2 (lq (x3m c h u) (λr=>j2 r 1 4) λs=>(kq (j2 (x8i c h u s) 1 4))))))) (tq (j1 (xcv c h u) 1) (sqN 1 (bk 0 (lq (x3n c h u) (λr=>j2 r 1 3) λw=>(kq (j2 (x8j c h u w) 1 3)))))))))
noncomputable abbrev x1mm:=VX x11 129 r_2
theorem x11p:x1mm c h u (x181 x11) r_2 eNil=j1 (x8q c h u) 0:=(tq (j1 (x8q c h u) 0) (sqN 2 (sq2 (tq (j1 (x8o c h u) 1) (sqN 1 (sq2 (tq (j1 (x8m c h u) 1) (sqN 1 (sq2 (kq (j0 (xcw c h u))) (tq (j1 (xcx c h u) 1) (sqN 1 (bk 6 (lq (x3o c h u) (λr=>j4 r 1 107 108 109) λrec0=>(kq (j4 (x8l c h u rec0) 1 107 108 109))))))))) (tq (j1 (xcy c h u) 1) (sqN 1 (bk 3 (lq (x2f c h u) (λr=>j4 r 1 60 61 62) λs=>(kq (j4 (x8n c h u s) 1 60 61 62))))))))) (tq (j1 (xcz c h u) 1) (sqN 1 (bk 1 (lq (x3p c h u) (λr=>j4 r 1 30 31 32) λw=>(kq (j4 (x8p c h u w) 1 30 31 32)))))))))
noncomputable abbrev x1mn:=VX x1g 40 r_3
theorem x11q:x1mn c h u (x181 x1g) r_3 eNil=j1 (x8t c h u) 0:=(tq (j1 (x8t c h u) 0) (sqN 2 (sq2 (kq (j2 (x8r c h u) 1 2)) (tq (j2 (xd0 c h u) 1 2) (sqN 1 (bk 0 (lq (x3q c h u) (λr=>j3 r 1 2 3) λrec0=>(kq (j3 (x8s c h u rec0) 1 2 3)))))))))
noncomputable abbrev x1mo:=VX x1v 39 r_4
theorem x11r:x1mo c h u (x181 x1v) r_4 eNil=j2 (x8u c h u) 0 1:=(tq (j2 (x8u c h u) 0 1) (sqN 6 (sq2 (kq (j1 (xd1 c h u) 9)) (tq (j4 (xd4 c h u) 2 7 8 9) (sqN 1 (bk 0 (tq (j3 (xd3 c h u) 2 9 27) (rg (.tmp 27) #[28] (λu=>(kq (j3 (xd2 c h u) 2 9 10))) (λu=>(kq (j3 (x59 c h u) 2 9 28)))))))))))
noncomputable abbrev x1mp:=VX x1w 27 r_2
theorem x11s:x1mp c h u (x181 x1w) r_2 eNil=j1 (x8v c h u) 0:=(kq (j1 (x8v c h u) 0))
noncomputable abbrev x1mq:=VX x1h 22 r_0
theorem x11t:x1mq c h u (x181 x1h) r_0 eNil=j2 (x8x c h u) 0 1:=(tq (j2 (x8x c h u) 0 1) (sqN 1 (sq2 (kq (j0 (xd6 c h u))) (tq (j2 (xd7 c h u) 1 2) (sqN 1 (bk 0 (lq (x3r c h u) (λr=>j3 r 1 2 5) λrec0=>(kq (j3 (x8w c h u rec0) 1 2 5)))))))))
noncomputable abbrev x1mr:=VX x1x 26 r_0
theorem x11u:x1mr c h u (x181 x1x) r_0 eNil=j2 (x8z c h u) 0 1:=(tq (j2 (x8z c h u) 0 1) (sqN 2 (sq2 (kq (j0 (xd8 c h u))) (tq (j2 (xd9 c h u) 0 1) (sqN 1 (bk 0 (lq (x3s c h u) (λr=>j3 r 0 1 5) λrec0=>(kq (j3 (x8y c h u rec0) 0 1 5)))))))))
noncomputable abbrev x1ms:=VX x1y 26 r_0
theorem x11v:x1ms c h u (x181 x1y) r_0 eNil=j2 (x91 c h u) 0 1:=(tq (j2 (x91 c h u) 0 1) (sqN 2 (sq2 (kq (j1 (xda c h u) 5)) (tq (j3 (xdb c h u) 1 2 5) (sqN 1 (bk 0 (lq (x3t c h u) (λr=>j4 r 1 2 5 6) λrec0=>(kq (j4 (x90 c h u rec0) 1 2 5 6)))))))))
noncomputable abbrev x1mt:=VX x1z 32 r_0
theorem x11w:x1mt c h u (x181 x1z) r_0 eNil=j2 (x94 c h u) 0 1:=(tq (j2 (x94 c h u) 0 1) (sqN 2 (sq2 (kq (j1 (xdc c h u) 5)) (tq (j3 (xde c h u) 1 2 5) (sqN 1 (bk 0 (lq (x3u c h u) (λr=>j4 r 1 2 5 6) λrec0=>(tq (j4 (x93 c h u rec0) 1 2 5 6) (sqN 1 (sq2 (kq (j4 (x92 c h u rec0) 1 2 5 6)) (kq (j4 (xdd c h u rec0) 1 2 5 6))))))))))))
noncomputable abbrev x1mu:=VX x5l 128 r_5
theorem x11x:x1mu c h u (x181 x5l) r_5 eNil=j1 (xdh c h u) 0:=(tq (j1 (xdh c h u) 0) (sqN 2 (sq2 (tq (j1 (xmz c h u) 1) (sqN 1 (sq2 (kq (j1 (xmv c h u) 1)) (tq (j1 (xmx c h u) 1) (sqN 1 (bk 3 (lq (xdf c h u) (λr=>j4 r 1 83 84 85) λrec0=>(kq (j4 (xmw c h u rec0) 1 83 84 85))))))))) (tq (j1 (xn1 c h u) 1) (sqN 1 (bk 0 (lq (xdg c h u) (λr=>j4 r 1 14 15 16) λs=>(kq (j4 (xn0 c h u s) 1 14 15 16)))))))))
noncomputable abbrev x1mv:=VX x5m 21 r_4
theorem x11y:x1mv c h u (x181 x5m) r_4 eNil=j2 (xdi c h u) 0 1:=(kq (j2 (xdi c h u) 0 1))
noncomputable abbrev x1mw:=VX x5n 31 r_6
theorem x11z:x1mw c h u (x181 x5n) r_6 eNil=j3 (xdk c h u) 0 1 2:=(kq (j3 (xdk c h u) 0 1 2))
noncomputable abbrev x1mx:=VX x4c 18 r_7
theorem x120:x1mx c h u (x181 x4c) r_7 eNil=j0 (xdl c h u):=(kq (j0 (xdl c h u)))
noncomputable abbrev x1my:=VX x4d 7 r_1
theorem x121:x1my c h u (x181 x4d) r_1 eNil=j0 (xdm c h u):=(kq (j0 (xdm c h u)))
noncomputable abbrev x1mz:=VX x5o 38 r_8
theorem x122:x1mz c h u (x181 x5o) r_8 eNil=j3 (xdn c h u) 0 1 2:=(kq (j3 (xdn c h u) 0 1 2))
noncomputable abbrev x1n0:=VX x5p 12 r_5
theorem x123:x1n0 c h u (x181 x5p) r_5 eNil=j1 (xdo c h u) 0:=(kq (j1 (xdo c h u) 0))
noncomputable abbrev x1n1:=VX x5q 9 r_9
theorem x124:x1n1 c h u (x181 x5q) r_9 eNil=j0 (xdp c h u):=(kq (j0 (xdp c h u)))
noncomputable abbrev x1n2:=VX xm 15 r_10
theorem x125:x1n2 c h u (x181 xm) r_10 eNil=j3 (x97 c h u) 0 1 2:=(kq (j3 (x97 c h u) 0 1 2))
noncomputable abbrev x1n3:=VX x18 15 r_2
theorem x126:x1n3 c h u (x181 x18) r_2 eNil=j1 (x99 c h u) 0:=(tq (j1 (x99 c h u) 0) (sqN 1 (sq2 (kq (j0 (xdq c h u))) (tq (j1 (xdr c h u) 0) (sqN 1 (bk 0 (lq (x3v c h u) (λr=>j3 r 5 6 7) λrec0=>(kq (j3 (x98 c h u rec0) 5 6 7)))))))))
noncomputable abbrev x1n4:=VX xv 21 r_10
theorem x127:x1n4 c h u (x181 xv) r_10 eNil=j3 (x9b c h u) 0 1 2:=(tq (j3 (x9b c h u) 0 1 2) (sqN 2 (sq2 (kq (j0 (xds c h u))) (tq (j3 (xdt c h u) 0 1 2) (sqN 1 (bk 0 (lq (x3w c h u) (λr=>j4 r 0 1 11 12) λrec0=>(kq (j4 (x9a c h u rec0) 0 1 11 12)))))))))
noncomputable abbrev x1n5:=VX x20 10 r_11
theorem x128:x1n5 c h u (x181 x20) r_11 eNil=j2 (x9c c h u) 0 1:=(kq (j2 (x9c c h u) 0 1))
noncomputable abbrev x1n6:=VX x21 100 r_2
theorem x129:x1n6 c h u (x181 x21) r_2 eNil=j1 (x9h c h u) 0:=(tq (j1 (x9h c h u) 0) (sqN 3 (sq2 (tq (j1 (x9f c h u) 0) (sqN 1 (sq2 (kq (j0 (xdu c h u))) (tq (j1 (xe0 c h u) 7) (sqN 1 (bk 3 (lq (x2j c h u) (λr=>j4 r 7 43 44 45) λrec0=>(tq (j4 (x9e c h u rec0) 7 43 44 45) (sqN 2 (sq2 (kq (j4 (xdv c h u rec0) 7 43 44 45)) (bk 4 (tq (j4 (xdz c h u rec0) 7 43 44 45) (sqN 2 (bk 5 (lq (x2i c h u rec0) (λr=>j9 r 7 8 9 43 44 45 52 53 54) λs=>(tq (j9 (x9d c h u rec0 s) 7 8 9 43 44 45 52 53 54) (sqN 2 (sq2 (kq (j9 (xdw c h u rec0 s) 7 8 9 43 44 45 52 53 54)) (bk 6 (tq (j9 (xdy c h u rec0 s) 7 8 9 43 44 45 52 53 54) (sqN 2 (sq2 (kq (j10 (x3x c h u rec0 s) 7 8 9 12 43 44 45 52 53 54)) (kq (j11 (xdx c h u rec0 s) 7 8 9 10 11 43 44 45 52 53 54)))))))))))))))))))))))) (tq (j2 (xe1 c h u) 0 3) (sqN 1 (bk 1 (lq (x3y c h u) (λr=>j5 r 0 3 22 23 24) λw=>(kq (j5 (x9g c h u w) 0 3 22 23 24)))))))))
noncomputable abbrev x1n7:=VX xp 5 r_2
theorem x12a:x1n7 c h u (x181 xp) r_2 eNil=j1 (xe2 c h u) 0:=(kq (j1 (xe2 c h u) 0))
noncomputable abbrev x1n8:=VX x1i 10 r_0
theorem x12b:x1n8 c h u (x181 x1i) r_0 eNil=j2 (x9i c h u) 0 1:=(kq (j2 (x9i c h u) 0 1))
noncomputable abbrev x1n9:=VX x1j 10 r_11
theorem x12c:x1n9 c h u (x181 x1j) r_11 eNil=j2 (x9j c h u) 0 1:=(kq (j2 (x9j c h u) 0 1))
noncomputable abbrev x1na:=VX x22 10 r_11
theorem x12d:x1na c h u (x181 x22) r_11 eNil=j2 (x9k c h u) 0 1:=(kq (j2 (x9k c h u) 0 1))
noncomputable abbrev x1nb:=VX x23 9 r_2
theorem x12e:x1nb c h u (x181 x23) r_2 eNil=j1 (x9l c h u) 0:=(kq (j1 (x9l c h u) 0))
noncomputable abbrev x1nc:=VX x1k 12 r_0
theorem x12f:x1nc c h u (x181 x1k) r_0 eNil=j2 (x9n c h u) 0 1:=(kq (j2 (x9n c h u) 0 1))
noncomputable abbrev x1nd:=VX x1l 6 r_0
theorem x12g:x1nd c h u (x181 x1l) r_0 eNil=j2 (x9o c h u) 0 1:=(kq (j2 (x9o c h u) 0 1))
noncomputable abbrev x1ne:=VX xq 15 r_10
theorem x12h:x1ne c h u (x181 xq) r_10 eNil=j3 (x5d c h u) 0 1 2:=(kq (j3 (x5d c h u) 0 1 2))
noncomputable abbrev x1nf:=VX x2y 46 r_2
theorem x12i:x1nf c h u (x181 x2y) r_2 eNil=j1 (x9q c h u) 0:=(tq (j1 (x9q c h u) 0) (sqN 3 (sq2 (kq (j0 (xe4 c h u))) (tq (j2 (xe5 c h u) 1 3) (sqN 1 (bk 0 (lq (x3z c h u) (λr=>j3 r 1 3 4) λrec0=>(kq (j3 (x9p c h u rec0) 1 3 4)))))))))
noncomputable abbrev x1ng:=VX x2z 39 r_2
theorem x12j:x1ng c h u (x181 x2z) r_2 eNil=j1 (x9s c h u) 0:=(tq (j1 (x9s c h u) 0) (sqN 3 (sq2 (kq (j0 (xe6 c h u))) (tq (j2 (xe7 c h u) 1 3) (sqN 1 (bk 0 (lq (x40 c h u) (λr=>j3 r 1 3 4) λrec0=>(kq (j3 (x9r c h u rec0) 1 3 4)))))))))
noncomputable abbrev x1nh:=VX x30 53 r_2
theorem x12k:x1nh c h u (x181 x30) r_2 eNil=j1 (x9u c h u) 0:=(tq (j1 (x9u c h u) 0) (sqN 4 (sq2 (kq (j0 (xe8 c h u))) (tq (j2 (xe9 c h u) 1 3) (sqN 1 (bk 0 (lq (x41 c h u) (λr=>j3 r 1 3 4) λrec0=>(kq (j3 (x9t c h u rec0) 1 3 4)))))))))
noncomputable abbrev x1ni:=VX x31 58 r_0
theorem x12l:x1ni c h u (x181 x31) r_0 eNil=j2 (x9w c h u) 0 1:=(tq (j2 (x9w c h u) 0 1) (sqN 2 (sq2 (kq (j1 (xea c h u) 5)) (tq (j3 (xec c h u) 0 3 5) (sqN 1 (bk 0 (lq (x2k c h u) (λr=>j4 r 0 3 5 6) λrec0=>(tq (j4 (x9v c h u rec0) 0 3 5 6) (sqN 1 (sq2 (kq (j4 (x5e c h u rec0) 0 3 5 6)) (kq (j4 (xeb c h u rec0) 0 3 5 6))))))))))))
noncomputable abbrev x1nj:=VX x5s 10 r_11
theorem x12m:x1nj c h u (x181 x5s) r_11 eNil=j2 (xed c h u) 0 1:=(kq (j2 (xed c h u) 0 1))
noncomputable abbrev x1nk:=VX x32 5 r_2
theorem x12n:x1nk c h u (x181 x32) r_2 eNil=j1 (xee c h u) 0:=(kq (j1 (xee c h u) 0))
noncomputable abbrev x1nl:=VX x1m 5 r_2
theorem x12o:x1nl c h u (x181 x1m) r_2 eNil=j1 (xef c h u) 0:=(kq (j1 (xef c h u) 0))
noncomputable abbrev x1nm:=VX x5t 14 r_12
theorem x12p:x1nm c h u (x181 x5t) r_12 eNil=j1 (xeg c h u) 0:=(kq (j1 (xeg c h u) 0))
noncomputable abbrev x1nn:=VX x5u 62 r_4
theorem x12q:x1nn c h u (x181 x5u) r_4 eNil=j2 (xei c h u) 0 1:=(tq (j2 (xei c h u) 0 1) (sqN 2 (sq2 (kq (j1 (xn3 c h u) 6)) (tq (j3 (xn5 c h u) 1 2 6) (sqN 1 (bk 0 (lq (xeh c h u) (λr=>j6 r 1 2 6 9 10 11) λrec0=>(kq (j6 (xn4 c h u rec0) 1 2 6 9 10 11)))))))))
noncomputable abbrev x1no:=VX x1n 55 r_2
theorem x12r:x1no c h u (x181 x1n) r_2 eNil=j1 (x9y c h u) 0:=(tq (j1 (x9y c h u) 0) (sqN 2 (sq2 (kq (j0 (xej c h u))) (tq (j1 (xek c h u) 0) (sqN 1 (bk 0 (lq (x2l c h u) (λr=>j2 r 0 3) λrec0=>(kq (j2 (x9x c h u rec0) 0 3)))))))))
noncomputable abbrev x1np:=VX x19 18 r_0
theorem x12s:x1np c h u (x181 x19) r_0 eNil=j2 (xem c h u) 0 1:=(tq (j2 (xem c h u) 0 1) (sqN 1 (sq2 (kq (j0 (xel c h u))) (tq (j2 (xn6 c h u) 0 1) (sqN 1 (bk 0 (lq (x42 c h u) (λr=>j3 r 0 1 5) λrec0=>(kq (j3 (x9z c h u rec0) 0 1 5)))))))))
noncomputable abbrev x1nq:=VX x5v 36 r_0
theorem x12t:x1nq c h u (x181 x5v) r_0 eNil=j2 (xeo c h u) 0 1:=(tq (j2 (xeo c h u) 0 1) (sqN 2 (sq2 (kq (j1 (xn7 c h u) 5)) (bk 0 (lq (xen c h u) (λr=>j3 r 1 2 5) λrec0=>(kq (j3 (xn8 c h u rec0) 1 2 5)))))))
noncomputable abbrev x1nr:=VX x5w 57 r_13
theorem x12u:x1nr c h u (x181 x5w) r_13 eNil=j3 (xep c h u) 0 1 2:=(kq (j3 (xep c h u) 0 1 2))
noncomputable abbrev x1ns:=VX x5x 22 r_14
theorem x12v:x1ns c h u (x181 x5x) r_14 eNil=j1 (xeq c h u) 0:=(kq (j1 (xeq c h u) 0))
noncomputable abbrev x1nt:=VX x4e 28 r_15
theorem x12w:x1nt c h u (x181 x4e) r_15 eNil=j3 (xer c h u) 0 1 2:=(kq (j3 (xer c h u) 0 1 2))
noncomputable abbrev x1nu:=VX x4f 19 r_2
theorem x12x:x1nu c h u (x181 x4f) r_2 eNil=j1 (xet c h u) 0:=(tq (j1 (xet c h u) 0) (sqN 1 (sq2 (kq (j0 (xna c h u))) (tq (j1 (xnc c h u) 1) (sqN 1 (bk 0 (lq (xes c h u) (λr=>j2 r 1 3) λrec0=>(kq (j2 (xnb c h u rec0) 1 3)))))))))
noncomputable abbrev x1nv:=VX x4g 38 r_16
theorem x12y:x1nv c h u (x181 x4g) r_16 eNil=j2 (xev c h u) 0 1:=(tq (j2 (xev c h u) 0 1) (sqN 4 (sq2 (kq (j1 (xnd c h u) 8)) (tq (j2 (xnf c h u) 1 8) (sqN 1 (bk 0 (lq (xeu c h u) (λr=>j4 r 8 21 22 23) λrec0=>(kq (j4 (xne c h u rec0) 8 21 22 23)))))))))
noncomputable abbrev x1nw:=VX x5y 104 r_17
theorem x12z:x1nw c h u (x181 x5y) r_17 eNil=j2 (xex c h u) 0 1:=(tq (j2 (xex c h u) 0 1) (sqN 3 (sq2 (sq2 (kq (j2 (xa0 c h u) 4 5)) (kq (j4 (xng c h u) 4 5 6 7))) (tq (j6 (xns c h u) 2 3 4 5 6 7) (sqN 1 (bk 0 (tq (j7 (xnr c h u) 2 3 4 5 6 7 15) (rg (.tmp 15) #[16] (λu=>(bk 1 (tq (j6 (xnp c h u) 2 3 5 6 7 8) (sqN 4 (bk 2 (tq (j7 (xno c h u) 2 3 5 7 9 10 32) (sqN 1 (tq (j8 (xnn c h u) 2 3 5 7 9 10 32 64) (cd (kq (j2 (xnh c h u) 5 9)) (tq (j7 (xnm c h u) 2 3 5 7 9 10 32) (sqN 1 (tq (j7 (xnl c h u) 2 3 5 7 9 10 72) (cd (kq (j2 (xni c h u) 5 9)) (tq (j6 (xnk c h u) 2 3 5 7 9 10) (sqN 1 (sq2 (kq (j2 (xew c h u) 7 11)) (kq (j4 (xnj c h u) 5 7 9 11)))))))))))))))))) (λu=>(kq (j6 (xnq c h u) 2 3 5 6 7 16)))))))))))
noncomputable abbrev x1nx:=VX x5z 29 r_2
theorem x130:x1nx c h u (x181 x5z) r_2 eNil=j1 (xez c h u) 0:=(tq (j1 (xez c h u) 0) (sqN 2 (sq2 (kq (j0 (xnu c h u))) (tq (j1 (xnw c h u) 0) (sqN 1 (bk 0 (lq (xey c h u) (λr=>j3 r 8 9 10) λrec0=>(kq (j3 (xnv c h u rec0) 8 9 10)))))))))
noncomputable abbrev x1ny:=VX x60 17 r_2
theorem x131:x1ny c h u (x181 x60) r_2 eNil=j1 (xf1 c h u) 0:=(tq (j1 (xf1 c h u) 0) (sqN 2 (sq2 (kq (j1 (xnx c h u) 3)) (tq (j2 (xnz c h u) 0 3) (sqN 1 (bk 0 (lq (xf0 c h u) (λr=>j4 r 3 6 7 8) λrec0=>(kq (j4 (xny c h u rec0) 3 6 7 8)))))))))
noncomputable abbrev x1nz:=VX x24 54 r_2
theorem x132:x1nz c h u (x181 x24) r_2 eNil=j1 (xa2 c h u) 0:=(tq (j1 (xa2 c h u) 0) (sqN 1 (sq2 (kq (j1 (xf2 c h u) 0)) (tq (j1 (xf3 c h u) 0) (sqN 1 (bk 0 (lq (x2m c h u) (λr=>j4 r 0 7 8 9) λrec0=>(kq (j4 (xa1 c h u rec0) 0 7 8 9)))))))))
noncomputable abbrev x1o0:=VX x25 12 r_2
theorem x133:x1o0 c h u (x181 x25) r_2 eNil=j1 (xa3 c h u) 0:=(kq (j1 (xa3 c h u) 0))
noncomputable abbrev x1o1:=VX x26 8 r_18
theorem x134:x1o1 c h u (x181 x26) r_18 eNil=j1 (xf4 c h u) 0:=(kq (j1 (xf4 c h u) 0))
noncomputable abbrev x1o2:=VX x1o 48 r_0
theorem x135:x1o2 c h u (x181 x1o) r_0 eNil=j2 (xa5 c h u) 0 1:=(tq (j2 (xa5 c h u) 0 1) (sqN 2 (sq2 (kq (j1 (xf5 c h u) 5)) (tq (j3 (xf6 c h u) 0 1 5) (sqN 1 (bk 0 (lq (x43 c h u) (λr=>j6 r 0 1 5 9 10 11) λrec0=>(kq (j6 (xa4 c h u rec0) 0 1 5 9 10 11)))))))))
noncomputable abbrev x1o3:=VX xn 21 r_0
theorem x136:x1o3 c h u (x181 xn) r_0 eNil=j2 (xa6 c h u) 0 1:=(kq (j2 (xa6 c h u) 0 1))
noncomputable abbrev x1o4:=VX x33 47 r_0
theorem x137:x1o4 c h u (x181 x33) r_0 eNil=j2 (xa7 c h u) 0 1:=(kq (j2 (xa7 c h u) 0 1))
noncomputable abbrev x1o5:=VX x27 19 r_0
theorem x138:x1o5 c h u (x181 x27) r_0 eNil=j2 (xa9 c h u) 0 1:=(tq (j2 (xa9 c h u) 0 1) (sqN 1 (sq2 (kq (j0 (xf7 c h u))) (tq (j2 (xf8 c h u) 0 1) (sqN 1 (bk 0 (lq (x44 c h u) (λr=>j4 r 0 1 7 8) λrec0=>(kq (j4 (xa8 c h u rec0) 0 1 7 8)))))))))
noncomputable abbrev x1o6:=VX xr 8 r_11
theorem x139:x1o6 c h u (x181 xr) r_11 eNil=j2 (xaa c h u) 0 1:=(kq (j2 (xaa c h u) 0 1))
noncomputable abbrev x1o7:=VX xw 42 r_19
theorem x13a:x1o7 c h u (x181 xw) r_19 eNil=j3 (xac c h u) 0 1 2:=(tq (j3 (xac c h u) 0 1 2) (sqN 1 (bk 0 (lq (x45 c h u) (λr=>j6 r 0 1 2 12 13 14) λrec0=>(kq (j6 (xab c h u rec0) 0 1 2 12 13 14))))))
noncomputable abbrev x1o8:=VX x34 21 r_4
theorem x13b:x1o8 c h u (x181 x34) r_4 eNil=j2 (xad c h u) 0 1:=(kq (j2 (xad c h u) 0 1))
noncomputable abbrev x1o9:=VX x35 116 r_2
theorem x13c:x1o9 c h u (x181 x35) r_2 eNil=j1 (xaj c h u) 0:=(tq (j1 (xaj c h u) 0) (sqN 4 (sq2 (sq2 (kq (j0 (xf9 c h u))) (tq (j2 (xag c h u) 0 3) (sqN 1 (bk 4 (lq (x2o c h u) (λr=>j3 r 0 3 6) λrec0=>(tq (j3 (xaf c h u rec0) 0 3 6) (sqN 1 (sq2 (kq (j3 (xfa c h u rec0) 0 3 6)) (bk 5 (tq (j3 (xfb c h u rec0) 0 3 6) (sqN 2 (bk 6 (lq (x2n c h u rec0) (λr=>j4 r 0 3 6 7) λs=>(kq (j4 (xae c h u rec0 s) 0 3 6 7))))))))))))))) (tq (j2 (xfe c h u) 0 3) (sqN 1 (bk 0 (lq (x2p c h u) (λr=>j3 r 0 3 4) λw=>(tq (j3 (xai c h u w) 0 3 4) (sqN 1 (sq2 (kq (j3 (xfc c h u w) 0 3 4)) (bk 1 (tq (j3 (xfd c h u w) 0 3 4) (sqN 2 (bk 2 (lq (x46 c h u w) (λr=>j4 r 0 3 4 5) λz=>(kq (j4 (xah c h u w z) 0 3 4 5)))))))))))))))))
noncomputable abbrev x1oa:=VX x28 16 r_2
theorem x13d:x1oa c h u (x181 x28) r_2 eNil=j1 (xak c h u) 0:=(kq (j1 (xak c h u) 0))
noncomputable abbrev x1ob:=VX x12 42 r_10
theorem x13e:x1ob c h u (x181 x12) r_10 eNil=j3 (xal c h u) 0 1 2:=(kq (j3 (xal c h u) 0 1 2))
noncomputable abbrev x1oc:=VX x1a 30 r_10
theorem x13f:x1oc c h u (x181 x1a) r_10 eNil=j3 (xff c h u) 0 1 2:=(kq (j3 (xff c h u) 0 1 2))
noncomputable abbrev x1od:=VX x61 12 r_0
theorem x13g:x1od c h u (x181 x61) r_0 eNil=j2 (xfg c h u) 0 1:=(kq (j2 (xfg c h u) 0 1))
noncomputable abbrev x1oe:=VX x4h 32 r_20
theorem x13h:x1oe c h u (x181 x4h) r_20 eNil=j2 (xfh c h u) 0 1:=(kq (j2 (xfh c h u) 0 1))
noncomputable abbrev x1of:=VX x4i 56 r_21
theorem x13i:x1of c h u (x181 x4i) r_21 eNil=j1 (xfi c h u) 0:=(tq (j1 (xfi c h u) 0) (sqN 1 (sq2 (kq (j1 (xo0 c h u) 1)) (bk 0 (sq2 (kq (j2 (xan c h u) 1 7)) (kq (j1 (xo1 c h u) 1)))))))
noncomputable abbrev x1og:=VX x4j 23 r_0
theorem x13j:x1og c h u (x181 x4j) r_0 eNil=j2 (xfk c h u) 0 1:=(tq (j2 (xfk c h u) 0 1) (sqN 2 (sq2 (kq (j1 (xfj c h u) 5)) (kq (j3 (xo2 c h u) 0 1 5)))))
noncomputable abbrev x1oh:=VX x62 10 r_0
theorem x13k:x1oh c h u (x181 x62) r_0 eNil=j2 (xfl c h u) 0 1:=(kq (j2 (xfl c h u) 0 1))
noncomputable abbrev x1oi:=VX x63 97 r_0
theorem x13l:x1oi c h u (x181 x63) r_0 eNil=j2 (xfn c h u) 0 1:=(tq (j2 (xfn c h u) 0 1) (sqN 6 (sq2 (kq (j6 (xfm c h u) 0 3 5 7 8 10)) (kq (j6 (xo3 c h u) 0 3 5 7 8 10)))))
noncomputable abbrev x1oj:=VX x64 44 r_4
theorem x13m:x1oj c h u (x181 x64) r_4 eNil=j2 (xfo c h u) 0 1:=(kq (j2 (xfo c h u) 0 1))
noncomputable abbrev x1ok:=VX x4k 9 r_0
theorem x13n:x1ok c h u (x181 x4k) r_0 eNil=j2 (xfp c h u) 0 1:=(kq (j2 (xfp c h u) 0 1))
noncomputable abbrev x1ol:=VX x65 29 r_0
theorem x13o:x1ol c h u (x181 x65) r_0 eNil=j2 (xfr c h u) 0 1:=(tq (j2 (xfr c h u) 0 1) (sqN 1 (sq2 (kq (j1 (xo4 c h u) 0)) (tq (j2 (xo6 c h u) 0 3) (sqN 1 (bk 0 (lq (xfq c h u) (λr=>j4 r 0 14 15 16) λrec0=>(kq (j4 (xo5 c h u rec0) 0 14 15 16)))))))))
noncomputable abbrev x1om:=VX x36 21 r_10
theorem x13p:x1om c h u (x181 x36) r_10 eNil=j3 (xap c h u) 0 1 2:=(tq (j3 (xap c h u) 0 1 2) (sqN 1 (sq2 (kq (j0 (xfs c h u))) (tq (j3 (xft c h u) 0 1 2) (sqN 1 (bk 0 (lq (x47 c h u) (λr=>j5 r 0 1 9 10 11) λrec0=>(kq (j5 (xao c h u rec0) 0 1 9 10 11)))))))))
noncomputable abbrev x1on:=VX xx 22 r_0
theorem x13q:x1on c h u (x181 xx) r_0 eNil=j2 (xaq c h u) 0 1:=(kq (j2 (xaq c h u) 0 1))
noncomputable abbrev x1oo:=VX x1p 16 r_22
theorem x13r:x1oo c h u (x181 x1p) r_22 eNil=j2 (xfu c h u) 0 1:=(kq (j2 (xfu c h u) 0 1))
noncomputable abbrev x1op:=VX x4l 16 r_0
theorem x13s:x1op c h u (x181 x4l) r_0 eNil=j2 (xfv c h u) 0 1:=(kq (j2 (xfv c h u) 0 1))
noncomputable abbrev x1oq:=VX x37 15 r_2
theorem x13t:x1oq c h u (x181 x37) r_2 eNil=j1 (xar c h u) 0:=(tq (j1 (xar c h u) 0) (sqN 1 (sq2 (kq (j0 (xfw c h u))) (tq (j1 (xfy c h u) 0) (sqN 1 (bk 0 (lq (x5g c h u) (λr=>j3 r 5 6 7) λrec0=>(kq (j3 (xfx c h u rec0) 5 6 7)))))))))
noncomputable abbrev x1or:=VX x38 47 r_0
theorem x13u:x1or c h u (x181 x38) r_0 eNil=j2 (x5i c h u) 0 1:=(tq (j2 (x5i c h u) 0 1) (sqN 2 (sq2 (kq (j1 (xfz c h u) 5)) (tq (j3 (xg5 c h u) 0 3 5) (sqN 1 (bk 0 (lq (x1f c h u) (λr=>j5 r 3 5 9 10 11) λrec0=>(tq (j5 (xas c h u rec0) 3 5 9 10 11) (sqN 2 (sq2 (kq (j5 (x48 c h u rec0) 3 5 9 10 11)) (bk 1 (tq (j5 (xg4 c h u rec0) 3 5 9 10 11) (sqN 3 (tq (j7 (xg3 c h u rec0) 3 5 7 9 10 11 30) (cd (tq (j6 (xg1 c h u rec0) 3 5 7 9 10 11) (sqN 1 (sq2 (kq (j7 (x5h c h u rec0) 3 5 7 8 9 10 11)) (kq (j7 (xg0 c h u rec0) 3 5 7 8 9 10 11))))) (kq (j5 (xg2 c h u rec0) 3 5 9 10 11)))))))))))))))))
noncomputable abbrev x1os:=VX x39 38 r_10
theorem x13v:x1os c h u (x181 x39) r_10 eNil=j3 (xat c h u) 0 1 2:=(kq (j3 (xat c h u) 0 1 2))
noncomputable abbrev x1ot:=VX x3a 53 r_23
theorem x13w:x1ot c h u (x181 x3a) r_23 eNil=j4 (xau c h u) 0 1 2 3:=(kq (j4 (xau c h u) 0 1 2 3))
noncomputable abbrev x1ou:=VX x1q 5 r_2
theorem x13x:x1ou c h u (x181 x1q) r_2 eNil=j1 (xav c h u) 0:=(kq (j1 (xav c h u) 0))
noncomputable abbrev x1ov:=VX x66 19 r_0
theorem x13y:x1ov c h u (x181 x66) r_0 eNil=j2 (xg7 c h u) 0 1:=(tq (j2 (xg7 c h u) 0 1) (sqN 1 (sq2 (kq (j0 (xo7 c h u))) (tq (j2 (xo9 c h u) 0 1) (sqN 1 (bk 0 (lq (xg6 c h u) (λr=>j4 r 0 1 7 8) λrec0=>(kq (j4 (xo8 c h u rec0) 0 1 7 8)))))))))
noncomputable abbrev x1ow:=VX x67 8 r_11
theorem x13z:x1ow c h u (x181 x67) r_11 eNil=j2 (xg8 c h u) 0 1:=(kq (j2 (xg8 c h u) 0 1))
noncomputable abbrev x1ox:=VX x68 64 r_24
theorem x140:x1ox c h u (x181 x68) r_24 eNil=j2 (xga c h u) 0 1:=(tq (j2 (xga c h u) 0 1) (sqN 3 (sq2 (kq (j3 (xoa c h u) 4 6 7)) (tq (j5 (xod c h u) 1 2 4 6 7) (sqN 1 (bk 0 (lq (xg9 c h u) (λr=>j7 r 1 4 6 7 17 18 19) λrec0=>(tq (j7 (xoc c h u rec0) 1 4 6 7 17 18 19) (sqN 2 (sq2 (kq (j7 (xaw c h u rec0) 1 4 6 7 17 18 19)) (kq (j7 (xob c h u rec0) 1 4 6 7 17 18 19))))))))))))
noncomputable abbrev x1oy:=VX x69 90 r_16
theorem x141:x1oy c h u (x181 x69) r_16 eNil=j2 (xgf c h u) 0 1:=(tq (j2 (xgf c h u) 0 1) (sqN 5 (sq2 (tq (j4 (xoi c h u) 1 2 8 9) (sqN 3 (sq2 (kq (j1 (xoe c h u) 14)) (tq (j4 (xoh c h u) 1 12 13 14) (sqN 1 (bk 2 (lq (xgc c h u) (λr=>j7 r 1 12 13 14 60 61 62) λrec0=>(tq (j7 (xog c h u rec0) 1 12 13 14 60 61 62) (sqN 2 (sq2 (kq (j7 (xgb c h u rec0) 1 12 13 14 60 61 62)) (kq (j7 (xof c h u rec0) 1 12 13 14 60 61 62)))))))))))) (tq (j4 (xol c h u) 1 2 8 9) (sqN 1 (bk 0 (lq (xge c h u) (λr=>j7 r 1 2 8 9 36 37 38) λs=>(tq (j7 (xok c h u s) 1 2 8 9 36 37 38) (sqN 2 (sq2 (kq (j7 (xgd c h u s) 1 2 8 9 36 37 38)) (kq (j7 (xoj c h u s) 1 2 8 9 36 37 38))))))))))))
noncomputable abbrev x1oz:=VX x4m 10 r_0
theorem x142:x1oz c h u (x181 x4m) r_0 eNil=j2 (xgg c h u) 0 1:=(kq (j2 (xgg c h u) 0 1))
noncomputable abbrev x1p0:=VX x1r 15 r_10
theorem x143:x1p0 c h u (x181 x1r) r_10 eNil=j3 (xgh c h u) 0 1 2:=(kq (j3 (xgh c h u) 0 1 2))
noncomputable abbrev x1p1:=VX x6a 19 r_0
theorem x144:x1p1 c h u (x181 x6a) r_0 eNil=j2 (xgj c h u) 0 1:=(tq (j2 (xgj c h u) 0 1) (sqN 1 (sq2 (kq (j0 (xon c h u))) (tq (j2 (xop c h u) 0 1) (sqN 1 (bk 0 (lq (xgi c h u) (λr=>j4 r 0 1 7 8) λrec0=>(kq (j4 (xoo c h u rec0) 0 1 7 8)))))))))
noncomputable abbrev x1p2:=VX x6b 9 r_11
theorem x145:x1p2 c h u (x181 x6b) r_11 eNil=j2 (xgk c h u) 0 1:=(kq (j2 (xgk c h u) 0 1))
noncomputable abbrev x1p3:=VX x4n 37 r_2
theorem x146:x1p3 c h u (x181 x4n) r_2 eNil=j1 (xgl c h u) 0:=(kq (j1 (xgl c h u) 0))
noncomputable abbrev x1p4:=VX x29 13 r_16
theorem x147:x1p4 c h u (x181 x29) r_16 eNil=j2 (xgm c h u) 0 1:=(kq (j2 (xgm c h u) 0 1))
noncomputable abbrev x1p5:=VX x3b 21 r_25
theorem x148:x1p5 c h u (x181 x3b) r_25 eNil=j1 (xgn c h u) 0:=(kq (j1 (xgn c h u) 0))
noncomputable abbrev x1p6:=VX x6c 113 r_0
theorem x149:x1p6 c h u (x181 x6c) r_0 eNil=j2 (xgq c h u) 0 1:=(tq (j2 (xgq c h u) 0 1) (sqN 7 (sq2 (kq (j3 (xoq c h u) 0 10 11)) (tq (j4 (xou c h u) 0 8 10 11) (sqN 1 (bk 1 (lq (xgp c h u) (λr=>j7 r 0 8 10 11 80 81 82) λrec0=>(tq (j7 (xot c h u rec0) 0 8 10 11 80 81 82) (sqN 2 (sq2 (kq (j7 (xgo c h u rec0) 0 8 10 11 80 81 82)) (kq (j7 (xos c h u rec0) 0 8 10 11 80 81 82))))))))))))
noncomputable abbrev x1p7:=VX x4o 58 r_10
theorem x14a:x1p7 c h u (x181 x4o) r_10 eNil=j3 (xgr c h u) 0 1 2:=(kq (j3 (xgr c h u) 0 1 2))
noncomputable abbrev x1p8:=VX x6d 9 r_2
theorem x14b:x1p8 c h u (x181 x6d) r_2 eNil=j1 (xgs c h u) 0:=(kq (j1 (xgs c h u) 0))
noncomputable abbrev x1p9:=VX x3c 8 r_0
theorem x14c:x1p9 c h u (x181 x3c) r_0 eNil=j2 (xgt c h u) 0 1:=(kq (j2 (xgt c h u) 0 1))
noncomputable abbrev x1pa:=VX x3d 15 r_10
theorem x14d:x1pa c h u (x181 x3d) r_10 eNil=j3 (xax c h u) 0 1 2:=(kq (j3 (xax c h u) 0 1 2))
noncomputable abbrev x1pb:=VX x4p 16 r_0
theorem x14e:x1pb c h u (x181 x4p) r_0 eNil=j2 (xgu c h u) 0 1:=(kq (j2 (xgu c h u) 0 1))
noncomputable abbrev x1pc:=VX x1b 16 r_10
theorem x14f:x1pc c h u (x181 x1b) r_10 eNil=j3 (xay c h u) 0 1 2:=(kq (j3 (xay c h u) 0 1 2))
noncomputable abbrev x1pd:=VX x6e 36 r_2
theorem x14g:x1pd c h u (x181 x6e) r_2 eNil=j1 (xgv c h u) 0:=(kq (j1 (xgv c h u) 0))
noncomputable abbrev x1pe:=VX x1c 15 r_10
theorem x14h:x1pe c h u (x181 x1c) r_10 eNil=j3 (xgw c h u) 0 1 2:=(kq (j3 (xgw c h u) 0 1 2))
noncomputable abbrev x1pf:=VX x6f 42 r_0
theorem x14i:x1pf c h u (x181 x6f) r_0 eNil=j2 (xgy c h u) 0 1:=(tq (j2 (xgy c h u) 0 1) (sqN 3 (sq2 (kq (j1 (xov c h u) 6)) (tq (j4 (xox c h u) 1 2 5 6) (sqN 1 (bk 0 (lq (xgx c h u) (λr=>j6 r 1 5 6 14 15 16) λrec0=>(kq (j6 (xow c h u rec0) 1 5 6 14 15 16)))))))))
noncomputable abbrev x1pg:=VX x4q 38 r_0
theorem x14j:x1pg c h u (x181 x4q) r_0 eNil=j2 (xh1 c h u) 0 1:=(tq (j2 (xh1 c h u) 0 1) (sqN 5 (sq2 (kq (j1 (xoy c h u) 5)) (tq (j3 (xp1 c h u) 5 6 8) (sqN 1 (bk 0 (lq (xh0 c h u) (λr=>j5 r 5 6 8 24 25) λrec0=>(tq (j5 (xp0 c h u rec0) 5 6 8 24 25) (sqN 2 (sq2 (kq (j5 (xgz c h u rec0) 5 6 8 24 25)) (kq (j5 (xoz c h u rec0) 5 6 8 24 25))))))))))))
noncomputable abbrev x1ph:=VX x6g 30 r_0
theorem x14k:x1ph c h u (x181 x6g) r_0 eNil=j2 (xh4 c h u) 0 1:=(tq (j2 (xh4 c h u) 0 1) (sqN 2 (sq2 (kq (j1 (xp3 c h u) 5)) (tq (j3 (xp6 c h u) 1 2 5) (sqN 1 (bk 0 (lq (xh3 c h u) (λr=>j5 r 1 5 15 16 17) λrec0=>(tq (j5 (xp5 c h u rec0) 1 5 15 16 17) (sqN 2 (sq2 (kq (j5 (xh2 c h u rec0) 1 5 15 16 17)) (kq (j5 (xp4 c h u rec0) 1 5 15 16 17))))))))))))
noncomputable abbrev x1pi:=VX x6h 23 r_16
theorem x14l:x1pi c h u (x181 x6h) r_16 eNil=j2 (xh5 c h u) 0 1:=(kq (j2 (xh5 c h u) 0 1))
noncomputable abbrev x1pj:=VX x6i 22 r_5
theorem x14m:x1pj c h u (x181 x6i) r_5 eNil=j1 (xh6 c h u) 0:=(kq (j1 (xh6 c h u) 0))
noncomputable abbrev x1pk:=VX x2a 30 r_0
theorem x14n:x1pk c h u (x181 x2a) r_0 eNil=j2 (xh8 c h u) 0 1:=(tq (j2 (xh8 c h u) 0 1) (sqN 1 (sq2 (kq (j0 (xp9 c h u))) (tq (j2 (xpb c h u) 0 1) (sqN 1 (bk 0 (lq (xh7 c h u) (λr=>j4 r 0 9 10 11) λrec0=>(kq (j4 (xpa c h u rec0) 0 9 10 11)))))))))
noncomputable abbrev x1pl:=VX x6j 24 r_5
theorem x14o:x1pl c h u (x181 x6j) r_5 eNil=j1 (xh9 c h u) 0:=(kq (j1 (xh9 c h u) 0))
noncomputable abbrev x1pm:=VX x6k 18 r_5
theorem x14p:x1pm c h u (x181 x6k) r_5 eNil=j1 (xha c h u) 0:=(kq (j1 (xha c h u) 0))
noncomputable abbrev x1pn:=VX x6l 22 r_5
theorem x14q:x1pn c h u (x181 x6l) r_5 eNil=j1 (xhb c h u) 0:=(kq (j1 (xhb c h u) 0))
noncomputable abbrev x1po:=VX x6m 8 r_5
theorem x14r:x1po c h u (x181 x6m) r_5 eNil=j1 (xhc c h u) 0:=(kq (j1 (xhc c h u) 0))
noncomputable abbrev x1pp:=VX x6n 8 r_5
theorem x14s:x1pp c h u (x181 x6n) r_5 eNil=j1 (xhd c h u) 0:=(kq (j1 (xhd c h u) 0))
noncomputable abbrev x1pq:=VX x4r 26 r_5
theorem x14t:x1pq c h u (x181 x4r) r_5 eNil=j1 (xhe c h u) 0:=(kq (j1 (xhe c h u) 0))
noncomputable abbrev x1pr:=VX x6o 8 r_0
theorem x14u:x1pr c h u (x181 x6o) r_0 eNil=j2 (xhg c h u) 0 1:=(kq (j2 (xhg c h u) 0 1))
noncomputable abbrev x1ps:=VX x6p 8 r_2
theorem x14v:x1ps c h u (x181 x6p) r_2 eNil=j1 (xhh c h u) 0:=(kq (j1 (xhh c h u) 0))
noncomputable abbrev x1pt:=VX x6q 8 r_0
theorem x14w:x1pt c h u (x181 x6q) r_0 eNil=j2 (xhi c h u) 0 1:=(kq (j2 (xhi c h u) 0 1))
noncomputable abbrev x1pu:=VX x6r 9 r_0
theorem x14x:x1pu c h u (x181 x6r) r_0 eNil=j2 (xhj c h u) 0 1:=(kq (j2 (xhj c h u) 0 1))
noncomputable abbrev x1pv:=VX x4s 143 r_0
theorem x14y:x1pv c h u (x181 x4s) r_0 eNil=j2 (xhm c h u) 0 1:=(tq (j2 (xhm c h u) 0 1) (sqN 8 (sq2 (kq (j0 (xpi c h u))) (bk 1 (lq (xhl c h u) (λr=>j8 r 0 1 5 6 7 8 9 10) λrec0=>(tq (j8 (xpl c h u rec0) 0 1 5 6 7 8 9 10) (sqN 1 (bk 2 (sq2 (kq (j8 (xhk c h u rec0) 0 1 5 6 7 8 9 10)) (kq (j8 (xpk c h u rec0) 0 1 5 6 7 8 9 10)))))))))))
noncomputable abbrev x1pw:=VX x3e 5 r_2
theorem x14z:x1pw c h u (x181 x3e) r_2 eNil=j1 (xb1 c h u) 0:=(kq (j1 (xb1 c h u) 0))
noncomputable abbrev x1px:=VX x6s 11 r_2
theorem x150:x1px c h u (x181 x6s) r_2 eNil=j1 (xhn c h u) 0:=(kq (j1 (xhn c h u) 0))
noncomputable abbrev x1py:=VX x4t 9 r_0
theorem x151:x1py c h u (x181 x4t) r_0 eNil=j2 (xho c h u) 0 1:=(kq (j2 (xho c h u) 0 1))
noncomputable abbrev x1pz:=VX x6t 6 r_2
theorem x152:x1pz c h u (x181 x6t) r_2 eNil=j1 (xhp c h u) 0:=(kq (j1 (xhp c h u) 0))
noncomputable abbrev x1q0:=VX x4u 10 r_0
theorem x153:x1q0 c h u (x181 x4u) r_0 eNil=j2 (xhq c h u) 0 1:=(kq (j2 (xhq c h u) 0 1))
noncomputable abbrev x1q1:=VX x6u 6 r_2
theorem x154:x1q1 c h u (x181 x6u) r_2 eNil=j1 (xhr c h u) 0:=(kq (j1 (xhr c h u) 0))
noncomputable abbrev x1q2:=VX x6v 51 r_2
theorem x155:x1q2 c h u (x181 x6v) r_2 eNil=j1 (xhv c h u) 0:=(tq (j1 (xhv c h u) 0) (sqN 2 (sq2 (tq (j3 (xpq c h u) 1 3 4) (sqN 2 (sq2 (kq (j1 (xpm c h u) 4)) (tq (j4 (xpp c h u) 1 3 4 6) (sqN 1 (bk 2 (lq (xht c h u) (λr=>j6 r 1 4 6 29 30 31) λrec0=>(tq (j6 (xpo c h u rec0) 1 4 6 29 30 31) (sqN 2 (sq2 (kq (j6 (xhs c h u rec0) 1 4 6 29 30 31)) (kq (j6 (xpn c h u rec0) 1 4 6 29 30 31)))))))))))) (tq (j3 (xps c h u) 1 3 4) (sqN 1 (bk 0 (lq (xhu c h u) (λr=>j5 r 1 3 4 12 13) λs=>(kq (j5 (xpr c h u s) 1 3 4 12 13)))))))))
noncomputable abbrev x1q3:=VX x6w 43 r_19
theorem x156:x1q3 c h u (x181 x6w) r_19 eNil=j7 (xhx c h u) 0 1 2 3 4 5 6:=(tq (j7 (xhx c h u) 0 1 2 3 4 5 6) (sqN 3 (bk 0 (tq (j6 (xpv c h u) 1 4 5 6 7 16) (rg (.tmp 16) #[17,18] (λu=>(kq (j7 (xpt c h u) 1 4 5 6 7 8 9))) (λu=>(kq (j7 (xpu c h u) 1 4 5 6 7 17 18))))))))
noncomputable abbrev x1q4:=VX x6x 8 r_10
theorem x157:x1q4 c h u (x181 x6x) r_10 eNil=j3 (xhy c h u) 0 1 2:=(kq (j3 (xhy c h u) 0 1 2))
noncomputable abbrev x1q5:=VX x4v 15 r_2
theorem x158:x1q5 c h u (x181 x4v) r_2 eNil=j1 (xi0 c h u) 0:=(tq (j1 (xi0 c h u) 0) (sqN 2 (sq2 (kq (j1 (xpw c h u) 3)) (tq (j2 (xpy c h u) 0 3) (sqN 1 (bk 0 (lq (xhz c h u) (λr=>j3 r 3 5 6) λrec0=>(kq (j3 (xpx c h u rec0) 3 5 6)))))))))
noncomputable abbrev x1q6:=VX x4w 44 r_0
theorem x159:x1q6 c h u (x181 x4w) r_0 eNil=j2 (xi3 c h u) 0 1:=(tq (j2 (xi3 c h u) 0 1) (sqN 2 (sq2 (kq (j2 (xpz c h u) 5 6)) (tq (j3 (xq2 c h u) 0 5 6) (sqN 1 (bk 0 (lq (xi2 c h u) (λr=>j6 r 0 5 6 19 20 21) λrec0=>(tq (j6 (xq1 c h u rec0) 0 5 6 19 20 21) (sqN 2 (sq2 (kq (j6 (xi1 c h u rec0) 0 5 6 19 20 21)) (kq (j6 (xq0 c h u rec0) 0 5 6 19 20 21))))))))))))
noncomputable abbrev x1q7:=VX x6y 8 r_0
theorem x15a:x1q7 c h u (x181 x6y) r_0 eNil=j2 (xi4 c h u) 0 1:=(kq (j2 (xi4 c h u) 0 1))
noncomputable abbrev x1q8:=VX x4x 18 r_0
theorem x15b:x1q8 c h u (x181 x4x) r_0 eNil=j2 (xi5 c h u) 0 1:=(kq (j2 (xi5 c h u) 0 1))
noncomputable abbrev x1q9:=VX x6z 66 r_23
theorem x15c:x1q9 c h u (x181 x6z) r_23 eNil=j4 (xi9 c h u) 0 1 2 3:=(tq (j4 (xi9 c h u) 0 1 2 3) (sqN 3 (sq2 (tq (j4 (xi8 c h u) 0 1 2 3) (sqN 4 (sq2 (kq (j3 (xi6 c h u) 0 9 10)) (bk 0 (lq (xi7 c h u) (λr=>j6 r 0 1 2 3 9 10) λrec0=>(kq (j6 (xq3 c h u rec0) 0 1 2 3 9 10))))))) (kq (j4 (xq4 c h u) 0 1 2 3)))))
noncomputable abbrev x1qa:=VX x70 19 r_0
theorem x15d:x1qa c h u (x181 x70) r_0 eNil=j2 (xib c h u) 0 1:=(tq (j2 (xib c h u) 0 1) (sqN 1 (sq2 (kq (j0 (xq5 c h u))) (tq (j2 (xq7 c h u) 0 1) (sqN 1 (bk 0 (lq (xia c h u) (λr=>j4 r 0 1 7 8) λrec0=>(kq (j4 (xq6 c h u rec0) 0 1 7 8)))))))))
noncomputable abbrev x1qb:=VX x4y 8 r_0
theorem x15e:x1qb c h u (x181 x4y) r_0 eNil=j2 (xic c h u) 0 1:=(kq (j2 (xic c h u) 0 1))
noncomputable abbrev x1qc:=VX x71 6 r_2
theorem x15f:x1qc c h u (x181 x71) r_2 eNil=j1 (xid c h u) 0:=(kq (j1 (xid c h u) 0))
noncomputable abbrev x1qd:=VX x72 81 r_0
theorem x15g:x1qd c h u (x181 x72) r_0 eNil=j2 (xig c h u) 0 1:=(tq (j2 (xig c h u) 0 1) (sqN 4 (sq2 (tq (j6 (xqb c h u) 0 1 5 6 7 8) (sqN 1 (sq2 (kq (j0 (xq8 c h u))) (tq (j6 (xqa c h u) 0 1 5 6 7 8) (sqN 1 (bk 2 (lq (xie c h u) (λr=>j7 r 0 1 5 6 7 8 10) λrec0=>(kq (j7 (xq9 c h u rec0) 0 1 5 6 7 8 10))))))))) (tq (j6 (xqd c h u) 0 1 5 6 7 8) (sqN 1 (bk 0 (lq (xif c h u) (λr=>j7 r 0 1 5 6 7 8 9) λs=>(kq (j7 (xqc c h u s) 0 1 5 6 7 8 9)))))))))
noncomputable abbrev x1qe:=VX x73 66 r_5
theorem x15h:x1qe c h u (x181 x73) r_5 eNil=j1 (xii c h u) 0:=(tq (j1 (xii c h u) 0) (sqN 4 (sq2 (kq (j0 (xqe c h u))) (tq (j2 (xqh c h u) 1 6) (sqN 1 (bk 0 (lq (xih c h u) (λr=>j5 r 1 6 26 27 28) λrec0=>(kq (j5 (xqf c h u rec0) 1 6 26 27 28)))))))))
noncomputable abbrev x1qf:=VX x5k 19 r_0
theorem x11l:x1qf c h u (x181 x5k) r_0 eNil=j2 (xik c h u) 0 1:=(tq (j2 (xik c h u) 0 1) (sqN 1 (sq2 (kq (j0 (xqi c h u))) (tq (j2 (xqk c h u) 0 1) (sqN 1 (bk 0 (lq (xij c h u) (λr=>j4 r 0 1 7 8) λrec0=>(kq (j4 (xqj c h u rec0) 0 1 7 8)))))))))
noncomputable abbrev x1qg:=VX x74 9 r_19
theorem x15i:x1qg c h u (x181 x74) r_19 eNil=j2 (xil c h u) 0 1:=(kq (j2 (xil c h u) 0 1))
noncomputable abbrev x1qh:=VX x75 13 r_26
theorem x15j:x1qh c h u (x181 x75) r_26 eNil=j3 (xim c h u) 0 1 2:=(kq (j3 (xim c h u) 0 1 2))
noncomputable abbrev x1qi:=VX x4z 41 r_0
theorem x15k:x1qi c h u (x181 x4z) r_0 eNil=j2 (xin c h u) 0 1:=(kq (j2 (xin c h u) 0 1))
noncomputable abbrev x1qj:=VX x76 11 r_19
theorem x15l:x1qj c h u (x181 x76) r_19 eNil=j1 (xio c h u) 0:=(kq (j1 (xio c h u) 0))
noncomputable abbrev x1qk:=VX x77 43 r_19
theorem x15m:x1qk c h u (x181 x77) r_19 eNil=j4 (xir c h u) 0 1 2 3:=(tq (j4 (xir c h u) 0 1 2 3) (sqN 1 (bk 0 (lq (xiq c h u) (λr=>j6 r 0 2 3 12 13 14) λrec0=>(tq (j6 (xqp c h u rec0) 0 2 3 12 13 14) (sqN 2 (sq2 (kq (j6 (xql c h u rec0) 0 2 3 12 13 14)) (bk 1 (tq (j6 (xqo c h u rec0) 0 2 3 12 13 14) (sqN 2 (bk 2 (lq (xip c h u rec0) (λr=>j9 r 0 2 3 6 12 13 14 18 19) λs=>(kq (j9 (xqm c h u rec0 s) 0 2 3 6 12 13 14 18 19))))))))))))))
noncomputable abbrev x1ql:=VX x78 25 r_4
theorem x15n:x1ql c h u (x181 x78) r_4 eNil=j2 (xis c h u) 0 1:=(kq (j2 (xis c h u) 0 1))
noncomputable abbrev x1qm:=VX xcn 77 r_5
theorem x15o:x1qm c h u (x181 xcn) r_5 eNil=j1 (xiw c h u) 0:=(tq (j1 (xiw c h u) 0) (sqN 2 (sq2 (kq (j1 (xqq c h u) 0)) (tq (j2 (xqy c h u) 0 4) (sqN 1 (tq (j2 (xqx c h u) 0 30) (cd (tq (j1 (xqv c h u) 0) (sqN 1 (sq2 (tq (j2 (xiv c h u) 0 5) (sqN 1 (sq2 (sq2 (kq (j1 (xit c h u) 6)) (kq (j2 (xqr c h u) 5 6))) (tq (j3 (xqt c h u) 0 5 6) (sqN 1 (bk 0 (lq (xiu c h u) (λr=>j5 r 5 6 47 48 49) λrec0=>(kq (j5 (xqs c h u rec0) 5 6 47 48 49))))))))) (kq (j2 (xqu c h u) 0 5))))) (kq (j1 (xqw c h u) 0)))))))))
noncomputable abbrev x1qn:=VX xco 43 r_27
theorem x15p:x1qn c h u (x181 xco) r_27 eNil=j5 (xix c h u) 0 1 2 3 4:=(kq (j5 (xix c h u) 0 1 2 3 4))
noncomputable abbrev x1qo:=VX xcp 5 r_2
theorem x15q:x1qo c h u (x181 xcp) r_2 eNil=j1 (xiy c h u) 0:=(kq (j1 (xiy c h u) 0))
noncomputable abbrev x1qp:=VX x79 13 r_0
theorem x15r:x1qp c h u (x181 x79) r_0 eNil=j2 (xiz c h u) 0 1:=(kq (j2 (xiz c h u) 0 1))
noncomputable abbrev x1qq:=VX x7a 50 r_0
theorem x15s:x1qq c h u (x181 x7a) r_0 eNil=j2 (xj3 c h u) 0 1:=(tq (j2 (xj3 c h u) 0 1) (sqN 2 (sq2 (tq (j2 (xj2 c h u) 0 1) (sqN 1 (sq2 (sq2 (kq (j1 (xj0 c h u) 6)) (kq (j3 (xqz c h u) 0 1 6))) (tq (j3 (xr1 c h u) 0 1 6) (sqN 1 (bk 0 (lq (xj1 c h u) (λr=>j4 r 0 1 6 7) λrec0=>(kq (j4 (xr0 c h u rec0) 0 1 6 7))))))))) (kq (j3 (xr2 c h u) 0 1 5)))))
noncomputable abbrev x1qr:=VX x7b 34 r_0
theorem x15t:x1qr c h u (x181 x7b) r_0 eNil=j2 (xj5 c h u) 0 1:=(tq (j2 (xj5 c h u) 0 1) (sqN 4 (bk 0 (lq (xj4 c h u) (λr=>j3 r 0 1 5) λrec0=>(kq (j3 (xr3 c h u rec0) 0 1 5))))))
noncomputable abbrev x1qs:=VX x7c 39 r_5
theorem x15u:x1qs c h u (x181 x7c) r_5 eNil=j1 (xj9 c h u) 0:=(tq (j1 (xj9 c h u) 0) (sqN 2 (sq2 (tq (j2 (xr9 c h u) 0 4) (sqN 1 (sq2 (kq (j2 (xr4 c h u) 4 6)) (tq (j4 (xr8 c h u) 0 4 6 7) (sqN 1 (bk 2 (lq (xj7 c h u) (λr=>j4 r 4 6 7 8) λrec0=>(tq (j4 (xr7 c h u rec0) 4 6 7 8) (sqN 1 (sq2 (kq (j4 (xr5 c h u rec0) 4 6 7 8)) (bk 3 (sq2 (kq (j4 (xj6 c h u rec0) 4 6 7 8)) (kq (j4 (xr6 c h u rec0) 4 6 7 8)))))))))))))) (tq (j2 (xrb c h u) 0 4) (sqN 1 (bk 0 (lq (xj8 c h u) (λr=>j3 r 0 4 5) λs=>(kq (j3 (xra c h u s) 0 4 5)))))))))
noncomputable abbrev x1qt:=VX x7d 42 r_5
theorem x15v:x1qt c h u (x181 x7d) r_5 eNil=j1 (xjb c h u) 0:=(tq (j1 (xjb c h u) 0) (sqN 2 (sq2 (kq (j0 (xrc c h u))) (tq (j1 (xre c h u) 0) (sqN 1 (bk 0 (lq (xja c h u) (λr=>j4 r 0 9 10 11) λrec0=>(kq (j4 (xrd c h u rec0) 0 9 10 11)))))))))
noncomputable abbrev x1qu:=VX x7e 63 r_19
theorem x15w:x1qu c h u (x181 x7e) r_19 eNil=j3 (xjg c h u) 0 1 2:=(tq (j3 (xjg c h u) 0 1 2) (sqN 2 (sq2 (tq (j5 (xrj c h u) 0 1 2 6 7) (sqN 1 (bk 2 (lq (xje c h u) (λr=>j4 r 0 1 2 6) λrec0=>(tq (j4 (xri c h u rec0) 0 1 2 6) (sqN 1 (bk 3 (tq (j4 (xrh c h u rec0) 0 1 2 6) (sqN 1 (sq2 (sq2 (kq (j4 (xjc c h u rec0) 0 1 2 6)) (kq (j5 (xrf c h u rec0) 0 1 2 6 7))) (bk 4 (lq (xjd c h u rec0) (λr=>j6 r 0 1 2 6 7 8) λs=>(kq (j6 (xrg c h u rec0 s) 0 1 2 6 7 8)))))))))))))) (bk 0 (lq (xjf c h u) (λr=>j6 r 0 1 2 6 7 8) λw=>(kq (j6 (xrk c h u w) 0 1 2 6 7 8)))))))
noncomputable abbrev x1qv:=VX x50 7 r_2
theorem x15x:x1qv c h u (x181 x50) r_2 eNil=j1 (xjh c h u) 0:=(kq (j1 (xjh c h u) 0))
noncomputable abbrev x1qw:=VX x3f 134 r_19
theorem x15y:x1qw c h u (x181 x3f) r_19 eNil=j4 (xjm c h u) 0 1 2 3:=(tq (j4 (xjm c h u) 0 1 2 3) (sqN 2 (bk 0 (lq (xjl c h u) (λr=>j6 r 0 1 2 3 8 9) λrec0=>(bk 1 (tq (j6 (xrn c h u rec0) 0 1 2 3 8 9) (sqN 3 (sq2 (tq (j7 (xjk c h u rec0) 0 1 2 3 8 9 10) (sqN 1 (sq2 (sq2 (kq (j8 (xji c h u rec0) 0 1 2 3 8 9 10 11)) (kq (j9 (xjj c h u rec0) 0 1 2 3 8 9 10 11 12))) (kq (j9 (xrl c h u rec0) 0 1 2 3 8 9 10 11 12))))) (kq (j7 (xrm c h u rec0) 0 1 2 3 8 9 10))))))))))
noncomputable abbrev x1qx:=VX x51 8 r_2
theorem x15z:x1qx c h u (x181 x51) r_2 eNil=j1 (xjn c h u) 0:=(kq (j1 (xjn c h u) 0))
noncomputable abbrev x1qy:=VX x7f 73 r_28
theorem x160:x1qy c h u (x181 x7f) r_28 eNil=j3 (xjq c h u) 0 1 2:=(tq (j3 (xjq c h u) 0 1 2) (sqN 3 (sq2 (tq (j4 (xb3 c h u) 0 1 2 8) (sqN 3 (sq2 (tq (j3 (xjp c h u) 2 8 9) (sqN 4 (sq2 (kq (j1 (xjo c h u) 11)) (kq (j2 (xro c h u) 8 11))))) (kq (j3 (xrp c h u) 2 8 9))))) (kq (j4 (xrq c h u) 0 1 2 8)))))
noncomputable abbrev x1qz:=VX x7g 11 r_0
theorem x161:x1qz c h u (x181 x7g) r_0 eNil=j2 (xjr c h u) 0 1:=(kq (j2 (xjr c h u) 0 1))
noncomputable abbrev x1r0:=VX x7h 11 r_0
theorem x162:x1r0 c h u (x181 x7h) r_0 eNil=j2 (xjs c h u) 0 1:=(kq (j2 (xjs c h u) 0 1))
noncomputable abbrev x1r1:=VX x7i 16 r_10
theorem x163:x1r1 c h u (x181 x7i) r_10 eNil=j3 (xjt c h u) 0 1 2:=(kq (j3 (xjt c h u) 0 1 2))
noncomputable abbrev x1r2:=VX x7j 16 r_10
theorem x164:x1r2 c h u (x181 x7j) r_10 eNil=j3 (xju c h u) 0 1 2:=(kq (j3 (xju c h u) 0 1 2))
noncomputable abbrev x1r3:=VX x7k 54 r_0
theorem x165:x1r3 c h u (x181 x7k) r_0 eNil=j2 (xjw c h u) 0 1:=(tq (j2 (xjw c h u) 0 1) (sqN 1 (sq2 (kq (j2 (xrr c h u) 0 1)) (tq (j2 (xrw c h u) 0 1) (sqN 1 (tq (j3 (xrv c h u) 0 1 11) (cd (tq (j1 (xrt c h u) 0) (sqN 3 (sq2 (kq (j3 (xjv c h u) 0 5 6)) (kq (j3 (xrs c h u) 0 5 6))))) (kq (j2 (xru c h u) 0 1)))))))))
noncomputable abbrev x1r4:=VX x52 10 r_2
theorem x166:x1r4 c h u (x181 x52) r_2 eNil=j1 (xjx c h u) 0:=(tq (j1 (xjx c h u) 0) (sqN 1 (sq2 (kq (j1 (x11e c h u) 2)) (tq (j2 (xrz c h u) 0 2) (sqN 1 (bk 0 (lq (xry c h u) (λr=>j2 r 2 4) λrec0=>(kq (j2 (xrx c h u rec0) 2 4)))))))))
noncomputable abbrev x1r5:=VX x7l 19 r_5
theorem x167:x1r5 c h u (x181 x7l) r_5 eNil=j1 (xjy c h u) 0:=(kq (j1 (xjy c h u) 0))
noncomputable abbrev x1r6:=VX x7m 49 r_2
theorem x168:x1r6 c h u (x181 x7m) r_2 eNil=j1 (xk2 c h u) 0:=(tq (j1 (xk2 c h u) 0) (sqN 2 (sq2 (kq (j0 (xs0 c h u))) (tq (j1 (xs4 c h u) 0) (sqN 1 (bk 0 (lq (xk1 c h u) (λr=>j3 r 13 14 15) λrec0=>(tq (j3 (xs3 c h u rec0) 13 14 15) (sqN 2 (sq2 (kq (j3 (xjz c h u rec0) 13 14 15)) (bk 1 (tq (j3 (xs2 c h u rec0) 13 14 15) (sqN 1 (bk 2 (sq2 (kq (j6 (xk0 c h u rec0) 3 4 13 14 15 20)) (kq (j5 (xs1 c h u rec0) 3 4 13 14 15)))))))))))))))))
noncomputable abbrev x1r7:=VX x7n 9 r_0
theorem x169:x1r7 c h u (x181 x7n) r_0 eNil=j2 (xk3 c h u) 0 1:=(kq (j2 (xk3 c h u) 0 1))
noncomputable abbrev x1r8:=VX x7o 9 r_11
theorem x16a:x1r8 c h u (x181 x7o) r_11 eNil=j2 (xk4 c h u) 0 1:=(kq (j2 (xk4 c h u) 0 1))
noncomputable abbrev x1r9:=VX x53 53 r_19
theorem x16b:x1r9 c h u (x181 x53) r_19 eNil=j4 (xk7 c h u) 0 1 2 3:=(tq (j4 (xk7 c h u) 0 1 2 3) (sqN 1 (bk 0 (lq (xk6 c h u) (λr=>j5 r 0 1 2 3 8) λrec0=>(tq (j5 (xs8 c h u rec0) 0 1 2 3 8) (sqN 1 (sq2 (kq (j5 (xs5 c h u rec0) 0 1 2 3 8)) (bk 1 (tq (j5 (xs7 c h u rec0) 0 1 2 3 8) (sqN 1 (bk 2 (lq (xk5 c h u rec0) (λr=>j6 r 0 1 2 3 8 9) λs=>(kq (j6 (xs6 c h u rec0 s) 0 1 2 3 8 9))))))))))))))
noncomputable abbrev x1ra:=VX x2b 220 r_19
theorem x16c:x1ra c h u (x181 x2b) r_19 eNil=j5 (xkg c h u) 0 1 2 3 4:=(sq2 (sq2 (tq (j5 (xsd c h u) 0 1 2 3 4) (sqN 3 (sq2 (tq (j9 (xkb c h u) 0 1 2 3 4 18 19 20 21) (sqN 1 (sq2 (tq (j8 (xsa c h u) 0 1 2 3 4 18 19 20) (sqN 1 (sq2 (sq2 (kq (j5 (xk8 c h u) 0 3 4 18 24)) (kq (j7 (xk9 c h u) 0 1 3 4 18 20 24))) (kq (j8 (xs9 c h u) 0 1 2 3 4 18 20 24))))) (bk 8 (lq (xka c h u) (λr=>j10 r 0 1 2 3 4 18 19 20 21 22) λrec0=>(kq (j10 (xsb c h u rec0) 0 1 2 3 4 18 19 20 21 22))))))) (kq (j7 (xsc c h u) 0 1 2 3 4 18 19))))) (tq (j5 (xsl c h u) 0 1 2 3 4) (sqN 1 (tq (j6 (xsk c h u) 0 1 2 3 4 80) (cd (tq (j4 (xsi c h u) 0 1 2 4) (sqN 2 (sq2 (sq2 (kq (j0 (xse c h u))) (tq (j3 (xsg c h u) 0 2 14) (sqN 1 (bk 6 (lq (xkc c h u) (λr=>j3 r 0 14 17) λs=>(kq (j3 (xsf c h u s) 0 14 17))))))) (bk 4 (lq (xkd c h u) (λr=>j5 r 0 2 4 14 15) λw=>(kq (j5 (xsh c h u w) 0 2 4 14 15))))))) (kq (j5 (xsj c h u) 0 1 2 3 4))))))) (tq (j5 (xkg c h u) 0 1 2 3 4) (sqN 1 (tq (j6 (xss c h u) 0 1 2 3 4 28) (cd (tq (j5 (xsq c h u) 0 1 2 3 4) (sqN 2 (sq2 (sq2 (kq (j0 (xsm c h u))) (tq (j3 (xso c h u) 0 1 10) (sqN 1 (bk 2 (lq (xke c h u) (λr=>j3 r 0 10 13) λz=>(kq (j3 (xsn c h u z) 0 10 13))))))) (bk 0 (lq (xkf c h u) (λr=>j5 r 0 1 4 10 11) λy=>(kq (j5 (xsp c h u y) 0 1 4 10 11))))))) (kq (j5 (xsr c h u) 0 1 2 3 4)))))))
noncomputable abbrev x1rb:=VX x7p 49 r_19
theorem x16d:x1rb c h u (x181 x7p) r_19 eNil=j3 (xkj c h u) 0 1 2:=(tq (j3 (xkj c h u) 0 1 2) (sqN 1 (bk 0 (lq (xki c h u) (λr=>j4 r 0 1 2 6) λrec0=>(tq (j4 (xsw c h u rec0) 0 1 2 6) (sqN 1 (sq2 (kq (j4 (xst c h u rec0) 0 1 2 6)) (bk 1 (tq (j4 (xsv c h u rec0) 0 1 2 6) (sqN 1 (bk 2 (lq (xkh c h u rec0) (λr=>j5 r 0 1 2 6 7) λs=>(kq (j5 (xsu c h u rec0 s) 0 1 2 6 7))))))))))))))
noncomputable abbrev x1rc:=VX x7q 56 r_19
theorem x16e:x1rc c h u (x181 x7q) r_19 eNil=j3 (xkm c h u) 0 1 2:=(tq (j3 (xkm c h u) 0 1 2) (sqN 3 (sq2 (tq (j4 (xsy c h u) 0 6 7 8) (sqN 1 (bk 2 (lq (xkk c h u) (λr=>j4 r 0 6 7 10) λrec0=>(kq (j4 (xsx c h u rec0) 0 6 7 10)))))) (tq (j4 (xt0 c h u) 0 6 7 8) (sqN 1 (bk 0 (lq (xkl c h u) (λr=>j5 r 0 6 7 8 9) λs=>(kq (j5 (xsz c h u s) 0 6 7 8 9)))))))))
noncomputable abbrev x1rd:=VX x7r 65 r_19
theorem x16f:x1rd c h u (x181 x7r) r_19 eNil=j3 (xkp c h u) 0 1 2:=(tq (j3 (xkp c h u) 0 1 2) (sqN 2 (tq (j4 (xt7 c h u) 0 1 6 15) (cd (tq (j3 (xt5 c h u) 0 1 6) (sqN 3 (bk 0 (lq (xko c h u) (λr=>j6 r 0 1 6 7 8 9) λrec0=>(tq (j6 (xt4 c h u rec0) 0 1 6 7 8 9) (sqN 1 (sq2 (kq (j6 (xt1 c h u rec0) 0 1 6 7 8 9)) (bk 1 (tq (j6 (xt3 c h u rec0) 0 1 6 7 8 9) (sqN 1 (sq2 (kq (j7 (xkn c h u rec0) 0 1 6 7 8 9 10)) (kq (j7 (xt2 c h u rec0) 0 1 6 7 8 9 10))))))))))))) (kq (j0 (xt6 c h u)))))))
noncomputable abbrev x1re:=VX x7s 57 r_28
theorem x16g:x1re c h u (x181 x7s) r_28 eNil=j3 (xks c h u) 0 1 2:=(tq (j3 (xks c h u) 0 1 2) (sqN 6 (sq2 (kq (j2 (xkq c h u) 9 11)) (tq (j6 (xtb c h u) 0 8 9 10 11 12) (sqN 1 (tq (j7 (xta c h u) 0 8 9 10 11 12 32) (cd (sq2 (kq (j5 (xkr c h u) 0 9 10 11 12)) (kq (j6 (xt8 c h u) 0 8 9 10 11 12))) (kq (j2 (xt9 c h u) 9 11)))))))))
noncomputable abbrev x1rf:=VX x7t 32 r_19
theorem x16h:x1rf c h u (x181 x7t) r_19 eNil=j3 (xku c h u) 0 1 2:=(tq (j3 (xku c h u) 0 1 2) (sqN 2 (bk 0 (lq (xkt c h u) (λr=>j3 r 0 6 7) λrec0=>(kq (j3 (xtc c h u rec0) 0 6 7))))))
noncomputable abbrev x1rg:=VX x7u 133 r_10
theorem x16i:x1rg c h u (x181 x7u) r_10 eNil=j3 (xkz c h u) 0 1 2:=(tq (j3 (xkz c h u) 0 1 2) (sqN 2 (sq2 (kq (j0 (xtd c h u))) (tq (j4 (xtq c h u) 0 1 2 7) (sqN 1 (bk 0 (lq (xky c h u) (λr=>j5 r 0 1 2 7 8) λrec0=>(tq (j5 (xtp c h u rec0) 0 1 2 7 8) (sqN 1 (sq2 (kq (j5 (xb5 c h u rec0) 0 1 2 7 8)) (bk 1 (sq2 (tq (j5 (xtn c h u rec0) 0 1 2 7 8) (sqN 3 (sq2 (tq (j5 (xb6 c h u rec0) 0 1 2 7 8) (sqN 1 (tq (j6 (xth c h u rec0) 0 1 2 7 8 98) (cd (tq (j5 (xtf c h u rec0) 0 1 2 7 8) (sqN 1 (bk 6 (lq (xkv c h u rec0) (λr=>j6 r 0 1 2 7 8 10) λs=>(kq (j6 (xte c h u rec0 s) 0 1 2 7 8 10)))))) (kq (j5 (xtg c h u rec0) 0 1 2 7 8)))))) (tq (j5 (xtm c h u rec0) 0 1 2 7 8) (sqN 1 (tq (j6 (xtl c h u rec0) 0 1 2 7 8 61) (cd (tq (j5 (xtj c h u rec0) 0 1 2 7 8) (sqN 1 (bk 4 (lq (xkw c h u rec0) (λr=>j6 r 0 1 2 7 8 9) λw=>(kq (j6 (xti c h u rec0 w) 0 1 2 7 8 9)))))) (kq (j5 (xtk c h u rec0) 0 1 2 7 8))))))))) (bk 2 (lq (xkx c h u rec0) (λr=>j5 r 0 1 2 7 8) λz=>(kq (j5 (xto c h u rec0 z) 0 1 2 7 8))))))))))))))))
noncomputable abbrev x1rh:=VX xf 17 r_0
theorem x16j:x1rh c h u (x181 xf) r_0 eNil=j2 (xl0 c h u) 0 1:=(kq (j2 (xl0 c h u) 0 1))
noncomputable abbrev x1ri:=VX x7v 84 r_23
theorem x16k:x1ri c h u (x181 x7v) r_23 eNil=j4 (xl4 c h u) 0 1 2 3:=(tq (j4 (xl4 c h u) 0 1 2 3) (sqN 3 (sq2 (kq (j1 (xtr c h u) 9)) (bk 0 (lq (xl3 c h u) (λr=>j4 r 0 1 9 10) λrec0=>(bk 1 (sq2 (sq2 (kq (j4 (xts c h u rec0) 0 1 9 10)) (bk 4 (lq (xl1 c h u rec0) (λr=>j4 r 0 1 9 10) λs=>(kq (j4 (xtt c h u rec0 s) 0 1 9 10))))) (bk 2 (lq (xl2 c h u rec0) (λr=>j4 r 0 1 9 10) λw=>(kq (j4 (xtu c h u rec0 w) 0 1 9 10)))))))))))
noncomputable abbrev x1rj:=VX x7w 168 r_29
theorem x16l:x1rj c h u (x181 x7w) r_29 eNil=j4 (xla c h u) 0 1 2 3:=(tq (j4 (xla c h u) 0 1 2 3) (sqN 3 (sq2 (sq2 (tq (j4 (xtz c h u) 0 1 10 11) (sqN 4 (sq2 (kq (j3 (xtv c h u) 0 1 11)) (bk 4 (lq (xl7 c h u) (λr=>j4 r 0 1 10 11) λrec0=>(bk 5 (sq2 (sq2 (kq (j4 (xtw c h u rec0) 0 1 10 11)) (bk 8 (lq (xl5 c h u rec0) (λr=>j4 r 0 1 10 11) λs=>(kq (j4 (xtx c h u rec0 s) 0 1 10 11))))) (bk 6 (lq (xl6 c h u rec0) (λr=>j4 r 0 1 10 11) λw=>(kq (j4 (xty c h u rec0 w) 0 1 10 11))))))))))) (bk 2 (lq (xl8 c h u) (λr=>j4 r 0 1 10 11) λz=>(kq (j4 (xu0 c h u z) 0 1 10 11))))) (bk 0 (lq (xl9 c h u) (λr=>j4 r 0 1 10 11) λy=>(kq (j4 (xu1 c h u y) 0 1 10 11)))))))
noncomputable abbrev x1rk:=VX x7x 19 r_2
theorem x16m:x1rk c h u (x181 x7x) r_2 eNil=j1 (xld c h u) 0:=(tq (j1 (xld c h u) 0) (sqN 1 (sq2 (sq2 (kq (j2 (xlb c h u) 0 2)) (kq (j2 (xlc c h u) 0 2))) (kq (j2 (xu2 c h u) 0 2)))))
noncomputable abbrev x1rl:=VX x54 25 r_2
theorem x16n:x1rl c h u (x181 x54) r_2 eNil=j1 (xlh c h u) 0:=(tq (j1 (xlh c h u) 0) (sqN 1 (sq2 (sq2 (sq2 (kq (j2 (xle c h u) 0 2)) (kq (j2 (xlf c h u) 0 2))) (kq (j2 (xlg c h u) 0 2))) (kq (j2 (xu3 c h u) 0 2)))))
noncomputable abbrev x1rm:=VX x7y 172 r_28
theorem x16o:x1rm c h u (x181 x7y) r_28 eNil=j3 (xlm c h u) 0 1 2:=(tq (j3 (xlm c h u) 0 1 2) (sqN 4 (sq2 (sq2 (tq (j5 (xll c h u) 0 1 2 8 9) (sqN 1 (sq2 (tq (j6 (xb7 c h u) 0 1 2 8 9 10) (sqN 3 (sq2 (kq (j3 (xu4 c h u) 9 12 13)) (tq (j8 (xu8 c h u) 0 1 8 9 10 11 12 13) (sqN 1 (bk 3 (lq (xlk c h u) (λr=>j10 r 1 8 9 10 11 12 13 99 100 101) λrec0=>(tq (j10 (xu7 c h u rec0) 1 8 9 10 11 12 13 99 100 101) (sqN 2 (sq2 (kq (j10 (xli c h u rec0) 1 8 9 10 11 12 13 99 100 101)) (bk 4 (tq (j10 (xu6 c h u rec0) 1 8 9 10 11 12 13 99 100 101) (sqN 2 (sq2 (kq (j11 (xlj c h u rec0) 1 8 9 10 11 12 13 16 99 100 101)) (kq (j11 (xu5 c h u rec0) 1 8 9 10 11 12 13 15 99 100 101)))))))))))))))) (kq (j5 (xu9 c h u) 0 1 2 8 9))))) (kq (j5 (x2t c h u) 0 1 2 8 9))) (kq (j5 (xua c h u) 0 1 2 8 9)))))
noncomputable abbrev x1rn:=VX x2c 18 r_2
theorem x16p:x1rn c h u (x181 x2c) r_2 eNil=j1 (xln c h u) 0:=(kq (j1 (xln c h u) 0))
noncomputable abbrev x1ro:=VX x55 7 r_2
theorem x16q:x1ro c h u (x181 x55) r_2 eNil=j1 (xlo c h u) 0:=(kq (j1 (xlo c h u) 0))
noncomputable abbrev x1rp:=VX x7z 15 r_2
theorem x16r:x1rp c h u (x181 x7z) r_2 eNil=j1 (xlp c h u) 0:=(kq (j1 (xlp c h u) 0))
noncomputable abbrev x1rq:=VX x80 15 r_2
theorem x16s:x1rq c h u (x181 x80) r_2 eNil=j1 (xlq c h u) 0:=(kq (j1 (xlq c h u) 0))
noncomputable abbrev x1rr:=VX x81 167 r_19
theorem x16t:x1rr c h u (x181 x81) r_19 eNil=j2 (xlu c h u) 0 1:=(tq (j2 (xlu c h u) 0 1) (sqN 1 (sq2 (tq (j3 (xuc c h u) 0 1 4) (sqN 1 (sq2 (sq2 (kq (j3 (xlr c h u) 0 4 12)) (kq (j3 (xls c h u) 0 4 12))) (kq (j3 (xub c h u) 0 4 12))))) (bk 0 (lq (xlt c h u) (λr=>j3 r 0 1 4) λrec0=>(kq (j3 (xud c h u rec0) 0 1 4)))))))
noncomputable abbrev x1rs:=VX x82 102 r_30
theorem x16u:x1rs c h u (x181 x82) r_30 eNil=j5 (xm0 c h u) 0 1 2 3 4:=(tq (j5 (xm0 c h u) 0 1 2 3 4) (sqN 1 (sq2 (tq (j7 (xum c h u) 0 1 2 3 4 10 11) (sqN 2 (sq2 (sq2 (sq2 (kq (j6 (xlv c h u) 0 4 10 11 12 13)) (kq (j7 (xlw c h u) 0 3 4 10 11 12 13))) (tq (j9 (xlz c h u) 0 1 2 3 4 10 11 12 13) (sqN 1 (tq (j10 (xuk c h u) 0 1 2 3 4 10 11 12 13 34) (cd (tq (j9 (xug c h u) 0 1 2 3 4 10 11 12 13) (sqN 3 (sq2 (kq (j8 (xue c h u) 0 1 3 4 10 11 12 13)) (bk 0 (lq (xlx c h u) (λr=>j11 r 0 1 3 4 10 11 12 13 14 15 16) λrec0=>(kq (j11 (xuf c h u rec0) 0 1 3 4 10 11 12 13 14 15 16))))))) (tq (j9 (xuj c h u) 0 1 2 3 4 10 11 12 13) (sqN 1 (sq2 (kq (j8 (xuh c h u) 0 1 3 4 10 11 12 13)) (bk 2 (lq (xly c h u) (λr=>j9 r 0 1 3 4 10 11 12 13 17) λs=>(kq (j9 (xui c h u s) 0 1 3 4 10 11 12 13 17)))))))))))) (kq (j9 (xul c h u) 0 1 2 3 4 10 11 12 13))))) (kq (j7 (xun c h u) 0 1 2 3 4 10 11)))))
noncomputable abbrev x1rt:=VX x83 117 r_5
theorem x16v:x1rt c h u (x181 x83) r_5 eNil=j1 (xm1 c h u) 0:=(kq (j1 (xm1 c h u) 0))
noncomputable abbrev x1ru:=VX x84 19 r_0
theorem x16w:x1ru c h u (x181 x84) r_0 eNil=j2 (xm3 c h u) 0 1:=(tq (j2 (xm3 c h u) 0 1) (sqN 1 (sq2 (kq (j0 (xuo c h u))) (tq (j2 (xuq c h u) 0 1) (sqN 1 (bk 0 (lq (xm2 c h u) (λr=>j4 r 0 1 7 8) λrec0=>(kq (j4 (xup c h u rec0) 0 1 7 8)))))))))
noncomputable abbrev x1rv:=VX x85 58 r_19
theorem x16x:x1rv c h u (x181 x85) r_19 eNil=j5 (xm5 c h u) 0 1 2 3 4:=(tq (j5 (xm5 c h u) 0 1 2 3 4) (sqN 2 (sq2 (kq (j4 (xur c h u) 0 2 4 10)) (bk 0 (lq (xm4 c h u) (λr=>j5 r 0 2 4 10 11) λrec0=>(kq (j5 (xus c h u rec0) 0 2 4 10 11)))))))
noncomputable abbrev x1rw:=VX x56 76 r_19
theorem x16y:x1rw c h u (x181 x56) r_19 eNil=j4 (xm8 c h u) 0 1 2 3:=(tq (j4 (xm8 c h u) 0 1 2 3) (sqN 1 (bk 0 (lq (xm7 c h u) (λr=>j4 r 0 2 3 8) λrec0=>(bk 1 (tq (j4 (xuu c h u rec0) 0 2 3 8) (sqN 2 (sq2 (kq (j5 (xm6 c h u rec0) 0 2 3 8 9)) (kq (j5 (xut c h u rec0) 0 2 3 8 9))))))))))
noncomputable abbrev x1rx:=VX x86 7 r_2
theorem x16z:x1rx c h u (x181 x86) r_2 eNil=j1 (xm9 c h u) 0:=(kq (j1 (xm9 c h u) 0))
noncomputable abbrev x1ry:=VX x87 33 r_2
theorem x170:x1ry c h u (x181 x87) r_2 eNil=j1 (xma c h u) 0:=(kq (j1 (xma c h u) 0))
noncomputable abbrev x1rz:=VX x3g 15 r_10
theorem x171:x1rz c h u (x181 x3g) r_10 eNil=j3 (xmb c h u) 0 1 2:=(kq (j3 (xmb c h u) 0 1 2))
noncomputable abbrev x1s0:=VX x57 36 r_27
theorem x172:x1s0 c h u (x181 x57) r_27 eNil=j5 (xmc c h u) 0 1 2 3 4:=(kq (j5 (xmc c h u) 0 1 2 3 4))
noncomputable abbrev x1s1:=VX x58 6 r_2
theorem x173:x1s1 c h u (x181 x58) r_2 eNil=j1 (xmd c h u) 0:=(kq (j1 (xmd c h u) 0))
noncomputable abbrev x1s2:=VX xi 5 r_2
theorem x174:x1s2 c h u (x181 xi) r_2 eNil=j1 (xme c h u) 0:=(kq (j1 (xme c h u) 0))
noncomputable abbrev x1s3:=VX x88 94 r_2
theorem x175:x1s3 c h u (x181 x88) r_2 eNil=j1 (xmg c h u) 0:=(tq (j1 (xmg c h u) 0) (sqN 3 (sq2 (tq (j3 (xmf c h u) 0 3 4) (sqN 1 (sq2 (sq2 (kq (j1 (xuv c h u) 3)) (bk 0 (lq (xb9 c h u) (λr=>j4 r 0 3 4 5) λrec0=>(tq (j4 (xux c h u rec0) 0 3 4 5) (sqN 1 (sq2 (kq (j4 (xb8 c h u rec0) 0 3 4 5)) (kq (j4 (xuw c h u rec0) 0 3 4 5)))))))) (kq (j4 (xuy c h u) 0 3 4 5))))) (kq (j3 (xuz c h u) 0 3 4)))))
noncomputable abbrev x1s4:=VX x89 6 r_2
theorem x176:x1s4 c h u (x181 x89) r_2 eNil=j1 (xmh c h u) 0:=(kq (j1 (xmh c h u) 0))
noncomputable abbrev x1s5:=VX x8a 4 r_2
theorem x177:x1s5 c h u (x181 x8a) r_2 eNil=j1 (xmi c h u) 0:=(kq (j1 (xmi c h u) 0))
noncomputable abbrev x1s6:=VX x8b 8 r_2
theorem x178:x1s6 c h u (x181 x8b) r_2 eNil=j1 (xmj c h u) 0:=(kq (j1 (xmj c h u) 0))
noncomputable abbrev x1s7:=VX x8c 8 r_2
theorem x179:x1s7 c h u (x181 x8c) r_2 eNil=j1 (xmk c h u) 0:=(kq (j1 (xmk c h u) 0))
noncomputable abbrev x1s8:=VX x3h 38 r_19
theorem x17a:x1s8 c h u (x181 x3h) r_19 eNil=j4 (xmm c h u) 0 1 2 3:=(tq (j4 (xmm c h u) 0 1 2 3) (sqN 1 (bk 0 (lq (xml c h u) (λr=>j5 r 0 1 2 3 10) λrec0=>(kq (j5 (xv0 c h u rec0) 0 1 2 3 10))))))
noncomputable abbrev x1s9:=VX x3i 28 r_29
theorem x17b:x1s9 c h u (x181 x3i) r_29 eNil=j4 (xmn c h u) 0 1 2 3:=(kq (j4 (xmn c h u) 0 1 2 3))
noncomputable abbrev x1sa:=VX x8d 14 r_2
theorem x17c:x1sa c h u (x181 x8d) r_2 eNil=j1 (xmo c h u) 0:=(kq (j1 (xmo c h u) 0))
noncomputable abbrev x1sb:=VX x8e 14 r_2
theorem x17d:x1sb c h u (x181 x8e) r_2 eNil=j1 (xmp c h u) 0:=(kq (j1 (xmp c h u) 0))
end Go.Ix
