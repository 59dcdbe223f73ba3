import Derived.Test.YtibmppgmjbpdmaaGreatDoorFxText0
import Derived.Test.YtibmppgmjbpdmaaGreatDoorFxText1
import Derived.Test.YtibmppgmjbpdmaaGreatDoorFxEnt
import Derived.Test.YtibmppgmjbpdmaaGreatDoorFxRules
import Derived.Test.YtibmppgmjbpdmaaGreatDoorFxProj
import Derived.ProofKit
set_option linter.unusedVariables false
namespace Go.Ix
open Go.Proofs
variable{c:x14p}{h:FHs}{u:Nat}
noncomputable abbrev x1jg:=VX x2e 167 r_0
theorem xyi:x1jg c h u (x14r x2e) r_0 eNil=j3 (x73 c h u) 0 1 2:=(tq (j3 (x73 c h u) 0 1 2) (sqN 10 (sq2 (kq (j8 (x3a c h u) 0 2 7 12 13 14 15 16)) (tq (j8 (x95 c h u) 0 2 7 12 13 14 15 16) (sqN 1 (bk 0 (lq (x24 c h u) (λr=>j9 r 0 2 7 12 13 14 15 16 17) λrec0=>(tq (j9 (x72 c h u rec0) 0 2 7 12 13 14 15 16 17) (sqN 1 (sq2 (kq (j9 (x3b c h u rec0) 0 2 7 12 13 14 15 16 17)) (kq (j9 (x94 c h u rec0) 0 2 7 12 13 14 15 16 17))))))))))))
noncomputable abbrev x1jh:=VX x1l 71 r_1
theorem xyj:x1jh c h u (x14r x1l) r_1 eNil=j0 (x96 c h u):=(kq (j0 (x96 c h u)))
noncomputable abbrev x1ji:=VX x1m 39 r_2
theorem xyk:x1ji c h u (x14r x1m) r_2 eNil=j1 (x76 c h u) 0:=(tq (j1 (x76 c h u) 0) (sqN 1 (sq2 (kq (j1 (x97 c h u) 0)) (tq (j1 (x98 c h u) 0) (sqN 1 (bk 0 (lq (x26 c h u) (λr=>j2 r 0 3) λrec0=>(kq (j2 (x75 c h u rec0) 0 3)))))))))
noncomputable abbrev x1jj:=VX xp 92 r_3
theorem xyl:x1jj c h u (x14r xp) r_3 eNil=j1 (x77 c h u) 0:=(tq (j1 (x77 c h u) 0) (sqN 4 (sq2 (kq (j3 (x3c c h u) 0 5 7)) (tq (j7 (x9b c h u) 0 2 3 4 5 6 7) (sqN 1 (bk 0 (tq (j8 (x9a c h u) 0 2 3 4 5 6 7 22) (rg2 (.tmp 22) #[23] (λlid u=>(kq (j4 (x99 c h u lid) 5 6 7 8))) (λlid u=>(kq (j4 (x3d c h u lid) 5 6 7 23)))))))))))
noncomputable abbrev x1jk:=VX xw 26 r_4
theorem xym:x1jk c h u (x14r xw) r_4 eNil=j2 (x79 c h u) 0 1:=(tq (j2 (x79 c h u) 0 1) (sqN 2 (sq2 (kq (j0 (x9c c h u))) (tq (j2 (x9d c h u) 0 1) (sqN 1 (bk 0 (lq (x27 c h u) (λr=>j3 r 0 1 5) λrec0=>(kq (j3 (x78 c h u rec0) 0 1 5)))))))))
noncomputable abbrev x1jl:=VX x3r 12 r_5
theorem xyn:x1jl c h u (x14r x3r) r_5 eNil=j1 (x9e c h u) 0:=(kq (j1 (x9e c h u) 0))
noncomputable abbrev x1jm:=VX x1n 6 r_2
theorem xyo:x1jm c h u (x14r x1n) r_2 eNil=j1 (x7a c h u) 0:=(kq (j1 (x7a c h u) 0))
noncomputable abbrev x1jn:=VX x1o 37 r_5
theorem xyp:x1jn c h u (x14r x1o) r_5 eNil=j1 (x7c c h u) 0:=(tq (j1 (x7c c h u) 0) (sqN 4 (sq2 (kq (j1 (x9f c h u) 5)) (tq (j3 (x9g c h u) 0 5 6) (sqN 1 (bk 0 (lq (x28 c h u) (λr=>j5 r 5 6 14 15 16) λrec0=>(kq (j5 (x7b c h u rec0) 5 6 14 15 16)))))))))
noncomputable abbrev x1jo:=VX x1p 14 r_4
theorem xyq:x1jo c h u (x14r x1p) r_4 eNil=j2 (x7d c h u) 0 1:=(tq (j2 (x7d c h u) 0 1) (sqN 2 (sq2 (kq (j1 (x3g c h u) 0)) (kq (j2 (x9h c h u) 0 1)))))
noncomputable abbrev x1jp:=VX x15 15 r_0
theorem xyr:x1jp c h u (x14r x15) r_0 eNil=j3 (x7e c h u) 0 1 2:=(kq (j3 (x7e c h u) 0 1 2))
noncomputable abbrev x1jq:=VX x3s 31 r_6
theorem xys:x1jq c h u (x14r x3s) r_6 eNil=j3 (x9i c h u) 0 1 2:=(kq (j3 (x9i c h u) 0 1 2))
noncomputable abbrev x1jr:=VX x2f 18 r_7
theorem xyt:x1jr c h u (x14r x2f) r_7 eNil=j0 (x9j c h u):=(kq (j0 (x9j c h u)))
noncomputable abbrev x1js:=VX x2g 7 r_1
theorem xyu:x1js c h u (x14r x2g) r_1 eNil=j0 (x9l c h u):=(kq (j0 (x9l c h u)))
noncomputable abbrev x1jt:=VX x3t 38 r_8
theorem xyv:x1jt c h u (x14r x3t) r_8 eNil=j3 (x9m c h u) 0 1 2:=(kq (j3 (x9m c h u) 0 1 2))
noncomputable abbrev x1ju:=VX x3u 21 r_9
theorem xyw:x1ju c h u (x14r x3u) r_9 eNil=j2 (x9n c h u) 0 1:=(kq (j2 (x9n c h u) 0 1))
noncomputable abbrev x1jv:=VX x3v 9 r_10
theorem xyx:x1jv c h u (x14r x3v) r_10 eNil=j0 (x9p c h u):=(kq (j0 (x9p c h u)))
noncomputable abbrev x1jw:=VX x3w 26 r_4
theorem xyy:x1jw c h u (x14r x3w) r_4 eNil=j2 (x9r c h u) 0 1:=(tq (j2 (x9r c h u) 0 1) (sqN 2 (sq2 (kq (j0 (xit c h u))) (tq (j2 (xiv c h u) 0 1) (sqN 1 (bk 0 (lq (x9q c h u) (λr=>j3 r 0 1 5) λrec0=>(kq (j3 (xiu c h u rec0) 0 1 5)))))))))
noncomputable abbrev x1jx:=VX x16 4 r_2
theorem xyz:x1jx c h u (x14r x16) r_2 eNil=j1 (x9s c h u) 0:=(kq (j1 (x9s c h u) 0))
noncomputable abbrev x1jy:=VX x1q 11 r_9
theorem xz0:x1jy c h u (x14r x1q) r_9 eNil=j2 (x7g c h u) 0 1:=(kq (j2 (x7g c h u) 0 1))
noncomputable abbrev x1jz:=VX xi 13 r_11
theorem xz1:x1jz c h u (x14r xi) r_11 eNil=j2 (x7h c h u) 0 1:=(kq (j2 (x7h c h u) 0 1))
noncomputable abbrev x1k0:=VX xx 29 r_4
theorem xz2:x1k0 c h u (x14r xx) r_4 eNil=j2 (x7j c h u) 0 1:=(tq (j2 (x7j c h u) 0 1) (sqN 1 (sq2 (kq (j1 (x9t c h u) 0)) (tq (j2 (x9u c h u) 0 3) (sqN 1 (bk 0 (lq (x29 c h u) (λr=>j4 r 0 14 15 16) λrec0=>(kq (j4 (x7i c h u rec0) 0 14 15 16)))))))))
noncomputable abbrev x1k1:=VX xk 54 r_2
theorem xz3:x1k1 c h u (x14r xk) r_2 eNil=j1 (x7l c h u) 0:=(tq (j1 (x7l c h u) 0) (sqN 1 (sq2 (kq (j1 (x9v c h u) 0)) (tq (j1 (x9w c h u) 0) (sqN 1 (bk 0 (lq (x1g c h u) (λr=>j4 r 0 7 8 9) λrec0=>(kq (j4 (x7k c h u rec0) 0 7 8 9)))))))))
noncomputable abbrev x1k2:=VX x17 29 r_2
theorem xz4:x1k2 c h u (x14r x17) r_2 eNil=j1 (x7n c h u) 0:=(tq (j1 (x7n c h u) 0) (sqN 2 (sq2 (kq (j0 (x9x c h u))) (tq (j1 (x9y c h u) 0) (sqN 1 (bk 0 (lq (x2a c h u) (λr=>j3 r 8 9 10) λrec0=>(kq (j3 (x7m c h u rec0) 8 9 10)))))))))
noncomputable abbrev x1k3:=VX x3x 17 r_2
theorem xz5:x1k3 c h u (x14r x3x) r_2 eNil=j1 (xa0 c h u) 0:=(tq (j1 (xa0 c h u) 0) (sqN 2 (sq2 (kq (j1 (xiw c h u) 3)) (tq (j2 (xiy c h u) 0 3) (sqN 1 (bk 0 (lq (x9z c h u) (λr=>j4 r 3 6 7 8) λrec0=>(kq (j4 (xix c h u rec0) 3 6 7 8)))))))))
noncomputable abbrev x1k4:=VX x3y 57 r_12
theorem xz6:x1k4 c h u (x14r x3y) r_12 eNil=j3 (xa1 c h u) 0 1 2:=(kq (j3 (xa1 c h u) 0 1 2))
noncomputable abbrev x1k5:=VX x3z 22 r_13
theorem xz7:x1k5 c h u (x14r x3z) r_13 eNil=j1 (xa2 c h u) 0:=(kq (j1 (xa2 c h u) 0))
noncomputable abbrev x1k6:=VX x2h 28 r_14
theorem xz8:x1k6 c h u (x14r x2h) r_14 eNil=j3 (xa3 c h u) 0 1 2:=(kq (j3 (xa3 c h u) 0 1 2))
noncomputable abbrev x1k7:=VX x2i 19 r_2
theorem xz9:x1k7 c h u (x14r x2i) r_2 eNil=j1 (xa5 c h u) 0:=(tq (j1 (xa5 c h u) 0) (sqN 1 (sq2 (kq (j0 (xj0 c h u))) (tq (j1 (xj2 c h u) 1) (sqN 1 (bk 0 (lq (xa4 c h u) (λr=>j2 r 1 3) λrec0=>(kq (j2 (xj1 c h u rec0) 1 3)))))))))
noncomputable abbrev x1k8:=VX x2j 38 r_11
theorem xza:x1k8 c h u (x14r x2j) r_11 eNil=j2 (xa7 c h u) 0 1:=(tq (j2 (xa7 c h u) 0 1) (sqN 4 (sq2 (kq (j1 (xj3 c h u) 8)) (tq (j2 (xj5 c h u) 1 8) (sqN 1 (bk 0 (lq (xa6 c h u) (λr=>j4 r 8 21 22 23) λrec0=>(kq (j4 (xj4 c h u rec0) 8 21 22 23)))))))))
noncomputable abbrev x1k9:=VX x40 12 r_4
theorem xzb:x1k9 c h u (x14r x40) r_4 eNil=j2 (xa8 c h u) 0 1:=(kq (j2 (xa8 c h u) 0 1))
noncomputable abbrev x1ka:=VX x41 104 r_15
theorem xzc:x1ka c h u (x14r x41) r_15 eNil=j2 (xaa c h u) 0 1:=(tq (j2 (xaa c h u) 0 1) (sqN 3 (sq2 (sq2 (kq (j2 (x7o c h u) 4 5)) (kq (j4 (xj6 c h u) 4 5 6 7))) (tq (j6 (xji c h u) 2 3 4 5 6 7) (sqN 1 (bk 0 (tq (j7 (xjh c h u) 2 3 4 5 6 7 15) (rg (.tmp 15) #[16] (λu=>(bk 1 (tq (j6 (xjf c h u) 2 3 5 6 7 8) (sqN 4 (bk 2 (tq (j7 (xje c h u) 2 3 5 7 9 10 32) (sqN 1 (tq (j8 (xjd c h u) 2 3 5 7 9 10 32 64) (cd (kq (j2 (xj7 c h u) 5 9)) (tq (j7 (xjc c h u) 2 3 5 7 9 10 32) (sqN 1 (tq (j7 (xjb c h u) 2 3 5 7 9 10 72) (cd (kq (j2 (xj8 c h u) 5 9)) (tq (j6 (xja c h u) 2 3 5 7 9 10) (sqN 1 (sq2 (kq (j2 (xa9 c h u) 7 11)) (kq (j4 (xj9 c h u) 5 7 9 11)))))))))))))))))) (λu=>(kq (j6 (xjg c h u) 2 3 5 6 7 16)))))))))))
noncomputable abbrev x1kb:=VX x42 14 r_16
theorem xzd:x1kb c h u (x14r x42) r_16 eNil=j1 (xab c h u) 0:=(kq (j1 (xab c h u) 0))
noncomputable abbrev x1kc:=VX x43 62 r_9
theorem xze:x1kc c h u (x14r x43) r_9 eNil=j2 (xad c h u) 0 1:=(tq (j2 (xad c h u) 0 1) (sqN 2 (sq2 (kq (j1 (xjk c h u) 6)) (tq (j3 (xjm c h u) 1 2 6) (sqN 1 (bk 0 (lq (xac c h u) (λr=>j6 r 1 2 6 9 10 11) λrec0=>(kq (j6 (xjl c h u rec0) 1 2 6 9 10 11)))))))))
noncomputable abbrev x1kd:=VX xq 25 r_17
theorem xzf:x1kd c h u (x14r xq) r_17 eNil=j2 (x2b c h u NN) 0 1:=(bk 0 (lq (x2b c h u) (λr=>j2 r 0 1) λrec0=>(tq (j2 (xag c h u rec0) 0 1) (sqN 1 (bk 1 (tq (j2 (xaf c h u rec0) 0 1) (sqN 1 (sq2 (kq (j3 (x3k c h u rec0) 0 1 3)) (kq (j2 (xae c h u rec0) 0 1))))))))))
noncomputable abbrev x1ke:=VX x1r 8 r_4
theorem xzg:x1ke c h u (x14r x1r) r_4 eNil=j2 (x7q c h u) 0 1:=(kq (j2 (x7q c h u) 0 1))
noncomputable abbrev x1kf:=VX x1s 18 r_9
theorem xzh:x1kf c h u (x14r x1s) r_9 eNil=j2 (x7r c h u) 0 1:=(kq (j2 (x7r c h u) 0 1))
noncomputable abbrev x1kg:=VX x1t 23 r_11
theorem xzi:x1kg c h u (x14r x1t) r_11 eNil=j2 (x7s c h u) 0 1:=(kq (j2 (x7s c h u) 0 1))
noncomputable abbrev x1kh:=VX x8x 5 r_2
theorem xzj:x1kh c h u (x14r x8x) r_2 eNil=j1 (xah c h u) 0:=(kq (j1 (xah c h u) 0))
noncomputable abbrev x1ki:=VX x18 9 r_4
theorem xzk:x1ki c h u (x14r x18) r_4 eNil=j2 (x7t c h u) 0 1:=(kq (j2 (x7t c h u) 0 1))
noncomputable abbrev x1kj:=VX x44 12 r_4
theorem xzl:x1kj c h u (x14r x44) r_4 eNil=j2 (xai c h u) 0 1:=(kq (j2 (xai c h u) 0 1))
noncomputable abbrev x1kk:=VX x2k 32 r_18
theorem xzm:x1kk c h u (x14r x2k) r_18 eNil=j2 (xaj c h u) 0 1:=(kq (j2 (xaj c h u) 0 1))
noncomputable abbrev x1kl:=VX x2l 56 r_3
theorem xzn:x1kl c h u (x14r x2l) r_3 eNil=j1 (xak c h u) 0:=(tq (j1 (xak c h u) 0) (sqN 1 (sq2 (kq (j1 (xjn c h u) 1)) (bk 0 (sq2 (kq (j2 (x7v c h u) 1 7)) (kq (j1 (xjo c h u) 1)))))))
noncomputable abbrev x1km:=VX x2m 23 r_4
theorem xzo:x1km c h u (x14r x2m) r_4 eNil=j2 (xam c h u) 0 1:=(tq (j2 (xam c h u) 0 1) (sqN 2 (sq2 (kq (j1 (xal c h u) 5)) (kq (j3 (xjp c h u) 0 1 5)))))
noncomputable abbrev x1kn:=VX x45 10 r_4
theorem xzp:x1kn c h u (x14r x45) r_4 eNil=j2 (xan c h u) 0 1:=(kq (j2 (xan c h u) 0 1))
noncomputable abbrev x1ko:=VX x46 129 r_2
theorem xzq:x1ko c h u (x14r x46) r_2 eNil=j1 (xas c h u) 0:=(tq (j1 (xas c h u) 0) (sqN 2 (sq2 (tq (j1 (xjw c h u) 1) (sqN 1 (sq2 (tq (j1 (xjt c h u) 1) (sqN 1 (sq2 (kq (j0 (xjq c h u))) (tq (j1 (xjs c h u) 1) (sqN 1 (bk 6 (lq (xao c h u) (λr=>j4 r 1 107 108 109) λrec0=>(kq (j4 (xjr c h u rec0) 1 107 108 109))))))))) (tq (j1 (xjv c h u) 1) (sqN 1 (bk 3 (lq (xap c h u) (λr=>j4 r 1 60 61 62) λs=>(kq (j4 (xju c h u s) 1 60 61 62))))))))) (tq (j1 (xjy c h u) 1) (sqN 1 (bk 1 (lq (xaq c h u) (λr=>j4 r 1 30 31 32) λw=>(kq (j4 (xjx c h u w) 1 30 31 32)))))))))
noncomputable abbrev x1kp:=VX x47 9 r_2
theorem xzr:x1kp c h u (x14r x47) r_2 eNil=j1 (xat c h u) 0:=(kq (j1 (xat c h u) 0))
noncomputable abbrev x1kq:=VX x48 97 r_4
theorem xzs:x1kq c h u (x14r x48) r_4 eNil=j2 (xav c h u) 0 1:=(tq (j2 (xav c h u) 0 1) (sqN 6 (sq2 (kq (j6 (xau c h u) 0 3 5 7 8 10)) (kq (j6 (xk0 c h u) 0 3 5 7 8 10)))))
noncomputable abbrev x1kr:=VX x49 19 r_4
theorem xzt:x1kr c h u (x14r x49) r_4 eNil=j2 (xax c h u) 0 1:=(tq (j2 (xax c h u) 0 1) (sqN 1 (sq2 (kq (j0 (xk1 c h u))) (tq (j2 (xk3 c h u) 0 1) (sqN 1 (bk 0 (lq (xaw c h u) (λr=>j4 r 0 1 7 8) λrec0=>(kq (j4 (xk2 c h u rec0) 0 1 7 8)))))))))
noncomputable abbrev x1ks:=VX x4a 8 r_19
theorem xzu:x1ks c h u (x14r x4a) r_19 eNil=j2 (xay c h u) 0 1:=(kq (j2 (xay c h u) 0 1))
noncomputable abbrev x1kt:=VX x4b 6 r_4
theorem xzv:x1kt c h u (x14r x4b) r_4 eNil=j2 (xaz c h u) 0 1:=(kq (j2 (xaz c h u) 0 1))
noncomputable abbrev x1ku:=VX x4c 44 r_9
theorem xzw:x1ku c h u (x14r x4c) r_9 eNil=j2 (xb0 c h u) 0 1:=(kq (j2 (xb0 c h u) 0 1))
noncomputable abbrev x1kv:=VX x4d 128 r_5
theorem xzx:x1kv c h u (x14r x4d) r_5 eNil=j1 (xb3 c h u) 0:=(tq (j1 (xb3 c h u) 0) (sqN 2 (sq2 (tq (j1 (xk8 c h u) 1) (sqN 1 (sq2 (kq (j1 (xk4 c h u) 1)) (tq (j1 (xk6 c h u) 1) (sqN 1 (bk 3 (lq (xb1 c h u) (λr=>j4 r 1 83 84 85) λrec0=>(kq (j4 (xk5 c h u rec0) 1 83 84 85))))))))) (tq (j1 (xka c h u) 1) (sqN 1 (bk 0 (lq (xb2 c h u) (λr=>j4 r 1 14 15 16) λs=>(kq (j4 (xk9 c h u s) 1 14 15 16)))))))))
noncomputable abbrev x1kw:=VX xg 15 r_0
theorem xzy:x1kw c h u (x14r xg) r_0 eNil=j3 (xb4 c h u) 0 1 2:=(kq (j3 (xb4 c h u) 0 1 2))
noncomputable abbrev x1kx:=VX x4e 36 r_4
theorem xzz:x1kx c h u (x14r x4e) r_4 eNil=j2 (xb6 c h u) 0 1:=(tq (j2 (xb6 c h u) 0 1) (sqN 2 (sq2 (kq (j1 (xkb c h u) 5)) (bk 0 (lq (xb5 c h u) (λr=>j3 r 1 2 5) λrec0=>(kq (j3 (xkc c h u rec0) 1 2 5)))))))
noncomputable abbrev x1ky:=VX xy 8 r_4
theorem x100:x1ky c h u (x14r xy) r_4 eNil=j2 (x80 c h u) 0 1:=(kq (j2 (x80 c h u) 0 1))
noncomputable abbrev x1kz:=VX x1u 21 r_4
theorem x101:x1kz c h u (x14r x1u) r_4 eNil=j2 (x81 c h u) 0 1:=(kq (j2 (x81 c h u) 0 1))
noncomputable abbrev x1l0:=VX xz 143 r_4
theorem x102:x1l0 c h u (x14r xz) r_4 eNil=j2 (x3l c h u) 0 1:=(tq (j2 (x3l c h u) 0 1) (sqN 8 (sq2 (kq (j0 (xkd c h u))) (bk 1 (lq (xb8 c h u) (λr=>j8 r 0 1 5 6 7 8 9 10) λrec0=>(tq (j8 (xkg c h u rec0) 0 1 5 6 7 8 9 10) (sqN 1 (bk 2 (sq2 (kq (j8 (xb7 c h u rec0) 0 1 5 6 7 8 9 10)) (kq (j8 (xkf c h u rec0) 0 1 5 6 7 8 9 10)))))))))))
noncomputable abbrev x1l1:=VX x4g 54 r_4
theorem x103:x1l1 c h u (x14r x4g) r_4 eNil=j2 (xba c h u) 0 1:=(tq (j2 (xba c h u) 0 1) (sqN 1 (sq2 (kq (j2 (xkh c h u) 0 1)) (tq (j2 (xkm c h u) 0 1) (sqN 1 (tq (j3 (xkl c h u) 0 1 11) (cd (tq (j1 (xkj c h u) 0) (sqN 3 (sq2 (kq (j3 (xb9 c h u) 0 5 6)) (kq (j3 (xki c h u) 0 5 6))))) (kq (j2 (xkk c h u) 0 1)))))))))
noncomputable abbrev x1l2:=VX x10 8 r_4
theorem x104:x1l2 c h u (x14r x10) r_4 eNil=j2 (x82 c h u) 0 1:=(kq (j2 (x82 c h u) 0 1))
noncomputable abbrev x1l3:=VX x4h 19 r_4
theorem x105:x1l3 c h u (x14r x4h) r_4 eNil=j2 (xbc c h u) 0 1:=(tq (j2 (xbc c h u) 0 1) (sqN 1 (sq2 (kq (j0 (xkn c h u))) (tq (j2 (xkp c h u) 0 1) (sqN 1 (bk 0 (lq (xbb c h u) (λr=>j4 r 0 1 7 8) λrec0=>(kq (j4 (xko c h u rec0) 0 1 7 8)))))))))
noncomputable abbrev x1l4:=VX x4i 8 r_19
theorem x106:x1l4 c h u (x14r x4i) r_19 eNil=j2 (xbd c h u) 0 1:=(kq (j2 (xbd c h u) 0 1))
noncomputable abbrev x1l5:=VX x4j 64 r_20
theorem x107:x1l5 c h u (x14r x4j) r_20 eNil=j2 (xbf c h u) 0 1:=(tq (j2 (xbf c h u) 0 1) (sqN 3 (sq2 (kq (j3 (xkq c h u) 4 6 7)) (tq (j5 (xkt c h u) 1 2 4 6 7) (sqN 1 (bk 0 (lq (xbe c h u) (λr=>j7 r 1 4 6 7 17 18 19) λrec0=>(tq (j7 (xks c h u rec0) 1 4 6 7 17 18 19) (sqN 2 (sq2 (kq (j7 (x83 c h u rec0) 1 4 6 7 17 18 19)) (kq (j7 (xkr c h u rec0) 1 4 6 7 17 18 19))))))))))))
noncomputable abbrev x1l6:=VX x4k 90 r_11
theorem x108:x1l6 c h u (x14r x4k) r_11 eNil=j2 (xbk c h u) 0 1:=(tq (j2 (xbk c h u) 0 1) (sqN 5 (sq2 (tq (j4 (xky c h u) 1 2 8 9) (sqN 3 (sq2 (kq (j1 (xku c h u) 14)) (tq (j4 (xkx c h u) 1 12 13 14) (sqN 1 (bk 2 (lq (xbh c h u) (λr=>j7 r 1 12 13 14 60 61 62) λrec0=>(tq (j7 (xkw c h u rec0) 1 12 13 14 60 61 62) (sqN 2 (sq2 (kq (j7 (xbg c h u rec0) 1 12 13 14 60 61 62)) (kq (j7 (xkv c h u rec0) 1 12 13 14 60 61 62)))))))))))) (tq (j4 (xl1 c h u) 1 2 8 9) (sqN 1 (bk 0 (lq (xbj c h u) (λr=>j7 r 1 2 8 9 36 37 38) λs=>(tq (j7 (xl0 c h u s) 1 2 8 9 36 37 38) (sqN 2 (sq2 (kq (j7 (xbi c h u s) 1 2 8 9 36 37 38)) (kq (j7 (xkz c h u s) 1 2 8 9 36 37 38))))))))))))
noncomputable abbrev x1l7:=VX x2n 10 r_4
theorem x109:x1l7 c h u (x14r x2n) r_4 eNil=j2 (xbl c h u) 0 1:=(kq (j2 (xbl c h u) 0 1))
noncomputable abbrev x1l8:=VX x11 15 r_0
theorem x10a:x1l8 c h u (x14r x11) r_0 eNil=j3 (xbm c h u) 0 1 2:=(kq (j3 (xbm c h u) 0 1 2))
noncomputable abbrev x1l9:=VX x1v 15 r_2
theorem x10b:x1l9 c h u (x14r x1v) r_2 eNil=j1 (xbo c h u) 0:=(tq (j1 (xbo c h u) 0) (sqN 1 (sq2 (kq (j0 (xl3 c h u))) (tq (j1 (xl5 c h u) 0) (sqN 1 (bk 0 (lq (xbn c h u) (λr=>j3 r 5 6 7) λrec0=>(kq (j3 (xl4 c h u rec0) 5 6 7)))))))))
noncomputable abbrev x1la:=VX x19 21 r_0
theorem x10c:x1la c h u (x14r x19) r_0 eNil=j3 (xbq c h u) 0 1 2:=(tq (j3 (xbq c h u) 0 1 2) (sqN 2 (sq2 (kq (j0 (xl7 c h u))) (tq (j3 (xl9 c h u) 0 1 2) (sqN 1 (bk 0 (lq (xbp c h u) (λr=>j4 r 0 1 11 12) λrec0=>(kq (j4 (xl8 c h u rec0) 0 1 11 12)))))))))
noncomputable abbrev x1lb:=VX x4l 10 r_19
theorem x10d:x1lb c h u (x14r x4l) r_19 eNil=j2 (xbr c h u) 0 1:=(kq (j2 (xbr c h u) 0 1))
noncomputable abbrev x1lc:=VX x2o 100 r_2
theorem x10e:x1lc c h u (x14r x2o) r_2 eNil=j1 (xbv c h u) 0:=(tq (j1 (xbv c h u) 0) (sqN 3 (sq2 (tq (j1 (xlj c h u) 0) (sqN 1 (sq2 (kq (j0 (xla c h u))) (tq (j1 (xli c h u) 7) (sqN 1 (bk 3 (lq (xbt c h u) (λr=>j4 r 7 43 44 45) λrec0=>(tq (j4 (xlh c h u rec0) 7 43 44 45) (sqN 2 (sq2 (kq (j4 (xlb c h u rec0) 7 43 44 45)) (bk 4 (tq (j4 (xlg c h u rec0) 7 43 44 45) (sqN 2 (bk 5 (lq (xbs c h u rec0) (λr=>j9 r 7 8 9 43 44 45 52 53 54) λs=>(tq (j9 (xlf c h u rec0 s) 7 8 9 43 44 45 52 53 54) (sqN 2 (sq2 (kq (j9 (xlc c h u rec0 s) 7 8 9 43 44 45 52 53 54)) (bk 6 (tq (j9 (xle c h u rec0 s) 7 8 9 43 44 45 52 53 54) (sqN 2 (sq2 (kq (j10 (x84 c h u rec0 s) 7 8 9 12 43 44 45 52 53 54)) (kq (j11 (xld c h u rec0 s) 7 8 9 10 11 43 44 45 52 53 54)))))))))))))))))))))))) (tq (j2 (xlm c h u) 0 3) (sqN 1 (bk 1 (lq (xbu c h u) (λr=>j5 r 0 3 22 23 24) λw=>(kq (j5 (xlk c h u w) 0 3 22 23 24)))))))))
noncomputable abbrev x1ld:=VX x1a 5 r_2
theorem x10f:x1ld c h u (x14r x1a) r_2 eNil=j1 (xbw c h u) 0:=(kq (j1 (xbw c h u) 0))
noncomputable abbrev x1le:=VX x1w 10 r_4
theorem x10g:x1le c h u (x14r x1w) r_4 eNil=j2 (xbx c h u) 0 1:=(kq (j2 (xbx c h u) 0 1))
noncomputable abbrev x1lf:=VX x4m 10 r_19
theorem x10h:x1lf c h u (x14r x4m) r_19 eNil=j2 (xby c h u) 0 1:=(kq (j2 (xby c h u) 0 1))
noncomputable abbrev x1lg:=VX x4n 10 r_19
theorem x10i:x1lg c h u (x14r x4n) r_19 eNil=j2 (xbz c h u) 0 1:=(kq (j2 (xbz c h u) 0 1))
noncomputable abbrev x1lh:=VX x4o 19 r_4
theorem x10j:x1lh c h u (x14r x4o) r_4 eNil=j2 (xc1 c h u) 0 1:=(tq (j2 (xc1 c h u) 0 1) (sqN 1 (sq2 (kq (j0 (xln c h u))) (tq (j2 (xlp c h u) 0 1) (sqN 1 (bk 0 (lq (xc0 c h u) (λr=>j4 r 0 1 7 8) λrec0=>(kq (j4 (xlo c h u rec0) 0 1 7 8)))))))))
noncomputable abbrev x1li:=VX x4p 9 r_19
theorem x10k:x1li c h u (x14r x4p) r_19 eNil=j2 (xc2 c h u) 0 1:=(kq (j2 (xc2 c h u) 0 1))
noncomputable abbrev x1lj:=VX x2p 37 r_2
theorem x10l:x1lj c h u (x14r x2p) r_2 eNil=j1 (xc3 c h u) 0:=(kq (j1 (xc3 c h u) 0))
noncomputable abbrev x1lk:=VX x1x 21 r_21
theorem x10m:x1lk c h u (x14r x1x) r_21 eNil=j1 (xc4 c h u) 0:=(kq (j1 (xc4 c h u) 0))
noncomputable abbrev x1ll:=VX x4q 113 r_4
theorem x10n:x1ll c h u (x14r x4q) r_4 eNil=j2 (xc7 c h u) 0 1:=(tq (j2 (xc7 c h u) 0 1) (sqN 7 (sq2 (kq (j3 (xlq c h u) 0 10 11)) (tq (j4 (xlt c h u) 0 8 10 11) (sqN 1 (bk 1 (lq (xc6 c h u) (λr=>j7 r 0 8 10 11 80 81 82) λrec0=>(tq (j7 (xls c h u rec0) 0 8 10 11 80 81 82) (sqN 2 (sq2 (kq (j7 (xc5 c h u rec0) 0 8 10 11 80 81 82)) (kq (j7 (xlr c h u rec0) 0 8 10 11 80 81 82))))))))))))
noncomputable abbrev x1lm:=VX x2q 58 r_0
theorem x10o:x1lm c h u (x14r x2q) r_0 eNil=j3 (xc8 c h u) 0 1 2:=(kq (j3 (xc8 c h u) 0 1 2))
noncomputable abbrev x1ln:=VX x4r 9 r_2
theorem x10p:x1ln c h u (x14r x4r) r_2 eNil=j1 (xc9 c h u) 0:=(kq (j1 (xc9 c h u) 0))
noncomputable abbrev x1lo:=VX x4s 42 r_17
theorem x10q:x1lo c h u (x14r x4s) r_17 eNil=j3 (xcb c h u) 0 1 2:=(tq (j3 (xcb c h u) 0 1 2) (sqN 1 (bk 0 (lq (xca c h u) (λr=>j6 r 0 1 2 12 13 14) λrec0=>(kq (j6 (xlu c h u rec0) 0 1 2 12 13 14))))))
noncomputable abbrev x1lp:=VX x4t 21 r_9
theorem x10r:x1lp c h u (x14r x4t) r_9 eNil=j2 (xcc c h u) 0 1:=(kq (j2 (xcc c h u) 0 1))
noncomputable abbrev x1lq:=VX x4u 10 r_19
theorem x10s:x1lq c h u (x14r x4u) r_19 eNil=j2 (xcd c h u) 0 1:=(kq (j2 (xcd c h u) 0 1))
noncomputable abbrev x1lr:=VX x1y 5 r_2
theorem x10t:x1lr c h u (x14r x1y) r_2 eNil=j1 (xce c h u) 0:=(kq (j1 (xce c h u) 0))
noncomputable abbrev x1ls:=VX x12 5 r_2
theorem x10u:x1ls c h u (x14r x12) r_2 eNil=j1 (xcf c h u) 0:=(kq (j1 (xcf c h u) 0))
noncomputable abbrev x1lt:=VX x4v 6 r_2
theorem x10v:x1lt c h u (x14r x4v) r_2 eNil=j1 (xcg c h u) 0:=(kq (j1 (xcg c h u) 0))
noncomputable abbrev x1lu:=VX x4w 81 r_4
theorem x10w:x1lu c h u (x14r x4w) r_4 eNil=j2 (xcj c h u) 0 1:=(tq (j2 (xcj c h u) 0 1) (sqN 4 (sq2 (tq (j6 (xly c h u) 0 1 5 6 7 8) (sqN 1 (sq2 (kq (j0 (xlv c h u))) (tq (j6 (xlx c h u) 0 1 5 6 7 8) (sqN 1 (bk 2 (lq (xch c h u) (λr=>j7 r 0 1 5 6 7 8 10) λrec0=>(kq (j7 (xlw c h u rec0) 0 1 5 6 7 8 10))))))))) (tq (j6 (xm0 c h u) 0 1 5 6 7 8) (sqN 1 (bk 0 (lq (xci c h u) (λr=>j7 r 0 1 5 6 7 8 9) λs=>(kq (j7 (xlz c h u s) 0 1 5 6 7 8 9)))))))))
noncomputable abbrev x1lv:=VX x4x 15 r_2
theorem x10x:x1lv c h u (x14r x4x) r_2 eNil=j1 (xck c h u) 0:=(kq (j1 (xck c h u) 0))
noncomputable abbrev x1lw:=VX x4y 15 r_2
theorem x10y:x1lw c h u (x14r x4y) r_2 eNil=j1 (xcl c h u) 0:=(kq (j1 (xcl c h u) 0))
noncomputable abbrev x1lx:=VX x4z 167 r_17
theorem x10z:x1lx c h u (x14r x4z) r_17 eNil=j2 (xcp c h u) 0 1:=(tq (j2 (xcp c h u) 0 1) (sqN 1 (sq2 (tq (j3 (xm2 c h u) 0 1 4) (sqN 1 (sq2 (sq2 (kq (j3 (xcm c h u) 0 4 12)) (kq (j3 (xcn c h u) 0 4 12))) (kq (j3 (xm1 c h u) 0 4 12))))) (bk 0 (lq (xco c h u) (λr=>j3 r 0 1 4) λrec0=>(kq (j3 (xm3 c h u rec0) 0 1 4)))))))
noncomputable abbrev x1ly:=VX x50 102 r_22
theorem x110:x1ly c h u (x14r x50) r_22 eNil=j5 (xcv c h u) 0 1 2 3 4:=(tq (j5 (xcv c h u) 0 1 2 3 4) (sqN 1 (sq2 (tq (j7 (xmc c h u) 0 1 2 3 4 10 11) (sqN 2 (sq2 (sq2 (sq2 (kq (j6 (xcq c h u) 0 4 10 11 12 13)) (kq (j7 (xcr c h u) 0 3 4 10 11 12 13))) (tq (j9 (xcu c h u) 0 1 2 3 4 10 11 12 13) (sqN 1 (tq (j10 (xma c h u) 0 1 2 3 4 10 11 12 13 34) (cd (tq (j9 (xm6 c h u) 0 1 2 3 4 10 11 12 13) (sqN 3 (sq2 (kq (j8 (xm4 c h u) 0 1 3 4 10 11 12 13)) (bk 0 (lq (xcs c h u) (λr=>j11 r 0 1 3 4 10 11 12 13 14 15 16) λrec0=>(kq (j11 (xm5 c h u rec0) 0 1 3 4 10 11 12 13 14 15 16))))))) (tq (j9 (xm9 c h u) 0 1 2 3 4 10 11 12 13) (sqN 1 (sq2 (kq (j8 (xm7 c h u) 0 1 3 4 10 11 12 13)) (bk 2 (lq (xct c h u) (λr=>j9 r 0 1 3 4 10 11 12 13 17) λs=>(kq (j9 (xm8 c h u s) 0 1 3 4 10 11 12 13 17)))))))))))) (kq (j9 (xmb c h u) 0 1 2 3 4 10 11 12 13))))) (kq (j7 (xmd c h u) 0 1 2 3 4 10 11)))))
noncomputable abbrev x1lz:=VX x51 36 r_2
theorem x111:x1lz c h u (x14r x51) r_2 eNil=j1 (xcw c h u) 0:=(kq (j1 (xcw c h u) 0))
noncomputable abbrev x1m0:=VX xr 15 r_0
theorem x112:x1m0 c h u (x14r xr) r_0 eNil=j3 (xcx c h u) 0 1 2:=(kq (j3 (xcx c h u) 0 1 2))
noncomputable abbrev x1m1:=VX x52 42 r_4
theorem x113:x1m1 c h u (x14r x52) r_4 eNil=j2 (xcz c h u) 0 1:=(tq (j2 (xcz c h u) 0 1) (sqN 3 (sq2 (kq (j1 (xme c h u) 6)) (tq (j4 (xmg c h u) 1 2 5 6) (sqN 1 (bk 0 (lq (xcy c h u) (λr=>j6 r 1 5 6 14 15 16) λrec0=>(kq (j6 (xmf c h u rec0) 1 5 6 14 15 16)))))))))
noncomputable abbrev x1m2:=VX x2r 38 r_4
theorem x114:x1m2 c h u (x14r x2r) r_4 eNil=j2 (xd2 c h u) 0 1:=(tq (j2 (xd2 c h u) 0 1) (sqN 5 (sq2 (kq (j1 (xmh c h u) 5)) (tq (j3 (xmk c h u) 5 6 8) (sqN 1 (bk 0 (lq (xd1 c h u) (λr=>j5 r 5 6 8 24 25) λrec0=>(tq (j5 (xmj c h u rec0) 5 6 8 24 25) (sqN 2 (sq2 (kq (j5 (xd0 c h u rec0) 5 6 8 24 25)) (kq (j5 (xmi c h u rec0) 5 6 8 24 25))))))))))))
noncomputable abbrev x1m3:=VX x53 30 r_4
theorem x115:x1m3 c h u (x14r x53) r_4 eNil=j2 (xd5 c h u) 0 1:=(tq (j2 (xd5 c h u) 0 1) (sqN 2 (sq2 (kq (j1 (xmm c h u) 5)) (tq (j3 (xmp c h u) 1 2 5) (sqN 1 (bk 0 (lq (xd4 c h u) (λr=>j5 r 1 5 15 16 17) λrec0=>(tq (j5 (xmo c h u rec0) 1 5 15 16 17) (sqN 2 (sq2 (kq (j5 (xd3 c h u rec0) 1 5 15 16 17)) (kq (j5 (xmn c h u rec0) 1 5 15 16 17))))))))))))
noncomputable abbrev x1m4:=VX x2s 12 r_2
theorem x116:x1m4 c h u (x14r x2s) r_2 eNil=j1 (xd6 c h u) 0:=(kq (j1 (xd6 c h u) 0))
noncomputable abbrev x1m5:=VX x1z 8 r_23
theorem x117:x1m5 c h u (x14r x1z) r_23 eNil=j1 (xd7 c h u) 0:=(kq (j1 (xd7 c h u) 0))
noncomputable abbrev x1m6:=VX x2t 48 r_4
theorem x118:x1m6 c h u (x14r x2t) r_4 eNil=j2 (xd9 c h u) 0 1:=(tq (j2 (xd9 c h u) 0 1) (sqN 2 (sq2 (kq (j1 (xmq c h u) 5)) (tq (j3 (xms c h u) 0 1 5) (sqN 1 (bk 0 (lq (xd8 c h u) (λr=>j6 r 0 1 5 9 10 11) λrec0=>(kq (j6 (xmr c h u rec0) 0 1 5 9 10 11)))))))))
noncomputable abbrev x1m7:=VX xh 21 r_4
theorem x119:x1m7 c h u (x14r xh) r_4 eNil=j2 (xda c h u) 0 1:=(kq (j2 (xda c h u) 0 1))
noncomputable abbrev x1m8:=VX x54 47 r_4
theorem x11a:x1m8 c h u (x14r x54) r_4 eNil=j2 (xdb c h u) 0 1:=(kq (j2 (xdb c h u) 0 1))
noncomputable abbrev x1m9:=VX x55 22 r_5
theorem x11b:x1m9 c h u (x14r x55) r_5 eNil=j1 (xdc c h u) 0:=(kq (j1 (xdc c h u) 0))
noncomputable abbrev x1ma:=VX x1b 30 r_4
theorem x11c:x1ma c h u (x14r x1b) r_4 eNil=j2 (xde c h u) 0 1:=(tq (j2 (xde c h u) 0 1) (sqN 1 (sq2 (kq (j0 (xmv c h u))) (tq (j2 (xmx c h u) 0 1) (sqN 1 (bk 0 (lq (xdd c h u) (λr=>j4 r 0 9 10 11) λrec0=>(kq (j4 (xmw c h u rec0) 0 9 10 11)))))))))
noncomputable abbrev x1mb:=VX x56 24 r_5
theorem x11d:x1mb c h u (x14r x56) r_5 eNil=j1 (xdf c h u) 0:=(kq (j1 (xdf c h u) 0))
noncomputable abbrev x1mc:=VX x57 18 r_5
theorem x11e:x1mc c h u (x14r x57) r_5 eNil=j1 (xdg c h u) 0:=(kq (j1 (xdg c h u) 0))
noncomputable abbrev x1md:=VX x58 22 r_5
theorem x11f:x1md c h u (x14r x58) r_5 eNil=j1 (xdh c h u) 0:=(kq (j1 (xdh c h u) 0))
noncomputable abbrev x1me:=VX x59 8 r_5
theorem x11g:x1me c h u (x14r x59) r_5 eNil=j1 (xdi c h u) 0:=(kq (j1 (xdi c h u) 0))
noncomputable abbrev x1mf:=VX x5a 8 r_5
theorem x11h:x1mf c h u (x14r x5a) r_5 eNil=j1 (xdj c h u) 0:=(kq (j1 (xdj c h u) 0))
noncomputable abbrev x1mg:=VX x2u 26 r_5
theorem x11i:x1mg c h u (x14r x2u) r_5 eNil=j1 (xdk c h u) 0:=(kq (j1 (xdk c h u) 0))
noncomputable abbrev x1mh:=VX x5b 8 r_4
theorem x11j:x1mh c h u (x14r x5b) r_4 eNil=j2 (xdm c h u) 0 1:=(kq (j2 (xdm c h u) 0 1))
noncomputable abbrev x1mi:=VX x5c 8 r_2
theorem x11k:x1mi c h u (x14r x5c) r_2 eNil=j1 (xdn c h u) 0:=(kq (j1 (xdn c h u) 0))
noncomputable abbrev x1mj:=VX x5d 8 r_4
theorem x11l:x1mj c h u (x14r x5d) r_4 eNil=j2 (xdo c h u) 0 1:=(kq (j2 (xdo c h u) 0 1))
noncomputable abbrev x1mk:=VX x5e 9 r_4
theorem x11m:x1mk c h u (x14r x5e) r_4 eNil=j2 (xdp c h u) 0 1:=(kq (j2 (xdp c h u) 0 1))
noncomputable abbrev x1ml:=VX x5f 15 r_2
theorem x11n:x1ml c h u (x14r x5f) r_2 eNil=j1 (xdr c h u) 0:=(tq (j1 (xdr c h u) 0) (sqN 1 (sq2 (kq (j0 (xn4 c h u))) (tq (j1 (xn6 c h u) 0) (sqN 1 (bk 0 (lq (xdq c h u) (λr=>j3 r 5 6 7) λrec0=>(kq (j3 (xn5 c h u rec0) 5 6 7)))))))))
noncomputable abbrev x1mm:=VX x5g 47 r_4
theorem x11o:x1mm c h u (x14r x5g) r_4 eNil=j2 (xdu c h u) 0 1:=(tq (j2 (xdu c h u) 0 1) (sqN 2 (sq2 (kq (j1 (xn7 c h u) 5)) (tq (j3 (xne c h u) 0 3 5) (sqN 1 (bk 0 (lq (xdt c h u) (λr=>j5 r 3 5 9 10 11) λrec0=>(tq (j5 (xnd c h u rec0) 3 5 9 10 11) (sqN 2 (sq2 (kq (j5 (x87 c h u rec0) 3 5 9 10 11)) (bk 1 (tq (j5 (xnc c h u rec0) 3 5 9 10 11) (sqN 3 (tq (j7 (xnb c h u rec0) 3 5 7 9 10 11 30) (cd (tq (j6 (xn9 c h u rec0) 3 5 7 9 10 11) (sqN 1 (sq2 (kq (j7 (xds c h u rec0) 3 5 7 8 9 10 11)) (kq (j7 (xn8 c h u rec0) 3 5 7 8 9 10 11))))) (kq (j5 (xna c h u rec0) 3 5 9 10 11)))))))))))))))))
noncomputable abbrev x1mn:=VX x5h 39 r_5
theorem x11p:x1mn c h u (x14r x5h) r_5 eNil=j1 (xdy c h u) 0:=(tq (j1 (xdy c h u) 0) (sqN 2 (sq2 (tq (j2 (xnk c h u) 0 4) (sqN 1 (sq2 (kq (j2 (xnf c h u) 4 6)) (tq (j4 (xnj c h u) 0 4 6 7) (sqN 1 (bk 2 (lq (xdw c h u) (λr=>j4 r 4 6 7 8) λrec0=>(tq (j4 (xni c h u rec0) 4 6 7 8) (sqN 1 (sq2 (kq (j4 (xng c h u rec0) 4 6 7 8)) (bk 3 (sq2 (kq (j4 (xdv c h u rec0) 4 6 7 8)) (kq (j4 (xnh c h u rec0) 4 6 7 8)))))))))))))) (tq (j2 (xnm c h u) 0 4) (sqN 1 (bk 0 (lq (xdx c h u) (λr=>j3 r 0 4 5) λs=>(kq (j3 (xnl c h u s) 0 4 5)))))))))
noncomputable abbrev x1mo:=VX x5i 6 r_2
theorem x11q:x1mo c h u (x14r x5i) r_2 eNil=j1 (xdz c h u) 0:=(kq (j1 (xdz c h u) 0))
noncomputable abbrev x1mp:=VX x2v 25 r_2
theorem x11r:x1mp c h u (x14r x2v) r_2 eNil=j1 (xe3 c h u) 0:=(tq (j1 (xe3 c h u) 0) (sqN 1 (sq2 (sq2 (sq2 (kq (j2 (xe0 c h u) 0 2)) (kq (j2 (xe1 c h u) 0 2))) (kq (j2 (xe2 c h u) 0 2))) (kq (j2 (xnn c h u) 0 2)))))
noncomputable abbrev x1mq:=VX x5j 4 r_2
theorem x11s:x1mq c h u (x14r x5j) r_2 eNil=j1 (xe4 c h u) 0:=(kq (j1 (xe4 c h u) 0))
noncomputable abbrev x1mr:=VX x5k 8 r_2
theorem x11t:x1mr c h u (x14r x5k) r_2 eNil=j1 (xe5 c h u) 0:=(kq (j1 (xe5 c h u) 0))
noncomputable abbrev x1ms:=VX x5l 8 r_2
theorem x11u:x1ms c h u (x14r x5l) r_2 eNil=j1 (xe6 c h u) 0:=(kq (j1 (xe6 c h u) 0))
noncomputable abbrev x1mt:=VX x5m 11 r_2
theorem x11v:x1mt c h u (x14r x5m) r_2 eNil=j1 (xe7 c h u) 0:=(kq (j1 (xe7 c h u) 0))
noncomputable abbrev x1mu:=VX x2w 9 r_4
theorem x11w:x1mu c h u (x14r x2w) r_4 eNil=j2 (xe8 c h u) 0 1:=(kq (j2 (xe8 c h u) 0 1))
noncomputable abbrev x1mv:=VX x5n 6 r_2
theorem x11x:x1mv c h u (x14r x5n) r_2 eNil=j1 (xe9 c h u) 0:=(kq (j1 (xe9 c h u) 0))
noncomputable abbrev x1mw:=VX x2x 10 r_4
theorem x11y:x1mw c h u (x14r x2x) r_4 eNil=j2 (xea c h u) 0 1:=(kq (j2 (xea c h u) 0 1))
noncomputable abbrev x1mx:=VX x5o 6 r_2
theorem x11z:x1mx c h u (x14r x5o) r_2 eNil=j1 (xeb c h u) 0:=(kq (j1 (xeb c h u) 0))
noncomputable abbrev x1my:=VX x5p 51 r_2
theorem x120:x1my c h u (x14r x5p) r_2 eNil=j1 (xef c h u) 0:=(tq (j1 (xef c h u) 0) (sqN 2 (sq2 (tq (j3 (xns c h u) 1 3 4) (sqN 2 (sq2 (kq (j1 (xno c h u) 4)) (tq (j4 (xnr c h u) 1 3 4 6) (sqN 1 (bk 2 (lq (xed c h u) (λr=>j6 r 1 4 6 29 30 31) λrec0=>(tq (j6 (xnq c h u rec0) 1 4 6 29 30 31) (sqN 2 (sq2 (kq (j6 (xec c h u rec0) 1 4 6 29 30 31)) (kq (j6 (xnp c h u rec0) 1 4 6 29 30 31)))))))))))) (tq (j3 (xnu c h u) 1 3 4) (sqN 1 (bk 0 (lq (xee c h u) (λr=>j5 r 1 3 4 12 13) λs=>(kq (j5 (xnt c h u s) 1 3 4 12 13)))))))))
noncomputable abbrev x1mz:=VX x5q 43 r_17
theorem x121:x1mz c h u (x14r x5q) r_17 eNil=j7 (xeh c h u) 0 1 2 3 4 5 6:=(tq (j7 (xeh c h u) 0 1 2 3 4 5 6) (sqN 3 (bk 0 (tq (j6 (xnx c h u) 1 4 5 6 7 16) (rg (.tmp 16) #[17,18] (λu=>(kq (j7 (xnv c h u) 1 4 5 6 7 8 9))) (λu=>(kq (j7 (xnw c h u) 1 4 5 6 7 17 18))))))))
noncomputable abbrev x1n0:=VX x5r 8 r_0
theorem x122:x1n0 c h u (x14r x5r) r_0 eNil=j3 (xei c h u) 0 1 2:=(kq (j3 (xei c h u) 0 1 2))
noncomputable abbrev x1n1:=VX x2y 15 r_2
theorem x123:x1n1 c h u (x14r x2y) r_2 eNil=j1 (xek c h u) 0:=(tq (j1 (xek c h u) 0) (sqN 2 (sq2 (kq (j1 (xny c h u) 3)) (tq (j2 (xo0 c h u) 0 3) (sqN 1 (bk 0 (lq (xej c h u) (λr=>j3 r 3 5 6) λrec0=>(kq (j3 (xnz c h u rec0) 3 5 6)))))))))
noncomputable abbrev x1n2:=VX x2z 44 r_4
theorem x124:x1n2 c h u (x14r x2z) r_4 eNil=j2 (xen c h u) 0 1:=(tq (j2 (xen c h u) 0 1) (sqN 2 (sq2 (kq (j2 (xo1 c h u) 5 6)) (tq (j3 (xo4 c h u) 0 5 6) (sqN 1 (bk 0 (lq (xem c h u) (λr=>j6 r 0 5 6 19 20 21) λrec0=>(tq (j6 (xo3 c h u rec0) 0 5 6 19 20 21) (sqN 2 (sq2 (kq (j6 (xel c h u rec0) 0 5 6 19 20 21)) (kq (j6 (xo2 c h u rec0) 0 5 6 19 20 21))))))))))))
noncomputable abbrev x1n3:=VX x5s 21 r_0
theorem x125:x1n3 c h u (x14r x5s) r_0 eNil=j3 (xep c h u) 0 1 2:=(tq (j3 (xep c h u) 0 1 2) (sqN 1 (sq2 (kq (j0 (xo5 c h u))) (tq (j3 (xo7 c h u) 0 1 2) (sqN 1 (bk 0 (lq (xeo c h u) (λr=>j5 r 0 1 9 10 11) λrec0=>(kq (j5 (xo6 c h u rec0) 0 1 9 10 11)))))))))
noncomputable abbrev x1n4:=VX xt 22 r_4
theorem x126:x1n4 c h u (x14r xt) r_4 eNil=j2 (xeq c h u) 0 1:=(kq (j2 (xeq c h u) 0 1))
noncomputable abbrev x1n5:=VX x1c 16 r_24
theorem x127:x1n5 c h u (x14r x1c) r_24 eNil=j2 (xer c h u) 0 1:=(kq (j2 (xer c h u) 0 1))
noncomputable abbrev x1n6:=VX x5t 16 r_4
theorem x128:x1n6 c h u (x14r x5t) r_4 eNil=j2 (xes c h u) 0 1:=(kq (j2 (xes c h u) 0 1))
noncomputable abbrev x1n7:=VX x5u 8 r_4
theorem x129:x1n7 c h u (x14r x5u) r_4 eNil=j2 (xet c h u) 0 1:=(kq (j2 (xet c h u) 0 1))
noncomputable abbrev x1n8:=VX x30 18 r_4
theorem x12a:x1n8 c h u (x14r x30) r_4 eNil=j2 (xeu c h u) 0 1:=(kq (j2 (xeu c h u) 0 1))
noncomputable abbrev x1n9:=VX x5v 66 r_25
theorem x12b:x1n9 c h u (x14r x5v) r_25 eNil=j4 (xey c h u) 0 1 2 3:=(tq (j4 (xey c h u) 0 1 2 3) (sqN 3 (sq2 (tq (j4 (xex c h u) 0 1 2 3) (sqN 4 (sq2 (kq (j3 (xev c h u) 0 9 10)) (bk 0 (lq (xew c h u) (λr=>j6 r 0 1 2 3 9 10) λrec0=>(kq (j6 (xo8 c h u rec0) 0 1 2 3 9 10))))))) (kq (j4 (xo9 c h u) 0 1 2 3)))))
noncomputable abbrev x1na:=VX x5w 19 r_4
theorem x12c:x1na c h u (x14r x5w) r_4 eNil=j2 (xf0 c h u) 0 1:=(tq (j2 (xf0 c h u) 0 1) (sqN 1 (sq2 (kq (j0 (xoa c h u))) (tq (j2 (xoc c h u) 0 1) (sqN 1 (bk 0 (lq (xez c h u) (λr=>j4 r 0 1 7 8) λrec0=>(kq (j4 (xob c h u rec0) 0 1 7 8)))))))))
noncomputable abbrev x1nb:=VX x5x 14 r_2
theorem x12d:x1nb c h u (x14r x5x) r_2 eNil=j1 (xf1 c h u) 0:=(kq (j1 (xf1 c h u) 0))
noncomputable abbrev x1nc:=VX x5y 14 r_2
theorem x12e:x1nc c h u (x14r x5y) r_2 eNil=j1 (xf2 c h u) 0:=(kq (j1 (xf2 c h u) 0))
noncomputable abbrev x1nd:=VX x5z 66 r_5
theorem x12f:x1nd c h u (x14r x5z) r_5 eNil=j1 (xf4 c h u) 0:=(tq (j1 (xf4 c h u) 0) (sqN 4 (sq2 (kq (j0 (xod c h u))) (tq (j2 (xog c h u) 1 6) (sqN 1 (bk 0 (lq (xf3 c h u) (λr=>j5 r 1 6 26 27 28) λrec0=>(kq (j5 (xoe c h u rec0) 1 6 26 27 28)))))))))
noncomputable abbrev x1ne:=VX x3q 19 r_4
theorem xyh:x1ne c h u (x14r x3q) r_4 eNil=j2 (xf6 c h u) 0 1:=(tq (j2 (xf6 c h u) 0 1) (sqN 1 (sq2 (kq (j0 (xoh c h u))) (tq (j2 (xoj c h u) 0 1) (sqN 1 (bk 0 (lq (xf5 c h u) (λr=>j4 r 0 1 7 8) λrec0=>(kq (j4 (xoi c h u rec0) 0 1 7 8)))))))))
noncomputable abbrev x1nf:=VX x60 9 r_17
theorem x12g:x1nf c h u (x14r x60) r_17 eNil=j2 (xf7 c h u) 0 1:=(kq (j2 (xf7 c h u) 0 1))
noncomputable abbrev x1ng:=VX x61 13 r_26
theorem x12h:x1ng c h u (x14r x61) r_26 eNil=j3 (xf8 c h u) 0 1 2:=(kq (j3 (xf8 c h u) 0 1 2))
noncomputable abbrev x1nh:=VX x31 41 r_4
theorem x12i:x1nh c h u (x14r x31) r_4 eNil=j2 (xf9 c h u) 0 1:=(kq (j2 (xf9 c h u) 0 1))
noncomputable abbrev x1ni:=VX x62 11 r_17
theorem x12j:x1ni c h u (x14r x62) r_17 eNil=j1 (xfa c h u) 0:=(kq (j1 (xfa c h u) 0))
noncomputable abbrev x1nj:=VX x63 43 r_17
theorem x12k:x1nj c h u (x14r x63) r_17 eNil=j4 (xfd c h u) 0 1 2 3:=(tq (j4 (xfd c h u) 0 1 2 3) (sqN 1 (bk 0 (lq (xfc c h u) (λr=>j6 r 0 2 3 12 13 14) λrec0=>(tq (j6 (xoo c h u rec0) 0 2 3 12 13 14) (sqN 2 (sq2 (kq (j6 (xok c h u rec0) 0 2 3 12 13 14)) (bk 1 (tq (j6 (xon c h u rec0) 0 2 3 12 13 14) (sqN 2 (bk 2 (lq (xfb c h u rec0) (λr=>j9 r 0 2 3 6 12 13 14 18 19) λs=>(kq (j9 (xol c h u rec0 s) 0 2 3 6 12 13 14 18 19))))))))))))))
noncomputable abbrev x1nk:=VX x64 25 r_9
theorem x12l:x1nk c h u (x14r x64) r_9 eNil=j2 (xfe c h u) 0 1:=(kq (j2 (xfe c h u) 0 1))
noncomputable abbrev x1nl:=VX x65 15 r_0
theorem x12m:x1nl c h u (x14r x65) r_0 eNil=j3 (xff c h u) 0 1 2:=(kq (j3 (xff c h u) 0 1 2))
noncomputable abbrev x1nm:=VX x66 16 r_4
theorem x12n:x1nm c h u (x14r x66) r_4 eNil=j2 (xfg c h u) 0 1:=(kq (j2 (xfg c h u) 0 1))
noncomputable abbrev x1nn:=VX x92 77 r_5
theorem x12o:x1nn c h u (x14r x92) r_5 eNil=j1 (xfk c h u) 0:=(tq (j1 (xfk c h u) 0) (sqN 2 (sq2 (kq (j1 (xop c h u) 0)) (tq (j2 (xoy c h u) 0 4) (sqN 1 (tq (j2 (xox c h u) 0 30) (cd (tq (j1 (xov c h u) 0) (sqN 1 (sq2 (tq (j2 (xfj c h u) 0 5) (sqN 1 (sq2 (sq2 (kq (j1 (xfh c h u) 6)) (kq (j2 (xoq c h u) 5 6))) (tq (j3 (xot c h u) 0 5 6) (sqN 1 (bk 0 (lq (xfi c h u) (λr=>j5 r 5 6 47 48 49) λrec0=>(kq (j5 (xos c h u rec0) 5 6 47 48 49))))))))) (kq (j2 (xou c h u) 0 5))))) (kq (j1 (xow c h u) 0)))))))))
noncomputable abbrev x1no:=VX x93 43 r_27
theorem x12p:x1no c h u (x14r x93) r_27 eNil=j5 (xfl c h u) 0 1 2 3 4:=(kq (j5 (xfl c h u) 0 1 2 3 4))
noncomputable abbrev x1np:=VX x67 13 r_4
theorem x12q:x1np c h u (x14r x67) r_4 eNil=j2 (xfm c h u) 0 1:=(kq (j2 (xfm c h u) 0 1))
noncomputable abbrev x1nq:=VX x68 50 r_4
theorem x12r:x1nq c h u (x14r x68) r_4 eNil=j2 (xfq c h u) 0 1:=(tq (j2 (xfq c h u) 0 1) (sqN 2 (sq2 (tq (j2 (xfp c h u) 0 1) (sqN 1 (sq2 (sq2 (kq (j1 (xfn c h u) 6)) (kq (j3 (xoz c h u) 0 1 6))) (tq (j3 (xp1 c h u) 0 1 6) (sqN 1 (bk 0 (lq (xfo c h u) (λr=>j4 r 0 1 6 7) λrec0=>(kq (j4 (xp0 c h u rec0) 0 1 6 7))))))))) (kq (j3 (xp2 c h u) 0 1 5)))))
noncomputable abbrev x1nr:=VX x69 34 r_4
theorem x12s:x1nr c h u (x14r x69) r_4 eNil=j2 (xfs c h u) 0 1:=(tq (j2 (xfs c h u) 0 1) (sqN 4 (bk 0 (lq (xfr c h u) (λr=>j3 r 0 1 5) λrec0=>(kq (j3 (xp3 c h u rec0) 0 1 5))))))
noncomputable abbrev x1ns:=VX x6a 42 r_5
theorem x12t:x1ns c h u (x14r x6a) r_5 eNil=j1 (xfu c h u) 0:=(tq (j1 (xfu c h u) 0) (sqN 2 (sq2 (kq (j0 (xp4 c h u))) (tq (j1 (xp6 c h u) 0) (sqN 1 (bk 0 (lq (xft c h u) (λr=>j4 r 0 9 10 11) λrec0=>(kq (j4 (xp5 c h u rec0) 0 9 10 11)))))))))
noncomputable abbrev x1nt:=VX x6b 63 r_17
theorem x12u:x1nt c h u (x14r x6b) r_17 eNil=j3 (xfz c h u) 0 1 2:=(tq (j3 (xfz c h u) 0 1 2) (sqN 2 (sq2 (tq (j5 (xpb c h u) 0 1 2 6 7) (sqN 1 (bk 2 (lq (xfx c h u) (λr=>j4 r 0 1 2 6) λrec0=>(tq (j4 (xpa c h u rec0) 0 1 2 6) (sqN 1 (bk 3 (tq (j4 (xp9 c h u rec0) 0 1 2 6) (sqN 1 (sq2 (sq2 (kq (j4 (xfv c h u rec0) 0 1 2 6)) (kq (j5 (xp7 c h u rec0) 0 1 2 6 7))) (bk 4 (lq (xfw c h u rec0) (λr=>j6 r 0 1 2 6 7 8) λs=>(kq (j6 (xp8 c h u rec0 s) 0 1 2 6 7 8)))))))))))))) (bk 0 (lq (xfy c h u) (λr=>j6 r 0 1 2 6 7 8) λw=>(kq (j6 (xpc c h u w) 0 1 2 6 7 8)))))))
noncomputable abbrev x1nu:=VX x32 7 r_2
theorem x12v:x1nu c h u (x14r x32) r_2 eNil=j1 (xg0 c h u) 0:=(kq (j1 (xg0 c h u) 0))
noncomputable abbrev x1nv:=VX x20 134 r_17
theorem x12w:x1nv c h u (x14r x20) r_17 eNil=j4 (xg5 c h u) 0 1 2 3:=(tq (j4 (xg5 c h u) 0 1 2 3) (sqN 2 (bk 0 (lq (xg4 c h u) (λr=>j6 r 0 1 2 3 8 9) λrec0=>(bk 1 (tq (j6 (xpf c h u rec0) 0 1 2 3 8 9) (sqN 3 (sq2 (tq (j7 (xg3 c h u rec0) 0 1 2 3 8 9 10) (sqN 1 (sq2 (sq2 (kq (j8 (xg1 c h u rec0) 0 1 2 3 8 9 10 11)) (kq (j9 (xg2 c h u rec0) 0 1 2 3 8 9 10 11 12))) (kq (j9 (xpd c h u rec0) 0 1 2 3 8 9 10 11 12))))) (kq (j7 (xpe c h u rec0) 0 1 2 3 8 9 10))))))))))
noncomputable abbrev x1nw:=VX x33 8 r_2
theorem x12x:x1nw c h u (x14r x33) r_2 eNil=j1 (xg6 c h u) 0:=(kq (j1 (xg6 c h u) 0))
noncomputable abbrev x1nx:=VX x6c 73 r_28
theorem x12y:x1nx c h u (x14r x6c) r_28 eNil=j3 (xg9 c h u) 0 1 2:=(tq (j3 (xg9 c h u) 0 1 2) (sqN 3 (sq2 (tq (j4 (x89 c h u) 0 1 2 8) (sqN 3 (sq2 (tq (j3 (xg8 c h u) 2 8 9) (sqN 4 (sq2 (kq (j1 (xg7 c h u) 11)) (kq (j2 (xpg c h u) 8 11))))) (kq (j3 (xph c h u) 2 8 9))))) (kq (j4 (xpi c h u) 0 1 2 8)))))
noncomputable abbrev x1ny:=VX x6d 11 r_4
theorem x12z:x1ny c h u (x14r x6d) r_4 eNil=j2 (xga c h u) 0 1:=(kq (j2 (xga c h u) 0 1))
noncomputable abbrev x1nz:=VX x6e 11 r_4
theorem x130:x1nz c h u (x14r x6e) r_4 eNil=j2 (xgb c h u) 0 1:=(kq (j2 (xgb c h u) 0 1))
noncomputable abbrev x1o0:=VX x6f 16 r_0
theorem x131:x1o0 c h u (x14r x6f) r_0 eNil=j3 (xgc c h u) 0 1 2:=(kq (j3 (xgc c h u) 0 1 2))
noncomputable abbrev x1o1:=VX x6g 16 r_0
theorem x132:x1o1 c h u (x14r x6g) r_0 eNil=j3 (xgd c h u) 0 1 2:=(kq (j3 (xgd c h u) 0 1 2))
noncomputable abbrev x1o2:=VX x34 10 r_2
theorem x133:x1o2 c h u (x14r x34) r_2 eNil=j1 (xge c h u) 0:=(tq (j1 (xge c h u) 0) (sqN 1 (sq2 (kq (j1 (xyc c h u) 2)) (tq (j2 (xpl c h u) 0 2) (sqN 1 (bk 0 (lq (xpk c h u) (λr=>j2 r 2 4) λrec0=>(kq (j2 (xpj c h u rec0) 2 4)))))))))
noncomputable abbrev x1o3:=VX x6h 19 r_5
theorem x134:x1o3 c h u (x14r x6h) r_5 eNil=j1 (xgf c h u) 0:=(kq (j1 (xgf c h u) 0))
noncomputable abbrev x1o4:=VX x6i 49 r_2
theorem x135:x1o4 c h u (x14r x6i) r_2 eNil=j1 (xgj c h u) 0:=(tq (j1 (xgj c h u) 0) (sqN 2 (sq2 (kq (j0 (xpm c h u))) (tq (j1 (xpq c h u) 0) (sqN 1 (bk 0 (lq (xgi c h u) (λr=>j3 r 13 14 15) λrec0=>(tq (j3 (xpp c h u rec0) 13 14 15) (sqN 2 (sq2 (kq (j3 (xgg c h u rec0) 13 14 15)) (bk 1 (tq (j3 (xpo c h u rec0) 13 14 15) (sqN 1 (bk 2 (sq2 (kq (j6 (xgh c h u rec0) 3 4 13 14 15 20)) (kq (j5 (xpn c h u rec0) 3 4 13 14 15)))))))))))))))))
noncomputable abbrev x1o5:=VX x6j 9 r_4
theorem x136:x1o5 c h u (x14r x6j) r_4 eNil=j2 (xgk c h u) 0 1:=(kq (j2 (xgk c h u) 0 1))
noncomputable abbrev x1o6:=VX x6k 9 r_19
theorem x137:x1o6 c h u (x14r x6k) r_19 eNil=j2 (xgl c h u) 0 1:=(kq (j2 (xgl c h u) 0 1))
noncomputable abbrev x1o7:=VX x35 53 r_17
theorem x138:x1o7 c h u (x14r x35) r_17 eNil=j4 (xgo c h u) 0 1 2 3:=(tq (j4 (xgo c h u) 0 1 2 3) (sqN 1 (bk 0 (lq (xgn c h u) (λr=>j5 r 0 1 2 3 8) λrec0=>(tq (j5 (xpu c h u rec0) 0 1 2 3 8) (sqN 1 (sq2 (kq (j5 (xpr c h u rec0) 0 1 2 3 8)) (bk 1 (tq (j5 (xpt c h u rec0) 0 1 2 3 8) (sqN 1 (bk 2 (lq (xgm c h u rec0) (λr=>j6 r 0 1 2 3 8 9) λs=>(kq (j6 (xps c h u rec0 s) 0 1 2 3 8 9))))))))))))))
noncomputable abbrev x1o8:=VX x1d 220 r_17
theorem x139:x1o8 c h u (x14r x1d) r_17 eNil=j5 (xgx c h u) 0 1 2 3 4:=(sq2 (sq2 (tq (j5 (xpz c h u) 0 1 2 3 4) (sqN 3 (sq2 (tq (j9 (xgs c h u) 0 1 2 3 4 18 19 20 21) (sqN 1 (sq2 (tq (j8 (xpw c h u) 0 1 2 3 4 18 19 20) (sqN 1 (sq2 (sq2 (kq (j5 (xgp c h u) 0 3 4 18 24)) (kq (j7 (xgq c h u) 0 1 3 4 18 20 24))) (kq (j8 (xpv c h u) 0 1 2 3 4 18 20 24))))) (bk 8 (lq (xgr c h u) (λr=>j10 r 0 1 2 3 4 18 19 20 21 22) λrec0=>(kq (j10 (xpx c h u rec0) 0 1 2 3 4 18 19 20 21 22))))))) (kq (j7 (xpy c h u) 0 1 2 3 4 18 19))))) (tq (j5 (xq7 c h u) 0 1 2 3 4) (sqN 1 (tq (j6 (xq6 c h u) 0 1 2 3 4 80) (cd (tq (j4 (xq4 c h u) 0 1 2 4) (sqN 2 (sq2 (sq2 (kq (j0 (xq0 c h u))) (tq (j3 (xq2 c h u) 0 2 14) (sqN 1 (bk 6 (lq (xgt c h u) (λr=>j3 r 0 14 17) λs=>(kq (j3 (xq1 c h u s) 0 14 17))))))) (bk 4 (lq (xgu c h u) (λr=>j5 r 0 2 4 14 15) λw=>(kq (j5 (xq3 c h u w) 0 2 4 14 15))))))) (kq (j5 (xq5 c h u) 0 1 2 3 4))))))) (tq (j5 (xgx c h u) 0 1 2 3 4) (sqN 1 (tq (j6 (xqe c h u) 0 1 2 3 4 28) (cd (tq (j5 (xqc c h u) 0 1 2 3 4) (sqN 2 (sq2 (sq2 (kq (j0 (xq8 c h u))) (tq (j3 (xqa c h u) 0 1 10) (sqN 1 (bk 2 (lq (xgv c h u) (λr=>j3 r 0 10 13) λz=>(kq (j3 (xq9 c h u z) 0 10 13))))))) (bk 0 (lq (xgw c h u) (λr=>j5 r 0 1 4 10 11) λy=>(kq (j5 (xqb c h u y) 0 1 4 10 11))))))) (kq (j5 (xqd c h u) 0 1 2 3 4)))))))
noncomputable abbrev x1o9:=VX x6l 49 r_17
theorem x13a:x1o9 c h u (x14r x6l) r_17 eNil=j3 (xh0 c h u) 0 1 2:=(tq (j3 (xh0 c h u) 0 1 2) (sqN 1 (bk 0 (lq (xgz c h u) (λr=>j4 r 0 1 2 6) λrec0=>(tq (j4 (xqi c h u rec0) 0 1 2 6) (sqN 1 (sq2 (kq (j4 (xqf c h u rec0) 0 1 2 6)) (bk 1 (tq (j4 (xqh c h u rec0) 0 1 2 6) (sqN 1 (bk 2 (lq (xgy c h u rec0) (λr=>j5 r 0 1 2 6 7) λs=>(kq (j5 (xqg c h u rec0 s) 0 1 2 6 7))))))))))))))
noncomputable abbrev x1oa:=VX x6m 56 r_17
theorem x13b:x1oa c h u (x14r x6m) r_17 eNil=j3 (xh3 c h u) 0 1 2:=(tq (j3 (xh3 c h u) 0 1 2) (sqN 3 (sq2 (tq (j4 (xqk c h u) 0 6 7 8) (sqN 1 (bk 2 (lq (xh1 c h u) (λr=>j4 r 0 6 7 10) λrec0=>(kq (j4 (xqj c h u rec0) 0 6 7 10)))))) (tq (j4 (xqm c h u) 0 6 7 8) (sqN 1 (bk 0 (lq (xh2 c h u) (λr=>j5 r 0 6 7 8 9) λs=>(kq (j5 (xql c h u s) 0 6 7 8 9)))))))))
noncomputable abbrev x1ob:=VX x6n 65 r_17
theorem x13c:x1ob c h u (x14r x6n) r_17 eNil=j3 (xh6 c h u) 0 1 2:=(tq (j3 (xh6 c h u) 0 1 2) (sqN 2 (tq (j4 (xqt c h u) 0 1 6 15) (cd (tq (j3 (xqr c h u) 0 1 6) (sqN 3 (bk 0 (lq (xh5 c h u) (λr=>j6 r 0 1 6 7 8 9) λrec0=>(tq (j6 (xqq c h u rec0) 0 1 6 7 8 9) (sqN 1 (sq2 (kq (j6 (xqn c h u rec0) 0 1 6 7 8 9)) (bk 1 (tq (j6 (xqp c h u rec0) 0 1 6 7 8 9) (sqN 1 (sq2 (kq (j7 (xh4 c h u rec0) 0 1 6 7 8 9 10)) (kq (j7 (xqo c h u rec0) 0 1 6 7 8 9 10))))))))))))) (kq (j0 (xqs c h u)))))))
noncomputable abbrev x1oc:=VX x6o 57 r_28
theorem x13d:x1oc c h u (x14r x6o) r_28 eNil=j3 (xh9 c h u) 0 1 2:=(tq (j3 (xh9 c h u) 0 1 2) (sqN 6 (sq2 (kq (j2 (xh7 c h u) 9 11)) (tq (j6 (xqx c h u) 0 8 9 10 11 12) (sqN 1 (tq (j7 (xqw c h u) 0 8 9 10 11 12 32) (cd (sq2 (kq (j5 (xh8 c h u) 0 9 10 11 12)) (kq (j6 (xqu c h u) 0 8 9 10 11 12))) (kq (j2 (xqv c h u) 9 11)))))))))
noncomputable abbrev x1od:=VX x6p 32 r_17
theorem x13e:x1od c h u (x14r x6p) r_17 eNil=j3 (xhb c h u) 0 1 2:=(tq (j3 (xhb c h u) 0 1 2) (sqN 2 (bk 0 (lq (xha c h u) (λr=>j3 r 0 6 7) λrec0=>(kq (j3 (xqy c h u rec0) 0 6 7))))))
noncomputable abbrev x1oe:=VX x6q 133 r_0
theorem x13f:x1oe c h u (x14r x6q) r_0 eNil=j3 (xhg c h u) 0 1 2:=(tq (j3 (xhg c h u) 0 1 2) (sqN 2 (sq2 (kq (j0 (xqz c h u))) (tq (j4 (xrc c h u) 0 1 2 7) (sqN 1 (bk 0 (lq (xhf c h u) (λr=>j5 r 0 1 2 7 8) λrec0=>(tq (j5 (xrb c h u rec0) 0 1 2 7 8) (sqN 1 (sq2 (kq (j5 (x8b c h u rec0) 0 1 2 7 8)) (bk 1 (sq2 (tq (j5 (xr9 c h u rec0) 0 1 2 7 8) (sqN 3 (sq2 (tq (j5 (x8c c h u rec0) 0 1 2 7 8) (sqN 1 (tq (j6 (xr3 c h u rec0) 0 1 2 7 8 98) (cd (tq (j5 (xr1 c h u rec0) 0 1 2 7 8) (sqN 1 (bk 6 (lq (xhc c h u rec0) (λr=>j6 r 0 1 2 7 8 10) λs=>(kq (j6 (xr0 c h u rec0 s) 0 1 2 7 8 10)))))) (kq (j5 (xr2 c h u rec0) 0 1 2 7 8)))))) (tq (j5 (xr8 c h u rec0) 0 1 2 7 8) (sqN 1 (tq (j6 (xr7 c h u rec0) 0 1 2 7 8 61) (cd (tq (j5 (xr5 c h u rec0) 0 1 2 7 8) (sqN 1 (bk 4 (lq (xhd c h u rec0) (λr=>j6 r 0 1 2 7 8 9) λw=>(kq (j6 (xr4 c h u rec0 w) 0 1 2 7 8 9)))))) (kq (j5 (xr6 c h u rec0) 0 1 2 7 8))))))))) (bk 2 (lq (xhe c h u rec0) (λr=>j5 r 0 1 2 7 8) λz=>(kq (j5 (xra c h u rec0 z) 0 1 2 7 8))))))))))))))))
noncomputable abbrev x1of:=VX xd 17 r_4
theorem x13g:x1of c h u (x14r xd) r_4 eNil=j2 (xhh c h u) 0 1:=(kq (j2 (xhh c h u) 0 1))
noncomputable abbrev x1og:=VX x6r 84 r_25
theorem x13h:x1og c h u (x14r x6r) r_25 eNil=j4 (xhl c h u) 0 1 2 3:=(tq (j4 (xhl c h u) 0 1 2 3) (sqN 3 (sq2 (kq (j1 (xrd c h u) 9)) (bk 0 (lq (xhk c h u) (λr=>j4 r 0 1 9 10) λrec0=>(bk 1 (sq2 (sq2 (kq (j4 (xre c h u rec0) 0 1 9 10)) (bk 4 (lq (xhi c h u rec0) (λr=>j4 r 0 1 9 10) λs=>(kq (j4 (xrf c h u rec0 s) 0 1 9 10))))) (bk 2 (lq (xhj c h u rec0) (λr=>j4 r 0 1 9 10) λw=>(kq (j4 (xrg c h u rec0 w) 0 1 9 10)))))))))))
noncomputable abbrev x1oh:=VX x6s 168 r_29
theorem x13i:x1oh c h u (x14r x6s) r_29 eNil=j4 (xhr c h u) 0 1 2 3:=(tq (j4 (xhr c h u) 0 1 2 3) (sqN 3 (sq2 (sq2 (tq (j4 (xrl c h u) 0 1 10 11) (sqN 4 (sq2 (kq (j3 (xrh c h u) 0 1 11)) (bk 4 (lq (xho c h u) (λr=>j4 r 0 1 10 11) λrec0=>(bk 5 (sq2 (sq2 (kq (j4 (xri c h u rec0) 0 1 10 11)) (bk 8 (lq (xhm c h u rec0) (λr=>j4 r 0 1 10 11) λs=>(kq (j4 (xrj c h u rec0 s) 0 1 10 11))))) (bk 6 (lq (xhn c h u rec0) (λr=>j4 r 0 1 10 11) λw=>(kq (j4 (xrk c h u rec0 w) 0 1 10 11))))))))))) (bk 2 (lq (xhp c h u) (λr=>j4 r 0 1 10 11) λz=>(kq (j4 (xrm c h u z) 0 1 10 11))))) (bk 0 (lq (xhq c h u) (λr=>j4 r 0 1 10 11) λy=>(kq (j4 (xrn c h u y) 0 1 10 11)))))))
noncomputable abbrev x1oi:=VX x6t 19 r_2
theorem x13j:x1oi c h u (x14r x6t) r_2 eNil=j1 (xhu c h u) 0:=(tq (j1 (xhu c h u) 0) (sqN 1 (sq2 (sq2 (kq (j2 (xhs c h u) 0 2)) (kq (j2 (xht c h u) 0 2))) (kq (j2 (xro c h u) 0 2)))))
noncomputable abbrev x1oj:=VX x6u 172 r_28
theorem x13k:x1oj c h u (x14r x6u) r_28 eNil=j3 (xhz c h u) 0 1 2:=(tq (j3 (xhz c h u) 0 1 2) (sqN 4 (sq2 (sq2 (tq (j5 (xhy c h u) 0 1 2 8 9) (sqN 1 (sq2 (tq (j6 (x8d c h u) 0 1 2 8 9 10) (sqN 3 (sq2 (kq (j3 (xrp c h u) 9 12 13)) (tq (j8 (xrt c h u) 0 1 8 9 10 11 12 13) (sqN 1 (bk 3 (lq (xhx c h u) (λr=>j10 r 1 8 9 10 11 12 13 99 100 101) λrec0=>(tq (j10 (xrs c h u rec0) 1 8 9 10 11 12 13 99 100 101) (sqN 2 (sq2 (kq (j10 (xhv c h u rec0) 1 8 9 10 11 12 13 99 100 101)) (bk 4 (tq (j10 (xrr c h u rec0) 1 8 9 10 11 12 13 99 100 101) (sqN 2 (sq2 (kq (j11 (xhw c h u rec0) 1 8 9 10 11 12 13 16 99 100 101)) (kq (j11 (xrq c h u rec0) 1 8 9 10 11 12 13 15 99 100 101)))))))))))))))) (kq (j5 (xru c h u) 0 1 2 8 9))))) (kq (j5 (x1k c h u) 0 1 2 8 9))) (kq (j5 (xrv c h u) 0 1 2 8 9)))))
noncomputable abbrev x1ok:=VX x1e 18 r_2
theorem x13l:x1ok c h u (x14r x1e) r_2 eNil=j1 (xi0 c h u) 0:=(kq (j1 (xi0 c h u) 0))
noncomputable abbrev x1ol:=VX x36 7 r_2
theorem x13m:x1ol c h u (x14r x36) r_2 eNil=j1 (xi1 c h u) 0:=(kq (j1 (xi1 c h u) 0))
noncomputable abbrev x1om:=VX x6v 117 r_5
theorem x13n:x1om c h u (x14r x6v) r_5 eNil=j1 (xi2 c h u) 0:=(kq (j1 (xi2 c h u) 0))
noncomputable abbrev x1on:=VX x6w 19 r_4
theorem x13o:x1on c h u (x14r x6w) r_4 eNil=j2 (xi4 c h u) 0 1:=(tq (j2 (xi4 c h u) 0 1) (sqN 1 (sq2 (kq (j0 (xrw c h u))) (tq (j2 (xry c h u) 0 1) (sqN 1 (bk 0 (lq (xi3 c h u) (λr=>j4 r 0 1 7 8) λrec0=>(kq (j4 (xrx c h u rec0) 0 1 7 8)))))))))
noncomputable abbrev x1oo:=VX x6x 58 r_17
theorem x13p:x1oo c h u (x14r x6x) r_17 eNil=j5 (xi6 c h u) 0 1 2 3 4:=(tq (j5 (xi6 c h u) 0 1 2 3 4) (sqN 2 (sq2 (kq (j4 (xrz c h u) 0 2 4 10)) (bk 0 (lq (xi5 c h u) (λr=>j5 r 0 2 4 10 11) λrec0=>(kq (j5 (xs0 c h u rec0) 0 2 4 10 11)))))))
noncomputable abbrev x1op:=VX x37 76 r_17
theorem x13q:x1op c h u (x14r x37) r_17 eNil=j4 (xi9 c h u) 0 1 2 3:=(tq (j4 (xi9 c h u) 0 1 2 3) (sqN 1 (bk 0 (lq (xi8 c h u) (λr=>j4 r 0 2 3 8) λrec0=>(bk 1 (tq (j4 (xs2 c h u rec0) 0 2 3 8) (sqN 2 (sq2 (kq (j5 (xi7 c h u rec0) 0 2 3 8 9)) (kq (j5 (xs1 c h u rec0) 0 2 3 8 9))))))))))
noncomputable abbrev x1oq:=VX x6y 7 r_2
theorem x13r:x1oq c h u (x14r x6y) r_2 eNil=j1 (xia c h u) 0:=(kq (j1 (xia c h u) 0))
noncomputable abbrev x1or:=VX x6z 33 r_2
theorem x13s:x1or c h u (x14r x6z) r_2 eNil=j1 (xib c h u) 0:=(kq (j1 (xib c h u) 0))
noncomputable abbrev x1os:=VX x21 15 r_0
theorem x13t:x1os c h u (x14r x21) r_0 eNil=j3 (xic c h u) 0 1 2:=(kq (j3 (xic c h u) 0 1 2))
noncomputable abbrev x1ot:=VX x38 36 r_27
theorem x13u:x1ot c h u (x14r x38) r_27 eNil=j5 (xid c h u) 0 1 2 3 4:=(kq (j5 (xid c h u) 0 1 2 3 4))
noncomputable abbrev x1ou:=VX x39 6 r_2
theorem x13v:x1ou c h u (x14r x39) r_2 eNil=j1 (xie c h u) 0:=(kq (j1 (xie c h u) 0))
noncomputable abbrev x1ov:=VX xf 5 r_2
theorem x13w:x1ov c h u (x14r xf) r_2 eNil=j1 (xif c h u) 0:=(kq (j1 (xif c h u) 0))
noncomputable abbrev x1ow:=VX x70 94 r_2
theorem x13x:x1ow c h u (x14r x70) r_2 eNil=j1 (xih c h u) 0:=(tq (j1 (xih c h u) 0) (sqN 3 (sq2 (tq (j3 (xig c h u) 0 3 4) (sqN 1 (sq2 (sq2 (kq (j1 (xs3 c h u) 3)) (bk 0 (lq (x8f c h u) (λr=>j4 r 0 3 4 5) λrec0=>(tq (j4 (xs5 c h u rec0) 0 3 4 5) (sqN 1 (sq2 (kq (j4 (x8e c h u rec0) 0 3 4 5)) (kq (j4 (xs4 c h u rec0) 0 3 4 5)))))))) (kq (j4 (xs6 c h u) 0 3 4 5))))) (kq (j3 (xs7 c h u) 0 3 4)))))
noncomputable abbrev x1ox:=VX x22 38 r_17
theorem x13y:x1ox c h u (x14r x22) r_17 eNil=j4 (xij c h u) 0 1 2 3:=(tq (j4 (xij c h u) 0 1 2 3) (sqN 1 (bk 0 (lq (xii c h u) (λr=>j5 r 0 1 2 3 10) λrec0=>(kq (j5 (xs8 c h u rec0) 0 1 2 3 10))))))
noncomputable abbrev x1oy:=VX x23 28 r_29
theorem x13z:x1oy c h u (x14r x23) r_29 eNil=j4 (xik c h u) 0 1 2 3:=(kq (j4 (xik c h u) 0 1 2 3))
end Go.Ix
