import Derived.Test.YtaoalekmhjclnaaGreatDoorFxText0
import Derived.Test.YtaoalekmhjclnaaGreatDoorFxText1
import Derived.Test.YtaoalekmhjclnaaGreatDoorFxEnt
import Derived.Test.YtaoalekmhjclnaaGreatDoorFxRules
import Derived.Test.YtaoalekmhjclnaaGreatDoorFxProj
import Derived.ProofKit
set_option linter.unusedVariables false
namespace Go.Ix
open Go.Proofs
variable{c:x15d}{h:FHs}{u:Nat}
noncomputable abbrev x1id:=VX x2s 148 r_0
theorem xz6:x1id c h u (x15f x2s) r_0 eNil=j2 (x7d c h u) 0 1:=(kq (j2 (x7d c h u) 0 1))
noncomputable abbrev x1ie:=VX x23 71 r_1
theorem xz7:x1ie c h u (x15f x23) r_1 eNil=j0 (x9w c h u):=(kq (j0 (x9w c h u)))
noncomputable abbrev x1if:=VX x45 129 r_2
theorem xz8:x1if c h u (x15f x45) r_2 eNil=j1 (xa2 c h u) 0:=(tq (j1 (xa2 c h u) 0) (sqN 2 (sq2 (tq (j1 (xjr c h u) 1) (sqN 1 (sq2 (tq (j1 (xjo c h u) 1) (sqN 1 (sq2 (kq (j0 (xjl c h u))) (tq (j1 (xjn c h u) 1) (sqN 1 (bk 6 (lq (x9x c h u) (λr=>j4 r 1 107 108 109) λrec0=>(kq (j4 (xjm c h u rec0) 1 107 108 109))))))))) (tq (j1 (xjq c h u) 1) (sqN 1 (bk 3 (lq (x9y c h u) (λr=>j4 r 1 60 61 62) λs=>(kq (j4 (xjp c h u s) 1 60 61 62))))))))) (tq (j1 (xjt c h u) 1) (sqN 1 (bk 1 (lq (xa0 c h u) (λr=>j4 r 1 30 31 32) λw=>(kq (j4 (xjs c h u w) 1 30 31 32)))))))))
noncomputable abbrev x1ig:=VX x46 26 r_0
theorem xz9:x1ig c h u (x15f x46) r_0 eNil=j2 (xa4 c h u) 0 1:=(tq (j2 (xa4 c h u) 0 1) (sqN 2 (sq2 (kq (j0 (xju c h u))) (tq (j2 (xjw c h u) 0 1) (sqN 1 (bk 0 (lq (xa3 c h u) (λr=>j3 r 0 1 5) λrec0=>(kq (j3 (xjv c h u rec0) 0 1 5)))))))))
noncomputable abbrev x1ih:=VX x17 41 r_2
theorem xza:x1ih c h u (x15f x17) r_2 eNil=j1 (x7j c h u) 0:=(tq (j1 (x7j c h u) 0) (sqN 1 (sq2 (kq (j1 (xa5 c h u) 1)) (tq (j1 (xa6 c h u) 1) (sqN 1 (bk 0 (lq (x2g c h u) (λr=>j2 r 1 3) λrec0=>(kq (j2 (x7i c h u rec0) 1 3)))))))))
noncomputable abbrev x1ii:=VX x18 128 r_3
theorem xzb:x1ii c h u (x15f x18) r_3 eNil=j1 (x7n c h u) 0:=(tq (j1 (x7n c h u) 0) (sqN 2 (sq2 (tq (j1 (x7l c h u) 1) (sqN 1 (sq2 (kq (j1 (xa7 c h u) 1)) (tq (j1 (xa8 c h u) 1) (sqN 1 (bk 3 (lq (x1n c h u) (λr=>j4 r 1 83 84 85) λrec0=>(kq (j4 (x7k c h u rec0) 1 83 84 85))))))))) (tq (j1 (xa9 c h u) 1) (sqN 1 (bk 0 (lq (x1o c h u) (λr=>j4 r 1 14 15 16) λs=>(kq (j4 (x7m c h u s) 1 14 15 16)))))))))
noncomputable abbrev x1ij:=VX xl 14 r_4
theorem xzc:x1ij c h u (x15f xl) r_4 eNil=j1 (x7o c h u) 0:=(kq (j1 (x7o c h u) 0))
noncomputable abbrev x1ik:=VX xt 21 r_5
theorem xzd:x1ik c h u (x15f xt) r_5 eNil=j2 (x7q c h u) 0 1:=(kq (j2 (x7q c h u) 0 1))
noncomputable abbrev x1il:=VX x11 6 r_2
theorem xze:x1il c h u (x15f x11) r_2 eNil=j1 (x3t c h u) 0:=(kq (j1 (x3t c h u) 0))
noncomputable abbrev x1im:=VX x19 142 r_3
theorem xzf:x1im c h u (x15f x19) r_3 eNil=j1 (x7u c h u) 0:=(tq (j1 (x7u c h u) 0) (sqN 3 (sq2 (tq (j1 (x7s c h u) 1) (sqN 1 (sq2 (kq (j1 (xaa c h u) 1)) (tq (j1 (xab c h u) 1) (sqN 1 (bk 2 (lq (x1p c h u) (λr=>j2 r 1 7) λrec0=>(kq (j2 (x7r c h u rec0) 1 7))))))))) (tq (j2 (xjx c h u) 1 4) (sqN 1 (bk 0 (lq (x1q c h u) (λr=>j3 r 1 4 5) λs=>(kq (j3 (x7t c h u s) 1 4 5)))))))))
noncomputable abbrev x1in:=VX x1a 77 r_5
theorem xzg:x1in c h u (x15f x1a) r_5 eNil=j2 (x7w c h u) 0 1:=(tq (j2 (x7w c h u) 0 1) (sqN 2 (sq2 (kq (j1 (xac c h u) 6)) (tq (j3 (xad c h u) 1 2 6) (sqN 1 (bk 0 (lq (x1r c h u) (λr=>j4 r 1 2 6 7) λrec0=>(kq (j4 (x7v c h u rec0) 1 2 6 7)))))))))
noncomputable abbrev x1io:=VX xu 84 r_6
theorem xzh:x1io c h u (x15f xu) r_6 eNil=j1 (x3v c h u) 0:=(tq (j1 (x3v c h u) 0) (sqN 4 (sq2 (tq (j3 (x7y c h u) 1 6 8) (sqN 1 (sq2 (kq (j2 (x7x c h u) 8 11)) (tq (j4 (xae c h u) 1 6 8 11) (sqN 1 (bk 2 (lq (x1s c h u) (λr=>j4 r 6 8 11 12) λrec0=>(kq (j4 (x3u c h u rec0) 6 8 11 12))))))))) (tq (j3 (xaf c h u) 1 6 8) (sqN 1 (bk 0 (lq (x2j c h u) (λr=>j6 r 1 6 8 23 24 25) λs=>(kq (j6 (x7z c h u s) 1 6 8 23 24 25)))))))))
noncomputable abbrev x1ip:=VX x1b 72 r_5
theorem xzi:x1ip c h u (x15f x1b) r_5 eNil=j2 (x81 c h u) 0 1:=(tq (j2 (x81 c h u) 0 1) (sqN 2 (sq2 (kq (j1 (xag c h u) 1)) (tq (j2 (xah c h u) 1 2) (sqN 1 (bk 0 (lq (x1t c h u) (λr=>j3 r 1 2 6) λrec0=>(kq (j3 (x80 c h u rec0) 1 2 6)))))))))
noncomputable abbrev x1iq:=VX x1c 40 r_2
theorem xzj:x1iq c h u (x15f x1c) r_2 eNil=j1 (x83 c h u) 0:=(tq (j1 (x83 c h u) 0) (sqN 2 (sq2 (kq (j1 (xai c h u) 3)) (tq (j2 (xaj c h u) 1 3) (sqN 1 (bk 0 (lq (x2k c h u) (λr=>j3 r 1 3 4) λrec0=>(kq (j3 (x82 c h u rec0) 1 3 4)))))))))
noncomputable abbrev x1ir:=VX x1d 80 r_5
theorem xzk:x1ir c h u (x15f x1d) r_5 eNil=j2 (x85 c h u) 0 1:=(tq (j2 (x85 c h u) 0 1) (sqN 3 (sq2 (kq (j1 (xak c h u) 1)) (tq (j3 (xal c h u) 1 2 6) (sqN 1 (bk 1 (lq (x1u c h u) (λr=>j6 r 1 2 6 27 28 29) λrec0=>(kq (j6 (x84 c h u rec0) 1 2 6 27 28 29)))))))))
noncomputable abbrev x1is:=VX x49 31 r_7
theorem xzl:x1is c h u (x15f x49) r_7 eNil=j3 (xam c h u) 0 1 2:=(kq (j3 (xam c h u) 0 1 2))
noncomputable abbrev x1it:=VX x2t 18 r_8
theorem xzm:x1it c h u (x15f x2t) r_8 eNil=j0 (xan c h u):=(kq (j0 (xan c h u)))
noncomputable abbrev x1iu:=VX x2u 7 r_1
theorem xzn:x1iu c h u (x15f x2u) r_1 eNil=j0 (xao c h u):=(kq (j0 (xao c h u)))
noncomputable abbrev x1iv:=VX x4a 38 r_9
theorem xzo:x1iv c h u (x15f x4a) r_9 eNil=j3 (xap c h u) 0 1 2:=(kq (j3 (xap c h u) 0 1 2))
noncomputable abbrev x1iw:=VX x4b 12 r_3
theorem xzp:x1iw c h u (x15f x4b) r_3 eNil=j1 (xaq c h u) 0:=(kq (j1 (xaq c h u) 0))
noncomputable abbrev x1ix:=VX x4c 9 r_10
theorem xzq:x1ix c h u (x15f x4c) r_10 eNil=j0 (xar c h u):=(kq (j0 (xar c h u)))
noncomputable abbrev x1iy:=VX xc 15 r_11
theorem xzr:x1iy c h u (x15f xc) r_11 eNil=j3 (x86 c h u) 0 1 2:=(kq (j3 (x86 c h u) 0 1 2))
noncomputable abbrev x1iz:=VX x24 15 r_2
theorem xzs:x1iz c h u (x15f x24) r_2 eNil=j1 (xat c h u) 0:=(tq (j1 (xat c h u) 0) (sqN 1 (sq2 (kq (j0 (xjz c h u))) (tq (j1 (xk1 c h u) 0) (sqN 1 (bk 0 (lq (xas c h u) (λr=>j3 r 5 6 7) λrec0=>(kq (j3 (xk0 c h u rec0) 5 6 7)))))))))
noncomputable abbrev x1j0:=VX xh 21 r_11
theorem xzt:x1j0 c h u (x15f xh) r_11 eNil=j3 (x88 c h u) 0 1 2:=(tq (j3 (x88 c h u) 0 1 2) (sqN 2 (sq2 (kq (j0 (xau c h u))) (tq (j3 (xav c h u) 0 1 2) (sqN 1 (bk 0 (lq (x2l c h u) (λr=>j4 r 0 1 11 12) λrec0=>(kq (j4 (x87 c h u rec0) 0 1 11 12)))))))))
noncomputable abbrev x1j1:=VX x4d 10 r_12
theorem xzu:x1j1 c h u (x15f x4d) r_12 eNil=j2 (xaw c h u) 0 1:=(kq (j2 (xaw c h u) 0 1))
noncomputable abbrev x1j2:=VX x2v 100 r_2
theorem xzv:x1j2 c h u (x15f x2v) r_2 eNil=j1 (xb0 c h u) 0:=(tq (j1 (xb0 c h u) 0) (sqN 3 (sq2 (tq (j1 (xkc c h u) 0) (sqN 1 (sq2 (kq (j0 (xk3 c h u))) (tq (j1 (xkb c h u) 7) (sqN 1 (bk 3 (lq (xay c h u) (λr=>j4 r 7 43 44 45) λrec0=>(tq (j4 (xka c h u rec0) 7 43 44 45) (sqN 2 (sq2 (kq (j4 (xk4 c h u rec0) 7 43 44 45)) (bk 4 (tq (j4 (xk9 c h u rec0) 7 43 44 45) (sqN 2 (bk 5 (lq (xax c h u rec0) (λr=>j9 r 7 8 9 43 44 45 52 53 54) λs=>(tq (j9 (xk8 c h u rec0 s) 7 8 9 43 44 45 52 53 54) (sqN 2 (sq2 (kq (j9 (xk5 c h u rec0 s) 7 8 9 43 44 45 52 53 54)) (bk 6 (tq (j9 (xk7 c h u rec0 s) 7 8 9 43 44 45 52 53 54) (sqN 2 (sq2 (kq (j10 (x89 c h u rec0 s) 7 8 9 12 43 44 45 52 53 54)) (kq (j11 (xk6 c h u rec0 s) 7 8 9 10 11 43 44 45 52 53 54)))))))))))))))))))))))) (tq (j2 (xkf c h u) 0 3) (sqN 1 (bk 1 (lq (xaz c h u) (λr=>j5 r 0 3 22 23 24) λw=>(kq (j5 (xkd c h u w) 0 3 22 23 24)))))))))
noncomputable abbrev x1j3:=VX xv 5 r_2
theorem xzw:x1j3 c h u (x15f xv) r_2 eNil=j1 (xb1 c h u) 0:=(kq (j1 (xb1 c h u) 0))
noncomputable abbrev x1j4:=VX x25 10 r_0
theorem xzx:x1j4 c h u (x15f x25) r_0 eNil=j2 (xb2 c h u) 0 1:=(kq (j2 (xb2 c h u) 0 1))
noncomputable abbrev x1j5:=VX x4e 10 r_12
theorem xzy:x1j5 c h u (x15f x4e) r_12 eNil=j2 (xb3 c h u) 0 1:=(kq (j2 (xb3 c h u) 0 1))
noncomputable abbrev x1j6:=VX x4f 10 r_12
theorem xzz:x1j6 c h u (x15f x4f) r_12 eNil=j2 (xb4 c h u) 0 1:=(kq (j2 (xb4 c h u) 0 1))
noncomputable abbrev x1j7:=VX x4g 9 r_2
theorem x100:x1j7 c h u (x15f x4g) r_2 eNil=j1 (xb5 c h u) 0:=(kq (j1 (xb5 c h u) 0))
noncomputable abbrev x1j8:=VX x4h 12 r_0
theorem x101:x1j8 c h u (x15f x4h) r_0 eNil=j2 (xb6 c h u) 0 1:=(kq (j2 (xb6 c h u) 0 1))
noncomputable abbrev x1j9:=VX x4i 6 r_0
theorem x102:x1j9 c h u (x15f x4i) r_0 eNil=j2 (xb7 c h u) 0 1:=(kq (j2 (xb7 c h u) 0 1))
noncomputable abbrev x1ja:=VX xd 15 r_11
theorem x103:x1ja c h u (x15f xd) r_11 eNil=j3 (x8a c h u) 0 1 2:=(kq (j3 (x8a c h u) 0 1 2))
noncomputable abbrev x1jb:=VX xf 10 r_12
theorem x104:x1jb c h u (x15f xf) r_12 eNil=j2 (x8b c h u) 0 1:=(kq (j2 (x8b c h u) 0 1))
noncomputable abbrev x1jc:=VX x12 5 r_2
theorem x105:x1jc c h u (x15f x12) r_2 eNil=j1 (x8c c h u) 0:=(kq (j1 (x8c c h u) 0))
noncomputable abbrev x1jd:=VX xm 5 r_2
theorem x106:x1jd c h u (x15f xm) r_2 eNil=j1 (x8d c h u) 0:=(kq (j1 (x8d c h u) 0))
noncomputable abbrev x1je:=VX xw 14 r_13
theorem x107:x1je c h u (x15f xw) r_13 eNil=j1 (x8e c h u) 0:=(kq (j1 (x8e c h u) 0))
noncomputable abbrev x1jf:=VX x1e 62 r_5
theorem x108:x1jf c h u (x15f x1e) r_5 eNil=j2 (x8g c h u) 0 1:=(tq (j2 (x8g c h u) 0 1) (sqN 2 (sq2 (kq (j1 (xb8 c h u) 6)) (tq (j3 (xb9 c h u) 1 2 6) (sqN 1 (bk 0 (lq (x1v c h u) (λr=>j6 r 1 2 6 9 10 11) λrec0=>(kq (j6 (x8f c h u rec0) 1 2 6 9 10 11)))))))))
noncomputable abbrev x1jg:=VX x26 55 r_2
theorem x109:x1jg c h u (x15f x26) r_2 eNil=j1 (x8i c h u) 0:=(tq (j1 (x8i c h u) 0) (sqN 2 (sq2 (kq (j0 (xba c h u))) (tq (j1 (xbb c h u) 0) (sqN 1 (bk 0 (lq (x1w c h u) (λr=>j2 r 0 3) λrec0=>(kq (j2 (x8h c h u rec0) 0 3)))))))))
noncomputable abbrev x1jh:=VX x1f 18 r_0
theorem x10a:x1jh c h u (x15f x1f) r_0 eNil=j2 (xbd c h u) 0 1:=(tq (j2 (xbd c h u) 0 1) (sqN 1 (sq2 (kq (j0 (xbc c h u))) (tq (j2 (xkh c h u) 0 1) (sqN 1 (bk 0 (lq (x2m c h u) (λr=>j3 r 0 1 5) λrec0=>(kq (j3 (x8j c h u rec0) 0 1 5)))))))))
noncomputable abbrev x1ji:=VX xn 36 r_0
theorem x10b:x1ji c h u (x15f xn) r_0 eNil=j2 (x8m c h u) 0 1:=(tq (j2 (x8m c h u) 0 1) (sqN 2 (sq2 (kq (j1 (x8k c h u) 5)) (bk 0 (lq (x2n c h u) (λr=>j3 r 1 2 5) λrec0=>(kq (j3 (x8l c h u rec0) 1 2 5)))))))
noncomputable abbrev x1jj:=VX x27 28 r_14
theorem x10c:x1jj c h u (x15f x27) r_14 eNil=j1 (x40 c h u) 0:=(tq (j1 (x40 c h u) 0) (sqN 1 (bk 0 (lq (x15 c h u) (λr=>j3 r 0 2 3) λrec0=>(kq (j3 (x3z c h u rec0) 0 2 3))))))
noncomputable abbrev x1jk:=VX x13 30 r_0
theorem x10d:x1jk c h u (x15f x13) r_0 eNil=j2 (x8n c h u) 0 1:=(tq (j2 (x8n c h u) 0 1) (sqN 2 (sq2 (kq (j1 (xbe c h u) 5)) (bk 0 (lq (x41 c h u) (λr=>j3 r 1 2 5) λrec0=>(kq (j3 (xbf c h u rec0) 1 2 5)))))))
noncomputable abbrev x1jl:=VX x4j 57 r_15
theorem x10e:x1jl c h u (x15f x4j) r_15 eNil=j3 (xbg c h u) 0 1 2:=(kq (j3 (xbg c h u) 0 1 2))
noncomputable abbrev x1jm:=VX x4k 22 r_16
theorem x10f:x1jm c h u (x15f x4k) r_16 eNil=j1 (xbh c h u) 0:=(kq (j1 (xbh c h u) 0))
noncomputable abbrev x1jn:=VX x2w 28 r_17
theorem x10g:x1jn c h u (x15f x2w) r_17 eNil=j3 (xbi c h u) 0 1 2:=(kq (j3 (xbi c h u) 0 1 2))
noncomputable abbrev x1jo:=VX x2x 19 r_2
theorem x10h:x1jo c h u (x15f x2x) r_2 eNil=j1 (xbk c h u) 0:=(tq (j1 (xbk c h u) 0) (sqN 1 (sq2 (kq (j0 (xkj c h u))) (tq (j1 (xkl c h u) 1) (sqN 1 (bk 0 (lq (xbj c h u) (λr=>j2 r 1 3) λrec0=>(kq (j2 (xkk c h u rec0) 1 3)))))))))
noncomputable abbrev x1jp:=VX x2y 38 r_18
theorem x10i:x1jp c h u (x15f x2y) r_18 eNil=j2 (xbm c h u) 0 1:=(tq (j2 (xbm c h u) 0 1) (sqN 4 (sq2 (kq (j1 (xkm c h u) 8)) (tq (j2 (xko c h u) 1 8) (sqN 1 (bk 0 (lq (xbl c h u) (λr=>j4 r 8 21 22 23) λrec0=>(kq (j4 (xkn c h u rec0) 8 21 22 23)))))))))
noncomputable abbrev x1jq:=VX x4l 104 r_19
theorem x10j:x1jq c h u (x15f x4l) r_19 eNil=j2 (xbo c h u) 0 1:=(tq (j2 (xbo c h u) 0 1) (sqN 3 (sq2 (sq2 (kq (j2 (x8o c h u) 4 5)) (kq (j4 (xkp c h u) 4 5 6 7))) (tq (j6 (xl1 c h u) 2 3 4 5 6 7) (sqN 1 (bk 0 (tq (j7 (xl0 c h u) 2 3 4 5 6 7 15) (rg (.tmp 15) #[16] (λu=>(bk 1 (tq (j6 (xky c h u) 2 3 5 6 7 8) (sqN 4 (bk 2 (tq (j7 (xkx c h u) 2 3 5 7 9 10 32) (sqN 1 (tq (j8 (xkw c h u) 2 3 5 7 9 10 32 64) (cd (kq (j2 (xkq c h u) 5 9)) (tq (j7 (xkv c h u) 2 3 5 7 9 10 32) (sqN 1 (tq (j7 (xku c h u) 2 3 5 7 9 10 72) (cd (kq (j2 (xkr c h u) 5 9)) (tq (j6 (xkt c h u) 2 3 5 7 9 10) (sqN 1 (sq2 (kq (j2 (xbn c h u) 7 11)) (kq (j4 (xks c h u) 5 7 9 11)))))))))))))))))) (λu=>(kq (j6 (xkz c h u) 2 3 5 6 7 16)))))))))))
noncomputable abbrev x1jr:=VX x4m 29 r_2
theorem x10k:x1jr c h u (x15f x4m) r_2 eNil=j1 (xbq c h u) 0:=(tq (j1 (xbq c h u) 0) (sqN 2 (sq2 (kq (j0 (xl3 c h u))) (tq (j1 (xl5 c h u) 0) (sqN 1 (bk 0 (lq (xbp c h u) (λr=>j3 r 8 9 10) λrec0=>(kq (j3 (xl4 c h u rec0) 8 9 10)))))))))
noncomputable abbrev x1js:=VX x4n 17 r_2
theorem x10l:x1js c h u (x15f x4n) r_2 eNil=j1 (xbs c h u) 0:=(tq (j1 (xbs c h u) 0) (sqN 2 (sq2 (kq (j1 (xl6 c h u) 3)) (tq (j2 (xl8 c h u) 0 3) (sqN 1 (bk 0 (lq (xbr c h u) (λr=>j4 r 3 6 7 8) λrec0=>(kq (j4 (xl7 c h u rec0) 3 6 7 8)))))))))
noncomputable abbrev x1jt:=VX x1g 54 r_2
theorem x10m:x1jt c h u (x15f x1g) r_2 eNil=j1 (x8q c h u) 0:=(tq (j1 (x8q c h u) 0) (sqN 1 (sq2 (kq (j1 (xbt c h u) 0)) (tq (j1 (xbu c h u) 0) (sqN 1 (bk 0 (lq (x1x c h u) (λr=>j4 r 0 7 8 9) λrec0=>(kq (j4 (x8p c h u rec0) 0 7 8 9)))))))))
noncomputable abbrev x1ju:=VX x2z 12 r_2
theorem x10n:x1ju c h u (x15f x2z) r_2 eNil=j1 (xbv c h u) 0:=(kq (j1 (xbv c h u) 0))
noncomputable abbrev x1jv:=VX x28 8 r_20
theorem x10o:x1jv c h u (x15f x28) r_20 eNil=j1 (xbw c h u) 0:=(kq (j1 (xbw c h u) 0))
noncomputable abbrev x1jw:=VX x30 48 r_0
theorem x10p:x1jw c h u (x15f x30) r_0 eNil=j2 (xby c h u) 0 1:=(tq (j2 (xby c h u) 0 1) (sqN 2 (sq2 (kq (j1 (xl9 c h u) 5)) (tq (j3 (xlb c h u) 0 1 5) (sqN 1 (bk 0 (lq (xbx c h u) (λr=>j6 r 0 1 5 9 10 11) λrec0=>(kq (j6 (xla c h u rec0) 0 1 5 9 10 11)))))))))
noncomputable abbrev x1jx:=VX xg 21 r_0
theorem x10q:x1jx c h u (x15f xg) r_0 eNil=j2 (xbz c h u) 0 1:=(kq (j2 (xbz c h u) 0 1))
noncomputable abbrev x1jy:=VX x4o 47 r_0
theorem x10r:x1jy c h u (x15f x4o) r_0 eNil=j2 (xc0 c h u) 0 1:=(kq (j2 (xc0 c h u) 0 1))
noncomputable abbrev x1jz:=VX x4p 19 r_0
theorem x10s:x1jz c h u (x15f x4p) r_0 eNil=j2 (xc2 c h u) 0 1:=(tq (j2 (xc2 c h u) 0 1) (sqN 1 (sq2 (kq (j0 (xlc c h u))) (tq (j2 (xle c h u) 0 1) (sqN 1 (bk 0 (lq (xc1 c h u) (λr=>j4 r 0 1 7 8) λrec0=>(kq (j4 (xld c h u rec0) 0 1 7 8)))))))))
noncomputable abbrev x1k0:=VX x4q 8 r_12
theorem x10t:x1k0 c h u (x15f x4q) r_12 eNil=j2 (xc3 c h u) 0 1:=(kq (j2 (xc3 c h u) 0 1))
noncomputable abbrev x1k1:=VX x4r 42 r_14
theorem x10u:x1k1 c h u (x15f x4r) r_14 eNil=j3 (xc5 c h u) 0 1 2:=(tq (j3 (xc5 c h u) 0 1 2) (sqN 1 (bk 0 (lq (xc4 c h u) (λr=>j6 r 0 1 2 12 13 14) λrec0=>(kq (j6 (xlf c h u rec0) 0 1 2 12 13 14))))))
noncomputable abbrev x1k2:=VX x4s 21 r_5
theorem x10v:x1k2 c h u (x15f x4s) r_5 eNil=j2 (xc6 c h u) 0 1:=(kq (j2 (xc6 c h u) 0 1))
noncomputable abbrev x1k3:=VX x4t 12 r_0
theorem x10w:x1k3 c h u (x15f x4t) r_0 eNil=j2 (xc7 c h u) 0 1:=(kq (j2 (xc7 c h u) 0 1))
noncomputable abbrev x1k4:=VX x31 32 r_21
theorem x10x:x1k4 c h u (x15f x31) r_21 eNil=j2 (xc8 c h u) 0 1:=(kq (j2 (xc8 c h u) 0 1))
noncomputable abbrev x1k5:=VX x32 56 r_22
theorem x10y:x1k5 c h u (x15f x32) r_22 eNil=j1 (xc9 c h u) 0:=(tq (j1 (xc9 c h u) 0) (sqN 1 (sq2 (kq (j1 (xlg c h u) 1)) (bk 0 (sq2 (kq (j2 (x8s c h u) 1 7)) (kq (j1 (xlh c h u) 1)))))))
noncomputable abbrev x1k6:=VX x33 23 r_0
theorem x10z:x1k6 c h u (x15f x33) r_0 eNil=j2 (xcb c h u) 0 1:=(tq (j2 (xcb c h u) 0 1) (sqN 2 (sq2 (kq (j1 (xca c h u) 5)) (kq (j3 (xli c h u) 0 1 5)))))
noncomputable abbrev x1k7:=VX x4u 10 r_0
theorem x110:x1k7 c h u (x15f x4u) r_0 eNil=j2 (xcc c h u) 0 1:=(kq (j2 (xcc c h u) 0 1))
noncomputable abbrev x1k8:=VX x4v 97 r_0
theorem x111:x1k8 c h u (x15f x4v) r_0 eNil=j2 (xce c h u) 0 1:=(tq (j2 (xce c h u) 0 1) (sqN 6 (sq2 (kq (j6 (xcd c h u) 0 3 5 7 8 10)) (kq (j6 (xlj c h u) 0 3 5 7 8 10)))))
noncomputable abbrev x1k9:=VX x4w 44 r_5
theorem x112:x1k9 c h u (x15f x4w) r_5 eNil=j2 (xcf c h u) 0 1:=(kq (j2 (xcf c h u) 0 1))
noncomputable abbrev x1ka:=VX x34 9 r_0
theorem x113:x1ka c h u (x15f x34) r_0 eNil=j2 (xcg c h u) 0 1:=(kq (j2 (xcg c h u) 0 1))
noncomputable abbrev x1kb:=VX x4x 29 r_0
theorem x114:x1kb c h u (x15f x4x) r_0 eNil=j2 (xci c h u) 0 1:=(tq (j2 (xci c h u) 0 1) (sqN 1 (sq2 (kq (j1 (xlk c h u) 0)) (tq (j2 (xlm c h u) 0 3) (sqN 1 (bk 0 (lq (xch c h u) (λr=>j4 r 0 14 15 16) λrec0=>(kq (j4 (xll c h u rec0) 0 14 15 16)))))))))
noncomputable abbrev x1kc:=VX x4y 21 r_11
theorem x115:x1kc c h u (x15f x4y) r_11 eNil=j3 (xck c h u) 0 1 2:=(tq (j3 (xck c h u) 0 1 2) (sqN 1 (sq2 (kq (j0 (xln c h u))) (tq (j3 (xlp c h u) 0 1 2) (sqN 1 (bk 0 (lq (xcj c h u) (λr=>j5 r 0 1 9 10 11) λrec0=>(kq (j5 (xlo c h u rec0) 0 1 9 10 11)))))))))
noncomputable abbrev x1kd:=VX xx 22 r_0
theorem x116:x1kd c h u (x15f xx) r_0 eNil=j2 (xcl c h u) 0 1:=(kq (j2 (xcl c h u) 0 1))
noncomputable abbrev x1ke:=VX x1h 16 r_23
theorem x117:x1ke c h u (x15f x1h) r_23 eNil=j2 (xcm c h u) 0 1:=(kq (j2 (xcm c h u) 0 1))
noncomputable abbrev x1kf:=VX x4z 16 r_0
theorem x118:x1kf c h u (x15f x4z) r_0 eNil=j2 (xcn c h u) 0 1:=(kq (j2 (xcn c h u) 0 1))
noncomputable abbrev x1kg:=VX x50 15 r_2
theorem x119:x1kg c h u (x15f x50) r_2 eNil=j1 (xcp c h u) 0:=(tq (j1 (xcp c h u) 0) (sqN 1 (sq2 (kq (j0 (xlq c h u))) (tq (j1 (xls c h u) 0) (sqN 1 (bk 0 (lq (xco c h u) (λr=>j3 r 5 6 7) λrec0=>(kq (j3 (xlr c h u rec0) 5 6 7)))))))))
noncomputable abbrev x1kh:=VX x51 47 r_0
theorem x11a:x1kh c h u (x15f x51) r_0 eNil=j2 (xcs c h u) 0 1:=(tq (j2 (xcs c h u) 0 1) (sqN 2 (sq2 (kq (j1 (xlt c h u) 5)) (tq (j3 (xm0 c h u) 0 3 5) (sqN 1 (bk 0 (lq (xcr c h u) (λr=>j5 r 3 5 9 10 11) λrec0=>(tq (j5 (xlz c h u rec0) 3 5 9 10 11) (sqN 2 (sq2 (kq (j5 (x8u c h u rec0) 3 5 9 10 11)) (bk 1 (tq (j5 (xly c h u rec0) 3 5 9 10 11) (sqN 3 (tq (j7 (xlx c h u rec0) 3 5 7 9 10 11 30) (cd (tq (j6 (xlv c h u rec0) 3 5 7 9 10 11) (sqN 1 (sq2 (kq (j7 (xcq c h u rec0) 3 5 7 8 9 10 11)) (kq (j7 (xlu c h u rec0) 3 5 7 8 9 10 11))))) (kq (j5 (xlw c h u rec0) 3 5 9 10 11)))))))))))))))))
noncomputable abbrev x1ki:=VX x52 19 r_0
theorem x11b:x1ki c h u (x15f x52) r_0 eNil=j2 (xcu c h u) 0 1:=(tq (j2 (xcu c h u) 0 1) (sqN 1 (sq2 (kq (j0 (xm1 c h u))) (tq (j2 (xm3 c h u) 0 1) (sqN 1 (bk 0 (lq (xct c h u) (λr=>j4 r 0 1 7 8) λrec0=>(kq (j4 (xm2 c h u rec0) 0 1 7 8)))))))))
noncomputable abbrev x1kj:=VX x53 8 r_12
theorem x11c:x1kj c h u (x15f x53) r_12 eNil=j2 (xcv c h u) 0 1:=(kq (j2 (xcv c h u) 0 1))
noncomputable abbrev x1kk:=VX x54 64 r_24
theorem x11d:x1kk c h u (x15f x54) r_24 eNil=j2 (xcx c h u) 0 1:=(tq (j2 (xcx c h u) 0 1) (sqN 3 (sq2 (kq (j3 (xm4 c h u) 4 6 7)) (tq (j5 (xm7 c h u) 1 2 4 6 7) (sqN 1 (bk 0 (lq (xcw c h u) (λr=>j7 r 1 4 6 7 17 18 19) λrec0=>(tq (j7 (xm6 c h u rec0) 1 4 6 7 17 18 19) (sqN 2 (sq2 (kq (j7 (x8v c h u rec0) 1 4 6 7 17 18 19)) (kq (j7 (xm5 c h u rec0) 1 4 6 7 17 18 19))))))))))))
noncomputable abbrev x1kl:=VX x55 90 r_18
theorem x11e:x1kl c h u (x15f x55) r_18 eNil=j2 (xd2 c h u) 0 1:=(tq (j2 (xd2 c h u) 0 1) (sqN 5 (sq2 (tq (j4 (xmc c h u) 1 2 8 9) (sqN 3 (sq2 (kq (j1 (xm8 c h u) 14)) (tq (j4 (xmb c h u) 1 12 13 14) (sqN 1 (bk 2 (lq (xcz c h u) (λr=>j7 r 1 12 13 14 60 61 62) λrec0=>(tq (j7 (xma c h u rec0) 1 12 13 14 60 61 62) (sqN 2 (sq2 (kq (j7 (xcy c h u rec0) 1 12 13 14 60 61 62)) (kq (j7 (xm9 c h u rec0) 1 12 13 14 60 61 62)))))))))))) (tq (j4 (xmf c h u) 1 2 8 9) (sqN 1 (bk 0 (lq (xd1 c h u) (λr=>j7 r 1 2 8 9 36 37 38) λs=>(tq (j7 (xme c h u s) 1 2 8 9 36 37 38) (sqN 2 (sq2 (kq (j7 (xd0 c h u s) 1 2 8 9 36 37 38)) (kq (j7 (xmd c h u s) 1 2 8 9 36 37 38))))))))))))
noncomputable abbrev x1km:=VX x35 10 r_0
theorem x11f:x1km c h u (x15f x35) r_0 eNil=j2 (xd3 c h u) 0 1:=(kq (j2 (xd3 c h u) 0 1))
noncomputable abbrev x1kn:=VX x14 15 r_11
theorem x11g:x1kn c h u (x15f x14) r_11 eNil=j3 (xd4 c h u) 0 1 2:=(kq (j3 (xd4 c h u) 0 1 2))
noncomputable abbrev x1ko:=VX x56 19 r_0
theorem x11h:x1ko c h u (x15f x56) r_0 eNil=j2 (xd6 c h u) 0 1:=(tq (j2 (xd6 c h u) 0 1) (sqN 1 (sq2 (kq (j0 (xmh c h u))) (tq (j2 (xmj c h u) 0 1) (sqN 1 (bk 0 (lq (xd5 c h u) (λr=>j4 r 0 1 7 8) λrec0=>(kq (j4 (xmi c h u rec0) 0 1 7 8)))))))))
noncomputable abbrev x1kp:=VX x57 9 r_12
theorem x11i:x1kp c h u (x15f x57) r_12 eNil=j2 (xd7 c h u) 0 1:=(kq (j2 (xd7 c h u) 0 1))
noncomputable abbrev x1kq:=VX x36 37 r_2
theorem x11j:x1kq c h u (x15f x36) r_2 eNil=j1 (xd8 c h u) 0:=(kq (j1 (xd8 c h u) 0))
noncomputable abbrev x1kr:=VX x1i 13 r_18
theorem x11k:x1kr c h u (x15f x1i) r_18 eNil=j2 (xd9 c h u) 0 1:=(kq (j2 (xd9 c h u) 0 1))
noncomputable abbrev x1ks:=VX x29 21 r_25
theorem x11l:x1ks c h u (x15f x29) r_25 eNil=j1 (xda c h u) 0:=(kq (j1 (xda c h u) 0))
noncomputable abbrev x1kt:=VX x58 113 r_0
theorem x11m:x1kt c h u (x15f x58) r_0 eNil=j2 (xdd c h u) 0 1:=(tq (j2 (xdd c h u) 0 1) (sqN 7 (sq2 (kq (j3 (xmk c h u) 0 10 11)) (tq (j4 (xmn c h u) 0 8 10 11) (sqN 1 (bk 1 (lq (xdc c h u) (λr=>j7 r 0 8 10 11 80 81 82) λrec0=>(tq (j7 (xmm c h u rec0) 0 8 10 11 80 81 82) (sqN 2 (sq2 (kq (j7 (xdb c h u rec0) 0 8 10 11 80 81 82)) (kq (j7 (xml c h u rec0) 0 8 10 11 80 81 82))))))))))))
noncomputable abbrev x1ku:=VX x37 58 r_11
theorem x11n:x1ku c h u (x15f x37) r_11 eNil=j3 (xde c h u) 0 1 2:=(kq (j3 (xde c h u) 0 1 2))
noncomputable abbrev x1kv:=VX x59 9 r_2
theorem x11o:x1kv c h u (x15f x59) r_2 eNil=j1 (xdf c h u) 0:=(kq (j1 (xdf c h u) 0))
noncomputable abbrev x1kw:=VX x2a 8 r_0
theorem x11p:x1kw c h u (x15f x2a) r_0 eNil=j2 (xdg c h u) 0 1:=(kq (j2 (xdg c h u) 0 1))
noncomputable abbrev x1kx:=VX x5a 15 r_11
theorem x11q:x1kx c h u (x15f x5a) r_11 eNil=j3 (xdh c h u) 0 1 2:=(kq (j3 (xdh c h u) 0 1 2))
noncomputable abbrev x1ky:=VX x5b 16 r_0
theorem x11r:x1ky c h u (x15f x5b) r_0 eNil=j2 (xdi c h u) 0 1:=(kq (j2 (xdi c h u) 0 1))
noncomputable abbrev x1kz:=VX x5c 36 r_2
theorem x11s:x1kz c h u (x15f x5c) r_2 eNil=j1 (xdj c h u) 0:=(kq (j1 (xdj c h u) 0))
noncomputable abbrev x1l0:=VX xy 15 r_11
theorem x11t:x1l0 c h u (x15f xy) r_11 eNil=j3 (xdk c h u) 0 1 2:=(kq (j3 (xdk c h u) 0 1 2))
noncomputable abbrev x1l1:=VX x5d 42 r_0
theorem x11u:x1l1 c h u (x15f x5d) r_0 eNil=j2 (xdm c h u) 0 1:=(tq (j2 (xdm c h u) 0 1) (sqN 3 (sq2 (kq (j1 (xmo c h u) 6)) (tq (j4 (xmq c h u) 1 2 5 6) (sqN 1 (bk 0 (lq (xdl c h u) (λr=>j6 r 1 5 6 14 15 16) λrec0=>(kq (j6 (xmp c h u rec0) 1 5 6 14 15 16)))))))))
noncomputable abbrev x1l2:=VX x38 38 r_0
theorem x11v:x1l2 c h u (x15f x38) r_0 eNil=j2 (xdp c h u) 0 1:=(tq (j2 (xdp c h u) 0 1) (sqN 5 (sq2 (kq (j1 (xmr c h u) 5)) (tq (j3 (xmu c h u) 5 6 8) (sqN 1 (bk 0 (lq (xdo c h u) (λr=>j5 r 5 6 8 24 25) λrec0=>(tq (j5 (xmt c h u rec0) 5 6 8 24 25) (sqN 2 (sq2 (kq (j5 (xdn c h u rec0) 5 6 8 24 25)) (kq (j5 (xms c h u rec0) 5 6 8 24 25))))))))))))
noncomputable abbrev x1l3:=VX x5e 30 r_0
theorem x11w:x1l3 c h u (x15f x5e) r_0 eNil=j2 (xds c h u) 0 1:=(tq (j2 (xds c h u) 0 1) (sqN 2 (sq2 (kq (j1 (xmw c h u) 5)) (tq (j3 (xmz c h u) 1 2 5) (sqN 1 (bk 0 (lq (xdr c h u) (λr=>j5 r 1 5 15 16 17) λrec0=>(tq (j5 (xmy c h u rec0) 1 5 15 16 17) (sqN 2 (sq2 (kq (j5 (xdq c h u rec0) 1 5 15 16 17)) (kq (j5 (xmx c h u rec0) 1 5 15 16 17))))))))))))
noncomputable abbrev x1l4:=VX x5f 23 r_18
theorem x11x:x1l4 c h u (x15f x5f) r_18 eNil=j2 (xdt c h u) 0 1:=(kq (j2 (xdt c h u) 0 1))
noncomputable abbrev x1l5:=VX x5g 22 r_3
theorem x11y:x1l5 c h u (x15f x5g) r_3 eNil=j1 (xdu c h u) 0:=(kq (j1 (xdu c h u) 0))
noncomputable abbrev x1l6:=VX x1j 30 r_0
theorem x11z:x1l6 c h u (x15f x1j) r_0 eNil=j2 (xdw c h u) 0 1:=(tq (j2 (xdw c h u) 0 1) (sqN 1 (sq2 (kq (j0 (xn2 c h u))) (tq (j2 (xn4 c h u) 0 1) (sqN 1 (bk 0 (lq (xdv c h u) (λr=>j4 r 0 9 10 11) λrec0=>(kq (j4 (xn3 c h u rec0) 0 9 10 11)))))))))
noncomputable abbrev x1l7:=VX x5h 24 r_3
theorem x120:x1l7 c h u (x15f x5h) r_3 eNil=j1 (xdx c h u) 0:=(kq (j1 (xdx c h u) 0))
noncomputable abbrev x1l8:=VX x5i 18 r_3
theorem x121:x1l8 c h u (x15f x5i) r_3 eNil=j1 (xdy c h u) 0:=(kq (j1 (xdy c h u) 0))
noncomputable abbrev x1l9:=VX x5j 22 r_3
theorem x122:x1l9 c h u (x15f x5j) r_3 eNil=j1 (xdz c h u) 0:=(kq (j1 (xdz c h u) 0))
noncomputable abbrev x1la:=VX x5k 8 r_3
theorem x123:x1la c h u (x15f x5k) r_3 eNil=j1 (xe0 c h u) 0:=(kq (j1 (xe0 c h u) 0))
noncomputable abbrev x1lb:=VX x5l 8 r_3
theorem x124:x1lb c h u (x15f x5l) r_3 eNil=j1 (xe1 c h u) 0:=(kq (j1 (xe1 c h u) 0))
noncomputable abbrev x1lc:=VX x39 26 r_3
theorem x125:x1lc c h u (x15f x39) r_3 eNil=j1 (xe2 c h u) 0:=(kq (j1 (xe2 c h u) 0))
noncomputable abbrev x1ld:=VX x5m 8 r_0
theorem x126:x1ld c h u (x15f x5m) r_0 eNil=j2 (xe4 c h u) 0 1:=(kq (j2 (xe4 c h u) 0 1))
noncomputable abbrev x1le:=VX x5n 8 r_2
theorem x127:x1le c h u (x15f x5n) r_2 eNil=j1 (xe5 c h u) 0:=(kq (j1 (xe5 c h u) 0))
noncomputable abbrev x1lf:=VX x5o 8 r_0
theorem x128:x1lf c h u (x15f x5o) r_0 eNil=j2 (xe6 c h u) 0 1:=(kq (j2 (xe6 c h u) 0 1))
noncomputable abbrev x1lg:=VX x5p 9 r_0
theorem x129:x1lg c h u (x15f x5p) r_0 eNil=j2 (xe7 c h u) 0 1:=(kq (j2 (xe7 c h u) 0 1))
noncomputable abbrev x1lh:=VX x3a 143 r_0
theorem x12a:x1lh c h u (x15f x3a) r_0 eNil=j2 (xea c h u) 0 1:=(tq (j2 (xea c h u) 0 1) (sqN 8 (sq2 (kq (j0 (xnb c h u))) (bk 1 (lq (xe9 c h u) (λr=>j8 r 0 1 5 6 7 8 9 10) λrec0=>(tq (j8 (xne c h u rec0) 0 1 5 6 7 8 9 10) (sqN 1 (bk 2 (sq2 (kq (j8 (xe8 c h u rec0) 0 1 5 6 7 8 9 10)) (kq (j8 (xnd c h u rec0) 0 1 5 6 7 8 9 10)))))))))))
noncomputable abbrev x1li:=VX x5q 11 r_2
theorem x12b:x1li c h u (x15f x5q) r_2 eNil=j1 (xeb c h u) 0:=(kq (j1 (xeb c h u) 0))
noncomputable abbrev x1lj:=VX x3b 9 r_0
theorem x12c:x1lj c h u (x15f x3b) r_0 eNil=j2 (xec c h u) 0 1:=(kq (j2 (xec c h u) 0 1))
noncomputable abbrev x1lk:=VX x5r 6 r_2
theorem x12d:x1lk c h u (x15f x5r) r_2 eNil=j1 (xed c h u) 0:=(kq (j1 (xed c h u) 0))
noncomputable abbrev x1ll:=VX x3c 10 r_0
theorem x12e:x1ll c h u (x15f x3c) r_0 eNil=j2 (xee c h u) 0 1:=(kq (j2 (xee c h u) 0 1))
noncomputable abbrev x1lm:=VX x5s 6 r_2
theorem x12f:x1lm c h u (x15f x5s) r_2 eNil=j1 (xef c h u) 0:=(kq (j1 (xef c h u) 0))
noncomputable abbrev x1ln:=VX x5t 51 r_2
theorem x12g:x1ln c h u (x15f x5t) r_2 eNil=j1 (xej c h u) 0:=(tq (j1 (xej c h u) 0) (sqN 2 (sq2 (tq (j3 (xnj c h u) 1 3 4) (sqN 2 (sq2 (kq (j1 (xnf c h u) 4)) (tq (j4 (xni c h u) 1 3 4 6) (sqN 1 (bk 2 (lq (xeh c h u) (λr=>j6 r 1 4 6 29 30 31) λrec0=>(tq (j6 (xnh c h u rec0) 1 4 6 29 30 31) (sqN 2 (sq2 (kq (j6 (xeg c h u rec0) 1 4 6 29 30 31)) (kq (j6 (xng c h u rec0) 1 4 6 29 30 31)))))))))))) (tq (j3 (xnl c h u) 1 3 4) (sqN 1 (bk 0 (lq (xei c h u) (λr=>j5 r 1 3 4 12 13) λs=>(kq (j5 (xnk c h u s) 1 3 4 12 13)))))))))
noncomputable abbrev x1lo:=VX x5u 43 r_14
theorem x12h:x1lo c h u (x15f x5u) r_14 eNil=j7 (xel c h u) 0 1 2 3 4 5 6:=(tq (j7 (xel c h u) 0 1 2 3 4 5 6) (sqN 3 (bk 0 (tq (j6 (xno c h u) 1 4 5 6 7 16) (rg (.tmp 16) #[17,18] (λu=>(kq (j7 (xnm c h u) 1 4 5 6 7 8 9))) (λu=>(kq (j7 (xnn c h u) 1 4 5 6 7 17 18))))))))
noncomputable abbrev x1lp:=VX x5v 8 r_11
theorem x12i:x1lp c h u (x15f x5v) r_11 eNil=j3 (xem c h u) 0 1 2:=(kq (j3 (xem c h u) 0 1 2))
noncomputable abbrev x1lq:=VX x3d 15 r_2
theorem x12j:x1lq c h u (x15f x3d) r_2 eNil=j1 (xeo c h u) 0:=(tq (j1 (xeo c h u) 0) (sqN 2 (sq2 (kq (j1 (xnp c h u) 3)) (tq (j2 (xnr c h u) 0 3) (sqN 1 (bk 0 (lq (xen c h u) (λr=>j3 r 3 5 6) λrec0=>(kq (j3 (xnq c h u rec0) 3 5 6)))))))))
noncomputable abbrev x1lr:=VX x3e 44 r_0
theorem x12k:x1lr c h u (x15f x3e) r_0 eNil=j2 (xer c h u) 0 1:=(tq (j2 (xer c h u) 0 1) (sqN 2 (sq2 (kq (j2 (xns c h u) 5 6)) (tq (j3 (xnv c h u) 0 5 6) (sqN 1 (bk 0 (lq (xeq c h u) (λr=>j6 r 0 5 6 19 20 21) λrec0=>(tq (j6 (xnu c h u rec0) 0 5 6 19 20 21) (sqN 2 (sq2 (kq (j6 (xep c h u rec0) 0 5 6 19 20 21)) (kq (j6 (xnt c h u rec0) 0 5 6 19 20 21))))))))))))
noncomputable abbrev x1ls:=VX x5w 8 r_0
theorem x12l:x1ls c h u (x15f x5w) r_0 eNil=j2 (xes c h u) 0 1:=(kq (j2 (xes c h u) 0 1))
noncomputable abbrev x1lt:=VX x3f 18 r_0
theorem x12m:x1lt c h u (x15f x3f) r_0 eNil=j2 (xet c h u) 0 1:=(kq (j2 (xet c h u) 0 1))
noncomputable abbrev x1lu:=VX x5x 66 r_26
theorem x12n:x1lu c h u (x15f x5x) r_26 eNil=j4 (xex c h u) 0 1 2 3:=(tq (j4 (xex c h u) 0 1 2 3) (sqN 3 (sq2 (tq (j4 (xew c h u) 0 1 2 3) (sqN 4 (sq2 (kq (j3 (xeu c h u) 0 9 10)) (bk 0 (lq (xev c h u) (λr=>j6 r 0 1 2 3 9 10) λrec0=>(kq (j6 (xnw c h u rec0) 0 1 2 3 9 10))))))) (kq (j4 (xnx c h u) 0 1 2 3)))))
noncomputable abbrev x1lv:=VX x5y 19 r_0
theorem x12o:x1lv c h u (x15f x5y) r_0 eNil=j2 (xez c h u) 0 1:=(tq (j2 (xez c h u) 0 1) (sqN 1 (sq2 (kq (j0 (xny c h u))) (tq (j2 (xo0 c h u) 0 1) (sqN 1 (bk 0 (lq (xey c h u) (λr=>j4 r 0 1 7 8) λrec0=>(kq (j4 (xnz c h u rec0) 0 1 7 8)))))))))
noncomputable abbrev x1lw:=VX x3g 8 r_0
theorem x12p:x1lw c h u (x15f x3g) r_0 eNil=j2 (xf0 c h u) 0 1:=(kq (j2 (xf0 c h u) 0 1))
noncomputable abbrev x1lx:=VX x5z 6 r_2
theorem x12q:x1lx c h u (x15f x5z) r_2 eNil=j1 (xf1 c h u) 0:=(kq (j1 (xf1 c h u) 0))
noncomputable abbrev x1ly:=VX x60 81 r_0
theorem x12r:x1ly c h u (x15f x60) r_0 eNil=j2 (xf4 c h u) 0 1:=(tq (j2 (xf4 c h u) 0 1) (sqN 4 (sq2 (tq (j6 (xo4 c h u) 0 1 5 6 7 8) (sqN 1 (sq2 (kq (j0 (xo1 c h u))) (tq (j6 (xo3 c h u) 0 1 5 6 7 8) (sqN 1 (bk 2 (lq (xf2 c h u) (λr=>j7 r 0 1 5 6 7 8 10) λrec0=>(kq (j7 (xo2 c h u rec0) 0 1 5 6 7 8 10))))))))) (tq (j6 (xo6 c h u) 0 1 5 6 7 8) (sqN 1 (bk 0 (lq (xf3 c h u) (λr=>j7 r 0 1 5 6 7 8 9) λs=>(kq (j7 (xo5 c h u s) 0 1 5 6 7 8 9)))))))))
noncomputable abbrev x1lz:=VX x61 66 r_3
theorem x12s:x1lz c h u (x15f x61) r_3 eNil=j1 (xf6 c h u) 0:=(tq (j1 (xf6 c h u) 0) (sqN 4 (sq2 (kq (j0 (xo7 c h u))) (tq (j2 (xoa c h u) 1 6) (sqN 1 (bk 0 (lq (xf5 c h u) (λr=>j5 r 1 6 26 27 28) λrec0=>(kq (j5 (xo8 c h u rec0) 1 6 26 27 28)))))))))
noncomputable abbrev x1m0:=VX x44 19 r_0
theorem xz5:x1m0 c h u (x15f x44) r_0 eNil=j2 (xf8 c h u) 0 1:=(tq (j2 (xf8 c h u) 0 1) (sqN 1 (sq2 (kq (j0 (xob c h u))) (tq (j2 (xod c h u) 0 1) (sqN 1 (bk 0 (lq (xf7 c h u) (λr=>j4 r 0 1 7 8) λrec0=>(kq (j4 (xoc c h u rec0) 0 1 7 8)))))))))
noncomputable abbrev x1m1:=VX x62 9 r_14
theorem x12t:x1m1 c h u (x15f x62) r_14 eNil=j2 (xf9 c h u) 0 1:=(kq (j2 (xf9 c h u) 0 1))
noncomputable abbrev x1m2:=VX x63 13 r_27
theorem x12u:x1m2 c h u (x15f x63) r_27 eNil=j3 (xfa c h u) 0 1 2:=(kq (j3 (xfa c h u) 0 1 2))
noncomputable abbrev x1m3:=VX x3h 41 r_0
theorem x12v:x1m3 c h u (x15f x3h) r_0 eNil=j2 (xfb c h u) 0 1:=(kq (j2 (xfb c h u) 0 1))
noncomputable abbrev x1m4:=VX x64 11 r_14
theorem x12w:x1m4 c h u (x15f x64) r_14 eNil=j1 (xfc c h u) 0:=(kq (j1 (xfc c h u) 0))
noncomputable abbrev x1m5:=VX x65 43 r_14
theorem x12x:x1m5 c h u (x15f x65) r_14 eNil=j4 (xff c h u) 0 1 2 3:=(tq (j4 (xff c h u) 0 1 2 3) (sqN 1 (bk 0 (lq (xfe c h u) (λr=>j6 r 0 2 3 12 13 14) λrec0=>(tq (j6 (xoi c h u rec0) 0 2 3 12 13 14) (sqN 2 (sq2 (kq (j6 (xoe c h u rec0) 0 2 3 12 13 14)) (bk 1 (tq (j6 (xoh c h u rec0) 0 2 3 12 13 14) (sqN 2 (bk 2 (lq (xfd c h u rec0) (λr=>j9 r 0 2 3 6 12 13 14 18 19) λs=>(kq (j9 (xof c h u rec0 s) 0 2 3 6 12 13 14 18 19))))))))))))))
noncomputable abbrev x1m6:=VX x66 25 r_5
theorem x12y:x1m6 c h u (x15f x66) r_5 eNil=j2 (xfg c h u) 0 1:=(kq (j2 (xfg c h u) 0 1))
noncomputable abbrev x1m7:=VX x9t 77 r_3
theorem x12z:x1m7 c h u (x15f x9t) r_3 eNil=j1 (xfk c h u) 0:=(tq (j1 (xfk c h u) 0) (sqN 2 (sq2 (kq (j1 (xoj c h u) 0)) (tq (j2 (xos c h u) 0 4) (sqN 1 (tq (j2 (xoq c h u) 0 30) (cd (tq (j1 (xoo c h u) 0) (sqN 1 (sq2 (tq (j2 (xfj c h u) 0 5) (sqN 1 (sq2 (sq2 (kq (j1 (xfh c h u) 6)) (kq (j2 (xok c h u) 5 6))) (tq (j3 (xom c h u) 0 5 6) (sqN 1 (bk 0 (lq (xfi c h u) (λr=>j5 r 5 6 47 48 49) λrec0=>(kq (j5 (xol c h u rec0) 5 6 47 48 49))))))))) (kq (j2 (xon c h u) 0 5))))) (kq (j1 (xop c h u) 0)))))))))
noncomputable abbrev x1m8:=VX x9u 43 r_28
theorem x130:x1m8 c h u (x15f x9u) r_28 eNil=j5 (xfl c h u) 0 1 2 3 4:=(kq (j5 (xfl c h u) 0 1 2 3 4))
noncomputable abbrev x1m9:=VX x9v 5 r_2
theorem x131:x1m9 c h u (x15f x9v) r_2 eNil=j1 (xfm c h u) 0:=(kq (j1 (xfm c h u) 0))
noncomputable abbrev x1ma:=VX x67 13 r_0
theorem x132:x1ma c h u (x15f x67) r_0 eNil=j2 (xfn c h u) 0 1:=(kq (j2 (xfn c h u) 0 1))
noncomputable abbrev x1mb:=VX x68 50 r_0
theorem x133:x1mb c h u (x15f x68) r_0 eNil=j2 (xfr c h u) 0 1:=(tq (j2 (xfr c h u) 0 1) (sqN 2 (sq2 (tq (j2 (xfq c h u) 0 1) (sqN 1 (sq2 (sq2 (kq (j1 (xfo c h u) 6)) (kq (j3 (xot c h u) 0 1 6))) (tq (j3 (xov c h u) 0 1 6) (sqN 1 (bk 0 (lq (xfp c h u) (λr=>j4 r 0 1 6 7) λrec0=>(kq (j4 (xou c h u rec0) 0 1 6 7))))))))) (kq (j3 (xow c h u) 0 1 5)))))
noncomputable abbrev x1mc:=VX x69 34 r_0
theorem x134:x1mc c h u (x15f x69) r_0 eNil=j2 (xft c h u) 0 1:=(tq (j2 (xft c h u) 0 1) (sqN 4 (bk 0 (lq (xfs c h u) (λr=>j3 r 0 1 5) λrec0=>(kq (j3 (xox c h u rec0) 0 1 5))))))
noncomputable abbrev x1md:=VX x6a 39 r_3
theorem x135:x1md c h u (x15f x6a) r_3 eNil=j1 (xfx c h u) 0:=(tq (j1 (xfx c h u) 0) (sqN 2 (sq2 (tq (j2 (xp3 c h u) 0 4) (sqN 1 (sq2 (kq (j2 (xoy c h u) 4 6)) (tq (j4 (xp2 c h u) 0 4 6 7) (sqN 1 (bk 2 (lq (xfv c h u) (λr=>j4 r 4 6 7 8) λrec0=>(tq (j4 (xp1 c h u rec0) 4 6 7 8) (sqN 1 (sq2 (kq (j4 (xoz c h u rec0) 4 6 7 8)) (bk 3 (sq2 (kq (j4 (xfu c h u rec0) 4 6 7 8)) (kq (j4 (xp0 c h u rec0) 4 6 7 8)))))))))))))) (tq (j2 (xp5 c h u) 0 4) (sqN 1 (bk 0 (lq (xfw c h u) (λr=>j3 r 0 4 5) λs=>(kq (j3 (xp4 c h u s) 0 4 5)))))))))
noncomputable abbrev x1me:=VX x6b 42 r_3
theorem x136:x1me c h u (x15f x6b) r_3 eNil=j1 (xfz c h u) 0:=(tq (j1 (xfz c h u) 0) (sqN 2 (sq2 (kq (j0 (xp6 c h u))) (tq (j1 (xp8 c h u) 0) (sqN 1 (bk 0 (lq (xfy c h u) (λr=>j4 r 0 9 10 11) λrec0=>(kq (j4 (xp7 c h u rec0) 0 9 10 11)))))))))
noncomputable abbrev x1mf:=VX x6c 63 r_14
theorem x137:x1mf c h u (x15f x6c) r_14 eNil=j3 (xg4 c h u) 0 1 2:=(tq (j3 (xg4 c h u) 0 1 2) (sqN 2 (sq2 (tq (j5 (xpd c h u) 0 1 2 6 7) (sqN 1 (bk 2 (lq (xg2 c h u) (λr=>j4 r 0 1 2 6) λrec0=>(tq (j4 (xpc c h u rec0) 0 1 2 6) (sqN 1 (bk 3 (tq (j4 (xpb c h u rec0) 0 1 2 6) (sqN 1 (sq2 (sq2 (kq (j4 (xg0 c h u rec0) 0 1 2 6)) (kq (j5 (xp9 c h u rec0) 0 1 2 6 7))) (bk 4 (lq (xg1 c h u rec0) (λr=>j6 r 0 1 2 6 7 8) λs=>(kq (j6 (xpa c h u rec0 s) 0 1 2 6 7 8)))))))))))))) (bk 0 (lq (xg3 c h u) (λr=>j6 r 0 1 2 6 7 8) λw=>(kq (j6 (xpe c h u w) 0 1 2 6 7 8)))))))
noncomputable abbrev x1mg:=VX x3i 7 r_2
theorem x138:x1mg c h u (x15f x3i) r_2 eNil=j1 (xg5 c h u) 0:=(kq (j1 (xg5 c h u) 0))
noncomputable abbrev x1mh:=VX x2b 134 r_14
theorem x139:x1mh c h u (x15f x2b) r_14 eNil=j4 (xga c h u) 0 1 2 3:=(tq (j4 (xga c h u) 0 1 2 3) (sqN 2 (bk 0 (lq (xg9 c h u) (λr=>j6 r 0 1 2 3 8 9) λrec0=>(bk 1 (tq (j6 (xph c h u rec0) 0 1 2 3 8 9) (sqN 3 (sq2 (tq (j7 (xg8 c h u rec0) 0 1 2 3 8 9 10) (sqN 1 (sq2 (sq2 (kq (j8 (xg6 c h u rec0) 0 1 2 3 8 9 10 11)) (kq (j9 (xg7 c h u rec0) 0 1 2 3 8 9 10 11 12))) (kq (j9 (xpf c h u rec0) 0 1 2 3 8 9 10 11 12))))) (kq (j7 (xpg c h u rec0) 0 1 2 3 8 9 10))))))))))
noncomputable abbrev x1mi:=VX x3j 8 r_2
theorem x13a:x1mi c h u (x15f x3j) r_2 eNil=j1 (xgb c h u) 0:=(kq (j1 (xgb c h u) 0))
noncomputable abbrev x1mj:=VX x6d 73 r_29
theorem x13b:x1mj c h u (x15f x6d) r_29 eNil=j3 (xge c h u) 0 1 2:=(tq (j3 (xge c h u) 0 1 2) (sqN 3 (sq2 (tq (j4 (x8z c h u) 0 1 2 8) (sqN 3 (sq2 (tq (j3 (xgd c h u) 2 8 9) (sqN 4 (sq2 (kq (j1 (xgc c h u) 11)) (kq (j2 (xpi c h u) 8 11))))) (kq (j3 (xpj c h u) 2 8 9))))) (kq (j4 (xpk c h u) 0 1 2 8)))))
noncomputable abbrev x1mk:=VX x6e 11 r_0
theorem x13c:x1mk c h u (x15f x6e) r_0 eNil=j2 (xgf c h u) 0 1:=(kq (j2 (xgf c h u) 0 1))
noncomputable abbrev x1ml:=VX x6f 11 r_0
theorem x13d:x1ml c h u (x15f x6f) r_0 eNil=j2 (xgg c h u) 0 1:=(kq (j2 (xgg c h u) 0 1))
noncomputable abbrev x1mm:=VX x6g 16 r_11
theorem x13e:x1mm c h u (x15f x6g) r_11 eNil=j3 (xgh c h u) 0 1 2:=(kq (j3 (xgh c h u) 0 1 2))
noncomputable abbrev x1mn:=VX x6h 16 r_11
theorem x13f:x1mn c h u (x15f x6h) r_11 eNil=j3 (xgi c h u) 0 1 2:=(kq (j3 (xgi c h u) 0 1 2))
noncomputable abbrev x1mo:=VX x6i 54 r_0
theorem x13g:x1mo c h u (x15f x6i) r_0 eNil=j2 (xgk c h u) 0 1:=(tq (j2 (xgk c h u) 0 1) (sqN 1 (sq2 (kq (j2 (xpl c h u) 0 1)) (tq (j2 (xpq c h u) 0 1) (sqN 1 (tq (j3 (xpp c h u) 0 1 11) (cd (tq (j1 (xpn c h u) 0) (sqN 3 (sq2 (kq (j3 (xgj c h u) 0 5 6)) (kq (j3 (xpm c h u) 0 5 6))))) (kq (j2 (xpo c h u) 0 1)))))))))
noncomputable abbrev x1mp:=VX x3k 10 r_2
theorem x13h:x1mp c h u (x15f x3k) r_2 eNil=j1 (xgl c h u) 0:=(tq (j1 (xgl c h u) 0) (sqN 1 (sq2 (kq (j1 (xyy c h u) 2)) (tq (j2 (xpt c h u) 0 2) (sqN 1 (bk 0 (lq (xps c h u) (λr=>j2 r 2 4) λrec0=>(kq (j2 (xpr c h u rec0) 2 4)))))))))
noncomputable abbrev x1mq:=VX x6j 19 r_3
theorem x13i:x1mq c h u (x15f x6j) r_3 eNil=j1 (xgm c h u) 0:=(kq (j1 (xgm c h u) 0))
noncomputable abbrev x1mr:=VX x6k 49 r_2
theorem x13j:x1mr c h u (x15f x6k) r_2 eNil=j1 (xgq c h u) 0:=(tq (j1 (xgq c h u) 0) (sqN 2 (sq2 (kq (j0 (xpu c h u))) (tq (j1 (xpy c h u) 0) (sqN 1 (bk 0 (lq (xgp c h u) (λr=>j3 r 13 14 15) λrec0=>(tq (j3 (xpx c h u rec0) 13 14 15) (sqN 2 (sq2 (kq (j3 (xgn c h u rec0) 13 14 15)) (bk 1 (tq (j3 (xpw c h u rec0) 13 14 15) (sqN 1 (bk 2 (sq2 (kq (j6 (xgo c h u rec0) 3 4 13 14 15 20)) (kq (j5 (xpv c h u rec0) 3 4 13 14 15)))))))))))))))))
noncomputable abbrev x1ms:=VX x6l 9 r_0
theorem x13k:x1ms c h u (x15f x6l) r_0 eNil=j2 (xgr c h u) 0 1:=(kq (j2 (xgr c h u) 0 1))
noncomputable abbrev x1mt:=VX x6m 9 r_12
theorem x13l:x1mt c h u (x15f x6m) r_12 eNil=j2 (xgs c h u) 0 1:=(kq (j2 (xgs c h u) 0 1))
noncomputable abbrev x1mu:=VX x3l 53 r_14
theorem x13m:x1mu c h u (x15f x3l) r_14 eNil=j4 (xgv c h u) 0 1 2 3:=(tq (j4 (xgv c h u) 0 1 2 3) (sqN 1 (bk 0 (lq (xgu c h u) (λr=>j5 r 0 1 2 3 8) λrec0=>(tq (j5 (xq2 c h u rec0) 0 1 2 3 8) (sqN 1 (sq2 (kq (j5 (xpz c h u rec0) 0 1 2 3 8)) (bk 1 (tq (j5 (xq1 c h u rec0) 0 1 2 3 8) (sqN 1 (bk 2 (lq (xgt c h u rec0) (λr=>j6 r 0 1 2 3 8 9) λs=>(kq (j6 (xq0 c h u rec0 s) 0 1 2 3 8 9))))))))))))))
noncomputable abbrev x1mv:=VX x1k 220 r_14
theorem x13n:x1mv c h u (x15f x1k) r_14 eNil=j5 (xh4 c h u) 0 1 2 3 4:=(sq2 (sq2 (tq (j5 (xq7 c h u) 0 1 2 3 4) (sqN 3 (sq2 (tq (j9 (xgz c h u) 0 1 2 3 4 18 19 20 21) (sqN 1 (sq2 (tq (j8 (xq4 c h u) 0 1 2 3 4 18 19 20) (sqN 1 (sq2 (sq2 (kq (j5 (xgw c h u) 0 3 4 18 24)) (kq (j7 (xgx c h u) 0 1 3 4 18 20 24))) (kq (j8 (xq3 c h u) 0 1 2 3 4 18 20 24))))) (bk 8 (lq (xgy c h u) (λr=>j10 r 0 1 2 3 4 18 19 20 21 22) λrec0=>(kq (j10 (xq5 c h u rec0) 0 1 2 3 4 18 19 20 21 22))))))) (kq (j7 (xq6 c h u) 0 1 2 3 4 18 19))))) (tq (j5 (xqf c h u) 0 1 2 3 4) (sqN 1 (tq (j6 (xqe c h u) 0 1 2 3 4 80) (cd (tq (j4 (xqc c h u) 0 1 2 4) (sqN 2 (sq2 (sq2 (kq (j0 (xq8 c h u))) (tq (j3 (xqa c h u) 0 2 14) (sqN 1 (bk 6 (lq (xh0 c h u) (λr=>j3 r 0 14 17) λs=>(kq (j3 (xq9 c h u s) 0 14 17))))))) (bk 4 (lq (xh1 c h u) (λr=>j5 r 0 2 4 14 15) λw=>(kq (j5 (xqb c h u w) 0 2 4 14 15))))))) (kq (j5 (xqd c h u) 0 1 2 3 4))))))) (tq (j5 (xh4 c h u) 0 1 2 3 4) (sqN 1 (tq (j6 (xqm c h u) 0 1 2 3 4 28) (cd (tq (j5 (xqk c h u) 0 1 2 3 4) (sqN 2 (sq2 (sq2 (kq (j0 (xqg c h u))) (tq (j3 (xqi c h u) 0 1 10) (sqN 1 (bk 2 (lq (xh2 c h u) (λr=>j3 r 0 10 13) λz=>(kq (j3 (xqh c h u z) 0 10 13))))))) (bk 0 (lq (xh3 c h u) (λr=>j5 r 0 1 4 10 11) λy=>(kq (j5 (xqj c h u y) 0 1 4 10 11))))))) (kq (j5 (xql c h u) 0 1 2 3 4)))))))
noncomputable abbrev x1mw:=VX x6n 49 r_14
theorem x13o:x1mw c h u (x15f x6n) r_14 eNil=j3 (xh7 c h u) 0 1 2:=(tq (j3 (xh7 c h u) 0 1 2) (sqN 1 (bk 0 (lq (xh6 c h u) (λr=>j4 r 0 1 2 6) λrec0=>(tq (j4 (xqq c h u rec0) 0 1 2 6) (sqN 1 (sq2 (kq (j4 (xqn c h u rec0) 0 1 2 6)) (bk 1 (tq (j4 (xqp c h u rec0) 0 1 2 6) (sqN 1 (bk 2 (lq (xh5 c h u rec0) (λr=>j5 r 0 1 2 6 7) λs=>(kq (j5 (xqo c h u rec0 s) 0 1 2 6 7))))))))))))))
noncomputable abbrev x1mx:=VX x6o 56 r_14
theorem x13p:x1mx c h u (x15f x6o) r_14 eNil=j3 (xha c h u) 0 1 2:=(tq (j3 (xha c h u) 0 1 2) (sqN 3 (sq2 (tq (j4 (xqs c h u) 0 6 7 8) (sqN 1 (bk 2 (lq (xh8 c h u) (λr=>j4 r 0 6 7 10) λrec0=>(kq (j4 (xqr c h u rec0) 0 6 7 10)))))) (tq (j4 (xqu c h u) 0 6 7 8) (sqN 1 (bk 0 (lq (xh9 c h u) (λr=>j5 r 0 6 7 8 9) λs=>(kq (j5 (xqt c h u s) 0 6 7 8 9)))))))))
noncomputable abbrev x1my:=VX x6p 65 r_14
theorem x13q:x1my c h u (x15f x6p) r_14 eNil=j3 (xhd c h u) 0 1 2:=(tq (j3 (xhd c h u) 0 1 2) (sqN 2 (tq (j4 (xr1 c h u) 0 1 6 15) (cd (tq (j3 (xqz c h u) 0 1 6) (sqN 3 (bk 0 (lq (xhc c h u) (λr=>j6 r 0 1 6 7 8 9) λrec0=>(tq (j6 (xqy c h u rec0) 0 1 6 7 8 9) (sqN 1 (sq2 (kq (j6 (xqv c h u rec0) 0 1 6 7 8 9)) (bk 1 (tq (j6 (xqx c h u rec0) 0 1 6 7 8 9) (sqN 1 (sq2 (kq (j7 (xhb c h u rec0) 0 1 6 7 8 9 10)) (kq (j7 (xqw c h u rec0) 0 1 6 7 8 9 10))))))))))))) (kq (j0 (xr0 c h u)))))))
noncomputable abbrev x1mz:=VX x6q 57 r_29
theorem x13r:x1mz c h u (x15f x6q) r_29 eNil=j3 (xhg c h u) 0 1 2:=(tq (j3 (xhg c h u) 0 1 2) (sqN 6 (sq2 (kq (j2 (xhe c h u) 9 11)) (tq (j6 (xr5 c h u) 0 8 9 10 11 12) (sqN 1 (tq (j7 (xr4 c h u) 0 8 9 10 11 12 32) (cd (sq2 (kq (j5 (xhf c h u) 0 9 10 11 12)) (kq (j6 (xr2 c h u) 0 8 9 10 11 12))) (kq (j2 (xr3 c h u) 9 11)))))))))
noncomputable abbrev x1n0:=VX x6r 32 r_14
theorem x13s:x1n0 c h u (x15f x6r) r_14 eNil=j3 (xhi c h u) 0 1 2:=(tq (j3 (xhi c h u) 0 1 2) (sqN 2 (bk 0 (lq (xhh c h u) (λr=>j3 r 0 6 7) λrec0=>(kq (j3 (xr6 c h u rec0) 0 6 7))))))
noncomputable abbrev x1n1:=VX x6s 133 r_11
theorem x13t:x1n1 c h u (x15f x6s) r_11 eNil=j3 (xhn c h u) 0 1 2:=(tq (j3 (xhn c h u) 0 1 2) (sqN 2 (sq2 (kq (j0 (xr7 c h u))) (tq (j4 (xrk c h u) 0 1 2 7) (sqN 1 (bk 0 (lq (xhm c h u) (λr=>j5 r 0 1 2 7 8) λrec0=>(tq (j5 (xrj c h u rec0) 0 1 2 7 8) (sqN 1 (sq2 (kq (j5 (x91 c h u rec0) 0 1 2 7 8)) (bk 1 (sq2 (tq (j5 (xrh c h u rec0) 0 1 2 7 8) (sqN 3 (sq2 (tq (j5 (x92 c h u rec0) 0 1 2 7 8) (sqN 1 (tq (j6 (xrb c h u rec0) 0 1 2 7 8 98) (cd (tq (j5 (xr9 c h u rec0) 0 1 2 7 8) (sqN 1 (bk 6 (lq (xhj c h u rec0) (λr=>j6 r 0 1 2 7 8 10) λs=>(kq (j6 (xr8 c h u rec0 s) 0 1 2 7 8 10)))))) (kq (j5 (xra c h u rec0) 0 1 2 7 8)))))) (tq (j5 (xrg c h u rec0) 0 1 2 7 8) (sqN 1 (tq (j6 (xrf c h u rec0) 0 1 2 7 8 61) (cd (tq (j5 (xrd c h u rec0) 0 1 2 7 8) (sqN 1 (bk 4 (lq (xhk c h u rec0) (λr=>j6 r 0 1 2 7 8 9) λw=>(kq (j6 (xrc c h u rec0 w) 0 1 2 7 8 9)))))) (kq (j5 (xre c h u rec0) 0 1 2 7 8))))))))) (bk 2 (lq (xhl c h u rec0) (λr=>j5 r 0 1 2 7 8) λz=>(kq (j5 (xri c h u rec0 z) 0 1 2 7 8))))))))))))))))
noncomputable abbrev x1n2:=VX xb 17 r_0
theorem x13u:x1n2 c h u (x15f xb) r_0 eNil=j2 (xho c h u) 0 1:=(kq (j2 (xho c h u) 0 1))
noncomputable abbrev x1n3:=VX x6t 84 r_26
theorem x13v:x1n3 c h u (x15f x6t) r_26 eNil=j4 (xhs c h u) 0 1 2 3:=(tq (j4 (xhs c h u) 0 1 2 3) (sqN 3 (sq2 (kq (j1 (xrl c h u) 9)) (bk 0 (lq (xhr c h u) (λr=>j4 r 0 1 9 10) λrec0=>(bk 1 (sq2 (sq2 (kq (j4 (xrm c h u rec0) 0 1 9 10)) (bk 4 (lq (xhp c h u rec0) (λr=>j4 r 0 1 9 10) λs=>(kq (j4 (xrn c h u rec0 s) 0 1 9 10))))) (bk 2 (lq (xhq c h u rec0) (λr=>j4 r 0 1 9 10) λw=>(kq (j4 (xro c h u rec0 w) 0 1 9 10)))))))))))
noncomputable abbrev x1n4:=VX x6u 168 r_30
theorem x13w:x1n4 c h u (x15f x6u) r_30 eNil=j4 (xhy c h u) 0 1 2 3:=(tq (j4 (xhy c h u) 0 1 2 3) (sqN 3 (sq2 (sq2 (tq (j4 (xrt c h u) 0 1 10 11) (sqN 4 (sq2 (kq (j3 (xrp c h u) 0 1 11)) (bk 4 (lq (xhv c h u) (λr=>j4 r 0 1 10 11) λrec0=>(bk 5 (sq2 (sq2 (kq (j4 (xrq c h u rec0) 0 1 10 11)) (bk 8 (lq (xht c h u rec0) (λr=>j4 r 0 1 10 11) λs=>(kq (j4 (xrr c h u rec0 s) 0 1 10 11))))) (bk 6 (lq (xhu c h u rec0) (λr=>j4 r 0 1 10 11) λw=>(kq (j4 (xrs c h u rec0 w) 0 1 10 11))))))))))) (bk 2 (lq (xhw c h u) (λr=>j4 r 0 1 10 11) λz=>(kq (j4 (xru c h u z) 0 1 10 11))))) (bk 0 (lq (xhx c h u) (λr=>j4 r 0 1 10 11) λy=>(kq (j4 (xrv c h u y) 0 1 10 11)))))))
noncomputable abbrev x1n5:=VX x6v 19 r_2
theorem x13x:x1n5 c h u (x15f x6v) r_2 eNil=j1 (xi1 c h u) 0:=(tq (j1 (xi1 c h u) 0) (sqN 1 (sq2 (sq2 (kq (j2 (xhz c h u) 0 2)) (kq (j2 (xi0 c h u) 0 2))) (kq (j2 (xrw c h u) 0 2)))))
noncomputable abbrev x1n6:=VX x3m 25 r_2
theorem x13y:x1n6 c h u (x15f x3m) r_2 eNil=j1 (xi5 c h u) 0:=(tq (j1 (xi5 c h u) 0) (sqN 1 (sq2 (sq2 (sq2 (kq (j2 (xi2 c h u) 0 2)) (kq (j2 (xi3 c h u) 0 2))) (kq (j2 (xi4 c h u) 0 2))) (kq (j2 (xrx c h u) 0 2)))))
noncomputable abbrev x1n7:=VX x6w 172 r_29
theorem x13z:x1n7 c h u (x15f x6w) r_29 eNil=j3 (xia c h u) 0 1 2:=(tq (j3 (xia c h u) 0 1 2) (sqN 4 (sq2 (sq2 (tq (j5 (xi9 c h u) 0 1 2 8 9) (sqN 1 (sq2 (tq (j6 (x93 c h u) 0 1 2 8 9 10) (sqN 3 (sq2 (kq (j3 (xry c h u) 9 12 13)) (tq (j8 (xs2 c h u) 0 1 8 9 10 11 12 13) (sqN 1 (bk 3 (lq (xi8 c h u) (λr=>j10 r 1 8 9 10 11 12 13 99 100 101) λrec0=>(tq (j10 (xs1 c h u rec0) 1 8 9 10 11 12 13 99 100 101) (sqN 2 (sq2 (kq (j10 (xi6 c h u rec0) 1 8 9 10 11 12 13 99 100 101)) (bk 4 (tq (j10 (xs0 c h u rec0) 1 8 9 10 11 12 13 99 100 101) (sqN 2 (sq2 (kq (j11 (xi7 c h u rec0) 1 8 9 10 11 12 13 16 99 100 101)) (kq (j11 (xrz c h u rec0) 1 8 9 10 11 12 13 15 99 100 101)))))))))))))))) (kq (j5 (xs3 c h u) 0 1 2 8 9))))) (kq (j5 (x21 c h u) 0 1 2 8 9))) (kq (j5 (xs4 c h u) 0 1 2 8 9)))))
noncomputable abbrev x1n8:=VX x1l 18 r_2
theorem x140:x1n8 c h u (x15f x1l) r_2 eNil=j1 (xib c h u) 0:=(kq (j1 (xib c h u) 0))
noncomputable abbrev x1n9:=VX x3n 7 r_2
theorem x141:x1n9 c h u (x15f x3n) r_2 eNil=j1 (xic c h u) 0:=(kq (j1 (xic c h u) 0))
noncomputable abbrev x1na:=VX x6x 15 r_2
theorem x142:x1na c h u (x15f x6x) r_2 eNil=j1 (xid c h u) 0:=(kq (j1 (xid c h u) 0))
noncomputable abbrev x1nb:=VX x6y 15 r_2
theorem x143:x1nb c h u (x15f x6y) r_2 eNil=j1 (xie c h u) 0:=(kq (j1 (xie c h u) 0))
noncomputable abbrev x1nc:=VX x6z 167 r_14
theorem x144:x1nc c h u (x15f x6z) r_14 eNil=j2 (xii c h u) 0 1:=(tq (j2 (xii c h u) 0 1) (sqN 1 (sq2 (tq (j3 (xs6 c h u) 0 1 4) (sqN 1 (sq2 (sq2 (kq (j3 (xif c h u) 0 4 12)) (kq (j3 (xig c h u) 0 4 12))) (kq (j3 (xs5 c h u) 0 4 12))))) (bk 0 (lq (xih c h u) (λr=>j3 r 0 1 4) λrec0=>(kq (j3 (xs7 c h u rec0) 0 1 4)))))))
noncomputable abbrev x1nd:=VX x70 102 r_31
theorem x145:x1nd c h u (x15f x70) r_31 eNil=j5 (xio c h u) 0 1 2 3 4:=(tq (j5 (xio c h u) 0 1 2 3 4) (sqN 1 (sq2 (tq (j7 (xsg c h u) 0 1 2 3 4 10 11) (sqN 2 (sq2 (sq2 (sq2 (kq (j6 (xij c h u) 0 4 10 11 12 13)) (kq (j7 (xik c h u) 0 3 4 10 11 12 13))) (tq (j9 (xin c h u) 0 1 2 3 4 10 11 12 13) (sqN 1 (tq (j10 (xse c h u) 0 1 2 3 4 10 11 12 13 34) (cd (tq (j9 (xsa c h u) 0 1 2 3 4 10 11 12 13) (sqN 3 (sq2 (kq (j8 (xs8 c h u) 0 1 3 4 10 11 12 13)) (bk 0 (lq (xil c h u) (λr=>j11 r 0 1 3 4 10 11 12 13 14 15 16) λrec0=>(kq (j11 (xs9 c h u rec0) 0 1 3 4 10 11 12 13 14 15 16))))))) (tq (j9 (xsd c h u) 0 1 2 3 4 10 11 12 13) (sqN 1 (sq2 (kq (j8 (xsb c h u) 0 1 3 4 10 11 12 13)) (bk 2 (lq (xim c h u) (λr=>j9 r 0 1 3 4 10 11 12 13 17) λs=>(kq (j9 (xsc c h u s) 0 1 3 4 10 11 12 13 17)))))))))))) (kq (j9 (xsf c h u) 0 1 2 3 4 10 11 12 13))))) (kq (j7 (xsh c h u) 0 1 2 3 4 10 11)))))
noncomputable abbrev x1ne:=VX x71 117 r_3
theorem x146:x1ne c h u (x15f x71) r_3 eNil=j1 (xip c h u) 0:=(kq (j1 (xip c h u) 0))
noncomputable abbrev x1nf:=VX x72 19 r_0
theorem x147:x1nf c h u (x15f x72) r_0 eNil=j2 (xir c h u) 0 1:=(tq (j2 (xir c h u) 0 1) (sqN 1 (sq2 (kq (j0 (xsi c h u))) (tq (j2 (xsk c h u) 0 1) (sqN 1 (bk 0 (lq (xiq c h u) (λr=>j4 r 0 1 7 8) λrec0=>(kq (j4 (xsj c h u rec0) 0 1 7 8)))))))))
noncomputable abbrev x1ng:=VX x73 58 r_14
theorem x148:x1ng c h u (x15f x73) r_14 eNil=j5 (xit c h u) 0 1 2 3 4:=(tq (j5 (xit c h u) 0 1 2 3 4) (sqN 2 (sq2 (kq (j4 (xsl c h u) 0 2 4 10)) (bk 0 (lq (xis c h u) (λr=>j5 r 0 2 4 10 11) λrec0=>(kq (j5 (xsm c h u rec0) 0 2 4 10 11)))))))
noncomputable abbrev x1nh:=VX x3o 76 r_14
theorem x149:x1nh c h u (x15f x3o) r_14 eNil=j4 (xiw c h u) 0 1 2 3:=(tq (j4 (xiw c h u) 0 1 2 3) (sqN 1 (bk 0 (lq (xiv c h u) (λr=>j4 r 0 2 3 8) λrec0=>(bk 1 (tq (j4 (xso c h u rec0) 0 2 3 8) (sqN 2 (sq2 (kq (j5 (xiu c h u rec0) 0 2 3 8 9)) (kq (j5 (xsn c h u rec0) 0 2 3 8 9))))))))))
noncomputable abbrev x1ni:=VX x74 7 r_2
theorem x14a:x1ni c h u (x15f x74) r_2 eNil=j1 (xix c h u) 0:=(kq (j1 (xix c h u) 0))
noncomputable abbrev x1nj:=VX x75 33 r_2
theorem x14b:x1nj c h u (x15f x75) r_2 eNil=j1 (xiy c h u) 0:=(kq (j1 (xiy c h u) 0))
noncomputable abbrev x1nk:=VX x2c 15 r_11
theorem x14c:x1nk c h u (x15f x2c) r_11 eNil=j3 (xiz c h u) 0 1 2:=(kq (j3 (xiz c h u) 0 1 2))
noncomputable abbrev x1nl:=VX x3p 36 r_28
theorem x14d:x1nl c h u (x15f x3p) r_28 eNil=j5 (xj0 c h u) 0 1 2 3 4:=(kq (j5 (xj0 c h u) 0 1 2 3 4))
noncomputable abbrev x1nm:=VX x3q 6 r_2
theorem x14e:x1nm c h u (x15f x3q) r_2 eNil=j1 (xj1 c h u) 0:=(kq (j1 (xj1 c h u) 0))
noncomputable abbrev x1nn:=VX xe 5 r_2
theorem x14f:x1nn c h u (x15f xe) r_2 eNil=j1 (xj2 c h u) 0:=(kq (j1 (xj2 c h u) 0))
noncomputable abbrev x1no:=VX x76 94 r_2
theorem x14g:x1no c h u (x15f x76) r_2 eNil=j1 (xj4 c h u) 0:=(tq (j1 (xj4 c h u) 0) (sqN 3 (sq2 (tq (j3 (xj3 c h u) 0 3 4) (sqN 1 (sq2 (sq2 (kq (j1 (xsp c h u) 3)) (bk 0 (lq (x95 c h u) (λr=>j4 r 0 3 4 5) λrec0=>(tq (j4 (xsr c h u rec0) 0 3 4 5) (sqN 1 (sq2 (kq (j4 (x94 c h u rec0) 0 3 4 5)) (kq (j4 (xsq c h u rec0) 0 3 4 5)))))))) (kq (j4 (xss c h u) 0 3 4 5))))) (kq (j3 (xst c h u) 0 3 4)))))
noncomputable abbrev x1np:=VX x77 6 r_2
theorem x14h:x1np c h u (x15f x77) r_2 eNil=j1 (xj5 c h u) 0:=(kq (j1 (xj5 c h u) 0))
noncomputable abbrev x1nq:=VX x78 4 r_2
theorem x14i:x1nq c h u (x15f x78) r_2 eNil=j1 (xj6 c h u) 0:=(kq (j1 (xj6 c h u) 0))
noncomputable abbrev x1nr:=VX x79 8 r_2
theorem x14j:x1nr c h u (x15f x79) r_2 eNil=j1 (xj7 c h u) 0:=(kq (j1 (xj7 c h u) 0))
noncomputable abbrev x1ns:=VX x7a 8 r_2
theorem x14k:x1ns c h u (x15f x7a) r_2 eNil=j1 (xj8 c h u) 0:=(kq (j1 (xj8 c h u) 0))
noncomputable abbrev x1nt:=VX x2d 38 r_14
theorem x14l:x1nt c h u (x15f x2d) r_14 eNil=j4 (xja c h u) 0 1 2 3:=(tq (j4 (xja c h u) 0 1 2 3) (sqN 1 (bk 0 (lq (xj9 c h u) (λr=>j5 r 0 1 2 3 10) λrec0=>(kq (j5 (xsu c h u rec0) 0 1 2 3 10))))))
noncomputable abbrev x1nu:=VX x2e 28 r_30
theorem x14m:x1nu c h u (x15f x2e) r_30 eNil=j4 (xjb c h u) 0 1 2 3:=(kq (j4 (xjb c h u) 0 1 2 3))
noncomputable abbrev x1nv:=VX x7b 14 r_2
theorem x14n:x1nv c h u (x15f x7b) r_2 eNil=j1 (xjc c h u) 0:=(kq (j1 (xjc c h u) 0))
noncomputable abbrev x1nw:=VX x7c 14 r_2
theorem x14o:x1nw c h u (x15f x7c) r_2 eNil=j1 (xjd c h u) 0:=(kq (j1 (xjd c h u) 0))
end Go.Ix
