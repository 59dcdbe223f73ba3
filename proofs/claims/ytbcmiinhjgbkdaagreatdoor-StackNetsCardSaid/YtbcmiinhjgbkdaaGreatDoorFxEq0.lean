import Derived.Test.YtbcmiinhjgbkdaaGreatDoorFxText0
import Derived.Test.YtbcmiinhjgbkdaaGreatDoorFxText1
import Derived.Test.YtbcmiinhjgbkdaaGreatDoorFxEnt
import Derived.Test.YtbcmiinhjgbkdaaGreatDoorFxRules
import Derived.Test.YtbcmiinhjgbkdaaGreatDoorFxProj
import Derived.ProofKit
set_option linter.unusedVariables false
namespace Go.Ix
open Go.Proofs
variable{c:x10m}{h:FHs}{u:Nat}
noncomputable abbrev x1hh:=VX x3b 123 r_0
theorem xw2:x1hh c h u (x10s x3b) r_0 eNil=j2 (x6f c h u) 0 1:=(tq (j2 (x6f c h u) 0 1) (sqN 7 (sq2 (kq (j1 (x3x c h u) 1)) (kq (j4 (x6e c h u) 1 2 7 10)))))
noncomputable abbrev x1hi:=VX x1z 82 r_1
theorem xw3:x1hi c h u (x10s x1z) r_1 eNil=j0 (xa7 c h u):=(kq (j0 (xa7 c h u)))
noncomputable abbrev x1hj:=VX x20 53 r_2
theorem xw4:x1hj c h u (x10s x20) r_2 eNil=j1 (x6i c h u) 0:=(tq (j1 (x6i c h u) 0) (sqN 2 (sq2 (kq (j0 (xa8 c h u))) (tq (j1 (x6h c h u) 1) (sqN 1 (bk 0 (lq (x2r c h u) (λr=>j2 r 1 3) λrec0=>(kq (j2 (x6g c h u rec0) 1 3)))))))))
noncomputable abbrev x1hk:=VX x12 66 r_3
theorem xw5:x1hk c h u (x10s x12) r_3 eNil=j1 (x6k c h u) 0:=(tq (j1 (x6k c h u) 0) (sqN 4 (sq2 (kq (j0 (xa9 c h u))) (tq (j2 (xab c h u) 1 6) (sqN 1 (bk 0 (lq (x1r c h u) (λr=>j5 r 1 6 26 27 28) λrec0=>(kq (j5 (x6j c h u rec0) 1 6 26 27 28)))))))))
noncomputable abbrev x1hl:=VX xp 12 r_4
theorem xw6:x1hl c h u (x10s xp) r_4 eNil=j1 (x6l c h u) 0:=(kq (j1 (x6l c h u) 0))
noncomputable abbrev x1hm:=VX x1g 52 r_3
theorem xw7:x1hm c h u (x10s x1g) r_3 eNil=j1 (x6o c h u) 0:=(tq (j1 (x6o c h u) 0) (sqN 4 (sq2 (sq2 (kq (j1 (xac c h u) 5)) (tq (j3 (xad c h u) 1 5 6) (sqN 1 (bk 2 (lq (x2s c h u) (λr=>j5 r 5 6 36 37 38) λrec0=>(kq (j5 (x6m c h u rec0) 5 6 36 37 38))))))) (tq (j3 (xae c h u) 1 5 6) (sqN 1 (bk 0 (lq (x2t c h u) (λr=>j6 r 1 5 6 18 19 20) λs=>(kq (j6 (x6n c h u s) 1 5 6 18 19 20)))))))))
noncomputable abbrev x1hn:=VX x13 73 r_3
theorem xw8:x1hn c h u (x10s x13) r_3 eNil=j1 (x6r c h u) 0:=(tq (j1 (x6r c h u) 0) (sqN 3 (sq2 (kq (j0 (xaf c h u))) (tq (j1 (xai c h u) 1) (sqN 1 (bk 0 (lq (x18 c h u) (λr=>j2 r 1 6) λrec0=>(tq (j2 (x6q c h u rec0) 1 6) (sqN 1 (sq2 (kq (j2 (xag c h u rec0) 1 6)) (bk 1 (tq (j2 (xah c h u rec0) 1 6) (sqN 4 (bk 2 (lq (x1s c h u rec0) (λr=>j4 r 1 6 7 8) λs=>(kq (j4 (x6p c h u rec0 s) 1 6 7 8)))))))))))))))))
noncomputable abbrev x1ho:=VX x14 41 r_5
theorem xw9:x1ho c h u (x10s x14) r_5 eNil=j1 (x6t c h u) 0:=(tq (j1 (x6t c h u) 0) (sqN 4 (sq2 (kq (j4 (x6s c h u) 2 3 4 5)) (tq (j6 (xal c h u) 0 2 3 4 5 6) (sqN 1 (bk 0 (tq (j6 (xak c h u) 2 3 4 5 6 16) (rg2 (.tmp 16) #[17] (λlid u=>(kq (j6 (xaj c h u lid) 2 3 4 5 6 7))) (λlid u=>(kq (j6 (x3z c h u lid) 2 3 4 5 6 17)))))))))))
noncomputable abbrev x1hp:=VX x21 63 r_2
theorem xwa:x1hp c h u (x10s x21) r_2 eNil=j1 (x6w c h u) 0:=(tq (j1 (x6w c h u) 0) (sqN 2 (sq2 (sq2 (kq (j1 (xam c h u) 3)) (tq (j2 (xan c h u) 1 3) (sqN 1 (bk 2 (lq (x2u c h u) (λr=>j3 r 1 3 6) λrec0=>(kq (j3 (x6u c h u rec0) 1 3 6))))))) (tq (j2 (xao c h u) 1 3) (sqN 1 (bk 0 (lq (x2v c h u) (λr=>j3 r 1 3 4) λs=>(kq (j3 (x6v c h u s) 1 3 4)))))))))
noncomputable abbrev x1hq:=VX x1h 39 r_0
theorem xwb:x1hq c h u (x10s x1h) r_0 eNil=j2 (x6y c h u) 0 1:=(tq (j2 (x6y c h u) 0 1) (sqN 2 (sq2 (kq (j0 (xim c h u))) (tq (j2 (xap c h u) 2 3) (sqN 1 (bk 0 (lq (x2w c h u) (λr=>j3 r 2 3 5) λrec0=>(kq (j3 (x6x c h u rec0) 2 3 5)))))))))
noncomputable abbrev x1hr:=VX x1i 64 r_6
theorem xwc:x1hr c h u (x10s x1i) r_6 eNil=j1 (x70 c h u) 0:=(tq (j1 (x70 c h u) 0) (sqN 4 (sq2 (kq (j2 (x40 c h u) 2 6)) (tq (j3 (xaq c h u) 2 5 6) (sqN 1 (bk 0 (lq (x2x c h u) (λr=>j4 r 2 5 6 7) λrec0=>(kq (j4 (x6z c h u rec0) 2 5 6 7)))))))))
noncomputable abbrev x1hs:=VX x4j 20 r_7
theorem xwd:x1hs c h u (x10s x4j) r_7 eNil=j1 (xar c h u) 0:=(kq (j1 (xar c h u) 0))
noncomputable abbrev x1ht:=VX x3c 12 r_8
theorem xwe:x1ht c h u (x10s x3c) r_8 eNil=j0 (xas c h u):=(kq (j0 (xas c h u)))
noncomputable abbrev x1hu:=VX x4k 60 r_9
theorem xwf:x1hu c h u (x10s x4k) r_9 eNil=j1 (xau c h u) 0:=(tq (j1 (xau c h u) 0) (sqN 6 (sq2 (kq (j3 (xin c h u) 9 10 11)) (tq (j5 (xip c h u) 6 8 9 10 11) (sqN 1 (bk 0 (lq (xat c h u) (λr=>j7 r 8 9 10 11 33 34 35) λrec0=>(kq (j7 (xio c h u rec0) 8 9 10 11 33 34 35)))))))))
noncomputable abbrev x1hv:=VX x22 10 r_10
theorem xwg:x1hv c h u (x10s x22) r_10 eNil=j2 (xav c h u) 0 1:=(kq (j2 (xav c h u) 0 1))
noncomputable abbrev x1hw:=VX x4l 90 r_11
theorem xwh:x1hw c h u (x10s x4l) r_11 eNil=j2 (xb0 c h u) 0 1:=(tq (j2 (xb0 c h u) 0 1) (sqN 5 (sq2 (tq (j4 (xiv c h u) 1 2 8 9) (sqN 3 (sq2 (kq (j1 (xir c h u) 14)) (tq (j4 (xiu c h u) 1 12 13 14) (sqN 1 (bk 2 (lq (xax c h u) (λr=>j7 r 1 12 13 14 60 61 62) λrec0=>(tq (j7 (xit c h u rec0) 1 12 13 14 60 61 62) (sqN 2 (sq2 (kq (j7 (xaw c h u rec0) 1 12 13 14 60 61 62)) (kq (j7 (xis c h u rec0) 1 12 13 14 60 61 62)))))))))))) (tq (j4 (xiy c h u) 1 2 8 9) (sqN 1 (bk 0 (lq (xaz c h u) (λr=>j7 r 1 2 8 9 36 37 38) λs=>(tq (j7 (xix c h u s) 1 2 8 9 36 37 38) (sqN 2 (sq2 (kq (j7 (xay c h u s) 1 2 8 9 36 37 38)) (kq (j7 (xiw c h u s) 1 2 8 9 36 37 38))))))))))))
noncomputable abbrev x1hx:=VX x4m 51 r_3
theorem xwi:x1hx c h u (x10s x4m) r_3 eNil=j1 (xb3 c h u) 0:=(tq (j1 (xb3 c h u) 0) (sqN 6 (sq2 (kq (j1 (xiz c h u) 7)) (tq (j3 (xj2 c h u) 4 6 7) (sqN 1 (bk 0 (lq (xb2 c h u) (λr=>j5 r 6 7 27 28 29) λrec0=>(tq (j5 (xj1 c h u rec0) 6 7 27 28 29) (sqN 2 (sq2 (kq (j5 (xb1 c h u rec0) 6 7 27 28 29)) (kq (j5 (xj0 c h u rec0) 6 7 27 28 29))))))))))))
noncomputable abbrev x1hy:=VX x1j 26 r_0
theorem xwj:x1hy c h u (x10s x1j) r_0 eNil=j2 (xb5 c h u) 0 1:=(tq (j2 (xb5 c h u) 0 1) (sqN 2 (sq2 (kq (j0 (xj3 c h u))) (tq (j2 (xj5 c h u) 0 1) (sqN 1 (bk 0 (lq (xb4 c h u) (λr=>j3 r 0 1 5) λrec0=>(kq (j3 (xj4 c h u rec0) 0 1 5)))))))))
noncomputable abbrev x1hz:=VX x1k 42 r_3
theorem xwk:x1hz c h u (x10s x1k) r_3 eNil=j1 (x72 c h u) 0:=(tq (j1 (x72 c h u) 0) (sqN 2 (sq2 (kq (j0 (xb6 c h u))) (tq (j1 (xb7 c h u) 0) (sqN 1 (bk 0 (lq (x1t c h u) (λr=>j4 r 0 9 10 11) λrec0=>(kq (j4 (x71 c h u rec0) 0 9 10 11)))))))))
noncomputable abbrev x1i0:=VX xm 15 r_12
theorem xwl:x1i0 c h u (x10s xm) r_12 eNil=j3 (x73 c h u) 0 1 2:=(kq (j3 (x73 c h u) 0 1 2))
noncomputable abbrev x1i1:=VX xq 11 r_2
theorem xwm:x1i1 c h u (x10s xq) r_2 eNil=j1 (x74 c h u) 0:=(kq (j1 (x74 c h u) 0))
noncomputable abbrev x1i2:=VX xr 23 r_13
theorem xwn:x1i2 c h u (x10s xr) r_13 eNil=j3 (x76 c h u) 0 1 2:=(sq2 (kq (j2 (xb8 c h u) 0 2)) (tq (j3 (x76 c h u) 0 1 2) (sqN 1 (bk 0 (lq (x2y c h u) (λr=>j5 r 0 2 7 8 9) λrec0=>(kq (j5 (x75 c h u rec0) 0 2 7 8 9)))))))
noncomputable abbrev x1i3:=VX x1l 50 r_3
theorem xwo:x1i3 c h u (x10s x1l) r_3 eNil=j1 (x7a c h u) 0:=(tq (j1 (x7a c h u) 0) (sqN 2 (sq2 (kq (j0 (xba c h u))) (tq (j1 (xbe c h u) 0) (sqN 1 (bk 0 (lq (x1b c h u) (λr=>j2 r 0 4) λrec0=>(tq (j2 (x79 c h u rec0) 0 4) (sqN 1 (sq2 (kq (j2 (xbb c h u rec0) 0 4)) (bk 1 (tq (j2 (xbd c h u rec0) 0 4) (sqN 2 (sq2 (kq (j3 (x77 c h u rec0) 0 4 5)) (tq (j3 (xbc c h u rec0) 0 4 5) (sqN 1 (bk 2 (lq (x2z c h u rec0) (λr=>j4 r 0 4 5 6) λs=>(kq (j4 (x78 c h u rec0 s) 0 4 5 6))))))))))))))))))))
noncomputable abbrev x1i4:=VX xv 15 r_12
theorem xwp:x1i4 c h u (x10s xv) r_12 eNil=j3 (x7b c h u) 0 1 2:=(kq (j3 (x7b c h u) 0 1 2))
noncomputable abbrev x1i5:=VX x1m 4 r_2
theorem xwq:x1i5 c h u (x10s x1m) r_2 eNil=j1 (xbf c h u) 0:=(kq (j1 (xbf c h u) 0))
noncomputable abbrev x1i6:=VX x23 11 r_14
theorem xwr:x1i6 c h u (x10s x23) r_14 eNil=j2 (x7c c h u) 0 1:=(kq (j2 (x7c c h u) 0 1))
noncomputable abbrev x1i7:=VX x24 73 r_0
theorem xws:x1i7 c h u (x10s x24) r_0 eNil=j2 (x7d c h u) 0 1:=(kq (j2 (x7d c h u) 0 1))
noncomputable abbrev x1i8:=VX xw 27 r_2
theorem xwt:x1i8 c h u (x10s xw) r_2 eNil=j1 (x7g c h u) 0:=(tq (j1 (x7g c h u) 0) (sqN 3 (sq2 (sq2 (kq (j2 (x7e c h u) 3 4)) (bk 0 (lq (x1c c h u) (λr=>j3 r 0 3 4) λrec0=>(kq (j3 (x43 c h u rec0) 0 3 4))))) (kq (j3 (xbg c h u) 0 3 4)))))
noncomputable abbrev x1i9:=VX x25 26 r_0
theorem xwu:x1i9 c h u (x10s x25) r_0 eNil=j2 (x7i c h u) 0 1:=(tq (j2 (x7i c h u) 0 1) (sqN 2 (sq2 (kq (j0 (xbh c h u))) (tq (j2 (xbi c h u) 0 1) (sqN 1 (bk 0 (lq (x31 c h u) (λr=>j3 r 0 1 5) λrec0=>(kq (j3 (x7h c h u rec0) 0 1 5)))))))))
noncomputable abbrev x1ia:=VX xt 34 r_0
theorem xwv:x1ia c h u (x10s xt) r_0 eNil=j2 (x7k c h u) 0 1:=(tq (j2 (x7k c h u) 0 1) (sqN 3 (sq2 (kq (j3 (xbj c h u) 0 5 6)) (tq (j4 (xbl c h u) 0 1 5 6) (sqN 1 (bk 0 (lq (x32 c h u) (λr=>j5 r 0 1 5 6 7) λrec0=>(tq (j5 (x7j c h u rec0) 0 1 5 6 7) (sqN 1 (sq2 (kq (j5 (x44 c h u rec0) 0 1 5 6 7)) (kq (j5 (xbk c h u rec0) 0 1 5 6 7))))))))))))
noncomputable abbrev x1ib:=VX x15 99 r_15
theorem xww:x1ib c h u (x10s x15) r_15 eNil=j2 (x7l c h u) 0 1:=(kq (j2 (x7l c h u) 0 1))
noncomputable abbrev x1ic:=VX x1n 11 r_2
theorem xwx:x1ic c h u (x10s x1n) r_2 eNil=j1 (x7m c h u) 0:=(kq (j1 (x7m c h u) 0))
noncomputable abbrev x1id:=VX x3d 51 r_2
theorem xwy:x1id c h u (x10s x3d) r_2 eNil=j1 (xbp c h u) 0:=(tq (j1 (xbp c h u) 0) (sqN 2 (sq2 (tq (j3 (xja c h u) 1 3 4) (sqN 2 (sq2 (kq (j1 (xj6 c h u) 4)) (tq (j4 (xj9 c h u) 1 3 4 6) (sqN 1 (bk 2 (lq (xbn c h u) (λr=>j6 r 1 4 6 29 30 31) λrec0=>(tq (j6 (xj8 c h u rec0) 1 4 6 29 30 31) (sqN 2 (sq2 (kq (j6 (xbm c h u rec0) 1 4 6 29 30 31)) (kq (j6 (xj7 c h u rec0) 1 4 6 29 30 31)))))))))))) (tq (j3 (xjc c h u) 1 3 4) (sqN 1 (bk 0 (lq (xbo c h u) (λr=>j5 r 1 3 4 12 13) λs=>(kq (j5 (xjb c h u s) 1 3 4 12 13)))))))))
noncomputable abbrev x1ie:=VX x4n 21 r_0
theorem xwz:x1ie c h u (x10s x4n) r_0 eNil=j2 (xbr c h u) 0 1:=(tq (j2 (xbr c h u) 0 1) (sqN 2 (sq2 (kq (j1 (xjd c h u) 5)) (tq (j3 (xjf c h u) 1 2 5) (sqN 1 (bk 0 (lq (xbq c h u) (λr=>j5 r 2 5 8 9 10) λrec0=>(kq (j5 (xje c h u rec0) 2 5 8 9 10)))))))))
noncomputable abbrev x1if:=VX x3e 15 r_16
theorem xx0:x1if c h u (x10s x3e) r_16 eNil=j1 (xbs c h u) 0:=(kq (j1 (xbs c h u) 0))
noncomputable abbrev x1ig:=VX x4o 33 r_9
theorem xx1:x1ig c h u (x10s x4o) r_9 eNil=j1 (xbt c h u) 0:=(kq (j1 (xbt c h u) 0))
noncomputable abbrev x1ih:=VX x3f 36 r_2
theorem xx2:x1ih c h u (x10s x3f) r_2 eNil=j1 (xbu c h u) 0:=(kq (j1 (xbu c h u) 0))
noncomputable abbrev x1ii:=VX x3g 42 r_0
theorem xx3:x1ii c h u (x10s x3g) r_0 eNil=j2 (xbw c h u) 0 1:=(tq (j2 (xbw c h u) 0 1) (sqN 3 (sq2 (kq (j1 (xjg c h u) 6)) (tq (j4 (xji c h u) 1 2 5 6) (sqN 1 (bk 0 (lq (xbv c h u) (λr=>j6 r 1 5 6 14 15 16) λrec0=>(kq (j6 (xjh c h u rec0) 1 5 6 14 15 16)))))))))
noncomputable abbrev x1ij:=VX x3h 38 r_0
theorem xx4:x1ij c h u (x10s x3h) r_0 eNil=j2 (xbz c h u) 0 1:=(tq (j2 (xbz c h u) 0 1) (sqN 5 (sq2 (kq (j1 (xjj c h u) 5)) (tq (j3 (xjm c h u) 5 6 8) (sqN 1 (bk 0 (lq (xby c h u) (λr=>j5 r 5 6 8 24 25) λrec0=>(tq (j5 (xjl c h u rec0) 5 6 8 24 25) (sqN 2 (sq2 (kq (j5 (xbx c h u rec0) 5 6 8 24 25)) (kq (j5 (xjk c h u rec0) 5 6 8 24 25))))))))))))
noncomputable abbrev x1ik:=VX x4p 30 r_0
theorem xx5:x1ik c h u (x10s x4p) r_0 eNil=j2 (xc2 c h u) 0 1:=(tq (j2 (xc2 c h u) 0 1) (sqN 2 (sq2 (kq (j1 (xjo c h u) 5)) (tq (j3 (xjr c h u) 1 2 5) (sqN 1 (bk 0 (lq (xc1 c h u) (λr=>j5 r 1 5 15 16 17) λrec0=>(tq (j5 (xjq c h u rec0) 1 5 15 16 17) (sqN 2 (sq2 (kq (j5 (xc0 c h u rec0) 1 5 15 16 17)) (kq (j5 (xjp c h u rec0) 1 5 15 16 17))))))))))))
noncomputable abbrev x1il:=VX x4q 16 r_3
theorem xx6:x1il c h u (x10s x4q) r_3 eNil=j1 (xc3 c h u) 0:=(kq (j1 (xc3 c h u) 0))
noncomputable abbrev x1im:=VX x26 49 r_2
theorem xx7:x1im c h u (x10s x26) r_2 eNil=j1 (x7r c h u) 0:=(tq (j1 (x7r c h u) 0) (sqN 2 (sq2 (kq (j0 (xc4 c h u))) (tq (j1 (xc7 c h u) 0) (sqN 1 (bk 0 (lq (x1v c h u) (λr=>j3 r 13 14 15) λrec0=>(tq (j3 (x7q c h u rec0) 13 14 15) (sqN 2 (sq2 (kq (j3 (x7o c h u rec0) 13 14 15)) (bk 1 (tq (j3 (xc6 c h u rec0) 13 14 15) (sqN 1 (bk 2 (sq2 (kq (j6 (x7p c h u rec0) 3 4 13 14 15 20)) (kq (j5 (xc5 c h u rec0) 3 4 13 14 15)))))))))))))))))
noncomputable abbrev x1in:=VX x27 9 r_0
theorem xx8:x1in c h u (x10s x27) r_0 eNil=j2 (x7s c h u) 0 1:=(kq (j2 (x7s c h u) 0 1))
noncomputable abbrev x1io:=VX xi 9 r_17
theorem xx9:x1io c h u (x10s xi) r_17 eNil=j2 (x7t c h u) 0 1:=(kq (j2 (x7t c h u) 0 1))
noncomputable abbrev x1ip:=VX x16 10 r_0
theorem xxa:x1ip c h u (x10s x16) r_0 eNil=j2 (x7u c h u) 0 1:=(kq (j2 (x7u c h u) 0 1))
noncomputable abbrev x1iq:=VX x9l 5 r_2
theorem xxb:x1iq c h u (x10s x9l) r_2 eNil=j1 (xc8 c h u) 0:=(kq (j1 (xc8 c h u) 0))
noncomputable abbrev x1ir:=VX x9m 25 r_13
theorem xxc:x1ir c h u (x10s x9m) r_13 eNil=j2 (xc9 c h u) 0 1:=(tq (j2 (xc9 c h u) 0 1) (sqN 1 (sq2 (kq (j2 (xjs c h u) 0 1)) (kq (j2 (xjt c h u) 0 1)))))
noncomputable abbrev x1is:=VX x28 55 r_2
theorem xxd:x1is c h u (x10s x28) r_2 eNil=j1 (x7w c h u) 0:=(tq (j1 (x7w c h u) 0) (sqN 2 (sq2 (kq (j0 (xca c h u))) (tq (j1 (xcb c h u) 0) (sqN 1 (bk 0 (lq (x1w c h u) (λr=>j2 r 0 3) λrec0=>(kq (j2 (x7v c h u rec0) 0 3)))))))))
noncomputable abbrev x1it:=VX xx 25 r_13
theorem xxe:x1it c h u (x10s xx) r_13 eNil=j2 (x33 c h u NN) 0 1:=(bk 0 (lq (x33 c h u) (λr=>j2 r 0 1) λrec0=>(tq (j2 (xce c h u rec0) 0 1) (sqN 1 (bk 1 (tq (j2 (xcd c h u rec0) 0 1) (sqN 1 (sq2 (kq (j3 (x45 c h u rec0) 0 1 3)) (kq (j2 (xcc c h u rec0) 0 1))))))))))
noncomputable abbrev x1iu:=VX x29 8 r_0
theorem xxf:x1iu c h u (x10s x29) r_0 eNil=j2 (x7x c h u) 0 1:=(kq (j2 (x7x c h u) 0 1))
noncomputable abbrev x1iv:=VX x2a 18 r_14
theorem xxg:x1iv c h u (x10s x2a) r_14 eNil=j2 (x7y c h u) 0 1:=(kq (j2 (x7y c h u) 0 1))
noncomputable abbrev x1iw:=VX x2b 8 r_0
theorem xxh:x1iw c h u (x10s x2b) r_0 eNil=j2 (x7z c h u) 0 1:=(kq (j2 (x7z c h u) 0 1))
noncomputable abbrev x1ix:=VX xn 53 r_0
theorem xxi:x1ix c h u (x10s xn) r_0 eNil=j2 (x82 c h u) 0 1:=(tq (j2 (x82 c h u) 0 1) (sqN 2 (sq2 (kq (j0 (xcf c h u))) (tq (j2 (xcg c h u) 0 1) (sqN 1 (bk 0 (lq (x80 c h u) (λr=>j4 r 0 14 15 16) λrec0=>(kq (j4 (x34 c h u rec0) 0 14 15 16)))))))))
noncomputable abbrev x1iy:=VX x2c 7 r_2
theorem xxj:x1iy c h u (x10s x2c) r_2 eNil=j1 (x83 c h u) 0:=(kq (j1 (x83 c h u) 0))
noncomputable abbrev x1iz:=VX xu 70 r_14
theorem xxk:x1iz c h u (x10s xu) r_14 eNil=j2 (x87 c h u) 0 1:=(tq (j2 (x87 c h u) 0 1) (sqN 2 (sq2 (tq (j3 (x46 c h u) 0 1 6) (sqN 2 (sq2 (sq2 (kq (j1 (x84 c h u) 7)) (kq (j2 (xch c h u) 6 7))) (tq (j3 (x86 c h u) 0 6 7) (sqN 1 (bk 0 (lq (x36 c h u) (λr=>j4 r 0 6 7 8) λrec0=>(kq (j4 (x85 c h u rec0) 0 6 7 8))))))))) (kq (j3 (xci c h u) 0 1 6)))))
noncomputable abbrev x1j0:=VX x4r 9 r_13
theorem xxl:x1j0 c h u (x10s x4r) r_13 eNil=j2 (xcj c h u) 0 1:=(kq (j2 (xcj c h u) 0 1))
noncomputable abbrev x1j1:=VX x4s 13 r_18
theorem xxm:x1j1 c h u (x10s x4s) r_18 eNil=j3 (xck c h u) 0 1 2:=(kq (j3 (xck c h u) 0 1 2))
noncomputable abbrev x1j2:=VX x2d 41 r_0
theorem xxn:x1j2 c h u (x10s x2d) r_0 eNil=j2 (xcl c h u) 0 1:=(kq (j2 (xcl c h u) 0 1))
noncomputable abbrev x1j3:=VX x3i 15 r_2
theorem xxo:x1j3 c h u (x10s x3i) r_2 eNil=j1 (xcn c h u) 0:=(tq (j1 (xcn c h u) 0) (sqN 2 (sq2 (kq (j1 (xju c h u) 3)) (tq (j2 (xjw c h u) 0 3) (sqN 1 (bk 0 (lq (xcm c h u) (λr=>j3 r 3 5 6) λrec0=>(kq (j3 (xjv c h u rec0) 3 5 6)))))))))
noncomputable abbrev x1j4:=VX x3j 44 r_0
theorem xxp:x1j4 c h u (x10s x3j) r_0 eNil=j2 (xcq c h u) 0 1:=(tq (j2 (xcq c h u) 0 1) (sqN 2 (sq2 (kq (j2 (xjx c h u) 5 6)) (tq (j3 (xk0 c h u) 0 5 6) (sqN 1 (bk 0 (lq (xcp c h u) (λr=>j6 r 0 5 6 19 20 21) λrec0=>(tq (j6 (xjz c h u rec0) 0 5 6 19 20 21) (sqN 2 (sq2 (kq (j6 (xco c h u rec0) 0 5 6 19 20 21)) (kq (j6 (xjy c h u rec0) 0 5 6 19 20 21))))))))))))
noncomputable abbrev x1j5:=VX x4t 11 r_13
theorem xxq:x1j5 c h u (x10s x4t) r_13 eNil=j1 (xcr c h u) 0:=(kq (j1 (xcr c h u) 0))
noncomputable abbrev x1j6:=VX x4u 59 r_16
theorem xxr:x1j6 c h u (x10s x4u) r_16 eNil=j1 (xct c h u) 0:=(tq (j1 (xct c h u) 0) (sqN 4 (sq2 (kq (j2 (xk1 c h u) 2 5)) (tq (j4 (xk3 c h u) 1 2 4 5) (sqN 1 (bk 0 (lq (xcs c h u) (λr=>j7 r 1 2 4 5 25 26 27) λrec0=>(kq (j7 (xk2 c h u rec0) 1 2 4 5 25 26 27)))))))))
noncomputable abbrev x1j7:=VX x3k 14 r_19
theorem xxs:x1j7 c h u (x10s x3k) r_19 eNil=j1 (xcu c h u) 0:=(kq (j1 (xcu c h u) 0))
noncomputable abbrev x1j8:=VX x3l 64 r_2
theorem xxt:x1j8 c h u (x10s x3l) r_2 eNil=j1 (xcz c h u) 0:=(tq (j1 (xcz c h u) 0) (sqN 2 (sq2 (tq (j2 (xka c h u) 1 3) (sqN 2 (sq2 (kq (j1 (xk4 c h u) 3)) (tq (j3 (xk9 c h u) 3 5 6) (sqN 1 (bk 2 (lq (xcx c h u) (λr=>j5 r 3 6 26 27 28) λrec0=>(tq (j5 (xk8 c h u rec0) 3 6 26 27 28) (sqN 2 (sq2 (kq (j5 (xk5 c h u rec0) 3 6 26 27 28)) (bk 3 (tq (j5 (xk7 c h u rec0) 3 6 26 27 28) (sqN 1 (sq2 (kq (j7 (xcv c h u rec0) 3 6 7 8 26 27 28)) (kq (j7 (xk6 c h u rec0) 3 6 7 8 26 27 28)))))))))))))))) (bk 0 (lq (xcy c h u) (λr=>j2 r 1 3) λs=>(kq (j2 (xkb c h u s) 1 3)))))))
noncomputable abbrev x1j9:=VX x4v 27 r_0
theorem xxu:x1j9 c h u (x10s x4v) r_0 eNil=j2 (xd1 c h u) 0 1:=(tq (j2 (xd1 c h u) 0 1) (sqN 2 (sq2 (kq (j1 (xkc c h u) 5)) (tq (j3 (xke c h u) 1 2 5) (sqN 1 (bk 0 (lq (xd0 c h u) (λr=>j5 r 1 5 10 11 12) λrec0=>(kq (j5 (xkd c h u rec0) 1 5 10 11 12)))))))))
noncomputable abbrev x1ja:=VX x2e 9 r_0
theorem xxv:x1ja c h u (x10s x2e) r_0 eNil=j2 (xd2 c h u) 0 1:=(kq (j2 (xd2 c h u) 0 1))
noncomputable abbrev x1jb:=VX x4w 6 r_2
theorem xxw:x1jb c h u (x10s x4w) r_2 eNil=j1 (xd3 c h u) 0:=(kq (j1 (xd3 c h u) 0))
noncomputable abbrev x1jc:=VX x4x 6 r_2
theorem xxx:x1jc c h u (x10s x4x) r_2 eNil=j1 (xd4 c h u) 0:=(kq (j1 (xd4 c h u) 0))
noncomputable abbrev x1jd:=VX x4y 43 r_13
theorem xxy:x1jd c h u (x10s x4y) r_13 eNil=j7 (xd6 c h u) 0 1 2 3 4 5 6:=(tq (j7 (xd6 c h u) 0 1 2 3 4 5 6) (sqN 3 (bk 0 (tq (j6 (xkh c h u) 1 4 5 6 7 16) (rg (.tmp 16) #[17,18] (λu=>(kq (j7 (xkf c h u) 1 4 5 6 7 8 9))) (λu=>(kq (j7 (xkg c h u) 1 4 5 6 7 17 18))))))))
noncomputable abbrev x1je:=VX x4z 8 r_12
theorem xxz:x1je c h u (x10s x4z) r_12 eNil=j3 (xd7 c h u) 0 1 2:=(kq (j3 (xd7 c h u) 0 1 2))
noncomputable abbrev x1jf:=VX x50 26 r_2
theorem xy0:x1jf c h u (x10s x50) r_2 eNil=j1 (xd9 c h u) 0:=(tq (j1 (xd9 c h u) 0) (sqN 3 (sq2 (kq (j2 (xki c h u) 1 4)) (tq (j3 (xkk c h u) 1 3 4) (sqN 1 (bk 0 (lq (xd8 c h u) (λr=>j5 r 1 3 4 10 11) λrec0=>(kq (j5 (xkj c h u rec0) 1 3 4 10 11)))))))))
noncomputable abbrev x1jg:=VX x2f 19 r_0
theorem xy1:x1jg c h u (x10s x2f) r_0 eNil=j2 (x89 c h u) 0 1:=(tq (j2 (x89 c h u) 0 1) (sqN 1 (sq2 (kq (j0 (xda c h u))) (tq (j2 (xdb c h u) 0 1) (sqN 1 (bk 0 (lq (x37 c h u) (λr=>j4 r 0 1 7 8) λrec0=>(kq (j4 (x88 c h u rec0) 0 1 7 8)))))))))
noncomputable abbrev x1jh:=VX x51 54 r_0
theorem xy2:x1jh c h u (x10s x51) r_0 eNil=j2 (xdd c h u) 0 1:=(tq (j2 (xdd c h u) 0 1) (sqN 1 (sq2 (kq (j2 (xkm c h u) 0 1)) (tq (j2 (xkr c h u) 0 1) (sqN 1 (tq (j3 (xkq c h u) 0 1 11) (cd (tq (j1 (xko c h u) 0) (sqN 3 (sq2 (kq (j3 (xdc c h u) 0 5 6)) (kq (j3 (xkn c h u) 0 5 6))))) (kq (j2 (xkp c h u) 0 1)))))))))
noncomputable abbrev x1ji:=VX x52 30 r_13
theorem xy3:x1ji c h u (x10s x52) r_13 eNil=j2 (xde c h u) 0 1:=(kq (j2 (xde c h u) 0 1))
noncomputable abbrev x1jj:=VX x17 8 r_0
theorem xy4:x1jj c h u (x10s x17) r_0 eNil=j2 (x8a c h u) 0 1:=(kq (j2 (x8a c h u) 0 1))
noncomputable abbrev x1jk:=VX x2g 21 r_0
theorem xy5:x1jk c h u (x10s x2g) r_0 eNil=j2 (x8b c h u) 0 1:=(kq (j2 (x8b c h u) 0 1))
noncomputable abbrev x1jl:=VX x2h 66 r_20
theorem xy6:x1jl c h u (x10s x2h) r_20 eNil=j4 (x8d c h u) 0 1 2 3:=(tq (j4 (x8d c h u) 0 1 2 3) (sqN 3 (sq2 (tq (j4 (x8c c h u) 0 1 2 3) (sqN 4 (sq2 (kq (j3 (x1x c h u) 0 9 10)) (bk 0 (lq (x38 c h u) (λr=>j6 r 0 1 2 3 9 10) λrec0=>(kq (j6 (xdf c h u rec0) 0 1 2 3 9 10))))))) (kq (j4 (xdg c h u) 0 1 2 3)))))
noncomputable abbrev x1jm:=VX x2i 8 r_0
theorem xy7:x1jm c h u (x10s x2i) r_0 eNil=j2 (x8e c h u) 0 1:=(kq (j2 (x8e c h u) 0 1))
noncomputable abbrev x1jn:=VX x53 63 r_13
theorem xy8:x1jn c h u (x10s x53) r_13 eNil=j3 (xdl c h u) 0 1 2:=(tq (j3 (xdl c h u) 0 1 2) (sqN 2 (sq2 (tq (j5 (xkw c h u) 0 1 2 6 7) (sqN 1 (bk 2 (lq (xdj c h u) (λr=>j4 r 0 1 2 6) λrec0=>(tq (j4 (xkv c h u rec0) 0 1 2 6) (sqN 1 (bk 3 (tq (j4 (xku c h u rec0) 0 1 2 6) (sqN 1 (sq2 (sq2 (kq (j4 (xdh c h u rec0) 0 1 2 6)) (kq (j5 (xks c h u rec0) 0 1 2 6 7))) (bk 4 (lq (xdi c h u rec0) (λr=>j6 r 0 1 2 6 7 8) λs=>(kq (j6 (xkt c h u rec0 s) 0 1 2 6 7 8)))))))))))))) (bk 0 (lq (xdk c h u) (λr=>j6 r 0 1 2 6 7 8) λw=>(kq (j6 (xkx c h u w) 0 1 2 6 7 8)))))))
noncomputable abbrev x1jo:=VX x3m 7 r_2
theorem xy9:x1jo c h u (x10s x3m) r_2 eNil=j1 (xdm c h u) 0:=(kq (j1 (xdm c h u) 0))
noncomputable abbrev x1jp:=VX x2j 134 r_13
theorem xya:x1jp c h u (x10s x2j) r_13 eNil=j4 (xdr c h u) 0 1 2 3:=(tq (j4 (xdr c h u) 0 1 2 3) (sqN 2 (bk 0 (lq (xdq c h u) (λr=>j6 r 0 1 2 3 8 9) λrec0=>(bk 1 (tq (j6 (xl0 c h u rec0) 0 1 2 3 8 9) (sqN 3 (sq2 (tq (j7 (xdp c h u rec0) 0 1 2 3 8 9 10) (sqN 1 (sq2 (sq2 (kq (j8 (xdn c h u rec0) 0 1 2 3 8 9 10 11)) (kq (j9 (xdo c h u rec0) 0 1 2 3 8 9 10 11 12))) (kq (j9 (xky c h u rec0) 0 1 2 3 8 9 10 11 12))))) (kq (j7 (xkz c h u rec0) 0 1 2 3 8 9 10))))))))))
noncomputable abbrev x1jq:=VX x3n 8 r_2
theorem xyb:x1jq c h u (x10s x3n) r_2 eNil=j1 (xds c h u) 0:=(kq (j1 (xds c h u) 0))
noncomputable abbrev x1jr:=VX x54 6 r_2
theorem xyc:x1jr c h u (x10s x54) r_2 eNil=j1 (xdt c h u) 0:=(kq (j1 (xdt c h u) 0))
noncomputable abbrev x1js:=VX x55 62 r_3
theorem xyd:x1js c h u (x10s x55) r_3 eNil=j1 (xdv c h u) 0:=(tq (j1 (xdv c h u) 0) (sqN 2 (sq2 (kq (j0 (xl1 c h u))) (tq (j1 (xl3 c h u) 1) (sqN 1 (bk 1 (lq (xdu c h u) (λr=>j4 r 1 17 18 19) λrec0=>(kq (j4 (xl2 c h u rec0) 1 17 18 19)))))))))
noncomputable abbrev x1jt:=VX x56 132 r_2
theorem xye:x1jt c h u (x10s x56) r_2 eNil=j1 (xdx c h u) 0:=(tq (j1 (xdx c h u) 0) (sqN 2 (sq2 (kq (j1 (xl4 c h u) 3)) (tq (j2 (xl9 c h u) 1 3) (sqN 1 (bk 0 (lq (xdw c h u) (λr=>j4 r 3 28 29 30) λrec0=>(tq (j4 (xl8 c h u rec0) 3 28 29 30) (sqN 2 (sq2 (kq (j4 (xl5 c h u rec0) 3 28 29 30)) (bk 1 (tq (j4 (xl7 c h u rec0) 3 28 29 30) (sqN 1 (sq2 (kq (j6 (x8f c h u rec0) 3 4 5 28 29 30)) (kq (j6 (xl6 c h u rec0) 3 4 5 28 29 30))))))))))))))))
noncomputable abbrev x1ju:=VX x3a 19 r_0
theorem xw0:x1ju c h u (x10s x3a) r_0 eNil=j2 (xdz c h u) 0 1:=(tq (j2 (xdz c h u) 0 1) (sqN 1 (sq2 (kq (j0 (xla c h u))) (tq (j2 (xlc c h u) 0 1) (sqN 1 (bk 0 (lq (xdy c h u) (λr=>j4 r 0 1 7 8) λrec0=>(kq (j4 (xlb c h u rec0) 0 1 7 8)))))))))
noncomputable abbrev x1jv:=VX x4i 5 r_2
theorem xw1:x1jv c h u (x10s x4i) r_2 eNil=j1 (xe0 c h u) 0:=(kq (j1 (xe0 c h u) 0))
noncomputable abbrev x1jw:=VX x57 160 r_13
theorem xyf:x1jw c h u (x10s x57) r_13 eNil=j2 (xe6 c h u) 0 1:=(tq (j2 (xe6 c h u) 0 1) (sqN 2 (sq2 (tq (j4 (xlj c h u) 0 1 4 5) (sqN 1 (sq2 (sq2 (tq (j5 (xle c h u) 0 1 4 5 8) (sqN 3 (bk 6 (lq (xe1 c h u) (λr=>j6 r 0 4 5 136 137 138) λrec0=>(kq (j6 (xld c h u rec0) 0 4 5 136 137 138)))))) (tq (j5 (xlg c h u) 0 1 4 5 8) (sqN 1 (bk 4 (lq (xe2 c h u) (λr=>j6 r 0 1 4 5 8 10) λs=>(kq (j6 (xlf c h u s) 0 1 4 5 8 10))))))) (tq (j5 (xli c h u) 0 1 4 5 8) (sqN 1 (bk 2 (lq (xe3 c h u) (λr=>j6 r 0 1 4 5 8 9) λw=>(kq (j6 (xlh c h u w) 0 1 4 5 8 9))))))))) (tq (j4 (xlm c h u) 0 1 4 5) (sqN 1 (bk 0 (lq (xe5 c h u) (λr=>j7 r 0 1 4 5 17 18 19) λz=>(tq (j7 (xll c h u z) 0 1 4 5 17 18 19) (sqN 2 (sq2 (kq (j7 (xe4 c h u z) 0 1 4 5 17 18 19)) (kq (j7 (xlk c h u z) 0 1 4 5 17 18 19))))))))))))
noncomputable abbrev x1jx:=VX x58 53 r_2
theorem xyg:x1jx c h u (x10s x58) r_2 eNil=j1 (xe9 c h u) 0:=(tq (j1 (xe9 c h u) 0) (sqN 2 (sq2 (kq (j2 (xln c h u) 1 3)) (tq (j2 (xlq c h u) 1 3) (sqN 1 (bk 0 (lq (xe8 c h u) (λr=>j5 r 1 3 12 13 14) λrec0=>(tq (j5 (xlp c h u rec0) 1 3 12 13 14) (sqN 2 (sq2 (kq (j5 (xe7 c h u rec0) 1 3 12 13 14)) (kq (j5 (xlo c h u rec0) 1 3 12 13 14))))))))))))
noncomputable abbrev x1jy:=VX x4h 7 r_2
theorem xvz:x1jy c h u (x10s x4h) r_2 eNil=j1 (xea c h u) 0:=(kq (j1 (xea c h u) 0))
noncomputable abbrev x1jz:=VX x4g 19 r_0
theorem xvy:x1jz c h u (x10s x4g) r_0 eNil=j2 (xeb c h u) 0 1:=(kq (j2 (xeb c h u) 0 1))
noncomputable abbrev x1k0:=VX x59 43 r_13
theorem xyh:x1k0 c h u (x10s x59) r_13 eNil=j4 (xee c h u) 0 1 2 3:=(tq (j4 (xee c h u) 0 1 2 3) (sqN 1 (bk 0 (lq (xed c h u) (λr=>j6 r 0 2 3 12 13 14) λrec0=>(tq (j6 (xlv c h u rec0) 0 2 3 12 13 14) (sqN 2 (sq2 (kq (j6 (xlr c h u rec0) 0 2 3 12 13 14)) (bk 1 (tq (j6 (xlu c h u rec0) 0 2 3 12 13 14) (sqN 2 (bk 2 (lq (xec c h u rec0) (λr=>j9 r 0 2 3 6 12 13 14 18 19) λs=>(kq (j9 (xls c h u rec0 s) 0 2 3 6 12 13 14 18 19))))))))))))))
noncomputable abbrev x1k1:=VX x5a 25 r_14
theorem xyi:x1k1 c h u (x10s x5a) r_14 eNil=j2 (xef c h u) 0 1:=(kq (j2 (xef c h u) 0 1))
noncomputable abbrev x1k2:=VX x5b 47 r_0
theorem xyj:x1k2 c h u (x10s x5b) r_0 eNil=j2 (xei c h u) 0 1:=(tq (j2 (xei c h u) 0 1) (sqN 2 (sq2 (kq (j1 (xlw c h u) 5)) (tq (j3 (xlz c h u) 0 1 5) (sqN 1 (bk 0 (lq (xeh c h u) (λr=>j5 r 0 1 5 12 13) λrec0=>(tq (j5 (xly c h u rec0) 0 1 5 12 13) (sqN 2 (sq2 (kq (j5 (xeg c h u rec0) 0 1 5 12 13)) (kq (j5 (xlx c h u rec0) 0 1 5 12 13))))))))))))
noncomputable abbrev x1k3:=VX x3o 45 r_0
theorem xyk:x1k3 c h u (x10s x3o) r_0 eNil=j2 (xem c h u) 0 1:=(tq (j2 (xem c h u) 0 1) (sqN 3 (sq2 (kq (j1 (xm0 c h u) 5)) (tq (j3 (xm5 c h u) 1 5 6) (sqN 1 (bk 0 (lq (xel c h u) (λr=>j5 r 1 5 6 14 15) λrec0=>(tq (j5 (xm4 c h u rec0) 1 5 6 14 15) (sqN 2 (sq2 (kq (j5 (xej c h u rec0) 1 5 6 14 15)) (bk 1 (tq (j5 (xm3 c h u rec0) 1 5 6 14 15) (sqN 4 (sq2 (kq (j5 (xm1 c h u rec0) 1 5 6 14 15)) (bk 2 (lq (xek c h u rec0) (λr=>j6 r 1 5 6 8 14 15) λs=>(kq (j6 (xm2 c h u rec0 s) 1 5 6 8 14 15))))))))))))))))))
noncomputable abbrev x1k4:=VX x4f 53 r_13
theorem xvx:x1k4 c h u (x10s x4f) r_13 eNil=j4 (xep c h u) 0 1 2 3:=(tq (j4 (xep c h u) 0 1 2 3) (sqN 1 (bk 0 (lq (xeo c h u) (λr=>j5 r 0 1 3 9 10) λrec0=>(tq (j5 (xm7 c h u rec0) 0 1 3 9 10) (sqN 2 (sq2 (kq (j5 (xen c h u rec0) 0 1 3 9 10)) (kq (j5 (xm6 c h u rec0) 0 1 3 9 10)))))))))
noncomputable abbrev x1k5:=VX x5c 15 r_2
theorem xyl:x1k5 c h u (x10s x5c) r_2 eNil=j1 (xeq c h u) 0:=(kq (j1 (xeq c h u) 0))
noncomputable abbrev x1k6:=VX x5d 15 r_2
theorem xym:x1k6 c h u (x10s x5d) r_2 eNil=j1 (xer c h u) 0:=(kq (j1 (xer c h u) 0))
noncomputable abbrev x1k7:=VX x5e 167 r_13
theorem xyn:x1k7 c h u (x10s x5e) r_13 eNil=j2 (xev c h u) 0 1:=(tq (j2 (xev c h u) 0 1) (sqN 1 (sq2 (tq (j3 (xm9 c h u) 0 1 4) (sqN 1 (sq2 (sq2 (kq (j3 (xes c h u) 0 4 12)) (kq (j3 (xet c h u) 0 4 12))) (kq (j3 (xm8 c h u) 0 4 12))))) (bk 0 (lq (xeu c h u) (λr=>j3 r 0 1 4) λrec0=>(kq (j3 (xma c h u rec0) 0 1 4)))))))
noncomputable abbrev x1k8:=VX x5f 102 r_21
theorem xyo:x1k8 c h u (x10s x5f) r_21 eNil=j5 (xf1 c h u) 0 1 2 3 4:=(tq (j5 (xf1 c h u) 0 1 2 3 4) (sqN 1 (sq2 (tq (j7 (xmj c h u) 0 1 2 3 4 10 11) (sqN 2 (sq2 (sq2 (sq2 (kq (j6 (xew c h u) 0 4 10 11 12 13)) (kq (j7 (xex c h u) 0 3 4 10 11 12 13))) (tq (j9 (xf0 c h u) 0 1 2 3 4 10 11 12 13) (sqN 1 (tq (j10 (xmh c h u) 0 1 2 3 4 10 11 12 13 34) (cd (tq (j9 (xmd c h u) 0 1 2 3 4 10 11 12 13) (sqN 3 (sq2 (kq (j8 (xmb c h u) 0 1 3 4 10 11 12 13)) (bk 0 (lq (xey c h u) (λr=>j11 r 0 1 3 4 10 11 12 13 14 15 16) λrec0=>(kq (j11 (xmc c h u rec0) 0 1 3 4 10 11 12 13 14 15 16))))))) (tq (j9 (xmg c h u) 0 1 2 3 4 10 11 12 13) (sqN 1 (sq2 (kq (j8 (xme c h u) 0 1 3 4 10 11 12 13)) (bk 2 (lq (xez c h u) (λr=>j9 r 0 1 3 4 10 11 12 13 17) λs=>(kq (j9 (xmf c h u s) 0 1 3 4 10 11 12 13 17)))))))))))) (kq (j9 (xmi c h u) 0 1 2 3 4 10 11 12 13))))) (kq (j7 (xmk c h u) 0 1 2 3 4 10 11)))))
noncomputable abbrev x1k9:=VX x5g 50 r_0
theorem xyp:x1k9 c h u (x10s x5g) r_0 eNil=j2 (xf5 c h u) 0 1:=(tq (j2 (xf5 c h u) 0 1) (sqN 2 (sq2 (tq (j2 (xf4 c h u) 0 1) (sqN 1 (sq2 (sq2 (kq (j1 (xf2 c h u) 6)) (kq (j3 (xml c h u) 0 1 6))) (tq (j3 (xmn c h u) 0 1 6) (sqN 1 (bk 0 (lq (xf3 c h u) (λr=>j4 r 0 1 6 7) λrec0=>(kq (j4 (xmm c h u rec0) 0 1 6 7))))))))) (kq (j3 (xmo c h u) 0 1 5)))))
noncomputable abbrev x1ka:=VX x2k 34 r_0
theorem xyq:x1ka c h u (x10s x2k) r_0 eNil=j2 (x8g c h u) 0 1:=(tq (j2 (x8g c h u) 0 1) (sqN 4 (bk 0 (lq (xf6 c h u) (λr=>j3 r 0 1 5) λrec0=>(kq (j3 (xmp c h u rec0) 0 1 5))))))
noncomputable abbrev x1kb:=VX x1o 8 r_0
theorem xyr:x1kb c h u (x10s x1o) r_0 eNil=j2 (x8h c h u) 0 1:=(kq (j2 (x8h c h u) 0 1))
noncomputable abbrev x1kc:=VX xa2 77 r_3
theorem xys:x1kc c h u (x10s xa2) r_3 eNil=j1 (xfa c h u) 0:=(tq (j1 (xfa c h u) 0) (sqN 2 (sq2 (kq (j1 (xmq c h u) 0)) (tq (j2 (xmy c h u) 0 4) (sqN 1 (tq (j2 (xmx c h u) 0 30) (cd (tq (j1 (xmv c h u) 0) (sqN 1 (sq2 (tq (j2 (xf9 c h u) 0 5) (sqN 1 (sq2 (sq2 (kq (j1 (xf7 c h u) 6)) (kq (j2 (xmr c h u) 5 6))) (tq (j3 (xmt c h u) 0 5 6) (sqN 1 (bk 0 (lq (xf8 c h u) (λr=>j5 r 5 6 47 48 49) λrec0=>(kq (j5 (xms c h u rec0) 5 6 47 48 49))))))))) (kq (j2 (xmu c h u) 0 5))))) (kq (j1 (xmw c h u) 0)))))))))
noncomputable abbrev x1kd:=VX xa3 43 r_22
theorem xyt:x1kd c h u (x10s xa3) r_22 eNil=j5 (xfb c h u) 0 1 2 3 4:=(kq (j5 (xfb c h u) 0 1 2 3 4))
noncomputable abbrev x1ke:=VX x2l 13 r_0
theorem xyu:x1ke c h u (x10s x2l) r_0 eNil=j2 (x8j c h u) 0 1:=(kq (j2 (x8j c h u) 0 1))
noncomputable abbrev x1kf:=VX x3p 53 r_13
theorem xyv:x1kf c h u (x10s x3p) r_13 eNil=j4 (xfe c h u) 0 1 2 3:=(tq (j4 (xfe c h u) 0 1 2 3) (sqN 1 (bk 0 (lq (xfd c h u) (λr=>j5 r 0 1 2 3 8) λrec0=>(tq (j5 (xn2 c h u rec0) 0 1 2 3 8) (sqN 1 (sq2 (kq (j5 (xmz c h u rec0) 0 1 2 3 8)) (bk 1 (tq (j5 (xn1 c h u rec0) 0 1 2 3 8) (sqN 1 (bk 2 (lq (xfc c h u rec0) (λr=>j6 r 0 1 2 3 8 9) λs=>(kq (j6 (xn0 c h u rec0 s) 0 1 2 3 8 9))))))))))))))
noncomputable abbrev x1kg:=VX x1p 220 r_13
theorem xyw:x1kg c h u (x10s x1p) r_13 eNil=j5 (xfn c h u) 0 1 2 3 4:=(sq2 (sq2 (tq (j5 (xn7 c h u) 0 1 2 3 4) (sqN 3 (sq2 (tq (j9 (xfi c h u) 0 1 2 3 4 18 19 20 21) (sqN 1 (sq2 (tq (j8 (xn4 c h u) 0 1 2 3 4 18 19 20) (sqN 1 (sq2 (sq2 (kq (j5 (xff c h u) 0 3 4 18 24)) (kq (j7 (xfg c h u) 0 1 3 4 18 20 24))) (kq (j8 (xn3 c h u) 0 1 2 3 4 18 20 24))))) (bk 8 (lq (xfh c h u) (λr=>j10 r 0 1 2 3 4 18 19 20 21 22) λrec0=>(kq (j10 (xn5 c h u rec0) 0 1 2 3 4 18 19 20 21 22))))))) (kq (j7 (xn6 c h u) 0 1 2 3 4 18 19))))) (tq (j5 (xnf c h u) 0 1 2 3 4) (sqN 1 (tq (j6 (xne c h u) 0 1 2 3 4 80) (cd (tq (j4 (xnc c h u) 0 1 2 4) (sqN 2 (sq2 (sq2 (kq (j0 (xn8 c h u))) (tq (j3 (xna c h u) 0 2 14) (sqN 1 (bk 6 (lq (xfj c h u) (λr=>j3 r 0 14 17) λs=>(kq (j3 (xn9 c h u s) 0 14 17))))))) (bk 4 (lq (xfk c h u) (λr=>j5 r 0 2 4 14 15) λw=>(kq (j5 (xnb c h u w) 0 2 4 14 15))))))) (kq (j5 (xnd c h u) 0 1 2 3 4))))))) (tq (j5 (xfn c h u) 0 1 2 3 4) (sqN 1 (tq (j6 (xnm c h u) 0 1 2 3 4 28) (cd (tq (j5 (xnk c h u) 0 1 2 3 4) (sqN 2 (sq2 (sq2 (kq (j0 (xng c h u))) (tq (j3 (xni c h u) 0 1 10) (sqN 1 (bk 2 (lq (xfl c h u) (λr=>j3 r 0 10 13) λz=>(kq (j3 (xnh c h u z) 0 10 13))))))) (bk 0 (lq (xfm c h u) (λr=>j5 r 0 1 4 10 11) λy=>(kq (j5 (xnj c h u y) 0 1 4 10 11))))))) (kq (j5 (xnl c h u) 0 1 2 3 4)))))))
noncomputable abbrev x1kh:=VX x5h 49 r_13
theorem xyx:x1kh c h u (x10s x5h) r_13 eNil=j3 (xfq c h u) 0 1 2:=(tq (j3 (xfq c h u) 0 1 2) (sqN 1 (bk 0 (lq (xfp c h u) (λr=>j4 r 0 1 2 6) λrec0=>(tq (j4 (xnq c h u rec0) 0 1 2 6) (sqN 1 (sq2 (kq (j4 (xnn c h u rec0) 0 1 2 6)) (bk 1 (tq (j4 (xnp c h u rec0) 0 1 2 6) (sqN 1 (bk 2 (lq (xfo c h u rec0) (λr=>j5 r 0 1 2 6 7) λs=>(kq (j5 (xno c h u rec0 s) 0 1 2 6 7))))))))))))))
noncomputable abbrev x1ki:=VX x5i 56 r_13
theorem xyy:x1ki c h u (x10s x5i) r_13 eNil=j3 (xft c h u) 0 1 2:=(tq (j3 (xft c h u) 0 1 2) (sqN 3 (sq2 (tq (j4 (xns c h u) 0 6 7 8) (sqN 1 (bk 2 (lq (xfr c h u) (λr=>j4 r 0 6 7 10) λrec0=>(kq (j4 (xnr c h u rec0) 0 6 7 10)))))) (tq (j4 (xnu c h u) 0 6 7 8) (sqN 1 (bk 0 (lq (xfs c h u) (λr=>j5 r 0 6 7 8 9) λs=>(kq (j5 (xnt c h u s) 0 6 7 8 9)))))))))
noncomputable abbrev x1kj:=VX x5j 65 r_13
theorem xyz:x1kj c h u (x10s x5j) r_13 eNil=j3 (xfw c h u) 0 1 2:=(tq (j3 (xfw c h u) 0 1 2) (sqN 2 (tq (j4 (xo1 c h u) 0 1 6 15) (cd (tq (j3 (xnz c h u) 0 1 6) (sqN 3 (bk 0 (lq (xfv c h u) (λr=>j6 r 0 1 6 7 8 9) λrec0=>(tq (j6 (xny c h u rec0) 0 1 6 7 8 9) (sqN 1 (sq2 (kq (j6 (xnv c h u rec0) 0 1 6 7 8 9)) (bk 1 (tq (j6 (xnx c h u rec0) 0 1 6 7 8 9) (sqN 1 (sq2 (kq (j7 (xfu c h u rec0) 0 1 6 7 8 9 10)) (kq (j7 (xnw c h u rec0) 0 1 6 7 8 9 10))))))))))))) (kq (j0 (xo0 c h u)))))))
noncomputable abbrev x1kk:=VX x5k 57 r_23
theorem xz0:x1kk c h u (x10s x5k) r_23 eNil=j3 (xfz c h u) 0 1 2:=(tq (j3 (xfz c h u) 0 1 2) (sqN 6 (sq2 (kq (j2 (xfx c h u) 9 11)) (tq (j6 (xo5 c h u) 0 8 9 10 11 12) (sqN 1 (tq (j7 (xo4 c h u) 0 8 9 10 11 12 32) (cd (sq2 (kq (j5 (xfy c h u) 0 9 10 11 12)) (kq (j6 (xo2 c h u) 0 8 9 10 11 12))) (kq (j2 (xo3 c h u) 9 11)))))))))
noncomputable abbrev x1kl:=VX x5l 32 r_13
theorem xz1:x1kl c h u (x10s x5l) r_13 eNil=j3 (xg1 c h u) 0 1 2:=(tq (j3 (xg1 c h u) 0 1 2) (sqN 2 (bk 0 (lq (xg0 c h u) (λr=>j3 r 0 6 7) λrec0=>(kq (j3 (xo6 c h u rec0) 0 6 7))))))
noncomputable abbrev x1km:=VX x5m 133 r_12
theorem xz2:x1km c h u (x10s x5m) r_12 eNil=j3 (xg6 c h u) 0 1 2:=(tq (j3 (xg6 c h u) 0 1 2) (sqN 2 (sq2 (kq (j0 (xo7 c h u))) (tq (j4 (xok c h u) 0 1 2 7) (sqN 1 (bk 0 (lq (xg5 c h u) (λr=>j5 r 0 1 2 7 8) λrec0=>(tq (j5 (xoj c h u rec0) 0 1 2 7 8) (sqN 1 (sq2 (kq (j5 (x8k c h u rec0) 0 1 2 7 8)) (bk 1 (sq2 (tq (j5 (xoh c h u rec0) 0 1 2 7 8) (sqN 3 (sq2 (tq (j5 (x8l c h u rec0) 0 1 2 7 8) (sqN 1 (tq (j6 (xob c h u rec0) 0 1 2 7 8 98) (cd (tq (j5 (xo9 c h u rec0) 0 1 2 7 8) (sqN 1 (bk 6 (lq (xg2 c h u rec0) (λr=>j6 r 0 1 2 7 8 10) λs=>(kq (j6 (xo8 c h u rec0 s) 0 1 2 7 8 10)))))) (kq (j5 (xoa c h u rec0) 0 1 2 7 8)))))) (tq (j5 (xog c h u rec0) 0 1 2 7 8) (sqN 1 (tq (j6 (xof c h u rec0) 0 1 2 7 8 61) (cd (tq (j5 (xod c h u rec0) 0 1 2 7 8) (sqN 1 (bk 4 (lq (xg3 c h u rec0) (λr=>j6 r 0 1 2 7 8 9) λw=>(kq (j6 (xoc c h u rec0 w) 0 1 2 7 8 9)))))) (kq (j5 (xoe c h u rec0) 0 1 2 7 8))))))))) (bk 2 (lq (xg4 c h u rec0) (λr=>j5 r 0 1 2 7 8) λz=>(kq (j5 (xoi c h u rec0 z) 0 1 2 7 8))))))))))))))))
noncomputable abbrev x1kn:=VX xg 17 r_0
theorem xz3:x1kn c h u (x10s xg) r_0 eNil=j2 (xg7 c h u) 0 1:=(kq (j2 (xg7 c h u) 0 1))
noncomputable abbrev x1ko:=VX x5n 84 r_20
theorem xz4:x1ko c h u (x10s x5n) r_20 eNil=j4 (xgb c h u) 0 1 2 3:=(tq (j4 (xgb c h u) 0 1 2 3) (sqN 3 (sq2 (kq (j1 (xol c h u) 9)) (bk 0 (lq (xga c h u) (λr=>j4 r 0 1 9 10) λrec0=>(bk 1 (sq2 (sq2 (kq (j4 (xom c h u rec0) 0 1 9 10)) (bk 4 (lq (xg8 c h u rec0) (λr=>j4 r 0 1 9 10) λs=>(kq (j4 (xon c h u rec0 s) 0 1 9 10))))) (bk 2 (lq (xg9 c h u rec0) (λr=>j4 r 0 1 9 10) λw=>(kq (j4 (xoo c h u rec0 w) 0 1 9 10)))))))))))
noncomputable abbrev x1kp:=VX x5o 168 r_24
theorem xz5:x1kp c h u (x10s x5o) r_24 eNil=j4 (xgh c h u) 0 1 2 3:=(tq (j4 (xgh c h u) 0 1 2 3) (sqN 3 (sq2 (sq2 (tq (j4 (xou c h u) 0 1 10 11) (sqN 4 (sq2 (kq (j3 (xop c h u) 0 1 11)) (bk 4 (lq (xge c h u) (λr=>j4 r 0 1 10 11) λrec0=>(bk 5 (sq2 (sq2 (kq (j4 (xoq c h u rec0) 0 1 10 11)) (bk 8 (lq (xgc c h u rec0) (λr=>j4 r 0 1 10 11) λs=>(kq (j4 (xos c h u rec0 s) 0 1 10 11))))) (bk 6 (lq (xgd c h u rec0) (λr=>j4 r 0 1 10 11) λw=>(kq (j4 (xot c h u rec0 w) 0 1 10 11))))))))))) (bk 2 (lq (xgf c h u) (λr=>j4 r 0 1 10 11) λz=>(kq (j4 (xov c h u z) 0 1 10 11))))) (bk 0 (lq (xgg c h u) (λr=>j4 r 0 1 10 11) λy=>(kq (j4 (xow c h u y) 0 1 10 11)))))))
noncomputable abbrev x1kq:=VX x5p 19 r_2
theorem xz6:x1kq c h u (x10s x5p) r_2 eNil=j1 (xgk c h u) 0:=(tq (j1 (xgk c h u) 0) (sqN 1 (sq2 (sq2 (kq (j2 (xgi c h u) 0 2)) (kq (j2 (xgj c h u) 0 2))) (kq (j2 (xox c h u) 0 2)))))
noncomputable abbrev x1kr:=VX x3q 25 r_2
theorem xz7:x1kr c h u (x10s x3q) r_2 eNil=j1 (xgo c h u) 0:=(tq (j1 (xgo c h u) 0) (sqN 1 (sq2 (sq2 (sq2 (kq (j2 (xgl c h u) 0 2)) (kq (j2 (xgm c h u) 0 2))) (kq (j2 (xgn c h u) 0 2))) (kq (j2 (xoy c h u) 0 2)))))
noncomputable abbrev x1ks:=VX x11 15 r_12
theorem xvr:x1ks c h u (x10s x11) r_12 eNil=j3 (xgp c h u) 0 1 2:=(kq (j3 (xgp c h u) 0 1 2))
noncomputable abbrev x1kt:=VX x5q 5 r_2
theorem xz8:x1kt c h u (x10s x5q) r_2 eNil=j1 (xgq c h u) 0:=(kq (j1 (xgq c h u) 0))
noncomputable abbrev x1ku:=VX x39 139 r_25
theorem xvt:x1ku c h u (x10s x39) r_25 eNil=j2 (xgu c h u) 0 1:=(tq (j2 (xgu c h u) 0 1) (sqN 4 (bk 0 (lq (xgt c h u) (λr=>j4 r 2 4 5 6) λrec0=>(bk 1 (tq (j4 (xp6 c h u rec0) 2 4 5 6) (sqN 1 (sq2 (tq (j5 (xp2 c h u rec0) 2 4 5 6 7) (sqN 3 (bk 4 (tq (j6 (xp1 c h u rec0) 2 4 5 6 7 86) (rg (.tmp 86) #[87] (λu=>(kq (j4 (xoz c h u) 2 5 7 10))) (λu=>(kq (j4 (xp0 c h u) 2 5 7 87)))))))) (tq (j5 (xp5 c h u rec0) 2 4 5 6 7) (sqN 1 (bk 2 (lq (xgs c h u rec0) (λr=>j8 r 2 4 5 6 7 47 48 49) λs=>(tq (j8 (xp4 c h u rec0 s) 2 4 5 6 7 47 48 49) (sqN 2 (sq2 (kq (j8 (xgr c h u rec0 s) 2 4 5 6 7 47 48 49)) (kq (j8 (xp3 c h u rec0 s) 2 4 5 6 7 47 48 49)))))))))))))))))
noncomputable abbrev x1kv:=VX x4d 20 r_13
theorem xvv:x1kv c h u (x10s x4d) r_13 eNil=j3 (xgw c h u) 0 1 2:=(tq (j3 (xgw c h u) 0 1 2) (sqN 1 (bk 0 (lq (xgv c h u) (λr=>j4 r 1 10 11 12) λrec0=>(kq (j4 (xp7 c h u rec0) 1 10 11 12))))))
noncomputable abbrev x1kw:=VX x3r 48 r_0
theorem xz9:x1kw c h u (x10s x3r) r_0 eNil=j2 (xgy c h u) 0 1:=(tq (j2 (xgy c h u) 0 1) (sqN 1 (sq2 (tq (j2 (xpc c h u) 0 1) (sqN 1 (sq2 (tq (j2 (xpa c h u) 0 6) (sqN 2 (sq2 (kq (j1 (xp8 c h u) 7)) (bk 0 (lq (xgx c h u) (λr=>j2 r 7 8) λrec0=>(kq (j2 (xp9 c h u rec0) 7 8))))))) (kq (j3 (xpb c h u) 0 5 6))))) (kq (j2 (xpd c h u) 0 1)))))
noncomputable abbrev x1kx:=VX x4b 18 r_13
theorem xvs:x1kx c h u (x10s x4b) r_13 eNil=j4 (xgz c h u) 0 1 2 3:=(kq (j4 (xgz c h u) 0 1 2 3))
noncomputable abbrev x1ky:=VX x5r 6 r_2
theorem xza:x1ky c h u (x10s x5r) r_2 eNil=j1 (xh0 c h u) 0:=(kq (j1 (xh0 c h u) 0))
noncomputable abbrev x1kz:=VX x5s 4 r_2
theorem xzb:x1kz c h u (x10s x5s) r_2 eNil=j1 (xh1 c h u) 0:=(kq (j1 (xh1 c h u) 0))
noncomputable abbrev x1l0:=VX x5t 8 r_2
theorem xzc:x1l0 c h u (x10s x5t) r_2 eNil=j1 (xh2 c h u) 0:=(kq (j1 (xh2 c h u) 0))
noncomputable abbrev x1l1:=VX x5u 8 r_2
theorem xzd:x1l1 c h u (x10s x5u) r_2 eNil=j1 (xh3 c h u) 0:=(kq (j1 (xh3 c h u) 0))
noncomputable abbrev x1l2:=VX x3s 10 r_2
theorem xze:x1l2 c h u (x10s x3s) r_2 eNil=j1 (xh4 c h u) 0:=(tq (j1 (xh4 c h u) 0) (sqN 1 (sq2 (kq (j1 (xvm c h u) 2)) (tq (j2 (xpg c h u) 0 2) (sqN 1 (bk 0 (lq (xpf c h u) (λr=>j2 r 2 4) λrec0=>(kq (j2 (xpe c h u rec0) 2 4)))))))))
noncomputable abbrev x1l3:=VX x5v 19 r_3
theorem xzf:x1l3 c h u (x10s x5v) r_3 eNil=j1 (xh5 c h u) 0:=(kq (j1 (xh5 c h u) 0))
noncomputable abbrev x1l4:=VX x2m 143 r_0
theorem xzg:x1l4 c h u (x10s x2m) r_0 eNil=j2 (x8m c h u) 0 1:=(tq (j2 (x8m c h u) 0 1) (sqN 8 (sq2 (kq (j0 (xph c h u))) (bk 1 (lq (xh7 c h u) (λr=>j8 r 0 1 5 6 7 8 9 10) λrec0=>(tq (j8 (xpk c h u rec0) 0 1 5 6 7 8 9 10) (sqN 1 (bk 2 (sq2 (kq (j8 (xh6 c h u rec0) 0 1 5 6 7 8 9 10)) (kq (j8 (xpj c h u rec0) 0 1 5 6 7 8 9 10)))))))))))
noncomputable abbrev x1l5:=VX x5w 73 r_23
theorem xzh:x1l5 c h u (x10s x5w) r_23 eNil=j3 (xha c h u) 0 1 2:=(tq (j3 (xha c h u) 0 1 2) (sqN 3 (sq2 (tq (j4 (x8n c h u) 0 1 2 8) (sqN 3 (sq2 (tq (j3 (xh9 c h u) 2 8 9) (sqN 4 (sq2 (kq (j1 (xh8 c h u) 11)) (kq (j2 (xpl c h u) 8 11))))) (kq (j3 (xpm c h u) 2 8 9))))) (kq (j4 (xpn c h u) 0 1 2 8)))))
noncomputable abbrev x1l6:=VX x5x 11 r_0
theorem xzi:x1l6 c h u (x10s x5x) r_0 eNil=j2 (xhb c h u) 0 1:=(kq (j2 (xhb c h u) 0 1))
noncomputable abbrev x1l7:=VX x5y 11 r_0
theorem xzj:x1l7 c h u (x10s x5y) r_0 eNil=j2 (xhc c h u) 0 1:=(kq (j2 (xhc c h u) 0 1))
noncomputable abbrev x1l8:=VX x5z 16 r_12
theorem xzk:x1l8 c h u (x10s x5z) r_12 eNil=j3 (xhd c h u) 0 1 2:=(kq (j3 (xhd c h u) 0 1 2))
noncomputable abbrev x1l9:=VX x60 16 r_12
theorem xzl:x1l9 c h u (x10s x60) r_12 eNil=j3 (xhe c h u) 0 1 2:=(kq (j3 (xhe c h u) 0 1 2))
noncomputable abbrev x1la:=VX x2n 18 r_0
theorem xzm:x1la c h u (x10s x2n) r_0 eNil=j2 (x8p c h u) 0 1:=(kq (j2 (x8p c h u) 0 1))
noncomputable abbrev x1lb:=VX x61 58 r_13
theorem xzn:x1lb c h u (x10s x61) r_13 eNil=j5 (xhg c h u) 0 1 2 3 4:=(tq (j5 (xhg c h u) 0 1 2 3 4) (sqN 2 (sq2 (kq (j4 (xpo c h u) 0 2 4 10)) (bk 0 (lq (xhf c h u) (λr=>j5 r 0 2 4 10 11) λrec0=>(kq (j5 (xpp c h u rec0) 0 2 4 10 11)))))))
noncomputable abbrev x1lc:=VX x3t 76 r_13
theorem xzo:x1lc c h u (x10s x3t) r_13 eNil=j4 (xhj c h u) 0 1 2 3:=(tq (j4 (xhj c h u) 0 1 2 3) (sqN 1 (bk 0 (lq (xhi c h u) (λr=>j4 r 0 2 3 8) λrec0=>(bk 1 (tq (j4 (xpr c h u rec0) 0 2 3 8) (sqN 2 (sq2 (kq (j5 (xhh c h u rec0) 0 2 3 8 9)) (kq (j5 (xpq c h u rec0) 0 2 3 8 9))))))))))
noncomputable abbrev x1ld:=VX x62 7 r_2
theorem xzp:x1ld c h u (x10s x62) r_2 eNil=j1 (xhk c h u) 0:=(kq (j1 (xhk c h u) 0))
noncomputable abbrev x1le:=VX x63 33 r_2
theorem xzq:x1le c h u (x10s x63) r_2 eNil=j1 (xhl c h u) 0:=(kq (j1 (xhl c h u) 0))
noncomputable abbrev x1lf:=VX x2o 15 r_12
theorem xzr:x1lf c h u (x10s x2o) r_12 eNil=j3 (xhm c h u) 0 1 2:=(kq (j3 (xhm c h u) 0 1 2))
noncomputable abbrev x1lg:=VX x3u 36 r_22
theorem xzs:x1lg c h u (x10s x3u) r_22 eNil=j5 (xhn c h u) 0 1 2 3 4:=(kq (j5 (xhn c h u) 0 1 2 3 4))
noncomputable abbrev x1lh:=VX x3v 6 r_2
theorem xzt:x1lh c h u (x10s x3v) r_2 eNil=j1 (xho c h u) 0:=(kq (j1 (xho c h u) 0))
noncomputable abbrev x1li:=VX x4c 6 r_0
theorem xvu:x1li c h u (x10s x4c) r_0 eNil=j2 (xhp c h u) 0 1:=(kq (j2 (xhp c h u) 0 1))
noncomputable abbrev x1lj:=VX x64 30 r_14
theorem xzu:x1lj c h u (x10s x64) r_14 eNil=j2 (xhq c h u) 0 1:=(kq (j2 (xhq c h u) 0 1))
noncomputable abbrev x1lk:=VX x65 14 r_2
theorem xzv:x1lk c h u (x10s x65) r_2 eNil=j1 (xhr c h u) 0:=(kq (j1 (xhr c h u) 0))
noncomputable abbrev x1ll:=VX x66 14 r_2
theorem xzw:x1ll c h u (x10s x66) r_2 eNil=j1 (xhs c h u) 0:=(kq (j1 (xhs c h u) 0))
noncomputable abbrev x1lm:=VX x67 117 r_3
theorem xzx:x1lm c h u (x10s x67) r_3 eNil=j1 (xht c h u) 0:=(kq (j1 (xht c h u) 0))
noncomputable abbrev x1ln:=VX x68 6 r_2
theorem xzy:x1ln c h u (x10s x68) r_2 eNil=j1 (xhu c h u) 0:=(kq (j1 (xhu c h u) 0))
noncomputable abbrev x1lo:=VX x69 81 r_0
theorem xzz:x1lo c h u (x10s x69) r_0 eNil=j2 (xhx c h u) 0 1:=(tq (j2 (xhx c h u) 0 1) (sqN 4 (sq2 (tq (j6 (xpv c h u) 0 1 5 6 7 8) (sqN 1 (sq2 (kq (j0 (xps c h u))) (tq (j6 (xpu c h u) 0 1 5 6 7 8) (sqN 1 (bk 2 (lq (xhv c h u) (λr=>j7 r 0 1 5 6 7 8 10) λrec0=>(kq (j7 (xpt c h u rec0) 0 1 5 6 7 8 10))))))))) (tq (j6 (xpx c h u) 0 1 5 6 7 8) (sqN 1 (bk 0 (lq (xhw c h u) (λr=>j7 r 0 1 5 6 7 8 9) λs=>(kq (j7 (xpw c h u s) 0 1 5 6 7 8 9)))))))))
noncomputable abbrev x1lp:=VX x6a 172 r_23
theorem x100:x1lp c h u (x10s x6a) r_23 eNil=j3 (xi2 c h u) 0 1 2:=(tq (j3 (xi2 c h u) 0 1 2) (sqN 4 (sq2 (sq2 (tq (j5 (xi1 c h u) 0 1 2 8 9) (sqN 1 (sq2 (tq (j6 (x8q c h u) 0 1 2 8 9 10) (sqN 3 (sq2 (kq (j3 (xpy c h u) 9 12 13)) (tq (j8 (xq2 c h u) 0 1 8 9 10 11 12 13) (sqN 1 (bk 3 (lq (xi0 c h u) (λr=>j10 r 1 8 9 10 11 12 13 99 100 101) λrec0=>(tq (j10 (xq1 c h u rec0) 1 8 9 10 11 12 13 99 100 101) (sqN 2 (sq2 (kq (j10 (xhy c h u rec0) 1 8 9 10 11 12 13 99 100 101)) (bk 4 (tq (j10 (xq0 c h u rec0) 1 8 9 10 11 12 13 99 100 101) (sqN 2 (sq2 (kq (j11 (xhz c h u rec0) 1 8 9 10 11 12 13 16 99 100 101)) (kq (j11 (xpz c h u rec0) 1 8 9 10 11 12 13 15 99 100 101)))))))))))))))) (kq (j5 (xq3 c h u) 0 1 2 8 9))))) (kq (j5 (x1y c h u) 0 1 2 8 9))) (kq (j5 (xq4 c h u) 0 1 2 8 9)))))
noncomputable abbrev x1lq:=VX x1q 18 r_2
theorem x101:x1lq c h u (x10s x1q) r_2 eNil=j1 (xi3 c h u) 0:=(kq (j1 (xi3 c h u) 0))
noncomputable abbrev x1lr:=VX x3w 7 r_2
theorem x102:x1lr c h u (x10s x3w) r_2 eNil=j1 (xi4 c h u) 0:=(kq (j1 (xi4 c h u) 0))
noncomputable abbrev x1ls:=VX x2p 38 r_13
theorem x103:x1ls c h u (x10s x2p) r_13 eNil=j4 (xi6 c h u) 0 1 2 3:=(tq (j4 (xi6 c h u) 0 1 2 3) (sqN 1 (bk 0 (lq (xi5 c h u) (λr=>j5 r 0 1 2 3 10) λrec0=>(kq (j5 (xq5 c h u rec0) 0 1 2 3 10))))))
noncomputable abbrev x1lt:=VX x2q 28 r_24
theorem x104:x1lt c h u (x10s x2q) r_24 eNil=j4 (xi7 c h u) 0 1 2 3:=(kq (j4 (xi7 c h u) 0 1 2 3))
noncomputable abbrev x1lu:=VX x4a 76 r_13
theorem xvq:x1lu c h u (x10s x4a) r_13 eNil=j3 (xia c h u) 0 1 2:=(tq (j3 (xia c h u) 0 1 2) (sqN 1 (bk 0 (lq (xi9 c h u) (λr=>j6 r 0 1 2 14 15 16) λrec0=>(tq (j6 (xq9 c h u rec0) 0 1 2 14 15 16) (sqN 2 (sq2 (kq (j6 (xq6 c h u rec0) 0 1 2 14 15 16)) (bk 1 (tq (j6 (xq8 c h u rec0) 0 1 2 14 15 16) (sqN 3 (sq2 (kq (j7 (xi8 c h u rec0) 0 1 2 7 14 15 16)) (kq (j9 (xq7 c h u rec0) 0 1 2 5 6 7 14 15 16)))))))))))))
noncomputable abbrev x1lv:=VX x6b 17 r_14
theorem x105:x1lv c h u (x10s x6b) r_14 eNil=j2 (xib c h u) 0 1:=(kq (j2 (xib c h u) 0 1))
noncomputable abbrev x1lw:=VX x4e 51 r_14
theorem xvw:x1lw c h u (x10s x4e) r_14 eNil=j2 (xic c h u) 0 1:=(kq (j2 (xic c h u) 0 1))
noncomputable abbrev x1lx:=VX x6c 39 r_3
theorem x106:x1lx c h u (x10s x6c) r_3 eNil=j1 (xig c h u) 0:=(tq (j1 (xig c h u) 0) (sqN 2 (sq2 (tq (j2 (xqf c h u) 0 4) (sqN 1 (sq2 (kq (j2 (xqa c h u) 4 6)) (tq (j4 (xqe c h u) 0 4 6 7) (sqN 1 (bk 2 (lq (xie c h u) (λr=>j4 r 4 6 7 8) λrec0=>(tq (j4 (xqd c h u rec0) 4 6 7 8) (sqN 1 (sq2 (kq (j4 (xqb c h u rec0) 4 6 7 8)) (bk 3 (sq2 (kq (j4 (xid c h u rec0) 4 6 7 8)) (kq (j4 (xqc c h u rec0) 4 6 7 8)))))))))))))) (tq (j2 (xqh c h u) 0 4) (sqN 1 (bk 0 (lq (xif c h u) (λr=>j3 r 0 4 5) λs=>(kq (j3 (xqg c h u s) 0 4 5)))))))))
noncomputable abbrev x1ly:=VX xj 5 r_2
theorem x107:x1ly c h u (x10s xj) r_2 eNil=j1 (xih c h u) 0:=(kq (j1 (xih c h u) 0))
noncomputable abbrev x1lz:=VX x6d 94 r_2
theorem x108:x1lz c h u (x10s x6d) r_2 eNil=j1 (xij c h u) 0:=(tq (j1 (xij c h u) 0) (sqN 3 (sq2 (tq (j3 (xii c h u) 0 3 4) (sqN 1 (sq2 (sq2 (kq (j1 (xqi c h u) 3)) (bk 0 (lq (x8s c h u) (λr=>j4 r 0 3 4 5) λrec0=>(tq (j4 (xqk c h u rec0) 0 3 4 5) (sqN 1 (sq2 (kq (j4 (x8r c h u rec0) 0 3 4 5)) (kq (j4 (xqj c h u rec0) 0 3 4 5)))))))) (kq (j4 (xql c h u) 0 3 4 5))))) (kq (j3 (xqm c h u) 0 3 4)))))
end Go.Ix
