import Derived.Test.YtaoalekmhjclnaaGreatDoorFxText0
import Derived.Test.YtaoalekmhjclnaaGreatDoorFxText1
import Derived.Test.YtaoalekmhjclnaaGreatDoorFxEnt
import Derived.Test.YtaoalekmhjclnaaGreatDoorFxRules
import Derived.Test.YtaoalekmhjclnaaGreatDoorFxProj
import Derived.ProofKit
set_option linter.unusedVariables false
namespace Go.Ix
open Go.Proofs
variable{c:x17c}{h:FHs}{u:Nat}
noncomputable abbrev x1kn:=VX x38 126 r_0
theorem x112:x1kn c h u (x17f x38) r_0 eNil=j2 (x7z c h u) 0 1:=(kq (j2 (x7z c h u) 0 1))
noncomputable abbrev x1ko:=VX x26 71 r_1
theorem x113:x1ko c h u (x17f x26) r_1 eNil=j0 (xb9 c h u):=(kq (j0 (xb9 c h u)))
noncomputable abbrev x1kp:=VX x4s 129 r_2
theorem x114:x1kp c h u (x17f x4s) r_2 eNil=j1 (xbf c h u) 0:=(tq (j1 (xbf c h u) 0) (sqN 2 (sq2 (tq (j1 (xli c h u) 1) (sqN 1 (sq2 (tq (j1 (xlf c h u) 1) (sqN 1 (sq2 (kq (j0 (xlc c h u))) (tq (j1 (xle c h u) 1) (sqN 1 (bk 6 (lq (xba c h u) (λr=>j4 r 1 107 108 109) λrec0=>(kq (j4 (xld c h u rec0) 1 107 108 109))))))))) (tq (j1 (xlh c h u) 1) (sqN 1 (bk 3 (lq (xbb c h u) (λr=>j4 r 1 60 61 62) λs=>(kq (j4 (xlg c h u s) 1 60 61 62))))))))) (tq (j1 (xlk c h u) 1) (sqN 1 (bk 1 (lq (xbd c h u) (λr=>j4 r 1 30 31 32) λw=>(kq (j4 (xlj c h u w) 1 30 31 32)))))))))
noncomputable abbrev x1kq:=VX x4t 26 r_0
theorem x115:x1kq c h u (x17f x4t) r_0 eNil=j2 (xbh c h u) 0 1:=(tq (j2 (xbh c h u) 0 1) (sqN 2 (sq2 (kq (j0 (xll c h u))) (tq (j2 (xln c h u) 0 1) (sqN 1 (bk 0 (lq (xbg c h u) (λr=>j3 r 0 1 5) λrec0=>(kq (j3 (xlm c h u rec0) 0 1 5)))))))))
noncomputable abbrev x1kr:=VX x1c 41 r_2
theorem x116:x1kr c h u (x17f x1c) r_2 eNil=j1 (x85 c h u) 0:=(tq (j1 (x85 c h u) 0) (sqN 1 (sq2 (kq (j1 (xbi c h u) 1)) (tq (j1 (xbj c h u) 1) (sqN 1 (bk 0 (lq (x2m c h u) (λr=>j2 r 1 3) λrec0=>(kq (j2 (x84 c h u rec0) 1 3)))))))))
noncomputable abbrev x1ks:=VX x10 128 r_3
theorem x117:x1ks c h u (x17f x10) r_3 eNil=j1 (x89 c h u) 0:=(tq (j1 (x89 c h u) 0) (sqN 2 (sq2 (tq (j1 (x87 c h u) 1) (sqN 1 (sq2 (kq (j1 (xbk c h u) 1)) (tq (j1 (xbl c h u) 1) (sqN 1 (bk 3 (lq (x1r c h u) (λr=>j4 r 1 83 84 85) λrec0=>(kq (j4 (x86 c h u rec0) 1 83 84 85))))))))) (tq (j1 (xbm c h u) 1) (sqN 1 (bk 0 (lq (x1s c h u) (λr=>j4 r 1 14 15 16) λs=>(kq (j4 (x88 c h u s) 1 14 15 16)))))))))
noncomputable abbrev x1kt:=VX xu 14 r_4
theorem x118:x1kt c h u (x17f xu) r_4 eNil=j1 (x8a c h u) 0:=(kq (j1 (x8a c h u) 0))
noncomputable abbrev x1ku:=VX x11 21 r_5
theorem x119:x1ku c h u (x17f x11) r_5 eNil=j2 (x8c c h u) 0 1:=(kq (j2 (x8c c h u) 0 1))
noncomputable abbrev x1kv:=VX x1d 6 r_2
theorem x11a:x1kv c h u (x17f x1d) r_2 eNil=j1 (x4b c h u) 0:=(kq (j1 (x4b c h u) 0))
noncomputable abbrev x1kw:=VX xv 105 r_5
theorem x11b:x1kw c h u (x17f xv) r_5 eNil=j2 (x2q c h u) 0 1:=(tq (j2 (x2q c h u) 0 1) (sqN 5 (sq2 (sq2 (tq (j2 (x8f c h u) 2 10) (sqN 3 (sq2 (kq (j1 (xbn c h u) 15)) (tq (j4 (xbp c h u) 2 10 15 16) (sqN 1 (bk 4 (lq (x2n c h u) (λr=>j6 r 2 15 16 77 78 79) λrec0=>(tq (j6 (x8d c h u rec0) 2 15 16 77 78 79) (sqN 2 (sq2 (kq (j6 (x4c c h u rec0) 2 15 16 77 78 79)) (kq (j6 (xbo c h u rec0) 2 15 16 77 78 79)))))))))))) (tq (j2 (x8h c h u) 2 10) (sqN 1 (bk 2 (lq (x2o c h u) (λr=>j5 r 2 10 60 61 62) λs=>(kq (j5 (x8g c h u s) 2 10 60 61 62))))))) (tq (j3 (xbq c h u) 1 2 10) (sqN 1 (bk 0 (lq (x2p c h u) (λr=>j5 r 2 10 36 37 38) λw=>(kq (j5 (x8i c h u w) 2 10 36 37 38)))))))))
noncomputable abbrev x1kx:=VX x1e 142 r_3
theorem x11c:x1kx c h u (x17f x1e) r_3 eNil=j1 (x8m c h u) 0:=(tq (j1 (x8m c h u) 0) (sqN 3 (sq2 (tq (j1 (x8k c h u) 1) (sqN 1 (sq2 (kq (j1 (xbr c h u) 1)) (tq (j1 (xbs c h u) 1) (sqN 1 (bk 2 (lq (x1t c h u) (λr=>j2 r 1 7) λrec0=>(kq (j2 (x8j c h u rec0) 1 7))))))))) (tq (j2 (xlo c h u) 1 4) (sqN 1 (bk 0 (lq (x1u c h u) (λr=>j3 r 1 4 5) λs=>(kq (j3 (x8l c h u s) 1 4 5)))))))))
noncomputable abbrev x1ky:=VX x1f 77 r_5
theorem x11d:x1ky c h u (x17f x1f) r_5 eNil=j2 (x8o c h u) 0 1:=(tq (j2 (x8o c h u) 0 1) (sqN 2 (sq2 (kq (j1 (xbt c h u) 6)) (tq (j3 (xbu c h u) 1 2 6) (sqN 1 (bk 0 (lq (x1v c h u) (λr=>j4 r 1 2 6 7) λrec0=>(kq (j4 (x8n c h u rec0) 1 2 6 7)))))))))
noncomputable abbrev x1kz:=VX x1g 82 r_5
theorem x11e:x1kz c h u (x17f x1g) r_5 eNil=j2 (x8r c h u) 0 1:=(tq (j2 (x8r c h u) 0 1) (sqN 3 (sq2 (kq (j1 (xbv c h u) 6)) (tq (j5 (xbw c h u) 1 2 6 7 8) (sqN 1 (bk 0 (lq (x2r c h u) (λr=>j6 r 1 2 6 7 8 9) λrec0=>(tq (j6 (x8q c h u rec0) 1 2 6 7 8 9) (sqN 1 (sq2 (kq (j6 (x4d c h u rec0) 1 2 6 7 8 9)) (bk 1 (sq2 (kq (j6 (x4e c h u rec0) 1 2 6 7 8 9)) (bk 2 (lq (x1w c h u rec0) (λr=>j6 r 1 2 6 7 8 9) λs=>(kq (j6 (x8p c h u rec0 s) 1 2 6 7 8 9))))))))))))))))
noncomputable abbrev x1l0:=VX x27 26 r_0
theorem x11f:x1l0 c h u (x17f x27) r_0 eNil=j2 (x8t c h u) 0 1:=(tq (j2 (x8t c h u) 0 1) (sqN 2 (sq2 (kq (j0 (xbx c h u))) (tq (j2 (xby c h u) 0 1) (sqN 1 (bk 0 (lq (x2s c h u) (λr=>j3 r 0 1 5) λrec0=>(kq (j3 (x8s c h u rec0) 0 1 5)))))))))
noncomputable abbrev x1l1:=VX x4v 31 r_6
theorem x11g:x1l1 c h u (x17f x4v) r_6 eNil=j3 (xbz c h u) 0 1 2:=(kq (j3 (xbz c h u) 0 1 2))
noncomputable abbrev x1l2:=VX x3a 18 r_7
theorem x11h:x1l2 c h u (x17f x3a) r_7 eNil=j0 (xc0 c h u):=(kq (j0 (xc0 c h u)))
noncomputable abbrev x1l3:=VX x3b 7 r_1
theorem x11i:x1l3 c h u (x17f x3b) r_1 eNil=j0 (xc1 c h u):=(kq (j0 (xc1 c h u)))
noncomputable abbrev x1l4:=VX x4w 38 r_8
theorem x11j:x1l4 c h u (x17f x4w) r_8 eNil=j3 (xc2 c h u) 0 1 2:=(kq (j3 (xc2 c h u) 0 1 2))
noncomputable abbrev x1l5:=VX x4x 12 r_3
theorem x11k:x1l5 c h u (x17f x4x) r_3 eNil=j1 (xc3 c h u) 0:=(kq (j1 (xc3 c h u) 0))
noncomputable abbrev x1l6:=VX x4y 9 r_9
theorem x11l:x1l6 c h u (x17f x4y) r_9 eNil=j0 (xc4 c h u):=(kq (j0 (xc4 c h u)))
noncomputable abbrev x1l7:=VX xc 15 r_10
theorem x11m:x1l7 c h u (x17f xc) r_10 eNil=j3 (x8u c h u) 0 1 2:=(kq (j3 (x8u c h u) 0 1 2))
noncomputable abbrev x1l8:=VX x28 15 r_2
theorem x11n:x1l8 c h u (x17f x28) r_2 eNil=j1 (xc6 c h u) 0:=(tq (j1 (xc6 c h u) 0) (sqN 1 (sq2 (kq (j0 (xlq c h u))) (tq (j1 (xls c h u) 0) (sqN 1 (bk 0 (lq (xc5 c h u) (λr=>j3 r 5 6 7) λrec0=>(kq (j3 (xlr c h u rec0) 5 6 7)))))))))
noncomputable abbrev x1l9:=VX xi 21 r_10
theorem x11o:x1l9 c h u (x17f xi) r_10 eNil=j3 (x8w c h u) 0 1 2:=(tq (j3 (x8w c h u) 0 1 2) (sqN 2 (sq2 (kq (j0 (xc7 c h u))) (tq (j3 (xc8 c h u) 0 1 2) (sqN 1 (bk 0 (lq (x2t c h u) (λr=>j4 r 0 1 11 12) λrec0=>(kq (j4 (x8v c h u rec0) 0 1 11 12)))))))))
noncomputable abbrev x1la:=VX x4z 10 r_11
theorem x11p:x1la c h u (x17f x4z) r_11 eNil=j2 (xc9 c h u) 0 1:=(kq (j2 (xc9 c h u) 0 1))
noncomputable abbrev x1lb:=VX x3c 100 r_2
theorem x11q:x1lb c h u (x17f x3c) r_2 eNil=j1 (xcd c h u) 0:=(tq (j1 (xcd c h u) 0) (sqN 3 (sq2 (tq (j1 (xm3 c h u) 0) (sqN 1 (sq2 (kq (j0 (xlu c h u))) (tq (j1 (xm2 c h u) 7) (sqN 1 (bk 3 (lq (xcb c h u) (λr=>j4 r 7 43 44 45) λrec0=>(tq (j4 (xm1 c h u rec0) 7 43 44 45) (sqN 2 (sq2 (kq (j4 (xlv c h u rec0) 7 43 44 45)) (bk 4 (tq (j4 (xm0 c h u rec0) 7 43 44 45) (sqN 2 (bk 5 (lq (xca c h u rec0) (λr=>j9 r 7 8 9 43 44 45 52 53 54) λs=>(tq (j9 (xlz c h u rec0 s) 7 8 9 43 44 45 52 53 54) (sqN 2 (sq2 (kq (j9 (xlw c h u rec0 s) 7 8 9 43 44 45 52 53 54)) (bk 6 (tq (j9 (xly c h u rec0 s) 7 8 9 43 44 45 52 53 54) (sqN 2 (sq2 (kq (j10 (x8x c h u rec0 s) 7 8 9 12 43 44 45 52 53 54)) (kq (j11 (xlx c h u rec0 s) 7 8 9 10 11 43 44 45 52 53 54)))))))))))))))))))))))) (tq (j2 (xm6 c h u) 0 3) (sqN 1 (bk 1 (lq (xcc c h u) (λr=>j5 r 0 3 22 23 24) λw=>(kq (j5 (xm4 c h u w) 0 3 22 23 24)))))))))
noncomputable abbrev x1lc:=VX xw 5 r_2
theorem x11r:x1lc c h u (x17f xw) r_2 eNil=j1 (xce c h u) 0:=(kq (j1 (xce c h u) 0))
noncomputable abbrev x1ld:=VX x29 10 r_0
theorem x11s:x1ld c h u (x17f x29) r_0 eNil=j2 (xcf c h u) 0 1:=(kq (j2 (xcf c h u) 0 1))
noncomputable abbrev x1le:=VX x50 10 r_11
theorem x11t:x1le c h u (x17f x50) r_11 eNil=j2 (xcg c h u) 0 1:=(kq (j2 (xcg c h u) 0 1))
noncomputable abbrev x1lf:=VX x51 10 r_11
theorem x11u:x1lf c h u (x17f x51) r_11 eNil=j2 (xch c h u) 0 1:=(kq (j2 (xch c h u) 0 1))
noncomputable abbrev x1lg:=VX x52 9 r_2
theorem x11v:x1lg c h u (x17f x52) r_2 eNil=j1 (xci c h u) 0:=(kq (j1 (xci c h u) 0))
noncomputable abbrev x1lh:=VX x53 12 r_0
theorem x11w:x1lh c h u (x17f x53) r_0 eNil=j2 (xcj c h u) 0 1:=(kq (j2 (xcj c h u) 0 1))
noncomputable abbrev x1li:=VX x54 6 r_0
theorem x11x:x1li c h u (x17f x54) r_0 eNil=j2 (xck c h u) 0 1:=(kq (j2 (xck c h u) 0 1))
noncomputable abbrev x1lj:=VX xd 15 r_10
theorem x11y:x1lj c h u (x17f xd) r_10 eNil=j3 (x8y c h u) 0 1 2:=(kq (j3 (x8y c h u) 0 1 2))
noncomputable abbrev x1lk:=VX xe 10 r_11
theorem x11z:x1lk c h u (x17f xe) r_11 eNil=j2 (x8z c h u) 0 1:=(kq (j2 (x8z c h u) 0 1))
noncomputable abbrev x1ll:=VX x12 5 r_2
theorem x120:x1ll c h u (x17f x12) r_2 eNil=j1 (x90 c h u) 0:=(kq (j1 (x90 c h u) 0))
noncomputable abbrev x1lm:=VX xn 5 r_2
theorem x121:x1lm c h u (x17f xn) r_2 eNil=j1 (x91 c h u) 0:=(kq (j1 (x91 c h u) 0))
noncomputable abbrev x1ln:=VX x13 14 r_12
theorem x122:x1ln c h u (x17f x13) r_12 eNil=j1 (x92 c h u) 0:=(kq (j1 (x92 c h u) 0))
noncomputable abbrev x1lo:=VX x14 62 r_5
theorem x123:x1lo c h u (x17f x14) r_5 eNil=j2 (x94 c h u) 0 1:=(tq (j2 (x94 c h u) 0 1) (sqN 2 (sq2 (kq (j1 (xcl c h u) 6)) (tq (j3 (xcm c h u) 1 2 6) (sqN 1 (bk 0 (lq (x1x c h u) (λr=>j6 r 1 2 6 9 10 11) λrec0=>(kq (j6 (x93 c h u rec0) 1 2 6 9 10 11)))))))))
noncomputable abbrev x1lp:=VX x2a 9 r_13
theorem x124:x1lp c h u (x17f x2a) r_13 eNil=j2 (x95 c h u) 0 1:=(kq (j2 (x95 c h u) 0 1))
noncomputable abbrev x1lq:=VX x15 10 r_0
theorem x125:x1lq c h u (x17f x15) r_0 eNil=j2 (x96 c h u) 0 1:=(kq (j2 (x96 c h u) 0 1))
noncomputable abbrev x1lr:=VX x2b 55 r_2
theorem x126:x1lr c h u (x17f x2b) r_2 eNil=j1 (x98 c h u) 0:=(tq (j1 (x98 c h u) 0) (sqN 2 (sq2 (kq (j0 (xcn c h u))) (tq (j1 (xco c h u) 0) (sqN 1 (bk 0 (lq (x1y c h u) (λr=>j2 r 0 3) λrec0=>(kq (j2 (x97 c h u rec0) 0 3)))))))))
noncomputable abbrev x1ls:=VX x1h 18 r_0
theorem x127:x1ls c h u (x17f x1h) r_0 eNil=j2 (xcq c h u) 0 1:=(tq (j2 (xcq c h u) 0 1) (sqN 1 (sq2 (kq (j0 (xcp c h u))) (tq (j2 (xm8 c h u) 0 1) (sqN 1 (bk 0 (lq (x2u c h u) (λr=>j3 r 0 1 5) λrec0=>(kq (j3 (x99 c h u rec0) 0 1 5)))))))))
noncomputable abbrev x1lt:=VX x1i 36 r_0
theorem x128:x1lt c h u (x17f x1i) r_0 eNil=j2 (x9c c h u) 0 1:=(tq (j2 (x9c c h u) 0 1) (sqN 2 (sq2 (kq (j1 (x9a c h u) 5)) (bk 0 (lq (x2v c h u) (λr=>j3 r 1 2 5) λrec0=>(kq (j3 (x9b c h u rec0) 1 2 5)))))))
noncomputable abbrev x1lu:=VX x55 57 r_14
theorem x129:x1lu c h u (x17f x55) r_14 eNil=j3 (xcr c h u) 0 1 2:=(kq (j3 (xcr c h u) 0 1 2))
noncomputable abbrev x1lv:=VX x56 22 r_15
theorem x12a:x1lv c h u (x17f x56) r_15 eNil=j1 (xcs c h u) 0:=(kq (j1 (xcs c h u) 0))
noncomputable abbrev x1lw:=VX x3d 28 r_16
theorem x12b:x1lw c h u (x17f x3d) r_16 eNil=j3 (xct c h u) 0 1 2:=(kq (j3 (xct c h u) 0 1 2))
noncomputable abbrev x1lx:=VX x3e 19 r_2
theorem x12c:x1lx c h u (x17f x3e) r_2 eNil=j1 (xcv c h u) 0:=(tq (j1 (xcv c h u) 0) (sqN 1 (sq2 (kq (j0 (xma c h u))) (tq (j1 (xmc c h u) 1) (sqN 1 (bk 0 (lq (xcu c h u) (λr=>j2 r 1 3) λrec0=>(kq (j2 (xmb c h u rec0) 1 3)))))))))
noncomputable abbrev x1ly:=VX x3f 38 r_17
theorem x12d:x1ly c h u (x17f x3f) r_17 eNil=j2 (xcx c h u) 0 1:=(tq (j2 (xcx c h u) 0 1) (sqN 4 (sq2 (kq (j1 (xmd c h u) 8)) (tq (j2 (xmf c h u) 1 8) (sqN 1 (bk 0 (lq (xcw c h u) (λr=>j4 r 8 21 22 23) λrec0=>(kq (j4 (xme c h u rec0) 8 21 22 23)))))))))
noncomputable abbrev x1lz:=VX x57 104 r_18
theorem x12e:x1lz c h u (x17f x57) r_18 eNil=j2 (xcz c h u) 0 1:=(tq (j2 (xcz c h u) 0 1) (sqN 3 (sq2 (sq2 (kq (j2 (x9d c h u) 4 5)) (kq (j4 (xmg c h u) 4 5 6 7))) (tq (j6 (xms c h u) 2 3 4 5 6 7) (sqN 1 (bk 0 (tq (j7 (xmr c h u) 2 3 4 5 6 7 15) (rg (.tmp 15) #[16] (λu=>(bk 1 (tq (j6 (xmp c h u) 2 3 5 6 7 8) (sqN 4 (bk 2 (tq (j7 (xmo c h u) 2 3 5 7 9 10 32) (sqN 1 (tq (j8 (xmn c h u) 2 3 5 7 9 10 32 64) (cd (kq (j2 (xmh c h u) 5 9)) (tq (j7 (xmm c h u) 2 3 5 7 9 10 32) (sqN 1 (tq (j7 (xml c h u) 2 3 5 7 9 10 72) (cd (kq (j2 (xmi c h u) 5 9)) (tq (j6 (xmk c h u) 2 3 5 7 9 10) (sqN 1 (sq2 (kq (j2 (xcy c h u) 7 11)) (kq (j4 (xmj c h u) 5 7 9 11)))))))))))))))))) (λu=>(kq (j6 (xmq c h u) 2 3 5 6 7 16)))))))))))
noncomputable abbrev x1m0:=VX x58 29 r_2
theorem x12f:x1m0 c h u (x17f x58) r_2 eNil=j1 (xd1 c h u) 0:=(tq (j1 (xd1 c h u) 0) (sqN 2 (sq2 (kq (j0 (xmu c h u))) (tq (j1 (xmw c h u) 0) (sqN 1 (bk 0 (lq (xd0 c h u) (λr=>j3 r 8 9 10) λrec0=>(kq (j3 (xmv c h u rec0) 8 9 10)))))))))
noncomputable abbrev x1m1:=VX x59 17 r_2
theorem x12g:x1m1 c h u (x17f x59) r_2 eNil=j1 (xd3 c h u) 0:=(tq (j1 (xd3 c h u) 0) (sqN 2 (sq2 (kq (j1 (xmx c h u) 3)) (tq (j2 (xmz c h u) 0 3) (sqN 1 (bk 0 (lq (xd2 c h u) (λr=>j4 r 3 6 7 8) λrec0=>(kq (j4 (xmy c h u rec0) 3 6 7 8)))))))))
noncomputable abbrev x1m2:=VX x1j 54 r_2
theorem x12h:x1m2 c h u (x17f x1j) r_2 eNil=j1 (x9f c h u) 0:=(tq (j1 (x9f c h u) 0) (sqN 1 (sq2 (kq (j1 (xd4 c h u) 0)) (tq (j1 (xd5 c h u) 0) (sqN 1 (bk 0 (lq (x1z c h u) (λr=>j4 r 0 7 8 9) λrec0=>(kq (j4 (x9e c h u rec0) 0 7 8 9)))))))))
noncomputable abbrev x1m3:=VX x3g 12 r_2
theorem x12i:x1m3 c h u (x17f x3g) r_2 eNil=j1 (xd6 c h u) 0:=(kq (j1 (xd6 c h u) 0))
noncomputable abbrev x1m4:=VX x2c 8 r_19
theorem x12j:x1m4 c h u (x17f x2c) r_19 eNil=j1 (xd7 c h u) 0:=(kq (j1 (xd7 c h u) 0))
noncomputable abbrev x1m5:=VX x3h 48 r_0
theorem x12k:x1m5 c h u (x17f x3h) r_0 eNil=j2 (xd9 c h u) 0 1:=(tq (j2 (xd9 c h u) 0 1) (sqN 2 (sq2 (kq (j1 (xn0 c h u) 5)) (tq (j3 (xn2 c h u) 0 1 5) (sqN 1 (bk 0 (lq (xd8 c h u) (λr=>j6 r 0 1 5 9 10 11) λrec0=>(kq (j6 (xn1 c h u rec0) 0 1 5 9 10 11)))))))))
noncomputable abbrev x1m6:=VX xh 21 r_0
theorem x12l:x1m6 c h u (x17f xh) r_0 eNil=j2 (xda c h u) 0 1:=(kq (j2 (xda c h u) 0 1))
noncomputable abbrev x1m7:=VX x5a 47 r_0
theorem x12m:x1m7 c h u (x17f x5a) r_0 eNil=j2 (xdb c h u) 0 1:=(kq (j2 (xdb c h u) 0 1))
noncomputable abbrev x1m8:=VX x5b 19 r_0
theorem x12n:x1m8 c h u (x17f x5b) r_0 eNil=j2 (xdd c h u) 0 1:=(tq (j2 (xdd c h u) 0 1) (sqN 1 (sq2 (kq (j0 (xn3 c h u))) (tq (j2 (xn5 c h u) 0 1) (sqN 1 (bk 0 (lq (xdc c h u) (λr=>j4 r 0 1 7 8) λrec0=>(kq (j4 (xn4 c h u rec0) 0 1 7 8)))))))))
noncomputable abbrev x1m9:=VX x5c 8 r_11
theorem x12o:x1m9 c h u (x17f x5c) r_11 eNil=j2 (xde c h u) 0 1:=(kq (j2 (xde c h u) 0 1))
noncomputable abbrev x1ma:=VX x5d 42 r_13
theorem x12p:x1ma c h u (x17f x5d) r_13 eNil=j3 (xdg c h u) 0 1 2:=(tq (j3 (xdg c h u) 0 1 2) (sqN 1 (bk 0 (lq (xdf c h u) (λr=>j6 r 0 1 2 12 13 14) λrec0=>(kq (j6 (xn6 c h u rec0) 0 1 2 12 13 14))))))
noncomputable abbrev x1mb:=VX x5e 21 r_5
theorem x12q:x1mb c h u (x17f x5e) r_5 eNil=j2 (xdh c h u) 0 1:=(kq (j2 (xdh c h u) 0 1))
noncomputable abbrev x1mc:=VX x2d 63 r_13
theorem x12r:x1mc c h u (x17f x2d) r_13 eNil=j3 (x9j c h u) 0 1 2:=(tq (j3 (x9j c h u) 0 1 2) (sqN 2 (sq2 (tq (j5 (x9i c h u) 0 1 2 6 7) (sqN 1 (bk 2 (lq (x19 c h u) (λr=>j4 r 0 1 2 6) λrec0=>(tq (j4 (x4j c h u rec0) 0 1 2 6) (sqN 1 (bk 3 (tq (j4 (xdk c h u rec0) 0 1 2 6) (sqN 1 (sq2 (sq2 (kq (j4 (x9g c h u rec0) 0 1 2 6)) (kq (j5 (xdi c h u rec0) 0 1 2 6 7))) (bk 4 (lq (x9h c h u rec0) (λr=>j6 r 0 1 2 6 7 8) λs=>(kq (j6 (xdj c h u rec0 s) 0 1 2 6 7 8)))))))))))))) (bk 0 (lq (x2y c h u) (λr=>j6 r 0 1 2 6 7 8) λw=>(kq (j6 (x2x c h u w) 0 1 2 6 7 8)))))))
noncomputable abbrev x1md:=VX x5f 12 r_0
theorem x12s:x1md c h u (x17f x5f) r_0 eNil=j2 (xdl c h u) 0 1:=(kq (j2 (xdl c h u) 0 1))
noncomputable abbrev x1me:=VX x3i 32 r_20
theorem x12t:x1me c h u (x17f x3i) r_20 eNil=j2 (xdm c h u) 0 1:=(kq (j2 (xdm c h u) 0 1))
noncomputable abbrev x1mf:=VX x3j 56 r_21
theorem x12u:x1mf c h u (x17f x3j) r_21 eNil=j1 (xdn c h u) 0:=(tq (j1 (xdn c h u) 0) (sqN 1 (sq2 (kq (j1 (xn7 c h u) 1)) (bk 0 (sq2 (kq (j2 (x9l c h u) 1 7)) (kq (j1 (xn8 c h u) 1)))))))
noncomputable abbrev x1mg:=VX x3k 23 r_0
theorem x12v:x1mg c h u (x17f x3k) r_0 eNil=j2 (xdp c h u) 0 1:=(tq (j2 (xdp c h u) 0 1) (sqN 2 (sq2 (kq (j1 (xdo c h u) 5)) (kq (j3 (xn9 c h u) 0 1 5)))))
noncomputable abbrev x1mh:=VX x5g 10 r_0
theorem x12w:x1mh c h u (x17f x5g) r_0 eNil=j2 (xdq c h u) 0 1:=(kq (j2 (xdq c h u) 0 1))
noncomputable abbrev x1mi:=VX x5h 97 r_0
theorem x12x:x1mi c h u (x17f x5h) r_0 eNil=j2 (xds c h u) 0 1:=(tq (j2 (xds c h u) 0 1) (sqN 6 (sq2 (kq (j6 (xdr c h u) 0 3 5 7 8 10)) (kq (j6 (xna c h u) 0 3 5 7 8 10)))))
noncomputable abbrev x1mj:=VX x5i 44 r_5
theorem x12y:x1mj c h u (x17f x5i) r_5 eNil=j2 (xdt c h u) 0 1:=(kq (j2 (xdt c h u) 0 1))
noncomputable abbrev x1mk:=VX x3l 9 r_0
theorem x12z:x1mk c h u (x17f x3l) r_0 eNil=j2 (xdu c h u) 0 1:=(kq (j2 (xdu c h u) 0 1))
noncomputable abbrev x1ml:=VX x5j 29 r_0
theorem x130:x1ml c h u (x17f x5j) r_0 eNil=j2 (xdw c h u) 0 1:=(tq (j2 (xdw c h u) 0 1) (sqN 1 (sq2 (kq (j1 (xnb c h u) 0)) (tq (j2 (xnd c h u) 0 3) (sqN 1 (bk 0 (lq (xdv c h u) (λr=>j4 r 0 14 15 16) λrec0=>(kq (j4 (xnc c h u rec0) 0 14 15 16)))))))))
noncomputable abbrev x1mm:=VX x5k 21 r_10
theorem x131:x1mm c h u (x17f x5k) r_10 eNil=j3 (xdy c h u) 0 1 2:=(tq (j3 (xdy c h u) 0 1 2) (sqN 1 (sq2 (kq (j0 (xne c h u))) (tq (j3 (xng c h u) 0 1 2) (sqN 1 (bk 0 (lq (xdx c h u) (λr=>j5 r 0 1 9 10 11) λrec0=>(kq (j5 (xnf c h u rec0) 0 1 9 10 11)))))))))
noncomputable abbrev x1mn:=VX xx 22 r_0
theorem x132:x1mn c h u (x17f xx) r_0 eNil=j2 (xdz c h u) 0 1:=(kq (j2 (xdz c h u) 0 1))
noncomputable abbrev x1mo:=VX x1k 16 r_22
theorem x133:x1mo c h u (x17f x1k) r_22 eNil=j2 (xe0 c h u) 0 1:=(kq (j2 (xe0 c h u) 0 1))
noncomputable abbrev x1mp:=VX x5l 16 r_0
theorem x134:x1mp c h u (x17f x5l) r_0 eNil=j2 (xe1 c h u) 0 1:=(kq (j2 (xe1 c h u) 0 1))
noncomputable abbrev x1mq:=VX x5m 15 r_2
theorem x135:x1mq c h u (x17f x5m) r_2 eNil=j1 (xe3 c h u) 0:=(tq (j1 (xe3 c h u) 0) (sqN 1 (sq2 (kq (j0 (xnh c h u))) (tq (j1 (xnj c h u) 0) (sqN 1 (bk 0 (lq (xe2 c h u) (λr=>j3 r 5 6 7) λrec0=>(kq (j3 (xni c h u rec0) 5 6 7)))))))))
noncomputable abbrev x1mr:=VX x5n 47 r_0
theorem x136:x1mr c h u (x17f x5n) r_0 eNil=j2 (xe6 c h u) 0 1:=(tq (j2 (xe6 c h u) 0 1) (sqN 2 (sq2 (kq (j1 (xnk c h u) 5)) (tq (j3 (xnr c h u) 0 3 5) (sqN 1 (bk 0 (lq (xe5 c h u) (λr=>j5 r 3 5 9 10 11) λrec0=>(tq (j5 (xnq c h u rec0) 3 5 9 10 11) (sqN 2 (sq2 (kq (j5 (x9n c h u rec0) 3 5 9 10 11)) (bk 1 (tq (j5 (xnp c h u rec0) 3 5 9 10 11) (sqN 3 (tq (j7 (xno c h u rec0) 3 5 7 9 10 11 30) (cd (tq (j6 (xnm c h u rec0) 3 5 7 9 10 11) (sqN 1 (sq2 (kq (j7 (xe4 c h u rec0) 3 5 7 8 9 10 11)) (kq (j7 (xnl c h u rec0) 3 5 7 8 9 10 11))))) (kq (j5 (xnn c h u rec0) 3 5 9 10 11)))))))))))))))))
noncomputable abbrev x1ms:=VX x1l 53 r_13
theorem x137:x1ms c h u (x17f x1l) r_13 eNil=j4 (x9p c h u) 0 1 2 3:=(tq (j4 (x9p c h u) 0 1 2 3) (sqN 1 (bk 0 (lq (x1a c h u) (λr=>j5 r 0 1 2 3 8) λrec0=>(tq (j5 (x4l c h u rec0) 0 1 2 3 8) (sqN 1 (sq2 (kq (j5 (x9o c h u rec0) 0 1 2 3 8)) (bk 1 (tq (j5 (xe7 c h u rec0) 0 1 2 3 8) (sqN 1 (bk 2 (lq (x20 c h u rec0) (λr=>j6 r 0 1 2 3 8 9) λs=>(kq (j6 (x4k c h u rec0 s) 0 1 2 3 8 9))))))))))))))
noncomputable abbrev x1mt:=VX xy 220 r_13
theorem x138:x1mt c h u (x17f xy) r_13 eNil=j5 (x9z c h u) 0 1 2 3 4:=(sq2 (sq2 (tq (j5 (xe9 c h u) 0 1 2 3 4) (sqN 3 (sq2 (tq (j9 (x9r c h u) 0 1 2 3 4 18 19 20 21) (sqN 1 (sq2 (tq (j8 (x4o c h u) 0 1 2 3 4 18 19 20) (sqN 1 (sq2 (sq2 (kq (j5 (x4m c h u) 0 3 4 18 24)) (kq (j7 (x4n c h u) 0 1 3 4 18 20 24))) (kq (j8 (xe8 c h u) 0 1 2 3 4 18 20 24))))) (bk 8 (lq (x2z c h u) (λr=>j10 r 0 1 2 3 4 18 19 20 21 22) λrec0=>(kq (j10 (x9q c h u rec0) 0 1 2 3 4 18 19 20 21 22))))))) (kq (j7 (x9s c h u) 0 1 2 3 4 18 19))))) (tq (j5 (xee c h u) 0 1 2 3 4) (sqN 1 (tq (j6 (xed c h u) 0 1 2 3 4 80) (cd (tq (j4 (xeb c h u) 0 1 2 4) (sqN 2 (sq2 (sq2 (kq (j0 (xea c h u))) (tq (j3 (x9u c h u) 0 2 14) (sqN 1 (bk 6 (lq (x30 c h u) (λr=>j3 r 0 14 17) λs=>(kq (j3 (x9t c h u s) 0 14 17))))))) (bk 4 (lq (x31 c h u) (λr=>j5 r 0 2 4 14 15) λw=>(kq (j5 (x9v c h u w) 0 2 4 14 15))))))) (kq (j5 (xec c h u) 0 1 2 3 4))))))) (tq (j5 (x9z c h u) 0 1 2 3 4) (sqN 1 (tq (j6 (xei c h u) 0 1 2 3 4 28) (cd (tq (j5 (xeg c h u) 0 1 2 3 4) (sqN 2 (sq2 (sq2 (kq (j0 (xef c h u))) (tq (j3 (x9x c h u) 0 1 10) (sqN 1 (bk 2 (lq (x32 c h u) (λr=>j3 r 0 10 13) λz=>(kq (j3 (x9w c h u z) 0 10 13))))))) (bk 0 (lq (x33 c h u) (λr=>j5 r 0 1 4 10 11) λy=>(kq (j5 (x9y c h u y) 0 1 4 10 11))))))) (kq (j5 (xeh c h u) 0 1 2 3 4)))))))
noncomputable abbrev x1mu:=VX x5o 19 r_0
theorem x139:x1mu c h u (x17f x5o) r_0 eNil=j2 (xek c h u) 0 1:=(tq (j2 (xek c h u) 0 1) (sqN 1 (sq2 (kq (j0 (xns c h u))) (tq (j2 (xnu c h u) 0 1) (sqN 1 (bk 0 (lq (xej c h u) (λr=>j4 r 0 1 7 8) λrec0=>(kq (j4 (xnt c h u rec0) 0 1 7 8)))))))))
noncomputable abbrev x1mv:=VX x5p 8 r_11
theorem x13a:x1mv c h u (x17f x5p) r_11 eNil=j2 (xel c h u) 0 1:=(kq (j2 (xel c h u) 0 1))
noncomputable abbrev x1mw:=VX x5q 64 r_23
theorem x13b:x1mw c h u (x17f x5q) r_23 eNil=j2 (xen c h u) 0 1:=(tq (j2 (xen c h u) 0 1) (sqN 3 (sq2 (kq (j3 (xnv c h u) 4 6 7)) (tq (j5 (xny c h u) 1 2 4 6 7) (sqN 1 (bk 0 (lq (xem c h u) (λr=>j7 r 1 4 6 7 17 18 19) λrec0=>(tq (j7 (xnx c h u rec0) 1 4 6 7 17 18 19) (sqN 2 (sq2 (kq (j7 (xa0 c h u rec0) 1 4 6 7 17 18 19)) (kq (j7 (xnw c h u rec0) 1 4 6 7 17 18 19))))))))))))
noncomputable abbrev x1mx:=VX x5r 90 r_17
theorem x13c:x1mx c h u (x17f x5r) r_17 eNil=j2 (xes c h u) 0 1:=(tq (j2 (xes c h u) 0 1) (sqN 5 (sq2 (tq (j4 (xo3 c h u) 1 2 8 9) (sqN 3 (sq2 (kq (j1 (xnz c h u) 14)) (tq (j4 (xo2 c h u) 1 12 13 14) (sqN 1 (bk 2 (lq (xep c h u) (λr=>j7 r 1 12 13 14 60 61 62) λrec0=>(tq (j7 (xo1 c h u rec0) 1 12 13 14 60 61 62) (sqN 2 (sq2 (kq (j7 (xeo c h u rec0) 1 12 13 14 60 61 62)) (kq (j7 (xo0 c h u rec0) 1 12 13 14 60 61 62)))))))))))) (tq (j4 (xo6 c h u) 1 2 8 9) (sqN 1 (bk 0 (lq (xer c h u) (λr=>j7 r 1 2 8 9 36 37 38) λs=>(tq (j7 (xo5 c h u s) 1 2 8 9 36 37 38) (sqN 2 (sq2 (kq (j7 (xeq c h u s) 1 2 8 9 36 37 38)) (kq (j7 (xo4 c h u s) 1 2 8 9 36 37 38))))))))))))
noncomputable abbrev x1my:=VX x3m 10 r_0
theorem x13d:x1my c h u (x17f x3m) r_0 eNil=j2 (xet c h u) 0 1:=(kq (j2 (xet c h u) 0 1))
noncomputable abbrev x1mz:=VX x16 15 r_10
theorem x13e:x1mz c h u (x17f x16) r_10 eNil=j3 (xeu c h u) 0 1 2:=(kq (j3 (xeu c h u) 0 1 2))
noncomputable abbrev x1n0:=VX x5s 19 r_0
theorem x13f:x1n0 c h u (x17f x5s) r_0 eNil=j2 (xew c h u) 0 1:=(tq (j2 (xew c h u) 0 1) (sqN 1 (sq2 (kq (j0 (xo8 c h u))) (tq (j2 (xoa c h u) 0 1) (sqN 1 (bk 0 (lq (xev c h u) (λr=>j4 r 0 1 7 8) λrec0=>(kq (j4 (xo9 c h u rec0) 0 1 7 8)))))))))
noncomputable abbrev x1n1:=VX x5t 9 r_11
theorem x13g:x1n1 c h u (x17f x5t) r_11 eNil=j2 (xex c h u) 0 1:=(kq (j2 (xex c h u) 0 1))
noncomputable abbrev x1n2:=VX x3n 37 r_2
theorem x13h:x1n2 c h u (x17f x3n) r_2 eNil=j1 (xey c h u) 0:=(kq (j1 (xey c h u) 0))
noncomputable abbrev x1n3:=VX x1m 13 r_17
theorem x13i:x1n3 c h u (x17f x1m) r_17 eNil=j2 (xez c h u) 0 1:=(kq (j2 (xez c h u) 0 1))
noncomputable abbrev x1n4:=VX x2e 21 r_24
theorem x13j:x1n4 c h u (x17f x2e) r_24 eNil=j1 (xf0 c h u) 0:=(kq (j1 (xf0 c h u) 0))
noncomputable abbrev x1n5:=VX x5u 113 r_0
theorem x13k:x1n5 c h u (x17f x5u) r_0 eNil=j2 (xf3 c h u) 0 1:=(tq (j2 (xf3 c h u) 0 1) (sqN 7 (sq2 (kq (j3 (xob c h u) 0 10 11)) (tq (j4 (xoe c h u) 0 8 10 11) (sqN 1 (bk 1 (lq (xf2 c h u) (λr=>j7 r 0 8 10 11 80 81 82) λrec0=>(tq (j7 (xod c h u rec0) 0 8 10 11 80 81 82) (sqN 2 (sq2 (kq (j7 (xf1 c h u rec0) 0 8 10 11 80 81 82)) (kq (j7 (xoc c h u rec0) 0 8 10 11 80 81 82))))))))))))
noncomputable abbrev x1n6:=VX x3o 58 r_10
theorem x13l:x1n6 c h u (x17f x3o) r_10 eNil=j3 (xf4 c h u) 0 1 2:=(kq (j3 (xf4 c h u) 0 1 2))
noncomputable abbrev x1n7:=VX x5v 9 r_2
theorem x13m:x1n7 c h u (x17f x5v) r_2 eNil=j1 (xf5 c h u) 0:=(kq (j1 (xf5 c h u) 0))
noncomputable abbrev x1n8:=VX x2f 8 r_0
theorem x13n:x1n8 c h u (x17f x2f) r_0 eNil=j2 (xf6 c h u) 0 1:=(kq (j2 (xf6 c h u) 0 1))
noncomputable abbrev x1n9:=VX x5w 15 r_10
theorem x13o:x1n9 c h u (x17f x5w) r_10 eNil=j3 (xf7 c h u) 0 1 2:=(kq (j3 (xf7 c h u) 0 1 2))
noncomputable abbrev x1na:=VX x5x 16 r_0
theorem x13p:x1na c h u (x17f x5x) r_0 eNil=j2 (xf8 c h u) 0 1:=(kq (j2 (xf8 c h u) 0 1))
noncomputable abbrev x1nb:=VX x2g 58 r_13
theorem x13q:x1nb c h u (x17f x2g) r_13 eNil=j5 (xa1 c h u) 0 1 2 3 4:=(tq (j5 (xa1 c h u) 0 1 2 3 4) (sqN 2 (sq2 (kq (j4 (xf9 c h u) 0 2 4 10)) (bk 0 (lq (x4p c h u) (λr=>j5 r 0 2 4 10 11) λrec0=>(kq (j5 (xfa c h u rec0) 0 2 4 10 11)))))))
noncomputable abbrev x1nc:=VX x5y 36 r_2
theorem x13r:x1nc c h u (x17f x5y) r_2 eNil=j1 (xfb c h u) 0:=(kq (j1 (xfb c h u) 0))
noncomputable abbrev x1nd:=VX xz 15 r_10
theorem x13s:x1nd c h u (x17f xz) r_10 eNil=j3 (xfc c h u) 0 1 2:=(kq (j3 (xfc c h u) 0 1 2))
noncomputable abbrev x1ne:=VX x5z 42 r_0
theorem x13t:x1ne c h u (x17f x5z) r_0 eNil=j2 (xfe c h u) 0 1:=(tq (j2 (xfe c h u) 0 1) (sqN 3 (sq2 (kq (j1 (xof c h u) 6)) (tq (j4 (xoh c h u) 1 2 5 6) (sqN 1 (bk 0 (lq (xfd c h u) (λr=>j6 r 1 5 6 14 15 16) λrec0=>(kq (j6 (xog c h u rec0) 1 5 6 14 15 16)))))))))
noncomputable abbrev x1nf:=VX x3p 38 r_0
theorem x13u:x1nf c h u (x17f x3p) r_0 eNil=j2 (xfh c h u) 0 1:=(tq (j2 (xfh c h u) 0 1) (sqN 5 (sq2 (kq (j1 (xoi c h u) 5)) (tq (j3 (xol c h u) 5 6 8) (sqN 1 (bk 0 (lq (xfg c h u) (λr=>j5 r 5 6 8 24 25) λrec0=>(tq (j5 (xok c h u rec0) 5 6 8 24 25) (sqN 2 (sq2 (kq (j5 (xff c h u rec0) 5 6 8 24 25)) (kq (j5 (xoj c h u rec0) 5 6 8 24 25))))))))))))
noncomputable abbrev x1ng:=VX x60 30 r_0
theorem x13v:x1ng c h u (x17f x60) r_0 eNil=j2 (xfk c h u) 0 1:=(tq (j2 (xfk c h u) 0 1) (sqN 2 (sq2 (kq (j1 (xon c h u) 5)) (tq (j3 (xoq c h u) 1 2 5) (sqN 1 (bk 0 (lq (xfj c h u) (λr=>j5 r 1 5 15 16 17) λrec0=>(tq (j5 (xop c h u rec0) 1 5 15 16 17) (sqN 2 (sq2 (kq (j5 (xfi c h u rec0) 1 5 15 16 17)) (kq (j5 (xoo c h u rec0) 1 5 15 16 17))))))))))))
noncomputable abbrev x1nh:=VX x61 23 r_17
theorem x13w:x1nh c h u (x17f x61) r_17 eNil=j2 (xfl c h u) 0 1:=(kq (j2 (xfl c h u) 0 1))
noncomputable abbrev x1ni:=VX x62 22 r_3
theorem x13x:x1ni c h u (x17f x62) r_3 eNil=j1 (xfm c h u) 0:=(kq (j1 (xfm c h u) 0))
noncomputable abbrev x1nj:=VX x1n 30 r_0
theorem x13y:x1nj c h u (x17f x1n) r_0 eNil=j2 (xfo c h u) 0 1:=(tq (j2 (xfo c h u) 0 1) (sqN 1 (sq2 (kq (j0 (xou c h u))) (tq (j2 (xow c h u) 0 1) (sqN 1 (bk 0 (lq (xfn c h u) (λr=>j4 r 0 9 10 11) λrec0=>(kq (j4 (xov c h u rec0) 0 9 10 11)))))))))
noncomputable abbrev x1nk:=VX x63 24 r_3
theorem x13z:x1nk c h u (x17f x63) r_3 eNil=j1 (xfp c h u) 0:=(kq (j1 (xfp c h u) 0))
noncomputable abbrev x1nl:=VX x64 18 r_3
theorem x140:x1nl c h u (x17f x64) r_3 eNil=j1 (xfq c h u) 0:=(kq (j1 (xfq c h u) 0))
noncomputable abbrev x1nm:=VX x65 22 r_3
theorem x141:x1nm c h u (x17f x65) r_3 eNil=j1 (xfr c h u) 0:=(kq (j1 (xfr c h u) 0))
noncomputable abbrev x1nn:=VX x66 8 r_3
theorem x142:x1nn c h u (x17f x66) r_3 eNil=j1 (xfs c h u) 0:=(kq (j1 (xfs c h u) 0))
noncomputable abbrev x1no:=VX x67 8 r_3
theorem x143:x1no c h u (x17f x67) r_3 eNil=j1 (xft c h u) 0:=(kq (j1 (xft c h u) 0))
noncomputable abbrev x1np:=VX x3q 26 r_3
theorem x144:x1np c h u (x17f x3q) r_3 eNil=j1 (xfu c h u) 0:=(kq (j1 (xfu c h u) 0))
noncomputable abbrev x1nq:=VX x68 8 r_0
theorem x145:x1nq c h u (x17f x68) r_0 eNil=j2 (xfw c h u) 0 1:=(kq (j2 (xfw c h u) 0 1))
noncomputable abbrev x1nr:=VX x69 8 r_2
theorem x146:x1nr c h u (x17f x69) r_2 eNil=j1 (xfx c h u) 0:=(kq (j1 (xfx c h u) 0))
noncomputable abbrev x1ns:=VX x6a 8 r_0
theorem x147:x1ns c h u (x17f x6a) r_0 eNil=j2 (xfy c h u) 0 1:=(kq (j2 (xfy c h u) 0 1))
noncomputable abbrev x1nt:=VX x6b 9 r_0
theorem x148:x1nt c h u (x17f x6b) r_0 eNil=j2 (xfz c h u) 0 1:=(kq (j2 (xfz c h u) 0 1))
noncomputable abbrev x1nu:=VX x3r 143 r_0
theorem x149:x1nu c h u (x17f x3r) r_0 eNil=j2 (xg2 c h u) 0 1:=(tq (j2 (xg2 c h u) 0 1) (sqN 8 (sq2 (kq (j0 (xp3 c h u))) (bk 1 (lq (xg1 c h u) (λr=>j8 r 0 1 5 6 7 8 9 10) λrec0=>(tq (j8 (xp6 c h u rec0) 0 1 5 6 7 8 9 10) (sqN 1 (bk 2 (sq2 (kq (j8 (xg0 c h u rec0) 0 1 5 6 7 8 9 10)) (kq (j8 (xp5 c h u rec0) 0 1 5 6 7 8 9 10)))))))))))
noncomputable abbrev x1nv:=VX x17 38 r_13
theorem x14a:x1nv c h u (x17f x17) r_13 eNil=j4 (xa5 c h u) 0 1 2 3:=(tq (j4 (xa5 c h u) 0 1 2 3) (sqN 1 (bk 0 (lq (x35 c h u) (λr=>j5 r 0 1 2 3 10) λrec0=>(kq (j5 (xa4 c h u rec0) 0 1 2 3 10))))))
noncomputable abbrev x1nw:=VX x6c 11 r_2
theorem x14b:x1nw c h u (x17f x6c) r_2 eNil=j1 (xg3 c h u) 0:=(kq (j1 (xg3 c h u) 0))
noncomputable abbrev x1nx:=VX x3s 9 r_0
theorem x14c:x1nx c h u (x17f x3s) r_0 eNil=j2 (xg4 c h u) 0 1:=(kq (j2 (xg4 c h u) 0 1))
noncomputable abbrev x1ny:=VX x6d 6 r_2
theorem x14d:x1ny c h u (x17f x6d) r_2 eNil=j1 (xg5 c h u) 0:=(kq (j1 (xg5 c h u) 0))
noncomputable abbrev x1nz:=VX x3t 10 r_0
theorem x14e:x1nz c h u (x17f x3t) r_0 eNil=j2 (xg6 c h u) 0 1:=(kq (j2 (xg6 c h u) 0 1))
noncomputable abbrev x1o0:=VX x6e 6 r_2
theorem x14f:x1o0 c h u (x17f x6e) r_2 eNil=j1 (xg7 c h u) 0:=(kq (j1 (xg7 c h u) 0))
noncomputable abbrev x1o1:=VX x6f 51 r_2
theorem x14g:x1o1 c h u (x17f x6f) r_2 eNil=j1 (xgb c h u) 0:=(tq (j1 (xgb c h u) 0) (sqN 2 (sq2 (tq (j3 (xpb c h u) 1 3 4) (sqN 2 (sq2 (kq (j1 (xp7 c h u) 4)) (tq (j4 (xpa c h u) 1 3 4 6) (sqN 1 (bk 2 (lq (xg9 c h u) (λr=>j6 r 1 4 6 29 30 31) λrec0=>(tq (j6 (xp9 c h u rec0) 1 4 6 29 30 31) (sqN 2 (sq2 (kq (j6 (xg8 c h u rec0) 1 4 6 29 30 31)) (kq (j6 (xp8 c h u rec0) 1 4 6 29 30 31)))))))))))) (tq (j3 (xpd c h u) 1 3 4) (sqN 1 (bk 0 (lq (xga c h u) (λr=>j5 r 1 3 4 12 13) λs=>(kq (j5 (xpc c h u s) 1 3 4 12 13)))))))))
noncomputable abbrev x1o2:=VX x6g 43 r_13
theorem x14h:x1o2 c h u (x17f x6g) r_13 eNil=j7 (xgd c h u) 0 1 2 3 4 5 6:=(tq (j7 (xgd c h u) 0 1 2 3 4 5 6) (sqN 3 (bk 0 (tq (j6 (xpg c h u) 1 4 5 6 7 16) (rg (.tmp 16) #[17,18] (λu=>(kq (j7 (xpe c h u) 1 4 5 6 7 8 9))) (λu=>(kq (j7 (xpf c h u) 1 4 5 6 7 17 18))))))))
noncomputable abbrev x1o3:=VX x6h 8 r_10
theorem x14i:x1o3 c h u (x17f x6h) r_10 eNil=j3 (xge c h u) 0 1 2:=(kq (j3 (xge c h u) 0 1 2))
noncomputable abbrev x1o4:=VX x3u 15 r_2
theorem x14j:x1o4 c h u (x17f x3u) r_2 eNil=j1 (xgg c h u) 0:=(tq (j1 (xgg c h u) 0) (sqN 2 (sq2 (kq (j1 (xph c h u) 3)) (tq (j2 (xpj c h u) 0 3) (sqN 1 (bk 0 (lq (xgf c h u) (λr=>j3 r 3 5 6) λrec0=>(kq (j3 (xpi c h u rec0) 3 5 6)))))))))
noncomputable abbrev x1o5:=VX x3v 44 r_0
theorem x14k:x1o5 c h u (x17f x3v) r_0 eNil=j2 (xgj c h u) 0 1:=(tq (j2 (xgj c h u) 0 1) (sqN 2 (sq2 (kq (j2 (xpk c h u) 5 6)) (tq (j3 (xpn c h u) 0 5 6) (sqN 1 (bk 0 (lq (xgi c h u) (λr=>j6 r 0 5 6 19 20 21) λrec0=>(tq (j6 (xpm c h u rec0) 0 5 6 19 20 21) (sqN 2 (sq2 (kq (j6 (xgh c h u rec0) 0 5 6 19 20 21)) (kq (j6 (xpl c h u rec0) 0 5 6 19 20 21))))))))))))
noncomputable abbrev x1o6:=VX x6i 8 r_0
theorem x14l:x1o6 c h u (x17f x6i) r_0 eNil=j2 (xgk c h u) 0 1:=(kq (j2 (xgk c h u) 0 1))
noncomputable abbrev x1o7:=VX x3w 18 r_0
theorem x14m:x1o7 c h u (x17f x3w) r_0 eNil=j2 (xgl c h u) 0 1:=(kq (j2 (xgl c h u) 0 1))
noncomputable abbrev x1o8:=VX x6j 66 r_25
theorem x14n:x1o8 c h u (x17f x6j) r_25 eNil=j4 (xgp c h u) 0 1 2 3:=(tq (j4 (xgp c h u) 0 1 2 3) (sqN 3 (sq2 (tq (j4 (xgo c h u) 0 1 2 3) (sqN 4 (sq2 (kq (j3 (xgm c h u) 0 9 10)) (bk 0 (lq (xgn c h u) (λr=>j6 r 0 1 2 3 9 10) λrec0=>(kq (j6 (xpo c h u rec0) 0 1 2 3 9 10))))))) (kq (j4 (xpp c h u) 0 1 2 3)))))
noncomputable abbrev x1o9:=VX x6k 19 r_0
theorem x14o:x1o9 c h u (x17f x6k) r_0 eNil=j2 (xgr c h u) 0 1:=(tq (j2 (xgr c h u) 0 1) (sqN 1 (sq2 (kq (j0 (xpq c h u))) (tq (j2 (xps c h u) 0 1) (sqN 1 (bk 0 (lq (xgq c h u) (λr=>j4 r 0 1 7 8) λrec0=>(kq (j4 (xpr c h u rec0) 0 1 7 8)))))))))
noncomputable abbrev x1oa:=VX x3x 8 r_0
theorem x14p:x1oa c h u (x17f x3x) r_0 eNil=j2 (xgs c h u) 0 1:=(kq (j2 (xgs c h u) 0 1))
noncomputable abbrev x1ob:=VX x6l 6 r_2
theorem x14q:x1ob c h u (x17f x6l) r_2 eNil=j1 (xgt c h u) 0:=(kq (j1 (xgt c h u) 0))
noncomputable abbrev x1oc:=VX x6m 81 r_0
theorem x14r:x1oc c h u (x17f x6m) r_0 eNil=j2 (xgw c h u) 0 1:=(tq (j2 (xgw c h u) 0 1) (sqN 4 (sq2 (tq (j6 (xpw c h u) 0 1 5 6 7 8) (sqN 1 (sq2 (kq (j0 (xpt c h u))) (tq (j6 (xpv c h u) 0 1 5 6 7 8) (sqN 1 (bk 2 (lq (xgu c h u) (λr=>j7 r 0 1 5 6 7 8 10) λrec0=>(kq (j7 (xpu c h u rec0) 0 1 5 6 7 8 10))))))))) (tq (j6 (xpy c h u) 0 1 5 6 7 8) (sqN 1 (bk 0 (lq (xgv c h u) (λr=>j7 r 0 1 5 6 7 8 9) λs=>(kq (j7 (xpx c h u s) 0 1 5 6 7 8 9)))))))))
noncomputable abbrev x1od:=VX x6n 66 r_3
theorem x14s:x1od c h u (x17f x6n) r_3 eNil=j1 (xgy c h u) 0:=(tq (j1 (xgy c h u) 0) (sqN 4 (sq2 (kq (j0 (xpz c h u))) (tq (j2 (xq2 c h u) 1 6) (sqN 1 (bk 0 (lq (xgx c h u) (λr=>j5 r 1 6 26 27 28) λrec0=>(kq (j5 (xq0 c h u rec0) 1 6 26 27 28)))))))))
noncomputable abbrev x1oe:=VX x4r 19 r_0
theorem x111:x1oe c h u (x17f x4r) r_0 eNil=j2 (xh0 c h u) 0 1:=(tq (j2 (xh0 c h u) 0 1) (sqN 1 (sq2 (kq (j0 (xq3 c h u))) (tq (j2 (xq5 c h u) 0 1) (sqN 1 (bk 0 (lq (xgz c h u) (λr=>j4 r 0 1 7 8) λrec0=>(kq (j4 (xq4 c h u rec0) 0 1 7 8)))))))))
noncomputable abbrev x1of:=VX x6o 9 r_13
theorem x14t:x1of c h u (x17f x6o) r_13 eNil=j2 (xh1 c h u) 0 1:=(kq (j2 (xh1 c h u) 0 1))
noncomputable abbrev x1og:=VX x6p 13 r_26
theorem x14u:x1og c h u (x17f x6p) r_26 eNil=j3 (xh2 c h u) 0 1 2:=(kq (j3 (xh2 c h u) 0 1 2))
noncomputable abbrev x1oh:=VX x3y 41 r_0
theorem x14v:x1oh c h u (x17f x3y) r_0 eNil=j2 (xh3 c h u) 0 1:=(kq (j2 (xh3 c h u) 0 1))
noncomputable abbrev x1oi:=VX x6q 11 r_13
theorem x14w:x1oi c h u (x17f x6q) r_13 eNil=j1 (xh4 c h u) 0:=(kq (j1 (xh4 c h u) 0))
noncomputable abbrev x1oj:=VX x6r 43 r_13
theorem x14x:x1oj c h u (x17f x6r) r_13 eNil=j4 (xh7 c h u) 0 1 2 3:=(tq (j4 (xh7 c h u) 0 1 2 3) (sqN 1 (bk 0 (lq (xh6 c h u) (λr=>j6 r 0 2 3 12 13 14) λrec0=>(tq (j6 (xqa c h u rec0) 0 2 3 12 13 14) (sqN 2 (sq2 (kq (j6 (xq6 c h u rec0) 0 2 3 12 13 14)) (bk 1 (tq (j6 (xq9 c h u rec0) 0 2 3 12 13 14) (sqN 2 (bk 2 (lq (xh5 c h u rec0) (λr=>j9 r 0 2 3 6 12 13 14 18 19) λs=>(kq (j9 (xq7 c h u rec0 s) 0 2 3 6 12 13 14 18 19))))))))))))))
noncomputable abbrev x1ok:=VX x6s 25 r_5
theorem x14y:x1ok c h u (x17f x6s) r_5 eNil=j2 (xh8 c h u) 0 1:=(kq (j2 (xh8 c h u) 0 1))
noncomputable abbrev x1ol:=VX xb5 77 r_3
theorem x14z:x1ol c h u (x17f xb5) r_3 eNil=j1 (xhc c h u) 0:=(tq (j1 (xhc c h u) 0) (sqN 2 (sq2 (kq (j1 (xqb c h u) 0)) (tq (j2 (xqj c h u) 0 4) (sqN 1 (tq (j2 (xqi c h u) 0 30) (cd (tq (j1 (xqg c h u) 0) (sqN 1 (sq2 (tq (j2 (xhb c h u) 0 5) (sqN 1 (sq2 (sq2 (kq (j1 (xh9 c h u) 6)) (kq (j2 (xqc c h u) 5 6))) (tq (j3 (xqe c h u) 0 5 6) (sqN 1 (bk 0 (lq (xha c h u) (λr=>j5 r 5 6 47 48 49) λrec0=>(kq (j5 (xqd c h u rec0) 5 6 47 48 49))))))))) (kq (j2 (xqf c h u) 0 5))))) (kq (j1 (xqh c h u) 0)))))))))
noncomputable abbrev x1om:=VX xb6 43 r_27
theorem x150:x1om c h u (x17f xb6) r_27 eNil=j5 (xhd c h u) 0 1 2 3 4:=(kq (j5 (xhd c h u) 0 1 2 3 4))
noncomputable abbrev x1on:=VX xb7 5 r_2
theorem x151:x1on c h u (x17f xb7) r_2 eNil=j1 (xhe c h u) 0:=(kq (j1 (xhe c h u) 0))
noncomputable abbrev x1oo:=VX x6t 13 r_0
theorem x152:x1oo c h u (x17f x6t) r_0 eNil=j2 (xhf c h u) 0 1:=(kq (j2 (xhf c h u) 0 1))
noncomputable abbrev x1op:=VX x6u 50 r_0
theorem x153:x1op c h u (x17f x6u) r_0 eNil=j2 (xhj c h u) 0 1:=(tq (j2 (xhj c h u) 0 1) (sqN 2 (sq2 (tq (j2 (xhi c h u) 0 1) (sqN 1 (sq2 (sq2 (kq (j1 (xhg c h u) 6)) (kq (j3 (xqk c h u) 0 1 6))) (tq (j3 (xqm c h u) 0 1 6) (sqN 1 (bk 0 (lq (xhh c h u) (λr=>j4 r 0 1 6 7) λrec0=>(kq (j4 (xql c h u rec0) 0 1 6 7))))))))) (kq (j3 (xqn c h u) 0 1 5)))))
noncomputable abbrev x1oq:=VX x6v 34 r_0
theorem x154:x1oq c h u (x17f x6v) r_0 eNil=j2 (xhl c h u) 0 1:=(tq (j2 (xhl c h u) 0 1) (sqN 4 (bk 0 (lq (xhk c h u) (λr=>j3 r 0 1 5) λrec0=>(kq (j3 (xqo c h u rec0) 0 1 5))))))
noncomputable abbrev x1or:=VX x6w 39 r_3
theorem x155:x1or c h u (x17f x6w) r_3 eNil=j1 (xhp c h u) 0:=(tq (j1 (xhp c h u) 0) (sqN 2 (sq2 (tq (j2 (xqu c h u) 0 4) (sqN 1 (sq2 (kq (j2 (xqp c h u) 4 6)) (tq (j4 (xqt c h u) 0 4 6 7) (sqN 1 (bk 2 (lq (xhn c h u) (λr=>j4 r 4 6 7 8) λrec0=>(tq (j4 (xqs c h u rec0) 4 6 7 8) (sqN 1 (sq2 (kq (j4 (xqq c h u rec0) 4 6 7 8)) (bk 3 (sq2 (kq (j4 (xhm c h u rec0) 4 6 7 8)) (kq (j4 (xqr c h u rec0) 4 6 7 8)))))))))))))) (tq (j2 (xqw c h u) 0 4) (sqN 1 (bk 0 (lq (xho c h u) (λr=>j3 r 0 4 5) λs=>(kq (j3 (xqv c h u s) 0 4 5)))))))))
noncomputable abbrev x1os:=VX x6x 42 r_3
theorem x156:x1os c h u (x17f x6x) r_3 eNil=j1 (xhr c h u) 0:=(tq (j1 (xhr c h u) 0) (sqN 2 (sq2 (kq (j0 (xqx c h u))) (tq (j1 (xqz c h u) 0) (sqN 1 (bk 0 (lq (xhq c h u) (λr=>j4 r 0 9 10 11) λrec0=>(kq (j4 (xqy c h u rec0) 0 9 10 11)))))))))
noncomputable abbrev x1ot:=VX x6y 63 r_13
theorem x157:x1ot c h u (x17f x6y) r_13 eNil=j3 (xhw c h u) 0 1 2:=(tq (j3 (xhw c h u) 0 1 2) (sqN 2 (sq2 (tq (j5 (xr4 c h u) 0 1 2 6 7) (sqN 1 (bk 2 (lq (xhu c h u) (λr=>j4 r 0 1 2 6) λrec0=>(tq (j4 (xr3 c h u rec0) 0 1 2 6) (sqN 1 (bk 3 (tq (j4 (xr2 c h u rec0) 0 1 2 6) (sqN 1 (sq2 (sq2 (kq (j4 (xhs c h u rec0) 0 1 2 6)) (kq (j5 (xr0 c h u rec0) 0 1 2 6 7))) (bk 4 (lq (xht c h u rec0) (λr=>j6 r 0 1 2 6 7 8) λs=>(kq (j6 (xr1 c h u rec0 s) 0 1 2 6 7 8)))))))))))))) (bk 0 (lq (xhv c h u) (λr=>j6 r 0 1 2 6 7 8) λw=>(kq (j6 (xr5 c h u w) 0 1 2 6 7 8)))))))
noncomputable abbrev x1ou:=VX x3z 7 r_2
theorem x158:x1ou c h u (x17f x3z) r_2 eNil=j1 (xhx c h u) 0:=(kq (j1 (xhx c h u) 0))
noncomputable abbrev x1ov:=VX x2h 134 r_13
theorem x159:x1ov c h u (x17f x2h) r_13 eNil=j4 (xi2 c h u) 0 1 2 3:=(tq (j4 (xi2 c h u) 0 1 2 3) (sqN 2 (bk 0 (lq (xi1 c h u) (λr=>j6 r 0 1 2 3 8 9) λrec0=>(bk 1 (tq (j6 (xr8 c h u rec0) 0 1 2 3 8 9) (sqN 3 (sq2 (tq (j7 (xi0 c h u rec0) 0 1 2 3 8 9 10) (sqN 1 (sq2 (sq2 (kq (j8 (xhy c h u rec0) 0 1 2 3 8 9 10 11)) (kq (j9 (xhz c h u rec0) 0 1 2 3 8 9 10 11 12))) (kq (j9 (xr6 c h u rec0) 0 1 2 3 8 9 10 11 12))))) (kq (j7 (xr7 c h u rec0) 0 1 2 3 8 9 10))))))))))
noncomputable abbrev x1ow:=VX x40 8 r_2
theorem x15a:x1ow c h u (x17f x40) r_2 eNil=j1 (xi3 c h u) 0:=(kq (j1 (xi3 c h u) 0))
noncomputable abbrev x1ox:=VX x6z 73 r_28
theorem x15b:x1ox c h u (x17f x6z) r_28 eNil=j3 (xi6 c h u) 0 1 2:=(tq (j3 (xi6 c h u) 0 1 2) (sqN 3 (sq2 (tq (j4 (xa7 c h u) 0 1 2 8) (sqN 3 (sq2 (tq (j3 (xi5 c h u) 2 8 9) (sqN 4 (sq2 (kq (j1 (xi4 c h u) 11)) (kq (j2 (xr9 c h u) 8 11))))) (kq (j3 (xra c h u) 2 8 9))))) (kq (j4 (xrb c h u) 0 1 2 8)))))
noncomputable abbrev x1oy:=VX x70 11 r_0
theorem x15c:x1oy c h u (x17f x70) r_0 eNil=j2 (xi7 c h u) 0 1:=(kq (j2 (xi7 c h u) 0 1))
noncomputable abbrev x1oz:=VX x71 11 r_0
theorem x15d:x1oz c h u (x17f x71) r_0 eNil=j2 (xi8 c h u) 0 1:=(kq (j2 (xi8 c h u) 0 1))
noncomputable abbrev x1p0:=VX x72 16 r_10
theorem x15e:x1p0 c h u (x17f x72) r_10 eNil=j3 (xi9 c h u) 0 1 2:=(kq (j3 (xi9 c h u) 0 1 2))
noncomputable abbrev x1p1:=VX x73 16 r_10
theorem x15f:x1p1 c h u (x17f x73) r_10 eNil=j3 (xia c h u) 0 1 2:=(kq (j3 (xia c h u) 0 1 2))
noncomputable abbrev x1p2:=VX x74 54 r_0
theorem x15g:x1p2 c h u (x17f x74) r_0 eNil=j2 (xic c h u) 0 1:=(tq (j2 (xic c h u) 0 1) (sqN 1 (sq2 (kq (j2 (xrc c h u) 0 1)) (tq (j2 (xrh c h u) 0 1) (sqN 1 (tq (j3 (xrg c h u) 0 1 11) (cd (tq (j1 (xre c h u) 0) (sqN 3 (sq2 (kq (j3 (xib c h u) 0 5 6)) (kq (j3 (xrd c h u) 0 5 6))))) (kq (j2 (xrf c h u) 0 1)))))))))
noncomputable abbrev x1p3:=VX x41 10 r_2
theorem x15h:x1p3 c h u (x17f x41) r_2 eNil=j1 (xid c h u) 0:=(tq (j1 (xid c h u) 0) (sqN 1 (sq2 (kq (j1 (x10u c h u) 2)) (tq (j2 (xrk c h u) 0 2) (sqN 1 (bk 0 (lq (xrj c h u) (λr=>j2 r 2 4) λrec0=>(kq (j2 (xri c h u rec0) 2 4)))))))))
noncomputable abbrev x1p4:=VX x75 19 r_3
theorem x15i:x1p4 c h u (x17f x75) r_3 eNil=j1 (xie c h u) 0:=(kq (j1 (xie c h u) 0))
noncomputable abbrev x1p5:=VX x76 49 r_2
theorem x15j:x1p5 c h u (x17f x76) r_2 eNil=j1 (xii c h u) 0:=(tq (j1 (xii c h u) 0) (sqN 2 (sq2 (kq (j0 (xrl c h u))) (tq (j1 (xrp c h u) 0) (sqN 1 (bk 0 (lq (xih c h u) (λr=>j3 r 13 14 15) λrec0=>(tq (j3 (xro c h u rec0) 13 14 15) (sqN 2 (sq2 (kq (j3 (xif c h u rec0) 13 14 15)) (bk 1 (tq (j3 (xrn c h u rec0) 13 14 15) (sqN 1 (bk 2 (sq2 (kq (j6 (xig c h u rec0) 3 4 13 14 15 20)) (kq (j5 (xrm c h u rec0) 3 4 13 14 15)))))))))))))))))
noncomputable abbrev x1p6:=VX x77 9 r_0
theorem x15k:x1p6 c h u (x17f x77) r_0 eNil=j2 (xij c h u) 0 1:=(kq (j2 (xij c h u) 0 1))
noncomputable abbrev x1p7:=VX x78 9 r_11
theorem x15l:x1p7 c h u (x17f x78) r_11 eNil=j2 (xik c h u) 0 1:=(kq (j2 (xik c h u) 0 1))
noncomputable abbrev x1p8:=VX x42 53 r_13
theorem x15m:x1p8 c h u (x17f x42) r_13 eNil=j4 (xin c h u) 0 1 2 3:=(tq (j4 (xin c h u) 0 1 2 3) (sqN 1 (bk 0 (lq (xim c h u) (λr=>j5 r 0 1 2 3 8) λrec0=>(tq (j5 (xrt c h u rec0) 0 1 2 3 8) (sqN 1 (sq2 (kq (j5 (xrq c h u rec0) 0 1 2 3 8)) (bk 1 (tq (j5 (xrs c h u rec0) 0 1 2 3 8) (sqN 1 (bk 2 (lq (xil c h u rec0) (λr=>j6 r 0 1 2 3 8 9) λs=>(kq (j6 (xrr c h u rec0 s) 0 1 2 3 8 9))))))))))))))
noncomputable abbrev x1p9:=VX x1o 220 r_13
theorem x15n:x1p9 c h u (x17f x1o) r_13 eNil=j5 (xiw c h u) 0 1 2 3 4:=(sq2 (sq2 (tq (j5 (xry c h u) 0 1 2 3 4) (sqN 3 (sq2 (tq (j9 (xir c h u) 0 1 2 3 4 18 19 20 21) (sqN 1 (sq2 (tq (j8 (xrv c h u) 0 1 2 3 4 18 19 20) (sqN 1 (sq2 (sq2 (kq (j5 (xio c h u) 0 3 4 18 24)) (kq (j7 (xip c h u) 0 1 3 4 18 20 24))) (kq (j8 (xru c h u) 0 1 2 3 4 18 20 24))))) (bk 8 (lq (xiq c h u) (λr=>j10 r 0 1 2 3 4 18 19 20 21 22) λrec0=>(kq (j10 (xrw c h u rec0) 0 1 2 3 4 18 19 20 21 22))))))) (kq (j7 (xrx c h u) 0 1 2 3 4 18 19))))) (tq (j5 (xs6 c h u) 0 1 2 3 4) (sqN 1 (tq (j6 (xs5 c h u) 0 1 2 3 4 80) (cd (tq (j4 (xs3 c h u) 0 1 2 4) (sqN 2 (sq2 (sq2 (kq (j0 (xrz c h u))) (tq (j3 (xs1 c h u) 0 2 14) (sqN 1 (bk 6 (lq (xis c h u) (λr=>j3 r 0 14 17) λs=>(kq (j3 (xs0 c h u s) 0 14 17))))))) (bk 4 (lq (xit c h u) (λr=>j5 r 0 2 4 14 15) λw=>(kq (j5 (xs2 c h u w) 0 2 4 14 15))))))) (kq (j5 (xs4 c h u) 0 1 2 3 4))))))) (tq (j5 (xiw c h u) 0 1 2 3 4) (sqN 1 (tq (j6 (xsd c h u) 0 1 2 3 4 28) (cd (tq (j5 (xsb c h u) 0 1 2 3 4) (sqN 2 (sq2 (sq2 (kq (j0 (xs7 c h u))) (tq (j3 (xs9 c h u) 0 1 10) (sqN 1 (bk 2 (lq (xiu c h u) (λr=>j3 r 0 10 13) λz=>(kq (j3 (xs8 c h u z) 0 10 13))))))) (bk 0 (lq (xiv c h u) (λr=>j5 r 0 1 4 10 11) λy=>(kq (j5 (xsa c h u y) 0 1 4 10 11))))))) (kq (j5 (xsc c h u) 0 1 2 3 4)))))))
noncomputable abbrev x1pa:=VX x79 49 r_13
theorem x15o:x1pa c h u (x17f x79) r_13 eNil=j3 (xiz c h u) 0 1 2:=(tq (j3 (xiz c h u) 0 1 2) (sqN 1 (bk 0 (lq (xiy c h u) (λr=>j4 r 0 1 2 6) λrec0=>(tq (j4 (xsh c h u rec0) 0 1 2 6) (sqN 1 (sq2 (kq (j4 (xse c h u rec0) 0 1 2 6)) (bk 1 (tq (j4 (xsg c h u rec0) 0 1 2 6) (sqN 1 (bk 2 (lq (xix c h u rec0) (λr=>j5 r 0 1 2 6 7) λs=>(kq (j5 (xsf c h u rec0 s) 0 1 2 6 7))))))))))))))
noncomputable abbrev x1pb:=VX x7a 56 r_13
theorem x15p:x1pb c h u (x17f x7a) r_13 eNil=j3 (xj2 c h u) 0 1 2:=(tq (j3 (xj2 c h u) 0 1 2) (sqN 3 (sq2 (tq (j4 (xsj c h u) 0 6 7 8) (sqN 1 (bk 2 (lq (xj0 c h u) (λr=>j4 r 0 6 7 10) λrec0=>(kq (j4 (xsi c h u rec0) 0 6 7 10)))))) (tq (j4 (xsl c h u) 0 6 7 8) (sqN 1 (bk 0 (lq (xj1 c h u) (λr=>j5 r 0 6 7 8 9) λs=>(kq (j5 (xsk c h u s) 0 6 7 8 9)))))))))
noncomputable abbrev x1pc:=VX x7b 65 r_13
theorem x15q:x1pc c h u (x17f x7b) r_13 eNil=j3 (xj5 c h u) 0 1 2:=(tq (j3 (xj5 c h u) 0 1 2) (sqN 2 (tq (j4 (xss c h u) 0 1 6 15) (cd (tq (j3 (xsq c h u) 0 1 6) (sqN 3 (bk 0 (lq (xj4 c h u) (λr=>j6 r 0 1 6 7 8 9) λrec0=>(tq (j6 (xsp c h u rec0) 0 1 6 7 8 9) (sqN 1 (sq2 (kq (j6 (xsm c h u rec0) 0 1 6 7 8 9)) (bk 1 (tq (j6 (xso c h u rec0) 0 1 6 7 8 9) (sqN 1 (sq2 (kq (j7 (xj3 c h u rec0) 0 1 6 7 8 9 10)) (kq (j7 (xsn c h u rec0) 0 1 6 7 8 9 10))))))))))))) (kq (j0 (xsr c h u)))))))
noncomputable abbrev x1pd:=VX x7c 57 r_28
theorem x15r:x1pd c h u (x17f x7c) r_28 eNil=j3 (xj8 c h u) 0 1 2:=(tq (j3 (xj8 c h u) 0 1 2) (sqN 6 (sq2 (kq (j2 (xj6 c h u) 9 11)) (tq (j6 (xsw c h u) 0 8 9 10 11 12) (sqN 1 (tq (j7 (xsv c h u) 0 8 9 10 11 12 32) (cd (sq2 (kq (j5 (xj7 c h u) 0 9 10 11 12)) (kq (j6 (xst c h u) 0 8 9 10 11 12))) (kq (j2 (xsu c h u) 9 11)))))))))
noncomputable abbrev x1pe:=VX x7d 32 r_13
theorem x15s:x1pe c h u (x17f x7d) r_13 eNil=j3 (xja c h u) 0 1 2:=(tq (j3 (xja c h u) 0 1 2) (sqN 2 (bk 0 (lq (xj9 c h u) (λr=>j3 r 0 6 7) λrec0=>(kq (j3 (xsx c h u rec0) 0 6 7))))))
noncomputable abbrev x1pf:=VX x7e 133 r_10
theorem x15t:x1pf c h u (x17f x7e) r_10 eNil=j3 (xjf c h u) 0 1 2:=(tq (j3 (xjf c h u) 0 1 2) (sqN 2 (sq2 (kq (j0 (xsy c h u))) (tq (j4 (xtb c h u) 0 1 2 7) (sqN 1 (bk 0 (lq (xje c h u) (λr=>j5 r 0 1 2 7 8) λrec0=>(tq (j5 (xta c h u rec0) 0 1 2 7 8) (sqN 1 (sq2 (kq (j5 (xa9 c h u rec0) 0 1 2 7 8)) (bk 1 (sq2 (tq (j5 (xt8 c h u rec0) 0 1 2 7 8) (sqN 3 (sq2 (tq (j5 (xaa c h u rec0) 0 1 2 7 8) (sqN 1 (tq (j6 (xt2 c h u rec0) 0 1 2 7 8 98) (cd (tq (j5 (xt0 c h u rec0) 0 1 2 7 8) (sqN 1 (bk 6 (lq (xjb c h u rec0) (λr=>j6 r 0 1 2 7 8 10) λs=>(kq (j6 (xsz c h u rec0 s) 0 1 2 7 8 10)))))) (kq (j5 (xt1 c h u rec0) 0 1 2 7 8)))))) (tq (j5 (xt7 c h u rec0) 0 1 2 7 8) (sqN 1 (tq (j6 (xt6 c h u rec0) 0 1 2 7 8 61) (cd (tq (j5 (xt4 c h u rec0) 0 1 2 7 8) (sqN 1 (bk 4 (lq (xjc c h u rec0) (λr=>j6 r 0 1 2 7 8 9) λw=>(kq (j6 (xt3 c h u rec0 w) 0 1 2 7 8 9)))))) (kq (j5 (xt5 c h u rec0) 0 1 2 7 8))))))))) (bk 2 (lq (xjd c h u rec0) (λr=>j5 r 0 1 2 7 8) λz=>(kq (j5 (xt9 c h u rec0 z) 0 1 2 7 8))))))))))))))))
noncomputable abbrev x1pg:=VX xa 17 r_0
theorem x15u:x1pg c h u (x17f xa) r_0 eNil=j2 (xjg c h u) 0 1:=(kq (j2 (xjg c h u) 0 1))
noncomputable abbrev x1ph:=VX x7f 84 r_25
theorem x15v:x1ph c h u (x17f x7f) r_25 eNil=j4 (xjk c h u) 0 1 2 3:=(tq (j4 (xjk c h u) 0 1 2 3) (sqN 3 (sq2 (kq (j1 (xtc c h u) 9)) (bk 0 (lq (xjj c h u) (λr=>j4 r 0 1 9 10) λrec0=>(bk 1 (sq2 (sq2 (kq (j4 (xtd c h u rec0) 0 1 9 10)) (bk 4 (lq (xjh c h u rec0) (λr=>j4 r 0 1 9 10) λs=>(kq (j4 (xte c h u rec0 s) 0 1 9 10))))) (bk 2 (lq (xji c h u rec0) (λr=>j4 r 0 1 9 10) λw=>(kq (j4 (xtf c h u rec0 w) 0 1 9 10)))))))))))
noncomputable abbrev x1pi:=VX x7g 168 r_29
theorem x15w:x1pi c h u (x17f x7g) r_29 eNil=j4 (xjq c h u) 0 1 2 3:=(tq (j4 (xjq c h u) 0 1 2 3) (sqN 3 (sq2 (sq2 (tq (j4 (xtk c h u) 0 1 10 11) (sqN 4 (sq2 (kq (j3 (xtg c h u) 0 1 11)) (bk 4 (lq (xjn c h u) (λr=>j4 r 0 1 10 11) λrec0=>(bk 5 (sq2 (sq2 (kq (j4 (xth c h u rec0) 0 1 10 11)) (bk 8 (lq (xjl c h u rec0) (λr=>j4 r 0 1 10 11) λs=>(kq (j4 (xti c h u rec0 s) 0 1 10 11))))) (bk 6 (lq (xjm c h u rec0) (λr=>j4 r 0 1 10 11) λw=>(kq (j4 (xtj c h u rec0 w) 0 1 10 11))))))))))) (bk 2 (lq (xjo c h u) (λr=>j4 r 0 1 10 11) λz=>(kq (j4 (xtl c h u z) 0 1 10 11))))) (bk 0 (lq (xjp c h u) (λr=>j4 r 0 1 10 11) λy=>(kq (j4 (xtm c h u y) 0 1 10 11)))))))
noncomputable abbrev x1pj:=VX x7h 19 r_2
theorem x15x:x1pj c h u (x17f x7h) r_2 eNil=j1 (xjt c h u) 0:=(tq (j1 (xjt c h u) 0) (sqN 1 (sq2 (sq2 (kq (j2 (xjr c h u) 0 2)) (kq (j2 (xjs c h u) 0 2))) (kq (j2 (xtn c h u) 0 2)))))
noncomputable abbrev x1pk:=VX x43 25 r_2
theorem x15y:x1pk c h u (x17f x43) r_2 eNil=j1 (xjx c h u) 0:=(tq (j1 (xjx c h u) 0) (sqN 1 (sq2 (sq2 (sq2 (kq (j2 (xju c h u) 0 2)) (kq (j2 (xjv c h u) 0 2))) (kq (j2 (xjw c h u) 0 2))) (kq (j2 (xto c h u) 0 2)))))
noncomputable abbrev x1pl:=VX x7i 172 r_28
theorem x15z:x1pl c h u (x17f x7i) r_28 eNil=j3 (xk2 c h u) 0 1 2:=(tq (j3 (xk2 c h u) 0 1 2) (sqN 4 (sq2 (sq2 (tq (j5 (xk1 c h u) 0 1 2 8 9) (sqN 1 (sq2 (tq (j6 (xab c h u) 0 1 2 8 9 10) (sqN 3 (sq2 (kq (j3 (xtp c h u) 9 12 13)) (tq (j8 (xtt c h u) 0 1 8 9 10 11 12 13) (sqN 1 (bk 3 (lq (xk0 c h u) (λr=>j10 r 1 8 9 10 11 12 13 99 100 101) λrec0=>(tq (j10 (xts c h u rec0) 1 8 9 10 11 12 13 99 100 101) (sqN 2 (sq2 (kq (j10 (xjy c h u rec0) 1 8 9 10 11 12 13 99 100 101)) (bk 4 (tq (j10 (xtr c h u rec0) 1 8 9 10 11 12 13 99 100 101) (sqN 2 (sq2 (kq (j11 (xjz c h u rec0) 1 8 9 10 11 12 13 16 99 100 101)) (kq (j11 (xtq c h u rec0) 1 8 9 10 11 12 13 15 99 100 101)))))))))))))))) (kq (j5 (xtu c h u) 0 1 2 8 9))))) (kq (j5 (x24 c h u) 0 1 2 8 9))) (kq (j5 (xtv c h u) 0 1 2 8 9)))))
noncomputable abbrev x1pm:=VX x1p 18 r_2
theorem x160:x1pm c h u (x17f x1p) r_2 eNil=j1 (xk3 c h u) 0:=(kq (j1 (xk3 c h u) 0))
noncomputable abbrev x1pn:=VX x44 7 r_2
theorem x161:x1pn c h u (x17f x44) r_2 eNil=j1 (xk4 c h u) 0:=(kq (j1 (xk4 c h u) 0))
noncomputable abbrev x1po:=VX x7j 15 r_2
theorem x162:x1po c h u (x17f x7j) r_2 eNil=j1 (xk5 c h u) 0:=(kq (j1 (xk5 c h u) 0))
noncomputable abbrev x1pp:=VX x7k 15 r_2
theorem x163:x1pp c h u (x17f x7k) r_2 eNil=j1 (xk6 c h u) 0:=(kq (j1 (xk6 c h u) 0))
noncomputable abbrev x1pq:=VX x7l 167 r_13
theorem x164:x1pq c h u (x17f x7l) r_13 eNil=j2 (xka c h u) 0 1:=(tq (j2 (xka c h u) 0 1) (sqN 1 (sq2 (tq (j3 (xtx c h u) 0 1 4) (sqN 1 (sq2 (sq2 (kq (j3 (xk7 c h u) 0 4 12)) (kq (j3 (xk8 c h u) 0 4 12))) (kq (j3 (xtw c h u) 0 4 12))))) (bk 0 (lq (xk9 c h u) (λr=>j3 r 0 1 4) λrec0=>(kq (j3 (xty c h u rec0) 0 1 4)))))))
noncomputable abbrev x1pr:=VX x7m 102 r_30
theorem x165:x1pr c h u (x17f x7m) r_30 eNil=j5 (xkg c h u) 0 1 2 3 4:=(tq (j5 (xkg c h u) 0 1 2 3 4) (sqN 1 (sq2 (tq (j7 (xu7 c h u) 0 1 2 3 4 10 11) (sqN 2 (sq2 (sq2 (sq2 (kq (j6 (xkb c h u) 0 4 10 11 12 13)) (kq (j7 (xkc c h u) 0 3 4 10 11 12 13))) (tq (j9 (xkf c h u) 0 1 2 3 4 10 11 12 13) (sqN 1 (tq (j10 (xu5 c h u) 0 1 2 3 4 10 11 12 13 34) (cd (tq (j9 (xu1 c h u) 0 1 2 3 4 10 11 12 13) (sqN 3 (sq2 (kq (j8 (xtz c h u) 0 1 3 4 10 11 12 13)) (bk 0 (lq (xkd c h u) (λr=>j11 r 0 1 3 4 10 11 12 13 14 15 16) λrec0=>(kq (j11 (xu0 c h u rec0) 0 1 3 4 10 11 12 13 14 15 16))))))) (tq (j9 (xu4 c h u) 0 1 2 3 4 10 11 12 13) (sqN 1 (sq2 (kq (j8 (xu2 c h u) 0 1 3 4 10 11 12 13)) (bk 2 (lq (xke c h u) (λr=>j9 r 0 1 3 4 10 11 12 13 17) λs=>(kq (j9 (xu3 c h u s) 0 1 3 4 10 11 12 13 17)))))))))))) (kq (j9 (xu6 c h u) 0 1 2 3 4 10 11 12 13))))) (kq (j7 (xu8 c h u) 0 1 2 3 4 10 11)))))
noncomputable abbrev x1ps:=VX x7n 117 r_3
theorem x166:x1ps c h u (x17f x7n) r_3 eNil=j1 (xkh c h u) 0:=(kq (j1 (xkh c h u) 0))
noncomputable abbrev x1pt:=VX x7o 19 r_0
theorem x167:x1pt c h u (x17f x7o) r_0 eNil=j2 (xkj c h u) 0 1:=(tq (j2 (xkj c h u) 0 1) (sqN 1 (sq2 (kq (j0 (xu9 c h u))) (tq (j2 (xub c h u) 0 1) (sqN 1 (bk 0 (lq (xki c h u) (λr=>j4 r 0 1 7 8) λrec0=>(kq (j4 (xua c h u rec0) 0 1 7 8)))))))))
noncomputable abbrev x1pu:=VX x7p 58 r_13
theorem x168:x1pu c h u (x17f x7p) r_13 eNil=j5 (xkl c h u) 0 1 2 3 4:=(tq (j5 (xkl c h u) 0 1 2 3 4) (sqN 2 (sq2 (kq (j4 (xuc c h u) 0 2 4 10)) (bk 0 (lq (xkk c h u) (λr=>j5 r 0 2 4 10 11) λrec0=>(kq (j5 (xud c h u rec0) 0 2 4 10 11)))))))
noncomputable abbrev x1pv:=VX x45 76 r_13
theorem x169:x1pv c h u (x17f x45) r_13 eNil=j4 (xko c h u) 0 1 2 3:=(tq (j4 (xko c h u) 0 1 2 3) (sqN 1 (bk 0 (lq (xkn c h u) (λr=>j4 r 0 2 3 8) λrec0=>(bk 1 (tq (j4 (xuf c h u rec0) 0 2 3 8) (sqN 2 (sq2 (kq (j5 (xkm c h u rec0) 0 2 3 8 9)) (kq (j5 (xue c h u rec0) 0 2 3 8 9))))))))))
noncomputable abbrev x1pw:=VX x7q 7 r_2
theorem x16a:x1pw c h u (x17f x7q) r_2 eNil=j1 (xkp c h u) 0:=(kq (j1 (xkp c h u) 0))
noncomputable abbrev x1px:=VX x7r 33 r_2
theorem x16b:x1px c h u (x17f x7r) r_2 eNil=j1 (xkq c h u) 0:=(kq (j1 (xkq c h u) 0))
noncomputable abbrev x1py:=VX x2i 15 r_10
theorem x16c:x1py c h u (x17f x2i) r_10 eNil=j3 (xkr c h u) 0 1 2:=(kq (j3 (xkr c h u) 0 1 2))
noncomputable abbrev x1pz:=VX x46 36 r_27
theorem x16d:x1pz c h u (x17f x46) r_27 eNil=j5 (xks c h u) 0 1 2 3 4:=(kq (j5 (xks c h u) 0 1 2 3 4))
noncomputable abbrev x1q0:=VX x47 6 r_2
theorem x16e:x1q0 c h u (x17f x47) r_2 eNil=j1 (xkt c h u) 0:=(kq (j1 (xkt c h u) 0))
noncomputable abbrev x1q1:=VX xb 5 r_2
theorem x16f:x1q1 c h u (x17f xb) r_2 eNil=j1 (xku c h u) 0:=(kq (j1 (xku c h u) 0))
noncomputable abbrev x1q2:=VX x7s 94 r_2
theorem x16g:x1q2 c h u (x17f x7s) r_2 eNil=j1 (xkw c h u) 0:=(tq (j1 (xkw c h u) 0) (sqN 3 (sq2 (tq (j3 (xkv c h u) 0 3 4) (sqN 1 (sq2 (sq2 (kq (j1 (xug c h u) 3)) (bk 0 (lq (xad c h u) (λr=>j4 r 0 3 4 5) λrec0=>(tq (j4 (xui c h u rec0) 0 3 4 5) (sqN 1 (sq2 (kq (j4 (xac c h u rec0) 0 3 4 5)) (kq (j4 (xuh c h u rec0) 0 3 4 5)))))))) (kq (j4 (xuj c h u) 0 3 4 5))))) (kq (j3 (xuk c h u) 0 3 4)))))
noncomputable abbrev x1q3:=VX x7t 6 r_2
theorem x16h:x1q3 c h u (x17f x7t) r_2 eNil=j1 (xkx c h u) 0:=(kq (j1 (xkx c h u) 0))
noncomputable abbrev x1q4:=VX x7u 4 r_2
theorem x16i:x1q4 c h u (x17f x7u) r_2 eNil=j1 (xky c h u) 0:=(kq (j1 (xky c h u) 0))
noncomputable abbrev x1q5:=VX x7v 8 r_2
theorem x16j:x1q5 c h u (x17f x7v) r_2 eNil=j1 (xkz c h u) 0:=(kq (j1 (xkz c h u) 0))
noncomputable abbrev x1q6:=VX x7w 8 r_2
theorem x16k:x1q6 c h u (x17f x7w) r_2 eNil=j1 (xl0 c h u) 0:=(kq (j1 (xl0 c h u) 0))
noncomputable abbrev x1q7:=VX x2j 38 r_13
theorem x16l:x1q7 c h u (x17f x2j) r_13 eNil=j4 (xl2 c h u) 0 1 2 3:=(tq (j4 (xl2 c h u) 0 1 2 3) (sqN 1 (bk 0 (lq (xl1 c h u) (λr=>j5 r 0 1 2 3 10) λrec0=>(kq (j5 (xul c h u rec0) 0 1 2 3 10))))))
noncomputable abbrev x1q8:=VX x2k 28 r_29
theorem x16m:x1q8 c h u (x17f x2k) r_29 eNil=j4 (xl3 c h u) 0 1 2 3:=(kq (j4 (xl3 c h u) 0 1 2 3))
noncomputable abbrev x1q9:=VX x7x 14 r_2
theorem x16n:x1q9 c h u (x17f x7x) r_2 eNil=j1 (xl4 c h u) 0:=(kq (j1 (xl4 c h u) 0))
noncomputable abbrev x1qa:=VX x7y 14 r_2
theorem x16o:x1qa c h u (x17f x7y) r_2 eNil=j1 (xl5 c h u) 0:=(kq (j1 (xl5 c h u) 0))
end Go.Ix
