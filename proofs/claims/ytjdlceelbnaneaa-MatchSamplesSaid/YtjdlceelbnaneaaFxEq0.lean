import Derived.Test.YtjdlceelbnaneaaFxText0
import Derived.Test.YtjdlceelbnaneaaFxEnt
import Derived.Test.YtjdlceelbnaneaaFxRules
import Derived.Test.YtjdlceelbnaneaaFxProj
import Derived.ProofKit
set_option linter.unusedVariables false
namespace Go.Ix
open Go.Proofs
variable{c:x7q}{h:FHs}{u:Nat}
noncomputable abbrev xjt:=VX x1t 127 r_0
theorem x6j:xjt c h u (x80 x1t) r_0 eNil=j3 (x2c c h u) 0 1 2:=(tq (j3 (x2c c h u) 0 1 2) (sqN 6 (sq2 (sq2 (kq (j7 (xk c h u) 1 3 5 7 8 9 10)) (kq (j7 (x2b c h u) 1 3 5 7 8 9 10))) (kq (j7 (x4q c h u) 1 3 5 7 8 9 10)))))
noncomputable abbrev xju:=VX x7 15 r_0
theorem x6k:xju c h u (x80 x7) r_0 eNil=j3 (x2d c h u) 0 1 2:=(kq (j3 (x2d c h u) 0 1 2))
noncomputable abbrev xjv:=VX xm 14 r_1
theorem x6l:xjv c h u (x80 xm) r_1 eNil=j2 (x2e c h u) 0 1:=(tq (j2 (x2e c h u) 0 1) (sqN 2 (sq2 (kq (j1 (x1v c h u) 0)) (kq (j2 (x4s c h u) 0 1)))))
noncomputable abbrev xjw:=VX x9 16 r_1
theorem x6m:xjw c h u (x80 x9) r_1 eNil=j2 (x2f c h u) 0 1:=(tq (j2 (x2f c h u) 0 1) (sqN 2 (sq2 (kq (j1 (x1w c h u) 5)) (kq (j3 (x4t c h u) 0 1 5)))))
noncomputable abbrev xjx:=VX x10 5 r_2
theorem x6n:xjx c h u (x80 x10) r_2 eNil=j1 (x2g c h u) 0:=(kq (j1 (x2g c h u) 0))
noncomputable abbrev xjy:=VX x11 7 r_2
theorem x6o:xjy c h u (x80 x11) r_2 eNil=j1 (x2h c h u) 0:=(kq (j1 (x2h c h u) 0))
noncomputable abbrev xjz:=VX xg 10 r_3
theorem x6p:xjz c h u (x80 xg) r_3 eNil=j1 (x2i c h u) 0:=(kq (j1 (x2i c h u) 0))
noncomputable abbrev xk0:=VX xn 35 r_4
theorem x6q:xk0 c h u (x80 xn) r_4 eNil=j3 (x2j c h u) 0 1 2:=(kq (j3 (x2j c h u) 0 1 2))
noncomputable abbrev xk1:=VX x12 11 r_2
theorem x6r:xk1 c h u (x80 x12) r_2 eNil=j1 (x2k c h u) 0:=(kq (j1 (x2k c h u) 0))
noncomputable abbrev xk2:=VX xh 45 r_1
theorem x6s:xk2 c h u (x80 xh) r_1 eNil=j2 (x2m c h u) 0 1:=(tq (j2 (x2m c h u) 0 1) (sqN 2 (sq2 (kq (j0 (x4v c h u))) (tq (j2 (x4w c h u) 0 1) (sqN 1 (bk 0 (lq (x1l c h u) (λr=>j3 r 0 1 5) λrec0=>(kq (j3 (x2l c h u rec0) 0 1 5)))))))))
noncomputable abbrev xk3:=VX x13 108 r_4
theorem x6t:xk3 c h u (x80 x13) r_4 eNil=j3 (x2r c h u) 0 1 2:=(tq (j3 (x2r c h u) 0 1 2) (sqN 4 (sq2 (tq (j7 (x1x c h u) 3 8 9 10 11 12 13) (sqN 1 (sq2 (kq (j4 (x2n c h u) 11 13 14 15)) (tq (j9 (x4y c h u) 3 8 9 10 11 12 13 14 15) (sqN 1 (bk 0 (lq (xy c h u) (λr=>j10 r 3 8 9 10 11 12 13 14 15 16) λrec0=>(tq (j10 (x2q c h u rec0) 3 8 9 10 11 12 13 14 15 16) (sqN 1 (sq2 (kq (j10 (x2o c h u rec0) 3 8 9 10 11 12 13 14 15 16)) (bk 1 (tq (j10 (x4x c h u rec0) 3 8 9 10 11 12 13 14 15 16) (sqN 1 (bk 2 (lq (x1n c h u rec0) (λr=>j11 r 3 8 9 10 11 12 13 14 15 16 17) λs=>(kq (j11 (x2p c h u rec0 s) 3 8 9 10 11 12 13 14 15 16 17))))))))))))))))) (kq (j7 (x4z c h u) 3 8 9 10 11 12 13)))))
noncomputable abbrev xk4:=VX xo 14 r_1
theorem x6u:xk4 c h u (x80 xo) r_1 eNil=j2 (x2s c h u) 0 1:=(kq (j2 (x2s c h u) 0 1))
noncomputable abbrev xk5:=VX xp 26 r_4
theorem x6v:xk5 c h u (x80 xp) r_4 eNil=j3 (x2t c h u) 0 1 2:=(kq (j3 (x2t c h u) 0 1 2))
noncomputable abbrev xk6:=VX x14 35 r_5
theorem x6w:xk6 c h u (x80 x14) r_5 eNil=j3 (x2u c h u) 0 1 2:=(tq (j3 (x2u c h u) 0 1 2) (sqN 2 (sq2 (kq (j2 (x50 c h u) 6 7)) (tq (j3 (x52 c h u) 2 6 7) (sqN 1 (bk 0 (lq (x1z c h u) (λr=>j4 r 2 6 7 8) λrec0=>(kq (j4 (x51 c h u rec0) 2 6 7 8)))))))))
noncomputable abbrev xk7:=VX x15 25 r_6
theorem x6x:xk7 c h u (x80 x15) r_6 eNil=j5 (x2v c h u) 0 1 2 3 4:=(kq (j5 (x2v c h u) 0 1 2 3 4))
noncomputable abbrev xk8:=VX xa 15 r_0
theorem x6y:xk8 c h u (x80 xa) r_0 eNil=j3 (x2w c h u) 0 1 2:=(kq (j3 (x2w c h u) 0 1 2))
noncomputable abbrev xk9:=VX x16 5 r_2
theorem x6z:xk9 c h u (x80 x16) r_2 eNil=j1 (x2x c h u) 0:=(kq (j1 (x2x c h u) 0))
noncomputable abbrev xka:=VX x17 11 r_2
theorem x70:xka c h u (x80 x17) r_2 eNil=j1 (x2y c h u) 0:=(kq (j1 (x2y c h u) 0))
noncomputable abbrev xkb:=VX x18 91 r_0
theorem x71:xkb c h u (x80 x18) r_0 eNil=j3 (x33 c h u) 0 1 2:=(tq (j3 (x33 c h u) 0 1 2) (sqN 4 (sq2 (kq (j3 (x2z c h u) 9 10 11)) (tq (j6 (x54 c h u) 3 7 8 9 10 11) (sqN 1 (bk 0 (lq (xz c h u) (λr=>j9 r 3 7 8 9 10 11 38 39 40) λrec0=>(tq (j9 (x32 c h u rec0) 3 7 8 9 10 11 38 39 40) (sqN 2 (sq2 (kq (j9 (x30 c h u rec0) 3 7 8 9 10 11 38 39 40)) (bk 1 (tq (j9 (x53 c h u rec0) 3 7 8 9 10 11 38 39 40) (sqN 2 (bk 2 (lq (x1o c h u rec0) (λr=>j14 r 3 7 8 9 10 11 12 13 38 39 40 46 47 48) λs=>(kq (j14 (x31 c h u rec0 s) 3 7 8 9 10 11 12 13 38 39 40 46 47 48)))))))))))))))))
noncomputable abbrev xkc:=VX x19 35 r_7
theorem x72:xkc c h u (x80 x19) r_7 eNil=j1 (x35 c h u) 0:=(tq (j1 (x35 c h u) 0) (sqN 2 (sq2 (kq (j0 (x56 c h u))) (tq (j1 (x57 c h u) 1) (sqN 1 (bk 0 (lq (x1p c h u) (λr=>j2 r 1 5) λrec0=>(kq (j2 (x34 c h u rec0) 1 5)))))))))
noncomputable abbrev xkd:=VX xq 14 r_1
theorem x73:xkd c h u (x80 xq) r_1 eNil=j2 (x36 c h u) 0 1:=(kq (j2 (x36 c h u) 0 1))
noncomputable abbrev xke:=VX x1a 10 r_7
theorem x74:xke c h u (x80 x1a) r_7 eNil=j1 (x37 c h u) 0:=(kq (j1 (x37 c h u) 0))
noncomputable abbrev xkf:=VX x1b 21 r_7
theorem x75:xkf c h u (x80 x1b) r_7 eNil=j1 (x38 c h u) 0:=(kq (j1 (x38 c h u) 0))
noncomputable abbrev xkg:=VX xi 16 r_1
theorem x76:xkg c h u (x80 xi) r_1 eNil=j2 (x39 c h u) 0 1:=(tq (j2 (x39 c h u) 0 1) (sqN 2 (sq2 (kq (j1 (x21 c h u) 5)) (kq (j3 (x58 c h u) 0 1 5)))))
noncomputable abbrev xkh:=VX x1c 36 r_0
theorem x77:xkh c h u (x80 x1c) r_0 eNil=j3 (x1q c h u) 0 1 2:=(kq (j3 (x1q c h u) 0 1 2))
noncomputable abbrev xki:=VX xr 12 r_1
theorem x78:xki c h u (x80 xr) r_1 eNil=j2 (x3a c h u) 0 1:=(kq (j2 (x3a c h u) 0 1))
noncomputable abbrev xkj:=VX x1d 20 r_0
theorem x79:xkj c h u (x80 x1d) r_0 eNil=j3 (x3b c h u) 0 1 2:=(kq (j3 (x3b c h u) 0 1 2))
noncomputable abbrev xkk:=VX x1e 13 r_1
theorem x7a:xkk c h u (x80 x1e) r_1 eNil=j2 (x3c c h u) 0 1:=(kq (j2 (x3c c h u) 0 1))
noncomputable abbrev xkl:=VX x1f 12 r_1
theorem x7b:xkl c h u (x80 x1f) r_1 eNil=j2 (x3d c h u) 0 1:=(kq (j2 (x3d c h u) 0 1))
noncomputable abbrev xkm:=VX x1g 22 r_0
theorem x7c:xkm c h u (x80 x1g) r_0 eNil=j3 (x3e c h u) 0 1 2:=(kq (j3 (x3e c h u) 0 1 2))
noncomputable abbrev xkn:=VX x1h 24 r_8
theorem x7d:xkn c h u (x80 x1h) r_8 eNil=j2 (x3g c h u) 0 1:=(tq (j2 (x3g c h u) 0 1) (sqN 1 (sq2 (kq (j0 (x59 c h u))) (tq (j2 (x5a c h u) 0 1) (sqN 1 (bk 0 (lq (x1r c h u) (λr=>j4 r 1 9 10 11) λrec0=>(kq (j4 (x3f c h u rec0) 1 9 10 11)))))))))
noncomputable abbrev xko:=VX x1i 38 r_0
theorem x7e:xko c h u (x80 x1i) r_0 eNil=j3 (x3h c h u) 0 1 2:=(kq (j3 (x3h c h u) 0 1 2))
noncomputable abbrev xkp:=VX xt 15 r_0
theorem x7f:xkp c h u (x80 xt) r_0 eNil=j3 (x3i c h u) 0 1 2:=(kq (j3 (x3i c h u) 0 1 2))
noncomputable abbrev xkq:=VX x1j 40 r_1
theorem x7g:xkq c h u (x80 x1j) r_1 eNil=j2 (x3j c h u) 0 1:=(tq (j2 (x3j c h u) 0 1) (sqN 3 (sq2 (sq2 (kq (j0 (x5f c h u))) (tq (j2 (x5b c h u) 1 6) (sqN 1 (bk 2 (lq (x23 c h u) (λr=>j3 r 1 31 32) λrec0=>(kq (j3 (xc c h u rec0) 1 31 32))))))) (tq (j2 (x5c c h u) 1 6) (sqN 1 (bk 0 (lq (x24 c h u) (λr=>j4 r 1 6 18 19) λs=>(kq (j4 (xd c h u s) 1 6 18 19)))))))))
noncomputable abbrev xkr:=VX xu 24 r_2
theorem x7h:xkr c h u (x80 xu) r_2 eNil=j1 (x3k c h u) 0:=(kq (j1 (x3k c h u) 0))
noncomputable abbrev xks:=VX xv 15 r_1
theorem x7i:xks c h u (x80 xv) r_1 eNil=j2 (x3l c h u) 0 1:=(tq (j2 (x3l c h u) 0 1) (sqN 1 (sq2 (kq (j1 (x25 c h u) 0)) (kq (j2 (x5d c h u) 0 1)))))
noncomputable abbrev xkt:=VX xw 7 r_2
theorem x7j:xkt c h u (x80 xw) r_2 eNil=j1 (x3m c h u) 0:=(kq (j1 (x3m c h u) 0))
noncomputable abbrev xku:=VX xj 7 r_2
theorem x7k:xku c h u (x80 xj) r_2 eNil=j1 (x3n c h u) 0:=(kq (j1 (x3n c h u) 0))
end Go.Ix
