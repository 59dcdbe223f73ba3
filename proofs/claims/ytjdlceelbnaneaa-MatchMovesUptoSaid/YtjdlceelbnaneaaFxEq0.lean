import Derived.Test.YtjdlceelbnaneaaFxText0
import Derived.Test.YtjdlceelbnaneaaFxEnt
import Derived.Test.YtjdlceelbnaneaaFxRules
import Derived.Test.YtjdlceelbnaneaaFxProj
import Derived.ProofKit
set_option linter.unusedVariables false
namespace Go.Ix
open Go.Proofs
variable{c:x82}{h:FHs}{u:Nat}
noncomputable abbrev xka:=VX x1w 172 r_0
theorem x6s:xka c h u (x8d x1w) r_0 eNil=j3 (x2e c h u) 0 1 2:=(tq (j3 (x2e c h u) 0 1 2) (sqN 10 (sq2 (kq (j0 (x4u c h u))) (tq (j3 (x4y c h u) 4 7 12) (sqN 1 (bk 0 (lq (xr c h u) (λr=>j4 r 4 7 12 14) λrec0=>(tq (j4 (x2d c h u rec0) 4 7 12 14) (sqN 1 (sq2 (kq (j4 (x1y c h u rec0) 4 7 12 14)) (bk 1 (tq (j4 (x4x c h u rec0) 4 7 12 14) (sqN 1 (bk 2 (lq (xq c h u rec0) (λr=>j5 r 4 7 12 14 15) λs=>(tq (j5 (x2c c h u rec0 s) 4 7 12 14 15) (sqN 1 (sq2 (kq (j5 (x2b c h u rec0 s) 4 7 12 14 15)) (bk 3 (tq (j5 (x4w c h u rec0 s) 4 7 12 14 15) (sqN 1 (sq2 (kq (j7 (x1k c h u rec0 s) 4 7 12 14 15 16 17)) (kq (j7 (x4v c h u rec0 s) 4 7 12 14 15 16 17))))))))))))))))))))))))
noncomputable abbrev xkb:=VX x7 15 r_0
theorem x6t:xkb c h u (x8d x7) r_0 eNil=j3 (x2h c h u) 0 1 2:=(kq (j3 (x2h c h u) 0 1 2))
noncomputable abbrev xkc:=VX xw 5 r_1
theorem x6u:xkc c h u (x8d xw) r_1 eNil=j1 (x2i c h u) 0:=(kq (j1 (x2i c h u) 0))
noncomputable abbrev xkd:=VX xx 7 r_1
theorem x6v:xkd c h u (x8d xx) r_1 eNil=j1 (x2j c h u) 0:=(kq (j1 (x2j c h u) 0))
noncomputable abbrev xke:=VX xj 10 r_2
theorem x6w:xke c h u (x8d xj) r_2 eNil=j1 (x2k c h u) 0:=(kq (j1 (x2k c h u) 0))
noncomputable abbrev xkf:=VX xy 11 r_1
theorem x6x:xkf c h u (x8d xy) r_1 eNil=j1 (x2l c h u) 0:=(kq (j1 (x2l c h u) 0))
noncomputable abbrev xkg:=VX xz 45 r_3
theorem x6y:xkg c h u (x8d xz) r_3 eNil=j2 (x2n c h u) 0 1:=(tq (j2 (x2n c h u) 0 1) (sqN 2 (sq2 (kq (j0 (x50 c h u))) (tq (j2 (x51 c h u) 0 1) (sqN 1 (bk 0 (lq (x1n c h u) (λr=>j3 r 0 1 5) λrec0=>(kq (j3 (x2m c h u rec0) 0 1 5)))))))))
noncomputable abbrev xkh:=VX x10 14 r_3
theorem x6z:xkh c h u (x8d x10) r_3 eNil=j2 (x2o c h u) 0 1:=(kq (j2 (x2o c h u) 0 1))
noncomputable abbrev xki:=VX x11 26 r_4
theorem x70:xki c h u (x8d x11) r_4 eNil=j3 (x2p c h u) 0 1 2:=(kq (j3 (x2p c h u) 0 1 2))
noncomputable abbrev xkj:=VX x12 23 r_1
theorem x71:xkj c h u (x8d x12) r_1 eNil=j1 (x2s c h u) 0:=(tq (j1 (x2s c h u) 0) (sqN 2 (sq2 (kq (j0 (x52 c h u))) (tq (j1 (x54 c h u) 1) (sqN 1 (bk 0 (lq (x2q c h u) (λr=>j3 r 13 14 15) λrec0=>(kq (j3 (x53 c h u rec0) 13 14 15)))))))))
noncomputable abbrev xkk:=VX xk 39 r_5
theorem x72:xkk c h u (x8d xk) r_5 eNil=j2 (x2t c h u) 0 1:=(tq (j2 (x2t c h u) 0 1) (sqN 2 (sq2 (kq (j4 (x1o c h u) 2 3 4 6)) (kq (j4 (x56 c h u) 2 3 4 6)))))
noncomputable abbrev xkl:=VX x13 35 r_6
theorem x73:xkl c h u (x8d x13) r_6 eNil=j3 (x2u c h u) 0 1 2:=(tq (j3 (x2u c h u) 0 1 2) (sqN 2 (sq2 (kq (j2 (x57 c h u) 6 7)) (tq (j3 (x59 c h u) 2 6 7) (sqN 1 (bk 0 (lq (x20 c h u) (λr=>j4 r 2 6 7 8) λrec0=>(kq (j4 (x58 c h u rec0) 2 6 7 8)))))))))
noncomputable abbrev xkm:=VX x14 25 r_7
theorem x74:xkm c h u (x8d x14) r_7 eNil=j5 (x2v c h u) 0 1 2 3 4:=(kq (j5 (x2v c h u) 0 1 2 3 4))
noncomputable abbrev xkn:=VX xc 15 r_0
theorem x75:xkn c h u (x8d xc) r_0 eNil=j3 (x2w c h u) 0 1 2:=(kq (j3 (x2w c h u) 0 1 2))
noncomputable abbrev xko:=VX x15 5 r_1
theorem x76:xko c h u (x8d x15) r_1 eNil=j1 (x2x c h u) 0:=(kq (j1 (x2x c h u) 0))
noncomputable abbrev xkp:=VX x16 11 r_1
theorem x77:xkp c h u (x8d x16) r_1 eNil=j1 (x2y c h u) 0:=(kq (j1 (x2y c h u) 0))
noncomputable abbrev xkq:=VX x17 91 r_0
theorem x78:xkq c h u (x8d x17) r_0 eNil=j3 (x33 c h u) 0 1 2:=(tq (j3 (x33 c h u) 0 1 2) (sqN 4 (sq2 (kq (j3 (x2z c h u) 9 10 11)) (tq (j6 (x5b c h u) 3 7 8 9 10 11) (sqN 1 (bk 0 (lq (xt c h u) (λr=>j9 r 3 7 8 9 10 11 38 39 40) λrec0=>(tq (j9 (x32 c h u rec0) 3 7 8 9 10 11 38 39 40) (sqN 2 (sq2 (kq (j9 (x30 c h u rec0) 3 7 8 9 10 11 38 39 40)) (bk 1 (tq (j9 (x5a c h u rec0) 3 7 8 9 10 11 38 39 40) (sqN 2 (bk 2 (lq (x1p c h u rec0) (λr=>j14 r 3 7 8 9 10 11 12 13 38 39 40 46 47 48) λs=>(kq (j14 (x31 c h u rec0 s) 3 7 8 9 10 11 12 13 38 39 40 46 47 48)))))))))))))))))
noncomputable abbrev xkr:=VX x18 35 r_8
theorem x79:xkr c h u (x8d x18) r_8 eNil=j1 (x35 c h u) 0:=(tq (j1 (x35 c h u) 0) (sqN 2 (sq2 (kq (j0 (x5d c h u))) (tq (j1 (x5e c h u) 1) (sqN 1 (bk 0 (lq (x1q c h u) (λr=>j2 r 1 5) λrec0=>(kq (j2 (x34 c h u rec0) 1 5)))))))))
noncomputable abbrev xks:=VX x19 10 r_8
theorem x7a:xks c h u (x8d x19) r_8 eNil=j1 (x36 c h u) 0:=(kq (j1 (x36 c h u) 0))
noncomputable abbrev xkt:=VX x1a 27 r_9
theorem x7b:xkt c h u (x8d x1a) r_9 eNil=j3 (x37 c h u) 0 1 2:=(kq (j3 (x37 c h u) 0 1 2))
noncomputable abbrev xku:=VX x1b 53 r_10
theorem x7c:xku c h u (x8d x1b) r_10 eNil=j2 (x3c c h u) 0 1:=(tq (j2 (x3c c h u) 0 1) (sqN 2 (sq2 (kq (j2 (x38 c h u) 4 5)) (tq (j4 (x5i c h u) 2 3 4 5) (sqN 1 (bk 0 (lq (xu c h u) (λr=>j6 r 2 3 4 5 15 16) λrec0=>(tq (j6 (x3b c h u rec0) 2 3 4 5 15 16) (sqN 2 (sq2 (kq (j6 (x39 c h u rec0) 2 3 4 5 15 16)) (bk 1 (tq (j6 (x5h c h u rec0) 2 3 4 5 15 16) (sqN 2 (bk 2 (lq (x1s c h u rec0) (λr=>j9 r 2 3 4 5 6 15 16 20 21) λs=>(kq (j9 (x3a c h u rec0 s) 2 3 4 5 6 15 16 20 21)))))))))))))))))
noncomputable abbrev xkv:=VX x1c 21 r_8
theorem x7d:xkv c h u (x8d x1c) r_8 eNil=j1 (x3d c h u) 0:=(kq (j1 (x3d c h u) 0))
noncomputable abbrev xkw:=VX xg 16 r_3
theorem x7e:xkw c h u (x8d xg) r_3 eNil=j2 (x3e c h u) 0 1:=(tq (j2 (x3e c h u) 0 1) (sqN 2 (sq2 (kq (j1 (x22 c h u) 5)) (kq (j3 (x5j c h u) 0 1 5)))))
noncomputable abbrev xkx:=VX x1d 36 r_0
theorem x7f:xkx c h u (x8d x1d) r_0 eNil=j3 (x1t c h u) 0 1 2:=(kq (j3 (x1t c h u) 0 1 2))
noncomputable abbrev xky:=VX xl 12 r_3
theorem x7g:xky c h u (x8d xl) r_3 eNil=j2 (x3f c h u) 0 1:=(kq (j2 (x3f c h u) 0 1))
noncomputable abbrev xkz:=VX x1e 20 r_0
theorem x7h:xkz c h u (x8d x1e) r_0 eNil=j3 (x3g c h u) 0 1 2:=(kq (j3 (x3g c h u) 0 1 2))
noncomputable abbrev xl0:=VX x1f 13 r_3
theorem x7i:xl0 c h u (x8d x1f) r_3 eNil=j2 (x3h c h u) 0 1:=(kq (j2 (x3h c h u) 0 1))
noncomputable abbrev xl1:=VX xh 12 r_3
theorem x7j:xl1 c h u (x8d xh) r_3 eNil=j2 (x3i c h u) 0 1:=(kq (j2 (x3i c h u) 0 1))
noncomputable abbrev xl2:=VX x1g 22 r_0
theorem x7k:xl2 c h u (x8d x1g) r_0 eNil=j3 (x3j c h u) 0 1 2:=(kq (j3 (x3j c h u) 0 1 2))
noncomputable abbrev xl3:=VX x1h 24 r_11
theorem x7l:xl3 c h u (x8d x1h) r_11 eNil=j2 (x3l c h u) 0 1:=(tq (j2 (x3l c h u) 0 1) (sqN 1 (sq2 (kq (j0 (x5k c h u))) (tq (j2 (x5l c h u) 0 1) (sqN 1 (bk 0 (lq (x1u c h u) (λr=>j4 r 1 9 10 11) λrec0=>(kq (j4 (x3k c h u rec0) 1 9 10 11)))))))))
noncomputable abbrev xl4:=VX x1i 38 r_0
theorem x7m:xl4 c h u (x8d x1i) r_0 eNil=j3 (x3m c h u) 0 1 2:=(kq (j3 (x3m c h u) 0 1 2))
noncomputable abbrev xl5:=VX xm 15 r_0
theorem x7n:xl5 c h u (x8d xm) r_0 eNil=j3 (x3n c h u) 0 1 2:=(kq (j3 (x3n c h u) 0 1 2))
noncomputable abbrev xl6:=VX x1j 40 r_3
theorem x7o:xl6 c h u (x8d x1j) r_3 eNil=j2 (x3o c h u) 0 1:=(tq (j2 (x3o c h u) 0 1) (sqN 3 (sq2 (sq2 (kq (j0 (x5p c h u))) (tq (j2 (x5m c h u) 1 6) (sqN 1 (bk 2 (lq (x24 c h u) (λr=>j3 r 1 31 32) λrec0=>(kq (j3 (xe c h u rec0) 1 31 32))))))) (tq (j2 (x5n c h u) 1 6) (sqN 1 (bk 0 (lq (x25 c h u) (λr=>j4 r 1 6 18 19) λs=>(kq (j4 (xf c h u s) 1 6 18 19)))))))))
noncomputable abbrev xl7:=VX xn 24 r_1
theorem x7p:xl7 c h u (x8d xn) r_1 eNil=j1 (x3p c h u) 0:=(kq (j1 (x3p c h u) 0))
noncomputable abbrev xl8:=VX xo 15 r_3
theorem x7q:xl8 c h u (x8d xo) r_3 eNil=j2 (x3q c h u) 0 1:=(tq (j2 (x3q c h u) 0 1) (sqN 1 (sq2 (kq (j1 (x26 c h u) 0)) (kq (j2 (x5o c h u) 0 1)))))
noncomputable abbrev xl9:=VX xp 7 r_1
theorem x7r:xl9 c h u (x8d xp) r_1 eNil=j1 (x3r c h u) 0:=(kq (j1 (x3r c h u) 0))
noncomputable abbrev xla:=VX xi 7 r_1
theorem x7s:xla c h u (x8d xi) r_1 eNil=j1 (x3s c h u) 0:=(kq (j1 (x3s c h u) 0))
end Go.Ix
