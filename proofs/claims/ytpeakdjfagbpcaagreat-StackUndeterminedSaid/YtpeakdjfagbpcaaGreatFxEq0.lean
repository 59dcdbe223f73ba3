import Derived.Test.YtpeakdjfagbpcaaGreatFxText0
import Derived.Test.YtpeakdjfagbpcaaGreatFxEnt
import Derived.Test.YtpeakdjfagbpcaaGreatFxRules
import Derived.Test.YtpeakdjfagbpcaaGreatFxProj
import Derived.ProofKit
set_option linter.unusedVariables false
namespace Go.Ix
open Go.Proofs
variable{c:xr5}{h:FHs}{u:Nat}
noncomputable abbrev x1c4:=VX x6j 114 r_0
theorem xof:x1c4 c h u (xrd x6j) r_0 eNil=j2 (x7y c h u) 0 1:=(tq (j2 (x7y c h u) 0 1) (sqN 6 (sq2 (tq (j6 (x50 c h u) 1 2 5 6 7 8) (sqN 6 (sq2 (kq (j0 (xfm c h u))) (tq (j3 (xfn c h u) 1 5 9) (sqN 1 (bk 0 (lq (x4z c h u) (λr=>j4 r 1 5 9 15) λrec0=>(kq (j4 (x7w c h u rec0) 1 5 9 15))))))))) (kq (j6 (x7x c h u) 1 2 5 6 7 8)))))
noncomputable abbrev x1c5:=VX x23 63 r_1
theorem xog:x1c5 c h u (xrd x23) r_1 eNil=j1 (x81 c h u) 0:=(tq (j1 (x81 c h u) 0) (sqN 3 (sq2 (kq (j0 (xfp c h u))) (tq (j1 (x80 c h u) 1) (sqN 1 (bk 0 (lq (x51 c h u) (λr=>j2 r 1 3) λrec0=>(kq (j2 (x7z c h u rec0) 1 3)))))))))
noncomputable abbrev x1c6:=VX x11 13 r_2
theorem xoh:x1c6 c h u (xrd x11) r_2 eNil=j1 (x82 c h u) 0:=(kq (j1 (x82 c h u) 0))
noncomputable abbrev x1c7:=VX x12 58 r_1
theorem xoi:x1c7 c h u (xrd x12) r_1 eNil=j1 (x85 c h u) 0:=(tq (j1 (x85 c h u) 0) (sqN 3 (sq2 (sq2 (kq (j0 (xfr c h u))) (tq (j1 (xfs c h u) 1) (sqN 1 (bk 2 (lq (x52 c h u) (λr=>j2 r 1 5) λrec0=>(kq (j2 (x83 c h u rec0) 1 5))))))) (tq (j1 (xft c h u) 1) (sqN 1 (bk 0 (lq (x53 c h u) (λr=>j2 r 1 4) λs=>(kq (j2 (x84 c h u s) 1 4)))))))))
noncomputable abbrev x1c8:=VX xi 15 r_3
theorem xoj:x1c8 c h u (xrd xi) r_3 eNil=j3 (x86 c h u) 0 1 2:=(kq (j3 (x86 c h u) 0 1 2))
noncomputable abbrev x1c9:=VX x45 26 r_0
theorem xok:x1c9 c h u (xrd x45) r_0 eNil=j2 (x88 c h u) 0 1:=(tq (j2 (x88 c h u) 0 1) (sqN 2 (sq2 (kq (j0 (xfu c h u))) (tq (j2 (xfv c h u) 0 1) (sqN 1 (bk 0 (lq (x54 c h u) (λr=>j3 r 0 1 5) λrec0=>(kq (j3 (x87 c h u rec0) 0 1 5)))))))))
noncomputable abbrev x1ca:=VX x24 50 r_4
theorem xol:x1ca c h u (xrd x24) r_4 eNil=j1 (x8c c h u) 0:=(tq (j1 (x8c c h u) 0) (sqN 2 (sq2 (kq (j0 (xfw c h u))) (tq (j1 (xg0 c h u) 0) (sqN 1 (bk 0 (lq (x1k c h u) (λr=>j2 r 0 4) λrec0=>(tq (j2 (x8b c h u rec0) 0 4) (sqN 1 (sq2 (kq (j2 (xfx c h u rec0) 0 4)) (bk 1 (tq (j2 (xfz c h u rec0) 0 4) (sqN 2 (sq2 (kq (j3 (x89 c h u rec0) 0 4 5)) (tq (j3 (xfy c h u rec0) 0 4 5) (sqN 1 (bk 2 (lq (x55 c h u rec0) (λr=>j4 r 0 4 5 6) λs=>(kq (j4 (x8a c h u rec0 s) 0 4 5 6))))))))))))))))))))
noncomputable abbrev x1cb:=VX x46 53 r_1
theorem xom:x1cb c h u (xrd x46) r_1 eNil=j1 (x8f c h u) 0:=(tq (j1 (x8f c h u) 0) (sqN 2 (sq2 (kq (j0 (xg1 c h u))) (tq (j1 (x8e c h u) 1) (sqN 1 (bk 0 (lq (x56 c h u) (λr=>j2 r 1 3) λrec0=>(kq (j2 (x8d c h u rec0) 1 3)))))))))
noncomputable abbrev x1cc:=VX x25 12 r_5
theorem xon:x1cc c h u (xrd x25) r_5 eNil=j1 (x8g c h u) 0:=(kq (j1 (x8g c h u) 0))
noncomputable abbrev x1cd:=VX xf 6 r_1
theorem xoo:x1cd c h u (xrd xf) r_1 eNil=j1 (x37 c h u) 0:=(kq (j1 (x37 c h u) 0))
noncomputable abbrev x1ce:=VX x48 11 r_1
theorem xop:x1ce c h u (xrd x48) r_1 eNil=j1 (x8h c h u) 0:=(kq (j1 (x8h c h u) 0))
noncomputable abbrev x1cf:=VX x26 34 r_1
theorem xoq:x1cf c h u (xrd x26) r_1 eNil=j1 (x8j c h u) 0:=(tq (j1 (x8j c h u) 0) (sqN 5 (sq2 (kq (j0 (xg3 c h u))) (tq (j1 (xg4 c h u) 3) (sqN 1 (bk 0 (lq (x57 c h u) (λr=>j2 r 3 5) λrec0=>(kq (j2 (x8i c h u rec0) 3 5)))))))))
noncomputable abbrev x1cg:=VX x27 51 r_4
theorem xor:x1cg c h u (xrd x27) r_4 eNil=j1 (x6m c h u) 0:=(tq (j1 (x6m c h u) 0) (sqN 6 (sq2 (kq (j1 (xg5 c h u) 7)) (tq (j3 (xg7 c h u) 4 6 7) (sqN 1 (bk 0 (lq (x58 c h u) (λr=>j5 r 6 7 27 28 29) λrec0=>(tq (j5 (x8k c h u rec0) 6 7 27 28 29) (sqN 2 (sq2 (kq (j5 (x6l c h u rec0) 6 7 27 28 29)) (kq (j5 (xg6 c h u rec0) 6 7 27 28 29))))))))))))
noncomputable abbrev x1ch:=VX x1g 70 r_6
theorem xos:x1ch c h u (xrd x1g) r_6 eNil=j1 (x8n c h u) 0:=(tq (j1 (x8n c h u) 0) (sqN 3 (sq2 (sq2 (kq (j2 (xg8 c h u) 2 4)) (tq (j4 (xg9 c h u) 1 2 4 5) (sqN 1 (bk 2 (lq (x59 c h u) (λr=>j5 r 1 2 4 5 7) λrec0=>(kq (j5 (x8l c h u rec0) 1 2 4 5 7))))))) (tq (j4 (xga c h u) 1 2 4 5) (sqN 1 (bk 0 (lq (x5a c h u) (λr=>j5 r 1 2 4 5 6) λs=>(kq (j5 (x8m c h u s) 1 2 4 5 6)))))))))
noncomputable abbrev x1ci:=VX x49 49 r_1
theorem xot:x1ci c h u (xrd x49) r_1 eNil=j1 (x8p c h u) 0:=(tq (j1 (x8p c h u) 0) (sqN 3 (sq2 (kq (j1 (xgb c h u) 4)) (tq (j3 (xgd c h u) 1 3 4) (sqN 1 (bk 0 (lq (x38 c h u) (λr=>j4 r 1 3 4 5) λrec0=>(tq (j4 (x8o c h u rec0) 1 3 4 5) (sqN 1 (sq2 (kq (j4 (x5b c h u rec0) 1 3 4 5)) (kq (j4 (xgc c h u rec0) 1 3 4 5))))))))))))
noncomputable abbrev x1cj:=VX x4a 60 r_7
theorem xou:x1cj c h u (xrd x4a) r_7 eNil=j1 (x8r c h u) 0:=(tq (j1 (x8r c h u) 0) (sqN 6 (sq2 (kq (j3 (xge c h u) 9 10 11)) (tq (j5 (xgf c h u) 6 8 9 10 11) (sqN 1 (bk 0 (lq (x5d c h u) (λr=>j7 r 8 9 10 11 33 34 35) λrec0=>(kq (j7 (x8q c h u rec0) 8 9 10 11 33 34 35)))))))))
noncomputable abbrev x1ck:=VX x28 63 r_8
theorem xov:x1ck c h u (xrd x28) r_8 eNil=j2 (x8t c h u) 0 1:=(tq (j2 (x8t c h u) 0 1) (sqN 5 (sq2 (kq (j3 (xgg c h u) 2 7 8)) (tq (j4 (xgi c h u) 1 2 7 8) (sqN 1 (bk 1 (lq (x5e c h u) (λr=>j6 r 2 7 8 30 31 32) λrec0=>(kq (j6 (x8s c h u rec0) 2 7 8 30 31 32)))))))))
noncomputable abbrev x1cl:=VX x13 18 r_0
theorem xow:x1cl c h u (xrd x13) r_0 eNil=j2 (xgk c h u) 0 1:=(tq (j2 (xgk c h u) 0 1) (sqN 1 (sq2 (kq (j0 (xgj c h u))) (tq (j2 (xkl c h u) 0 1) (sqN 1 (bk 0 (lq (x5f c h u) (λr=>j3 r 0 1 5) λrec0=>(kq (j3 (x8u c h u rec0) 0 1 5)))))))))
noncomputable abbrev x1cm:=VX x29 98 r_4
theorem xox:x1cm c h u (xrd x29) r_4 eNil=j1 (x8z c h u) 0:=(tq (j1 (x8z c h u) 0) (sqN 4 (sq2 (tq (j3 (xgo c h u) 1 4 5) (sqN 1 (sq2 (kq (j2 (xgl c h u) 5 10)) (tq (j4 (xgn c h u) 1 4 5 10) (sqN 1 (bk 4 (lq (x5g c h u) (λr=>j5 r 1 4 5 10 11) λrec0=>(tq (j5 (x8v c h u rec0) 1 4 5 10 11) (sqN 1 (sq2 (kq (j5 (x6n c h u rec0) 1 4 5 10 11)) (kq (j5 (xgm c h u rec0) 1 4 5 10 11)))))))))))) (tq (j4 (xgs c h u) 1 4 5 6) (sqN 1 (bk 0 (lq (x1l c h u) (λr=>j6 r 1 4 5 6 18 19) λs=>(tq (j6 (x8y c h u s) 1 4 5 6 18 19) (sqN 2 (sq2 (kq (j6 (x5h c h u s) 1 4 5 6 18 19)) (bk 1 (tq (j6 (xgr c h u s) 1 4 5 6 18 19) (sqN 1 (sq2 (kq (j7 (x8w c h u s) 1 4 5 6 7 18 19)) (tq (j7 (xgq c h u s) 1 4 5 6 7 18 19) (sqN 1 (bk 2 (lq (x3a c h u s) (λr=>j8 r 1 4 5 6 7 8 18 19) λw=>(tq (j8 (x8x c h u s w) 1 4 5 6 7 8 18 19) (sqN 1 (sq2 (kq (j8 (x39 c h u s w) 1 4 5 6 7 8 18 19)) (kq (j8 (xgp c h u s w) 1 4 5 6 7 8 18 19)))))))))))))))))))))))
noncomputable abbrev x1cn:=VX x1h 40 r_0
theorem xoy:x1cn c h u (xrd x1h) r_0 eNil=j2 (x90 c h u) 0 1:=(kq (j2 (x90 c h u) 0 1))
noncomputable abbrev x1co:=VX x2a 36 r_1
theorem xoz:x1co c h u (xrd x2a) r_1 eNil=j1 (x91 c h u) 0:=(kq (j1 (x91 c h u) 0))
noncomputable abbrev x1cp:=VX x4b 30 r_0
theorem xp0:x1cp c h u (xrd x4b) r_0 eNil=j2 (x93 c h u) 0 1:=(tq (j2 (x93 c h u) 0 1) (sqN 2 (sq2 (kq (j1 (xgt c h u) 5)) (tq (j3 (xgu c h u) 0 1 5) (sqN 1 (bk 0 (lq (x5i c h u) (λr=>j4 r 0 1 5 6) λrec0=>(kq (j4 (x92 c h u rec0) 0 1 5 6)))))))))
noncomputable abbrev x1cq:=VX x14 7 r_1
theorem xp1:x1cq c h u (xrd x14) r_1 eNil=j1 (x94 c h u) 0:=(kq (j1 (x94 c h u) 0))
noncomputable abbrev x1cr:=VX xr 15 r_3
theorem xp2:x1cr c h u (xrd xr) r_3 eNil=j3 (x95 c h u) 0 1 2:=(kq (j3 (x95 c h u) 0 1 2))
noncomputable abbrev x1cs:=VX x15 42 r_0
theorem xp3:x1cs c h u (xrd x15) r_0 eNil=j2 (x97 c h u) 0 1:=(tq (j2 (x97 c h u) 0 1) (sqN 3 (sq2 (kq (j1 (xgv c h u) 6)) (tq (j4 (xgw c h u) 1 2 5 6) (sqN 1 (bk 0 (lq (x5j c h u) (λr=>j6 r 1 5 6 14 15 16) λrec0=>(kq (j6 (x96 c h u rec0) 1 5 6 14 15 16)))))))))
noncomputable abbrev x1ct:=VX x2b 38 r_0
theorem xp4:x1ct c h u (xrd x2b) r_0 eNil=j2 (x99 c h u) 0 1:=(tq (j2 (x99 c h u) 0 1) (sqN 5 (sq2 (kq (j1 (xgx c h u) 5)) (tq (j3 (xgz c h u) 5 6 8) (sqN 1 (bk 0 (lq (x5k c h u) (λr=>j5 r 5 6 8 24 25) λrec0=>(tq (j5 (x98 c h u rec0) 5 6 8 24 25) (sqN 2 (sq2 (kq (j5 (x6o c h u rec0) 5 6 8 24 25)) (kq (j5 (xgy c h u rec0) 5 6 8 24 25))))))))))))
noncomputable abbrev x1cu:=VX x2c 52 r_1
theorem xp5:x1cu c h u (xrd x2c) r_1 eNil=j1 (x9b c h u) 0:=(tq (j1 (x9b c h u) 0) (sqN 4 (sq2 (kq (j1 (xh1 c h u) 6)) (tq (j3 (xh2 c h u) 1 5 6) (sqN 1 (bk 0 (lq (x5l c h u) (λr=>j4 r 1 5 6 7) λrec0=>(kq (j4 (x9a c h u rec0) 1 5 6 7)))))))))
noncomputable abbrev x1cv:=VX x2d 36 r_0
theorem xp6:x1cv c h u (xrd x2d) r_0 eNil=j2 (x9d c h u) 0 1:=(tq (j2 (x9d c h u) 0 1) (sqN 3 (sq2 (kq (j1 (xh3 c h u) 6)) (tq (j4 (xh4 c h u) 1 2 5 6) (sqN 1 (bk 0 (lq (x5m c h u) (λr=>j5 r 1 2 5 6 7) λrec0=>(kq (j5 (x9c c h u rec0) 1 2 5 6 7)))))))))
noncomputable abbrev x1cw:=VX x2e 42 r_4
theorem xp7:x1cw c h u (xrd x2e) r_4 eNil=j1 (x9f c h u) 0:=(tq (j1 (x9f c h u) 0) (sqN 2 (sq2 (kq (j0 (xh5 c h u))) (tq (j1 (xh6 c h u) 0) (sqN 1 (bk 0 (lq (x3c c h u) (λr=>j4 r 0 9 10 11) λrec0=>(kq (j4 (x9e c h u rec0) 0 9 10 11)))))))))
noncomputable abbrev x1cx:=VX x16 10 r_0
theorem xp8:x1cx c h u (xrd x16) r_0 eNil=j2 (x9g c h u) 0 1:=(kq (j2 (x9g c h u) 0 1))
noncomputable abbrev x1cy:=VX x4c 55 r_1
theorem xp9:x1cy c h u (xrd x4c) r_1 eNil=j1 (x9i c h u) 0:=(tq (j1 (x9i c h u) 0) (sqN 2 (sq2 (kq (j0 (xh7 c h u))) (tq (j1 (xh8 c h u) 0) (sqN 1 (bk 0 (lq (x3d c h u) (λr=>j2 r 0 3) λrec0=>(kq (j2 (x9h c h u rec0) 0 3)))))))))
noncomputable abbrev x1cz:=VX x4d 11 r_1
theorem xpa:x1cz c h u (xrd x4d) r_1 eNil=j1 (x9j c h u) 0:=(kq (j1 (x9j c h u) 0))
noncomputable abbrev x1d0:=VX x2f 15 r_1
theorem xpb:x1d0 c h u (xrd x2f) r_1 eNil=j1 (x9l c h u) 0:=(tq (j1 (x9l c h u) 0) (sqN 2 (sq2 (kq (j1 (xh9 c h u) 3)) (tq (j2 (xha c h u) 0 3) (sqN 1 (bk 0 (lq (x5n c h u) (λr=>j3 r 3 5 6) λrec0=>(kq (j3 (x9k c h u rec0) 3 5 6)))))))))
noncomputable abbrev x1d1:=VX x4e 44 r_0
theorem xpc:x1d1 c h u (xrd x4e) r_0 eNil=j2 (x9o c h u) 0 1:=(tq (j2 (x9o c h u) 0 1) (sqN 2 (sq2 (kq (j2 (xhb c h u) 5 6)) (tq (j3 (xhd c h u) 0 5 6) (sqN 1 (bk 0 (lq (x5o c h u) (λr=>j6 r 0 5 6 19 20 21) λrec0=>(tq (j6 (x9n c h u rec0) 0 5 6 19 20 21) (sqN 2 (sq2 (kq (j6 (x9m c h u rec0) 0 5 6 19 20 21)) (kq (j6 (xhc c h u rec0) 0 5 6 19 20 21))))))))))))
noncomputable abbrev x1d2:=VX x4f 73 r_4
theorem xpd:x1d2 c h u (xrd x4f) r_4 eNil=j1 (x9r c h u) 0:=(tq (j1 (x9r c h u) 0) (sqN 3 (sq2 (kq (j0 (xhe c h u))) (tq (j1 (xhh c h u) 1) (sqN 1 (bk 0 (lq (x1m c h u) (λr=>j2 r 1 6) λrec0=>(tq (j2 (x9q c h u rec0) 1 6) (sqN 1 (sq2 (kq (j2 (xhf c h u rec0) 1 6)) (bk 1 (tq (j2 (xhg c h u rec0) 1 6) (sqN 4 (bk 2 (lq (x3e c h u rec0) (λr=>j4 r 1 6 7 8) λs=>(kq (j4 (x9p c h u rec0 s) 1 6 7 8)))))))))))))))))
noncomputable abbrev x1d3:=VX x17 68 r_0
theorem xpe:x1d3 c h u (xrd x17) r_0 eNil=j2 (x9w c h u) 0 1:=(tq (j2 (x9w c h u) 0 1) (sqN 2 (sq2 (sq2 (kq (j1 (xhi c h u) 5)) (tq (j3 (xhm c h u) 1 2 5) (sqN 1 (bk 2 (lq (x3g c h u) (λr=>j4 r 1 2 5 7) λrec0=>(tq (j4 (x9u c h u rec0) 1 2 5 7) (sqN 1 (sq2 (kq (j4 (xhj c h u rec0) 1 2 5 7)) (bk 3 (tq (j4 (xhl c h u rec0) 1 2 5 7) (sqN 3 (bk 4 (lq (x3f c h u rec0) (λr=>j7 r 1 2 5 7 9 10 11) λs=>(tq (j7 (x9t c h u rec0 s) 1 2 5 7 9 10 11) (sqN 1 (sq2 (kq (j7 (x9s c h u rec0 s) 1 2 5 7 9 10 11)) (kq (j7 (xhk c h u rec0 s) 1 2 5 7 9 10 11)))))))))))))))))) (tq (j3 (xhn c h u) 1 2 5) (sqN 1 (bk 0 (lq (x5p c h u) (λr=>j4 r 1 2 5 6) λw=>(kq (j4 (x9v c h u w) 1 2 5 6)))))))))
noncomputable abbrev x1d4:=VX xo 9 r_0
theorem xpf:x1d4 c h u (xrd xo) r_0 eNil=j2 (x9x c h u) 0 1:=(kq (j2 (x9x c h u) 0 1))
noncomputable abbrev x1d5:=VX x18 15 r_6
theorem xpg:x1d5 c h u (xrd x18) r_6 eNil=j1 (x6p c h u) 0:=(kq (j1 (x6p c h u) 0))
noncomputable abbrev x1d6:=VX x4g 16 r_4
theorem xph:x1d6 c h u (xrd x4g) r_4 eNil=j1 (x9y c h u) 0:=(kq (j1 (x9y c h u) 0))
noncomputable abbrev x1d7:=VX x4h 14 r_0
theorem xpi:x1d7 c h u (xrd x4h) r_0 eNil=j2 (x9z c h u) 0 1:=(tq (j2 (x9z c h u) 0 1) (sqN 2 (sq2 (kq (j1 (x6r c h u) 0)) (kq (j2 (xho c h u) 0 1)))))
noncomputable abbrev x1d8:=VX x2g 20 r_1
theorem xpj:x1d8 c h u (xrd x2g) r_1 eNil=j1 (xa0 c h u) 0:=(tq (j1 (xa0 c h u) 0) (sqN 2 (bk 0 (lq (xp c h u) (λr=>j2 r 1 3) λrec0=>(kq (j2 (x1n c h u rec0) 1 3))))))
noncomputable abbrev x1d9:=VX x4i 37 r_9
theorem xpk:x1d9 c h u (xrd x4i) r_9 eNil=j4 (xa1 c h u) 0 1 2 3:=(kq (j4 (xa1 c h u) 0 1 2 3))
noncomputable abbrev x1da:=VX x4j 33 r_7
theorem xpl:x1da c h u (xrd x4j) r_7 eNil=j1 (x6s c h u) 0:=(kq (j1 (x6s c h u) 0))
noncomputable abbrev x1db:=VX x2h 6 r_1
theorem xpm:x1db c h u (xrd x2h) r_1 eNil=j1 (xa2 c h u) 0:=(kq (j1 (xa2 c h u) 0))
noncomputable abbrev x1dc:=VX x2i 8 r_1
theorem xpn:x1dc c h u (xrd x2i) r_1 eNil=j1 (xa3 c h u) 0:=(kq (j1 (xa3 c h u) 0))
noncomputable abbrev x1dd:=VX x1i 7 r_1
theorem xpo:x1dd c h u (xrd x1i) r_1 eNil=j1 (xa4 c h u) 0:=(kq (j1 (xa4 c h u) 0))
noncomputable abbrev x1de:=VX x2j 5 r_1
theorem xpp:x1de c h u (xrd x2j) r_1 eNil=j1 (xa5 c h u) 0:=(kq (j1 (xa5 c h u) 0))
noncomputable abbrev x1df:=VX x4k 22 r_0
theorem xpq:x1df c h u (xrd x4k) r_0 eNil=j2 (xa7 c h u) 0 1:=(tq (j2 (xa7 c h u) 0 1) (sqN 2 (sq2 (kq (j1 (xhp c h u) 5)) (tq (j3 (xhr c h u) 1 2 5) (sqN 1 (bk 0 (lq (x5q c h u) (λr=>j4 r 1 2 5 6) λrec0=>(tq (j4 (xa6 c h u rec0) 1 2 5 6) (sqN 1 (sq2 (kq (j4 (x6t c h u rec0) 1 2 5 6)) (kq (j4 (xhq c h u rec0) 1 2 5 6))))))))))))
noncomputable abbrev x1dg:=VX x4l 25 r_8
theorem xpr:x1dg c h u (xrd x4l) r_8 eNil=j2 (xa8 c h u) 0 1:=(kq (j2 (xa8 c h u) 0 1))
noncomputable abbrev x1dh:=VX x2k 24 r_8
theorem xps:x1dh c h u (xrd x2k) r_8 eNil=j2 (xa9 c h u) 0 1:=(kq (j2 (xa9 c h u) 0 1))
noncomputable abbrev x1di:=VX x2l 51 r_1
theorem xpt:x1di c h u (xrd x2l) r_1 eNil=j1 (xac c h u) 0:=(tq (j1 (xac c h u) 0) (sqN 2 (sq2 (tq (j3 (xhv c h u) 1 3 4) (sqN 2 (sq2 (kq (j1 (xhs c h u) 4)) (tq (j4 (xhu c h u) 1 3 4 6) (sqN 1 (bk 2 (lq (x5r c h u) (λr=>j6 r 1 4 6 29 30 31) λrec0=>(tq (j6 (xaa c h u rec0) 1 4 6 29 30 31) (sqN 2 (sq2 (kq (j6 (x6u c h u rec0) 1 4 6 29 30 31)) (kq (j6 (xht c h u rec0) 1 4 6 29 30 31)))))))))))) (tq (j3 (xhw c h u) 1 3 4) (sqN 1 (bk 0 (lq (x5s c h u) (λr=>j5 r 1 3 4 12 13) λs=>(kq (j5 (xab c h u s) 1 3 4 12 13)))))))))
noncomputable abbrev x1dj:=VX x2m 6 r_1
theorem xpu:x1dj c h u (xrd x2m) r_1 eNil=j1 (xad c h u) 0:=(kq (j1 (xad c h u) 0))
noncomputable abbrev x1dk:=VX x2n 6 r_1
theorem xpv:x1dk c h u (xrd x2n) r_1 eNil=j1 (xae c h u) 0:=(kq (j1 (xae c h u) 0))
noncomputable abbrev x1dl:=VX x2o 96 r_10
theorem xpw:x1dl c h u (xrd x2o) r_10 eNil=j4 (xaj c h u) 0 1 2 3:=(tq (j4 (xaj c h u) 0 1 2 3) (sqN 4 (sq2 (tq (j4 (xhz c h u) 2 3 4 9) (sqN 1 (sq2 (kq (j1 (xhx c h u) 16)) (tq (j5 (xhy c h u) 2 3 4 9 16) (sqN 1 (bk 6 (lq (x5t c h u) (λr=>j5 r 2 4 9 16 17) λrec0=>(kq (j5 (xaf c h u rec0) 2 4 9 16 17))))))))) (tq (j6 (xi5 c h u) 1 2 3 4 9 10) (sqN 1 (bk 0 (lq (x3h c h u) (λr=>j8 r 1 2 3 4 9 10 31 32) λs=>(tq (j8 (xai c h u s) 1 2 3 4 9 10 31 32) (sqN 2 (sq2 (kq (j8 (xi0 c h u s) 1 2 3 4 9 10 31 32)) (bk 1 (tq (j8 (xi4 c h u s) 1 2 3 4 9 10 31 32) (sqN 1 (bk 2 (lq (x5v c h u s) (λr=>j9 r 1 2 3 4 9 10 11 31 32) λw=>(tq (j9 (xah c h u s w) 1 2 3 4 9 10 11 31 32) (sqN 1 (sq2 (kq (j9 (xi1 c h u s w) 1 2 3 4 9 10 11 31 32)) (bk 3 (tq (j9 (xi3 c h u s w) 1 2 3 4 9 10 11 31 32) (sqN 1 (bk 4 (lq (x1o c h u s w) (λr=>j10 r 1 2 3 4 9 10 11 12 31 32) λz=>(tq (j10 (xag c h u s w z) 1 2 3 4 9 10 11 12 31 32) (sqN 1 (sq2 (kq (j10 (x5u c h u s w z) 1 2 3 4 9 10 11 12 31 32)) (kq (j10 (xi2 c h u s w z) 1 2 3 4 9 10 11 12 31 32))))))))))))))))))))))))))))
noncomputable abbrev x1dm:=VX xt 43 r_11
theorem xpx:x1dm c h u (xrd xt) r_11 eNil=j7 (xal c h u) 0 1 2 3 4 5 6:=(tq (j7 (xal c h u) 0 1 2 3 4 5 6) (sqN 3 (bk 0 (tq (j6 (xi7 c h u) 1 4 5 6 7 16) (rg (.tmp 16) #[17,18] (λu=>(kq (j7 (xi6 c h u) 1 4 5 6 7 8 9))) (λu=>(kq (j7 (xak c h u) 1 4 5 6 7 17 18))))))))
noncomputable abbrev x1dn:=VX x4m 8 r_3
theorem xpy:x1dn c h u (xrd x4m) r_3 eNil=j3 (xam c h u) 0 1 2:=(kq (j3 (xam c h u) 0 1 2))
noncomputable abbrev x1do:=VX x4n 49 r_1
theorem xpz:x1do c h u (xrd x4n) r_1 eNil=j1 (xaq c h u) 0:=(tq (j1 (xaq c h u) 0) (sqN 2 (sq2 (kq (j0 (xi8 c h u))) (tq (j1 (xib c h u) 0) (sqN 1 (bk 0 (lq (x3i c h u) (λr=>j3 r 13 14 15) λrec0=>(tq (j3 (xap c h u rec0) 13 14 15) (sqN 2 (sq2 (kq (j3 (xan c h u rec0) 13 14 15)) (bk 1 (tq (j3 (xia c h u rec0) 13 14 15) (sqN 1 (bk 2 (sq2 (kq (j6 (xao c h u rec0) 3 4 13 14 15 20)) (kq (j5 (xi9 c h u rec0) 3 4 13 14 15)))))))))))))))))
noncomputable abbrev x1dp:=VX x4o 9 r_0
theorem xq0:x1dp c h u (xrd x4o) r_0 eNil=j2 (xar c h u) 0 1:=(kq (j2 (xar c h u) 0 1))
noncomputable abbrev x1dq:=VX xc 9 r_12
theorem xq1:x1dq c h u (xrd xc) r_12 eNil=j2 (xas c h u) 0 1:=(kq (j2 (xas c h u) 0 1))
noncomputable abbrev x1dr:=VX x4p 66 r_4
theorem xq2:x1dr c h u (xrd x4p) r_4 eNil=j1 (xau c h u) 0:=(tq (j1 (xau c h u) 0) (sqN 4 (sq2 (kq (j0 (xic c h u))) (tq (j2 (xie c h u) 1 6) (sqN 1 (bk 0 (lq (x3j c h u) (λr=>j5 r 1 6 26 27 28) λrec0=>(kq (j5 (xat c h u rec0) 1 6 26 27 28)))))))))
noncomputable abbrev x1ds:=VX x2p 41 r_0
theorem xq3:x1ds c h u (xrd x2p) r_0 eNil=j2 (xav c h u) 0 1:=(kq (j2 (xav c h u) 0 1))
noncomputable abbrev x1dt:=VX x1f 19 r_0
theorem xod:x1dt c h u (xrd x1f) r_0 eNil=j2 (x6w c h u) 0 1:=(tq (j2 (x6w c h u) 0 1) (sqN 1 (sq2 (kq (j0 (xaw c h u))) (tq (j2 (xax c h u) 0 1) (sqN 1 (bk 0 (lq (xw c h u) (λr=>j4 r 0 1 7 8) λrec0=>(kq (j4 (x3k c h u rec0) 0 1 7 8)))))))))
noncomputable abbrev x1du:=VX x4q 59 r_6
theorem xq4:x1du c h u (xrd x4q) r_6 eNil=j1 (xaz c h u) 0:=(tq (j1 (xaz c h u) 0) (sqN 4 (sq2 (kq (j2 (xif c h u) 2 5)) (tq (j4 (xig c h u) 1 2 4 5) (sqN 1 (bk 0 (lq (x5w c h u) (λr=>j7 r 1 2 4 5 25 26 27) λrec0=>(kq (j7 (xay c h u rec0) 1 2 4 5 25 26 27)))))))))
noncomputable abbrev x1dv:=VX x2q 14 r_13
theorem xq5:x1dv c h u (xrd x2q) r_13 eNil=j1 (xb0 c h u) 0:=(kq (j1 (xb0 c h u) 0))
noncomputable abbrev x1dw:=VX x2r 26 r_1
theorem xq6:x1dw c h u (xrd x2r) r_1 eNil=j1 (x6x c h u) 0:=(tq (j1 (x6x c h u) 0) (sqN 3 (sq2 (kq (j2 (xb1 c h u) 1 4)) (tq (j3 (xih c h u) 1 3 4) (sqN 1 (bk 0 (lq (x5x c h u) (λr=>j5 r 1 3 4 10 11) λrec0=>(kq (j5 (xb2 c h u rec0) 1 3 4 10 11)))))))))
noncomputable abbrev x1dx:=VX x2s 169 r_8
theorem xq7:x1dx c h u (xrd x2s) r_8 eNil=j2 (xba c h u) 0 1:=(tq (j2 (xba c h u) 0 1) (sqN 4 (sq2 (sq2 (tq (j4 (xb7 c h u) 1 6 8 9) (sqN 1 (sq2 (tq (j5 (xb5 c h u) 1 6 8 9 14) (sqN 2 (bk 8 (lq (x5y c h u) (λr=>j6 r 6 8 9 14 16 17) λrec0=>(kq (j6 (xb4 c h u rec0) 6 8 9 14 16 17)))))) (tq (j5 (xii c h u) 1 6 8 9 14) (sqN 1 (bk 6 (lq (x5z c h u) (λr=>j6 r 1 6 8 9 14 15) λs=>(kq (j6 (xb6 c h u s) 1 6 8 9 14 15))))))))) (tq (j5 (x61 c h u) 1 2 6 8 9) (sqN 1 (bk 4 (lq (x60 c h u) (λr=>j6 r 1 2 6 8 9 13) λw=>(kq (j6 (xb8 c h u w) 1 2 6 8 9 13))))))) (tq (j6 (xin c h u) 1 2 6 7 8 9) (sqN 1 (bk 0 (lq (xm c h u) (λr=>j7 r 1 2 6 7 8 9 10) λz=>(tq (j7 (x71 c h u z) 1 2 6 7 8 9 10) (sqN 1 (sq2 (kq (j7 (xij c h u z) 1 2 6 7 8 9 10)) (bk 1 (tq (j6 (xim c h u z) 1 2 6 7 8 10) (sqN 1 (sq2 (kq (j7 (x6y c h u z) 1 2 6 7 8 9 10)) (tq (j7 (xil c h u z) 1 2 6 7 8 9 10) (sqN 1 (bk 2 (lq (x3l c h u z) (λr=>j8 r 1 2 6 7 8 9 10 11) λy=>(tq (j8 (x70 c h u z y) 1 2 6 7 8 9 10 11) (sqN 1 (sq2 (kq (j8 (x6z c h u z y) 1 2 6 7 8 9 10 11)) (kq (j8 (xb9 c h u z y) 1 2 6 7 8 9 10 11)))))))))))))))))))))))
noncomputable abbrev x1dy:=VX x2t 87 r_3
theorem xq8:x1dy c h u (xrd x2t) r_3 eNil=j3 (xbe c h u) 0 1 2:=(tq (j3 (xbe c h u) 0 1 2) (sqN 2 (sq2 (tq (j4 (xbc c h u) 1 2 3 7) (sqN 2 (sq2 (kq (j1 (xio c h u) 7)) (tq (j3 (xiq c h u) 3 7 9) (sqN 1 (bk 2 (lq (x1r c h u) (λr=>j4 r 3 7 9 10) λrec0=>(tq (j4 (x73 c h u rec0) 3 7 9 10) (sqN 1 (sq2 (kq (j4 (xbb c h u rec0) 3 7 9 10)) (bk 3 (tq (j4 (xip c h u rec0) 3 7 9 10) (sqN 1 (bk 4 (lq (x1q c h u rec0) (λr=>j5 r 3 7 9 10 11) λs=>(tq (j5 (x63 c h u rec0 s) 3 7 9 10 11) (sqN 1 (sq2 (kq (j5 (x62 c h u rec0 s) 3 7 9 10 11)) (kq (j5 (x72 c h u rec0 s) 3 7 9 10 11)))))))))))))))))))) (tq (j4 (xir c h u) 1 2 3 7) (sqN 1 (bk 0 (lq (x64 c h u) (λr=>j5 r 1 2 3 7 8) λw=>(kq (j5 (xbd c h u w) 1 2 3 7 8)))))))))
noncomputable abbrev x1dz:=VX x19 64 r_1
theorem xq9:x1dz c h u (xrd x19) r_1 eNil=j1 (x75 c h u) 0:=(tq (j1 (x75 c h u) 0) (sqN 2 (sq2 (tq (j2 (x74 c h u) 1 3) (sqN 2 (sq2 (kq (j1 (xis c h u) 3)) (tq (j3 (xiw c h u) 3 5 6) (sqN 1 (bk 2 (lq (xx c h u) (λr=>j5 r 3 6 26 27 28) λrec0=>(tq (j5 (xbf c h u rec0) 3 6 26 27 28) (sqN 2 (sq2 (kq (j5 (xit c h u rec0) 3 6 26 27 28)) (bk 3 (tq (j5 (xiv c h u rec0) 3 6 26 27 28) (sqN 1 (sq2 (kq (j7 (x3m c h u rec0) 3 6 7 8 26 27 28)) (kq (j7 (xiu c h u rec0) 3 6 7 8 26 27 28)))))))))))))))) (bk 0 (lq (x1t c h u) (λr=>j2 r 1 3) λs=>(kq (j2 (xix c h u s) 1 3)))))))
noncomputable abbrev x1e0:=VX x2u 27 r_0
theorem xqa:x1e0 c h u (xrd x2u) r_0 eNil=j2 (xbh c h u) 0 1:=(tq (j2 (xbh c h u) 0 1) (sqN 2 (sq2 (kq (j1 (xiy c h u) 5)) (tq (j3 (xiz c h u) 1 2 5) (sqN 1 (bk 0 (lq (x65 c h u) (λr=>j5 r 1 5 10 11 12) λrec0=>(kq (j5 (xbg c h u rec0) 1 5 10 11 12)))))))))
noncomputable abbrev x1e1:=VX x4r 9 r_11
theorem xqb:x1e1 c h u (xrd x4r) r_11 eNil=j2 (xbi c h u) 0 1:=(kq (j2 (xbi c h u) 0 1))
noncomputable abbrev x1e2:=VX x2v 13 r_14
theorem xqc:x1e2 c h u (xrd x2v) r_14 eNil=j3 (xbj c h u) 0 1 2:=(kq (j3 (xbj c h u) 0 1 2))
noncomputable abbrev x1e3:=VX x4s 11 r_11
theorem xqd:x1e3 c h u (xrd x4s) r_11 eNil=j1 (xbk c h u) 0:=(kq (j1 (xbk c h u) 0))
noncomputable abbrev x1e4:=VX x1a 43 r_11
theorem xqe:x1e4 c h u (xrd x1a) r_11 eNil=j4 (xbn c h u) 0 1 2 3:=(tq (j4 (xbn c h u) 0 1 2 3) (sqN 1 (bk 0 (lq (x1u c h u) (λr=>j6 r 0 2 3 12 13 14) λrec0=>(tq (j6 (xbm c h u rec0) 0 2 3 12 13 14) (sqN 2 (sq2 (kq (j6 (xj0 c h u rec0) 0 2 3 12 13 14)) (bk 1 (tq (j6 (xj1 c h u rec0) 0 2 3 12 13 14) (sqN 2 (bk 2 (lq (x3n c h u rec0) (λr=>j9 r 0 2 3 6 12 13 14 18 19) λs=>(kq (j9 (xbl c h u rec0 s) 0 2 3 6 12 13 14 18 19))))))))))))))
noncomputable abbrev x1e5:=VX x4t 19 r_0
theorem xqf:x1e5 c h u (xrd x4t) r_0 eNil=j2 (xbp c h u) 0 1:=(tq (j2 (xbp c h u) 0 1) (sqN 1 (sq2 (kq (j0 (xj2 c h u))) (tq (j2 (xj3 c h u) 0 1) (sqN 1 (bk 0 (lq (x66 c h u) (λr=>j4 r 0 1 7 8) λrec0=>(kq (j4 (xbo c h u rec0) 0 1 7 8)))))))))
noncomputable abbrev x1e6:=VX x2w 6 r_1
theorem xqg:x1e6 c h u (xrd x2w) r_1 eNil=j1 (xbq c h u) 0:=(kq (j1 (xbq c h u) 0))
noncomputable abbrev x1e7:=VX x2x 62 r_4
theorem xqh:x1e7 c h u (xrd x2x) r_4 eNil=j1 (xbs c h u) 0:=(tq (j1 (xbs c h u) 0) (sqN 2 (sq2 (kq (j0 (xj4 c h u))) (tq (j1 (xj5 c h u) 1) (sqN 1 (bk 1 (lq (x67 c h u) (λr=>j4 r 1 17 18 19) λrec0=>(kq (j4 (xbr c h u rec0) 1 17 18 19)))))))))
noncomputable abbrev x1e8:=VX x2y 47 r_0
theorem xqi:x1e8 c h u (xrd x2y) r_0 eNil=j2 (x79 c h u) 0 1:=(tq (j2 (x79 c h u) 0 1) (sqN 2 (sq2 (kq (j1 (xj6 c h u) 5)) (tq (j3 (xj7 c h u) 0 1 5) (sqN 1 (bk 0 (lq (x3o c h u) (λr=>j5 r 0 1 5 12 13) λrec0=>(tq (j5 (x78 c h u rec0) 0 1 5 12 13) (sqN 2 (sq2 (kq (j5 (x77 c h u rec0) 0 1 5 12 13)) (kq (j5 (xbt c h u rec0) 0 1 5 12 13))))))))))))
noncomputable abbrev x1e9:=VX x2z 45 r_0
theorem xqj:x1e9 c h u (xrd x2z) r_0 eNil=j2 (xbw c h u) 0 1:=(tq (j2 (xbw c h u) 0 1) (sqN 3 (sq2 (kq (j1 (xj8 c h u) 5)) (tq (j3 (xj9 c h u) 1 5 6) (sqN 1 (bk 0 (lq (x1v c h u) (λr=>j5 r 1 5 6 14 15) λrec0=>(tq (j5 (x7c c h u rec0) 1 5 6 14 15) (sqN 2 (sq2 (kq (j5 (x7a c h u rec0) 1 5 6 14 15)) (bk 1 (tq (j5 (xbv c h u rec0) 1 5 6 14 15) (sqN 4 (sq2 (kq (j5 (xbu c h u rec0) 1 5 6 14 15)) (bk 2 (lq (x3p c h u rec0) (λr=>j6 r 1 5 6 8 14 15) λs=>(kq (j6 (x7b c h u rec0 s) 1 5 6 8 14 15))))))))))))))))))
noncomputable abbrev x1ea:=VX x1e 53 r_11
theorem xoa:x1ea c h u (xrd x1e) r_11 eNil=j4 (x7d c h u) 0 1 2 3:=(tq (j4 (x7d c h u) 0 1 2 3) (sqN 1 (bk 0 (lq (xy c h u) (λr=>j5 r 0 1 3 9 10) λrec0=>(tq (j5 (x3r c h u rec0) 0 1 3 9 10) (sqN 2 (sq2 (kq (j5 (x3q c h u rec0) 0 1 3 9 10)) (kq (j5 (x69 c h u rec0) 0 1 3 9 10)))))))))
noncomputable abbrev x1eb:=VX x30 73 r_0
theorem xqk:x1eb c h u (xrd x30) r_0 eNil=j2 (xby c h u) 0 1:=(tq (j2 (xby c h u) 0 1) (sqN 2 (sq2 (kq (j1 (xja c h u) 5)) (tq (j3 (xjc c h u) 1 2 5) (sqN 1 (bk 0 (lq (x3s c h u) (λr=>j4 r 1 2 5 6) λrec0=>(tq (j4 (xbx c h u rec0) 1 2 5 6) (sqN 1 (sq2 (kq (j4 (x7e c h u rec0) 1 2 5 6)) (bk 1 (tq (j4 (xjb c h u rec0) 1 2 5 6) (sqN 1 (sq2 (kq (j5 (x6a c h u rec0) 1 2 5 6 7)) (kq (j5 (x7f c h u rec0) 1 2 5 6 7))))))))))))))))
noncomputable abbrev x1ec:=VX x31 132 r_1
theorem xql:x1ec c h u (xrd x31) r_1 eNil=j1 (xc0 c h u) 0:=(tq (j1 (xc0 c h u) 0) (sqN 2 (sq2 (kq (j1 (xjd c h u) 3)) (tq (j2 (xjh c h u) 1 3) (sqN 1 (bk 0 (lq (x1w c h u) (λr=>j4 r 3 28 29 30) λrec0=>(tq (j4 (xbz c h u rec0) 3 28 29 30) (sqN 2 (sq2 (kq (j4 (xje c h u rec0) 3 28 29 30)) (bk 1 (tq (j4 (xjg c h u rec0) 3 28 29 30) (sqN 1 (sq2 (kq (j6 (x3t c h u rec0) 3 4 5 28 29 30)) (kq (j6 (xjf c h u rec0) 3 4 5 28 29 30))))))))))))))))
noncomputable abbrev x1ed:=VX x10 5 r_1
theorem xoe:x1ed c h u (xrd x10) r_1 eNil=j1 (xc1 c h u) 0:=(kq (j1 (xc1 c h u) 0))
noncomputable abbrev x1ee:=VX x32 160 r_11
theorem xqm:x1ee c h u (xrd x32) r_11 eNil=j2 (xc9 c h u) 0 1:=(tq (j2 (xc9 c h u) 0 1) (sqN 2 (sq2 (tq (j4 (xc7 c h u) 0 1 4 5) (sqN 1 (sq2 (sq2 (tq (j5 (xc3 c h u) 0 1 4 5 8) (sqN 3 (bk 6 (lq (x6b c h u) (λr=>j6 r 0 4 5 136 137 138) λrec0=>(kq (j6 (xc2 c h u rec0) 0 4 5 136 137 138)))))) (tq (j5 (xc5 c h u) 0 1 4 5 8) (sqN 1 (bk 4 (lq (x6c c h u) (λr=>j6 r 0 1 4 5 8 10) λs=>(kq (j6 (xc4 c h u s) 0 1 4 5 8 10))))))) (tq (j5 (xji c h u) 0 1 4 5 8) (sqN 1 (bk 2 (lq (x6d c h u) (λr=>j6 r 0 1 4 5 8 9) λw=>(kq (j6 (xc6 c h u w) 0 1 4 5 8 9))))))))) (tq (j4 (xjj c h u) 0 1 4 5) (sqN 1 (bk 0 (lq (x3u c h u) (λr=>j7 r 0 1 4 5 17 18 19) λz=>(tq (j7 (x7g c h u z) 0 1 4 5 17 18 19) (sqN 2 (sq2 (kq (j7 (x1x c h u z) 0 1 4 5 17 18 19)) (kq (j7 (xc8 c h u z) 0 1 4 5 17 18 19))))))))))))
noncomputable abbrev x1ef:=VX x4u 53 r_1
theorem xqn:x1ef c h u (xrd x4u) r_1 eNil=j1 (x7j c h u) 0:=(tq (j1 (x7j c h u) 0) (sqN 2 (sq2 (kq (j2 (xca c h u) 1 3)) (tq (j2 (xjk c h u) 1 3) (sqN 1 (bk 0 (lq (x1y c h u) (λr=>j5 r 1 3 12 13 14) λrec0=>(tq (j5 (x7i c h u rec0) 1 3 12 13 14) (sqN 2 (sq2 (kq (j5 (x7h c h u rec0) 1 3 12 13 14)) (kq (j5 (xcb c h u rec0) 1 3 12 13 14))))))))))))
noncomputable abbrev x1eg:=VX x44 7 r_1
theorem xoc:x1eg c h u (xrd x44) r_1 eNil=j1 (xcc c h u) 0:=(kq (j1 (xcc c h u) 0))
noncomputable abbrev x1eh:=VX x43 19 r_0
theorem xob:x1eh c h u (xrd x43) r_0 eNil=j2 (xcd c h u) 0 1:=(kq (j2 (xcd c h u) 0 1))
noncomputable abbrev x1ei:=VX x6k 63 r_11
theorem xqo:x1ei c h u (xrd x6k) r_11 eNil=j3 (xcg c h u) 0 1 2:=(tq (j3 (xcg c h u) 0 1 2) (sqN 2 (sq2 (tq (j5 (xjo c h u) 0 1 2 6 7) (sqN 1 (bk 2 (lq (xce c h u) (λr=>j4 r 0 1 2 6) λrec0=>(tq (j4 (xjn c h u rec0) 0 1 2 6) (sqN 1 (bk 3 (tq (j4 (xku c h u rec0) 0 1 2 6) (sqN 1 (sq2 (sq2 (kq (j4 (xjl c h u rec0) 0 1 2 6)) (kq (j5 (xkr c h u rec0) 0 1 2 6 7))) (bk 4 (lq (xjm c h u rec0) (λr=>j6 r 0 1 2 6 7 8) λs=>(kq (j6 (xkt c h u rec0 s) 0 1 2 6 7 8)))))))))))))) (bk 0 (lq (xcf c h u) (λr=>j6 r 0 1 2 6 7 8) λw=>(kq (j6 (xjp c h u w) 0 1 2 6 7 8)))))))
noncomputable abbrev x1ej:=VX x33 134 r_11
theorem xqp:x1ej c h u (xrd x33) r_11 eNil=j4 (xci c h u) 0 1 2 3:=(tq (j4 (xci c h u) 0 1 2 3) (sqN 2 (bk 0 (lq (xch c h u) (λr=>j6 r 0 1 2 3 8 9) λrec0=>(bk 1 (tq (j6 (xjt c h u rec0) 0 1 2 3 8 9) (sqN 3 (sq2 (tq (j7 (xjs c h u rec0) 0 1 2 3 8 9 10) (sqN 1 (sq2 (sq2 (kq (j8 (xjq c h u rec0) 0 1 2 3 8 9 10 11)) (kq (j9 (xjr c h u rec0) 0 1 2 3 8 9 10 11 12))) (kq (j9 (xkv c h u rec0) 0 1 2 3 8 9 10 11 12))))) (kq (j7 (xkw c h u rec0) 0 1 2 3 8 9 10))))))))))
noncomputable abbrev x1ek:=VX x4v 8 r_1
theorem xqq:x1ek c h u (xrd x4v) r_1 eNil=j1 (xcj c h u) 0:=(kq (j1 (xcj c h u) 0))
noncomputable abbrev x1el:=VX xq 15 r_3
theorem xo5:x1el c h u (xrd xq) r_3 eNil=j3 (xck c h u) 0 1 2:=(kq (j3 (xck c h u) 0 1 2))
noncomputable abbrev x1em:=VX x4w 5 r_1
theorem xqr:x1em c h u (xrd x4w) r_1 eNil=j1 (xcl c h u) 0:=(kq (j1 (xcl c h u) 0))
noncomputable abbrev x1en:=VX xz 139 r_15
theorem xo7:x1en c h u (xrd xz) r_15 eNil=j2 (xcn c h u) 0 1:=(tq (j2 (xcn c h u) 0 1) (sqN 4 (bk 0 (lq (x1b c h u) (λr=>j4 r 2 4 5 6) λrec0=>(bk 1 (tq (j4 (xjw c h u rec0) 2 4 5 6) (sqN 1 (sq2 (tq (j5 (x3w c h u rec0) 2 4 5 6 7) (sqN 3 (bk 4 (tq (j6 (xju c h u rec0) 2 4 5 6 7 86) (rg (.tmp 86) #[87] (λu=>(kq (j4 (x7k c h u) 2 5 7 10))) (λu=>(kq (j4 (x3v c h u) 2 5 7 87)))))))) (tq (j5 (xjv c h u rec0) 2 4 5 6 7) (sqN 1 (bk 2 (lq (x3x c h u rec0) (λr=>j8 r 2 4 5 6 7 47 48 49) λs=>(tq (j8 (x7l c h u rec0 s) 2 4 5 6 7 47 48 49) (sqN 2 (sq2 (kq (j8 (x1z c h u rec0 s) 2 4 5 6 7 47 48 49)) (kq (j8 (xcm c h u rec0 s) 2 4 5 6 7 47 48 49)))))))))))))))))
noncomputable abbrev x1eo:=VX xu 48 r_0
theorem xqs:x1eo c h u (xrd xu) r_0 eNil=j2 (xcq c h u) 0 1:=(tq (j2 (xcq c h u) 0 1) (sqN 1 (sq2 (tq (j2 (xjz c h u) 0 1) (sqN 1 (sq2 (tq (j2 (xjx c h u) 0 6) (sqN 2 (sq2 (kq (j1 (xco c h u) 7)) (bk 0 (lq (x3y c h u) (λr=>j2 r 7 8) λrec0=>(kq (j2 (xcp c h u rec0) 7 8))))))) (kq (j3 (xjy c h u) 0 5 6))))) (kq (j2 (xk1 c h u) 0 1)))))
noncomputable abbrev x1ep:=VX xh 18 r_11
theorem xo6:x1ep c h u (xrd xh) r_11 eNil=j4 (x6f c h u) 0 1 2 3:=(kq (j4 (x6f c h u) 0 1 2 3))
noncomputable abbrev x1eq:=VX x1d 20 r_11
theorem xo9:x1eq c h u (xrd x1d) r_11 eNil=j3 (x7m c h u) 0 1 2:=(tq (j3 (x7m c h u) 0 1 2) (sqN 1 (bk 0 (lq (x6g c h u) (λr=>j4 r 1 10 11 12) λrec0=>(kq (j4 (xcr c h u rec0) 1 10 11 12))))))
noncomputable abbrev x1er:=VX x34 53 r_11
theorem xqt:x1er c h u (xrd x34) r_11 eNil=j4 (xcu c h u) 0 1 2 3:=(tq (j4 (xcu c h u) 0 1 2 3) (sqN 1 (bk 0 (lq (x20 c h u) (λr=>j5 r 0 1 2 3 8) λrec0=>(tq (j5 (x7n c h u rec0) 0 1 2 3 8) (sqN 1 (sq2 (kq (j5 (xcs c h u rec0) 0 1 2 3 8)) (bk 1 (tq (j5 (xk2 c h u rec0) 0 1 2 3 8) (sqN 1 (bk 2 (lq (x6h c h u rec0) (λr=>j6 r 0 1 2 3 8 9) λs=>(kq (j6 (xct c h u rec0 s) 0 1 2 3 8 9))))))))))))))
noncomputable abbrev x1es:=VX x4x 49 r_11
theorem xqu:x1es c h u (xrd x4x) r_11 eNil=j3 (xcx c h u) 0 1 2:=(tq (j3 (xcx c h u) 0 1 2) (sqN 1 (bk 0 (lq (x21 c h u) (λr=>j4 r 0 1 2 6) λrec0=>(tq (j4 (x7o c h u rec0) 0 1 2 6) (sqN 1 (sq2 (kq (j4 (xcv c h u rec0) 0 1 2 6)) (bk 1 (tq (j4 (xk3 c h u rec0) 0 1 2 6) (sqN 1 (bk 2 (lq (x6i c h u rec0) (λr=>j5 r 0 1 2 6 7) λs=>(kq (j5 (xcw c h u rec0 s) 0 1 2 6 7))))))))))))))
noncomputable abbrev x1et:=VX x35 17 r_0
theorem xqv:x1et c h u (xrd x35) r_0 eNil=j2 (xcy c h u) 0 1:=(kq (j2 (xcy c h u) 0 1))
noncomputable abbrev x1eu:=VX x4y 25 r_1
theorem xqw:x1eu c h u (xrd x4y) r_1 eNil=j1 (xk7 c h u) 0:=(tq (j1 (xk7 c h u) 0) (sqN 1 (sq2 (sq2 (sq2 (kq (j2 (xk4 c h u) 0 2)) (kq (j2 (xk5 c h u) 0 2))) (kq (j2 (xk6 c h u) 0 2))) (kq (j2 (xkx c h u) 0 2)))))
noncomputable abbrev x1ev:=VX x42 6 r_0
theorem xo8:x1ev c h u (xrd x42) r_0 eNil=j2 (xcz c h u) 0 1:=(kq (j2 (xcz c h u) 0 1))
noncomputable abbrev x1ew:=VX x36 6 r_1
theorem xqx:x1ew c h u (xrd x36) r_1 eNil=j1 (xd0 c h u) 0:=(kq (j1 (xd0 c h u) 0))
noncomputable abbrev x1ex:=VX x22 76 r_11
theorem xo4:x1ex c h u (xrd x22) r_11 eNil=j3 (xd3 c h u) 0 1 2:=(tq (j3 (xd3 c h u) 0 1 2) (sqN 1 (bk 0 (lq (x1c c h u) (λr=>j6 r 0 1 2 14 15 16) λrec0=>(tq (j6 (xd2 c h u rec0) 0 1 2 14 15 16) (sqN 2 (sq2 (kq (j6 (xd1 c h u rec0) 0 1 2 14 15 16)) (bk 1 (tq (j6 (xk8 c h u rec0) 0 1 2 14 15 16) (sqN 3 (sq2 (kq (j7 (x7p c h u rec0) 0 1 2 7 14 15 16)) (kq (j9 (x7q c h u rec0) 0 1 2 5 6 7 14 15 16)))))))))))))
end Go.Ix
