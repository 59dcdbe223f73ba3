import Derived.Test.YtjdlceelbnaneaaFxText0
import Derived.Test.YtjdlceelbnaneaaFxEnt
import Derived.Test.YtjdlceelbnaneaaFxRules
import Derived.Test.YtjdlceelbnaneaaFxProj
import Derived.ProofKit
set_option linter.unusedVariables false
namespace Go.Ix
open Go.Proofs
variable{c:x9a}{h:FHs}{u:Nat}
noncomputable abbrev xlw:=VX x2b 113 r_0
theorem x7x:xlw c h u (x9h x2b) r_0 eNil=j3 (x2v c h u) 0 1 2:=(kq (j3 (x2v c h u) 0 1 2))
noncomputable abbrev xlx:=VX x1m 11 r_1
theorem x7y:xlx c h u (x9h x1m) r_1 eNil=j1 (x2w c h u) 0:=(kq (j1 (x2w c h u) 0))
noncomputable abbrev xly:=VX x1n 42 r_2
theorem x7z:xly c h u (x9h x1n) r_2 eNil=j3 (x2x c h u) 0 1 2:=(kq (j3 (x2x c h u) 0 1 2))
noncomputable abbrev xlz:=VX xo 10 r_3
theorem x80:xlz c h u (x9h xo) r_3 eNil=j1 (x2y c h u) 0:=(kq (j1 (x2y c h u) 0))
noncomputable abbrev xm0:=VX xz 15 r_0
theorem x81:xm0 c h u (x9h xz) r_0 eNil=j3 (x2z c h u) 0 1 2:=(kq (j3 (x2z c h u) 0 1 2))
noncomputable abbrev xm1:=VX x10 55 r_4
theorem x82:xm1 c h u (x9h x10) r_4 eNil=j3 (x30 c h u) 0 1 2:=(kq (j3 (x30 c h u) 0 1 2))
noncomputable abbrev xm2:=VX x11 7 r_1
theorem x83:xm2 c h u (x9h x11) r_1 eNil=j1 (x31 c h u) 0:=(kq (j1 (x31 c h u) 0))
noncomputable abbrev xm3:=VX x12 47 r_5
theorem x84:xm3 c h u (x9h x12) r_5 eNil=j4 (x33 c h u) 0 1 2 3:=(tq (j4 (x33 c h u) 0 1 2 3) (sqN 1 (bk 0 (lq (x22 c h u) (λr=>j4 r 0 1 2 3) λrec0=>(kq (j4 (x32 c h u rec0) 0 1 2 3))))))
noncomputable abbrev xm4:=VX x13 16 r_6
theorem x85:xm4 c h u (x9h x13) r_6 eNil=j2 (x34 c h u) 0 1:=(tq (j2 (x34 c h u) 0 1) (sqN 2 (sq2 (kq (j1 (x2d c h u) 5)) (kq (j3 (x5m c h u) 0 1 5)))))
noncomputable abbrev xm5:=VX x14 7 r_1
theorem x86:xm5 c h u (x9h x14) r_1 eNil=j1 (x35 c h u) 0:=(kq (j1 (x35 c h u) 0))
noncomputable abbrev xm6:=VX x15 10 r_7
theorem x87:xm6 c h u (x9h x15) r_7 eNil=j1 (x36 c h u) 0:=(kq (j1 (x36 c h u) 0))
noncomputable abbrev xm7:=VX x1o 35 r_8
theorem x88:xm7 c h u (x9h x1o) r_8 eNil=j3 (x37 c h u) 0 1 2:=(tq (j3 (x37 c h u) 0 1 2) (sqN 2 (sq2 (kq (j2 (x5n c h u) 6 7)) (tq (j3 (x5p c h u) 2 6 7) (sqN 1 (bk 0 (lq (x2e c h u) (λr=>j4 r 2 6 7 8) λrec0=>(kq (j4 (x5o c h u rec0) 2 6 7 8)))))))))
noncomputable abbrev xm8:=VX x16 29 r_9
theorem x89:xm8 c h u (x9h x16) r_9 eNil=j1 (x3b c h u) 0:=(tq (j1 (x3b c h u) 0) (sqN 1 (sq2 (kq (j2 (x5q c h u) 1 2)) (tq (j2 (x5s c h u) 1 2) (sqN 1 (bk 0 (lq (x3a c h u) (λr=>j4 r 1 2 11 12) λrec0=>(kq (j4 (x5r c h u rec0) 1 2 11 12)))))))))
noncomputable abbrev xm9:=VX x17 21 r_6
theorem x8a:xm9 c h u (x9h x17) r_6 eNil=j2 (x3c c h u) 0 1:=(kq (j2 (x3c c h u) 0 1))
noncomputable abbrev xma:=VX xl 91 r_10
theorem x8b:xma c h u (x9h xl) r_10 eNil=j3 (x2i c h u) 0 1 2:=(tq (j3 (x2i c h u) 0 1 2) (sqN 6 (sq2 (sq2 (kq (j4 (x2f c h u) 6 9 10 11)) (tq (j7 (x3d c h u) 3 4 6 9 10 11 12) (sqN 1 (bk 2 (tq (j6 (x5u c h u) 6 9 10 11 12 55) (rg (.tmp 55) #[56,57] (λu=>(kq (j5 (x5t c h u) 9 10 12 15 16))) (λu=>(kq (j5 (x2g c h u) 9 10 12 56 57))))))))) (tq (j8 (x5x c h u) 3 4 6 8 9 10 11 12) (sqN 1 (bk 0 (tq (j8 (x5w c h u) 3 4 6 9 10 11 12 41) (rg (.tmp 41) #[42,43] (λu=>(kq (j3 (x5v c h u) 11 12 14))) (λu=>(kq (j3 (x2h c h u) 11 12 43)))))))))))
noncomputable abbrev xmb:=VX x18 18 r_11
theorem x8c:xmb c h u (x9h x18) r_11 eNil=j1 (x3f c h u) 0:=(kq (j1 (x3f c h u) 0))
noncomputable abbrev xmc:=VX xd 15 r_0
theorem x8d:xmc c h u (x9h xd) r_0 eNil=j3 (x3g c h u) 0 1 2:=(kq (j3 (x3g c h u) 0 1 2))
noncomputable abbrev xmd:=VX xp 57 r_12
theorem x8e:xmd c h u (x9h xp) r_12 eNil=j3 (x3i c h u) 0 1 2:=(tq (j3 (x3i c h u) 0 1 2) (sqN 3 (sq2 (kq (j3 (x5z c h u) 6 8 9)) (tq (j6 (x61 c h u) 2 3 4 6 8 9) (sqN 1 (bk 0 (lq (xv c h u) (λr=>j7 r 2 3 4 6 8 9 10) λrec0=>(tq (j7 (x3h c h u rec0) 2 3 4 6 8 9 10) (sqN 1 (sq2 (kq (j7 (x2j c h u rec0) 2 3 4 6 8 9 10)) (bk 1 (tq (j7 (x60 c h u rec0) 2 3 4 6 8 9 10) (sqN 1 (bk 2 (lq (x1l c h u rec0) (λr=>j8 r 2 3 4 6 8 9 10 11) λs=>(tq (j8 (x1k c h u rec0 s) 2 3 4 6 8 9 10 11) (sqN 1 (sq2 (kq (j8 (x2k c h u rec0 s) 2 3 4 6 8 9 10 11)) (kq (j8 (x23 c h u rec0 s) 2 3 4 6 8 9 10 11))))))))))))))))))))
noncomputable abbrev xme:=VX x1p 11 r_1
theorem x8f:xme c h u (x9h x1p) r_1 eNil=j1 (x3j c h u) 0:=(kq (j1 (x3j c h u) 0))
noncomputable abbrev xmf:=VX x19 6 r_6
theorem x8g:xmf c h u (x9h x19) r_6 eNil=j2 (x3k c h u) 0 1:=(kq (j2 (x3k c h u) 0 1))
noncomputable abbrev xmg:=VX xc 7 r_1
theorem x8h:xmg c h u (x9h xc) r_1 eNil=j1 (x2l c h u) 0:=(kq (j1 (x2l c h u) 0))
noncomputable abbrev xmh:=VX x1a 25 r_6
theorem x8i:xmh c h u (x9h x1a) r_6 eNil=j2 (x3l c h u) 0 1:=(kq (j2 (x3l c h u) 0 1))
noncomputable abbrev xmi:=VX x1q 18 r_13
theorem x8j:xmi c h u (x9h x1q) r_13 eNil=j2 (x3m c h u) 0 1:=(kq (j2 (x3m c h u) 0 1))
noncomputable abbrev xmj:=VX xq 18 r_1
theorem x8k:xmj c h u (x9h xq) r_1 eNil=j1 (x3n c h u) 0:=(kq (j1 (x3n c h u) 0))
noncomputable abbrev xmk:=VX x1r 13 r_6
theorem x8l:xmk c h u (x9h x1r) r_6 eNil=j2 (x3p c h u) 0 1:=(tq (j2 (x3p c h u) 0 1) (sqN 1 (sq2 (kq (j1 (x3o c h u) 0)) (bk 0 (lq (xw c h u) (λr=>j2 r 0 1) λrec0=>(kq (j2 (x24 c h u rec0) 0 1)))))))
noncomputable abbrev xml:=VX x1s 26 r_6
theorem x8m:xml c h u (x9h x1s) r_6 eNil=j2 (x3q c h u) 0 1:=(kq (j2 (x3q c h u) 0 1))
noncomputable abbrev xmm:=VX x1t 21 r_14
theorem x8n:xmm c h u (x9h x1t) r_14 eNil=j1 (x3r c h u) 0:=(kq (j1 (x3r c h u) 0))
noncomputable abbrev xmn:=VX x1u 36 r_0
theorem x8o:xmn c h u (x9h x1u) r_0 eNil=j3 (x25 c h u) 0 1 2:=(kq (j3 (x25 c h u) 0 1 2))
noncomputable abbrev xmo:=VX xf 34 r_15
theorem x8p:xmo c h u (x9h xf) r_15 eNil=j3 (x3t c h u) 0 1 2:=(tq (j3 (x3t c h u) 0 1 2) (sqN 1 (bk 0 (lq (x26 c h u) (λr=>j5 r 0 1 2 9 10) λrec0=>(kq (j5 (x3s c h u rec0) 0 1 2 9 10))))))
noncomputable abbrev xmp:=VX xb 12 r_1
theorem x8q:xmp c h u (x9h xb) r_1 eNil=j1 (x3u c h u) 0:=(kq (j1 (x3u c h u) 0))
noncomputable abbrev xmq:=VX xm 18 r_1
theorem x8r:xmq c h u (x9h xm) r_1 eNil=j1 (x3w c h u) 0:=(tq (j1 (x3w c h u) 0) (sqN 2 (sq2 (kq (j1 (x63 c h u) 3)) (tq (j2 (x64 c h u) 0 3) (sqN 1 (bk 0 (lq (x27 c h u) (λr=>j4 r 3 6 7 8) λrec0=>(kq (j4 (x3v c h u rec0) 3 6 7 8)))))))))
noncomputable abbrev xmr:=VX x1v 37 r_6
theorem x8s:xmr c h u (x9h x1v) r_6 eNil=j2 (x3x c h u) 0 1:=(kq (j2 (x3x c h u) 0 1))
noncomputable abbrev xms:=VX x1b 20 r_6
theorem x8t:xms c h u (x9h x1b) r_6 eNil=j2 (x3y c h u) 0 1:=(kq (j2 (x3y c h u) 0 1))
noncomputable abbrev xmt:=VX x1w 36 r_6
theorem x8u:xmt c h u (x9h x1w) r_6 eNil=j2 (x40 c h u) 0 1:=(tq (j2 (x40 c h u) 0 1) (sqN 1 (sq2 (kq (j2 (x65 c h u) 0 1)) (tq (j2 (x67 c h u) 0 1) (sqN 1 (bk 0 (lq (x3z c h u) (λr=>j5 r 0 1 9 10 11) λrec0=>(kq (j5 (x66 c h u rec0) 0 1 9 10 11)))))))))
noncomputable abbrev xmu:=VX x1x 22 r_0
theorem x8v:xmu c h u (x9h x1x) r_0 eNil=j3 (x41 c h u) 0 1 2:=(kq (j3 (x41 c h u) 0 1 2))
noncomputable abbrev xmv:=VX x1y 24 r_16
theorem x8w:xmv c h u (x9h x1y) r_16 eNil=j2 (x43 c h u) 0 1:=(tq (j2 (x43 c h u) 0 1) (sqN 1 (sq2 (kq (j0 (x68 c h u))) (tq (j2 (x69 c h u) 0 1) (sqN 1 (bk 0 (lq (x28 c h u) (λr=>j4 r 1 9 10 11) λrec0=>(kq (j4 (x42 c h u rec0) 1 9 10 11)))))))))
noncomputable abbrev xmw:=VX xy 51 r_16
theorem x7w:xmw c h u (x9h xy) r_16 eNil=j2 (x44 c h u) 0 1:=(kq (j2 (x44 c h u) 0 1))
noncomputable abbrev xmx:=VX x1c 20 r_6
theorem x8x:xmx c h u (x9h x1c) r_6 eNil=j2 (x45 c h u) 0 1:=(kq (j2 (x45 c h u) 0 1))
noncomputable abbrev xmy:=VX x1d 6 r_1
theorem x8y:xmy c h u (x9h x1d) r_1 eNil=j1 (x46 c h u) 0:=(kq (j1 (x46 c h u) 0))
noncomputable abbrev xmz:=VX x1e 15 r_0
theorem x8z:xmz c h u (x9h x1e) r_0 eNil=j3 (x47 c h u) 0 1 2:=(kq (j3 (x47 c h u) 0 1 2))
noncomputable abbrev xn0:=VX x1z 40 r_6
theorem x90:xn0 c h u (x9h x1z) r_6 eNil=j2 (x48 c h u) 0 1:=(tq (j2 (x48 c h u) 0 1) (sqN 3 (sq2 (sq2 (kq (j0 (x6k c h u))) (tq (j2 (x6a c h u) 1 6) (sqN 1 (bk 2 (lq (x2n c h u) (λr=>j3 r 1 31 32) λrec0=>(kq (j3 (xi c h u rec0) 1 31 32))))))) (tq (j2 (x6b c h u) 1 6) (sqN 1 (bk 0 (lq (x2o c h u) (λr=>j4 r 1 6 18 19) λs=>(kq (j4 (xj c h u s) 1 6 18 19)))))))))
noncomputable abbrev xn1:=VX x1f 6 r_1
theorem x91:xn1 c h u (x9h x1f) r_1 eNil=j1 (x49 c h u) 0:=(kq (j1 (x49 c h u) 0))
noncomputable abbrev xn2:=VX x1g 15 r_6
theorem x92:xn2 c h u (x9h x1g) r_6 eNil=j2 (x4a c h u) 0 1:=(tq (j2 (x4a c h u) 0 1) (sqN 1 (sq2 (kq (j1 (x2p c h u) 0)) (kq (j2 (x6c c h u) 0 1)))))
noncomputable abbrev xn3:=VX x1h 7 r_1
theorem x93:xn3 c h u (x9h x1h) r_1 eNil=j1 (x4b c h u) 0:=(kq (j1 (x4b c h u) 0))
noncomputable abbrev xn4:=VX xt 7 r_1
theorem x94:xn4 c h u (x9h xt) r_1 eNil=j1 (x4c c h u) 0:=(kq (j1 (x4c c h u) 0))
end Go.Ix
