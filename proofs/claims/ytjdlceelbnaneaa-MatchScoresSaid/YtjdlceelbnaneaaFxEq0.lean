import Derived.Test.YtjdlceelbnaneaaFxText0
import Derived.Test.YtjdlceelbnaneaaFxEnt
import Derived.Test.YtjdlceelbnaneaaFxRules
import Derived.Test.YtjdlceelbnaneaaFxProj
import Derived.ProofKit
set_option linter.unusedVariables false
namespace Go.Ix
open Go.Proofs
variable{c:x8y}{h:FHs}{u:Nat}
noncomputable abbrev xlp:=VX x23 96 r_0
theorem x7k:xlp c h u (x97 x23) r_0 eNil=j3 (x2m c h u) 0 1 2:=(kq (j3 (x2m c h u) 0 1 2))
noncomputable abbrev xlq:=VX x15 11 r_1
theorem x7l:xlq c h u (x97 x15) r_1 eNil=j1 (x2o c h u) 0:=(kq (j1 (x2o c h u) 0))
noncomputable abbrev xlr:=VX xr 42 r_2
theorem x7m:xlr c h u (x97 xr) r_2 eNil=j3 (x2p c h u) 0 1 2:=(kq (j3 (x2p c h u) 0 1 2))
noncomputable abbrev xls:=VX xj 10 r_3
theorem x7n:xls c h u (x97 xj) r_3 eNil=j1 (x2q c h u) 0:=(kq (j1 (x2q c h u) 0))
noncomputable abbrev xlt:=VX x16 15 r_4
theorem x7o:xlt c h u (x97 x16) r_4 eNil=j2 (x2r c h u) 0 1:=(kq (j2 (x2r c h u) 0 1))
noncomputable abbrev xlu:=VX x17 159 r_2
theorem x7p:xlu c h u (x97 x17) r_2 eNil=j3 (x2w c h u) 0 1 2:=(tq (j3 (x2w c h u) 0 1 2) (sqN 3 (sq2 (kq (j5 (x2s c h u) 6 8 9 10 11)) (tq (j8 (x5h c h u) 3 4 5 6 8 9 10 11) (sqN 1 (bk 0 (lq (xn c h u) (λr=>j9 r 3 4 5 6 8 9 10 11 12) λrec0=>(tq (j9 (x2v c h u rec0) 3 4 5 6 8 9 10 11 12) (sqN 1 (sq2 (kq (j9 (x2t c h u rec0) 3 4 5 6 8 9 10 11 12)) (bk 1 (tq (j9 (x5g c h u rec0) 3 4 5 6 8 9 10 11 12) (sqN 1 (bk 2 (lq (x1u c h u rec0) (λr=>j10 r 3 4 5 6 8 9 10 11 12 13) λs=>(kq (j10 (x2u c h u rec0 s) 3 4 5 6 8 9 10 11 12 13)))))))))))))))))
noncomputable abbrev xlv:=VX xc 15 r_0
theorem x7q:xlv c h u (x97 xc) r_0 eNil=j3 (x2x c h u) 0 1 2:=(kq (j3 (x2x c h u) 0 1 2))
noncomputable abbrev xlw:=VX x18 7 r_1
theorem x7r:xlw c h u (x97 x18) r_1 eNil=j1 (x2y c h u) 0:=(kq (j1 (x2y c h u) 0))
noncomputable abbrev xlx:=VX xt 7 r_1
theorem x7s:xlx c h u (x97 xt) r_1 eNil=j1 (x2z c h u) 0:=(kq (j1 (x2z c h u) 0))
noncomputable abbrev xly:=VX xu 10 r_5
theorem x7t:xly c h u (x97 xu) r_5 eNil=j1 (x30 c h u) 0:=(kq (j1 (x30 c h u) 0))
noncomputable abbrev xlz:=VX xv 11 r_1
theorem x7u:xlz c h u (x97 xv) r_1 eNil=j1 (x31 c h u) 0:=(kq (j1 (x31 c h u) 0))
noncomputable abbrev xm0:=VX xw 26 r_6
theorem x7v:xm0 c h u (x97 xw) r_6 eNil=j3 (x32 c h u) 0 1 2:=(kq (j3 (x32 c h u) 0 1 2))
noncomputable abbrev xm1:=VX x19 26 r_4
theorem x7w:xm1 c h u (x97 x19) r_4 eNil=j2 (x33 c h u) 0 1:=(kq (j2 (x33 c h u) 0 1))
noncomputable abbrev xm2:=VX x1a 35 r_7
theorem x7x:xm2 c h u (x97 x1a) r_7 eNil=j3 (x34 c h u) 0 1 2:=(tq (j3 (x34 c h u) 0 1 2) (sqN 2 (sq2 (kq (j2 (x5i c h u) 6 7)) (tq (j3 (x5k c h u) 2 6 7) (sqN 1 (bk 0 (lq (x26 c h u) (λr=>j4 r 2 6 7 8) λrec0=>(kq (j4 (x5j c h u rec0) 2 6 7 8)))))))))
noncomputable abbrev xm3:=VX x1b 29 r_8
theorem x7y:xm3 c h u (x97 x1b) r_8 eNil=j1 (x38 c h u) 0:=(tq (j1 (x38 c h u) 0) (sqN 1 (sq2 (kq (j2 (x5l c h u) 1 2)) (tq (j2 (x5n c h u) 1 2) (sqN 1 (bk 0 (lq (x37 c h u) (λr=>j4 r 1 2 11 12) λrec0=>(kq (j4 (x5m c h u rec0) 1 2 11 12)))))))))
noncomputable abbrev xm4:=VX x1c 21 r_4
theorem x7z:xm4 c h u (x97 x1c) r_4 eNil=j2 (x39 c h u) 0 1:=(kq (j2 (x39 c h u) 0 1))
noncomputable abbrev xm5:=VX xx 91 r_9
theorem x80:xm5 c h u (x97 xx) r_9 eNil=j3 (x2a c h u) 0 1 2:=(tq (j3 (x2a c h u) 0 1 2) (sqN 6 (sq2 (sq2 (kq (j4 (x27 c h u) 6 9 10 11)) (tq (j7 (x3a c h u) 3 4 6 9 10 11 12) (sqN 1 (bk 2 (tq (j6 (x5p c h u) 6 9 10 11 12 55) (rg (.tmp 55) #[56,57] (λu=>(kq (j5 (x5o c h u) 9 10 12 15 16))) (λu=>(kq (j5 (x28 c h u) 9 10 12 56 57))))))))) (tq (j8 (x5s c h u) 3 4 6 8 9 10 11 12) (sqN 1 (bk 0 (tq (j8 (x5r c h u) 3 4 6 9 10 11 12 41) (rg (.tmp 41) #[42,43] (λu=>(kq (j3 (x5q c h u) 11 12 14))) (λu=>(kq (j3 (x29 c h u) 11 12 43)))))))))))
noncomputable abbrev xm6:=VX x1d 18 r_10
theorem x81:xm6 c h u (x97 x1d) r_10 eNil=j1 (x3c c h u) 0:=(kq (j1 (x3c c h u) 0))
noncomputable abbrev xm7:=VX x1e 13 r_1
theorem x82:xm7 c h u (x97 x1e) r_1 eNil=j1 (x3d c h u) 0:=(kq (j1 (x3d c h u) 0))
noncomputable abbrev xm8:=VX xk 25 r_11
theorem x83:xm8 c h u (x97 xk) r_11 eNil=j5 (x3e c h u) 0 1 2 3 4:=(kq (j5 (x3e c h u) 0 1 2 3 4))
noncomputable abbrev xm9:=VX x1f 13 r_4
theorem x84:xm9 c h u (x97 x1f) r_4 eNil=j2 (x3g c h u) 0 1:=(tq (j2 (x3g c h u) 0 1) (sqN 1 (sq2 (kq (j1 (x3f c h u) 0)) (bk 0 (lq (xp c h u) (λr=>j2 r 0 1) λrec0=>(kq (j2 (x1v c h u rec0) 0 1)))))))
noncomputable abbrev xma:=VX xe 15 r_0
theorem x85:xma c h u (x97 xe) r_0 eNil=j3 (x3h c h u) 0 1 2:=(kq (j3 (x3h c h u) 0 1 2))
noncomputable abbrev xmb:=VX x1g 11 r_1
theorem x86:xmb c h u (x97 x1g) r_1 eNil=j1 (x3i c h u) 0:=(kq (j1 (x3i c h u) 0))
noncomputable abbrev xmc:=VX x1h 35 r_12
theorem x87:xmc c h u (x97 x1h) r_12 eNil=j1 (x3k c h u) 0:=(tq (j1 (x3k c h u) 0) (sqN 2 (sq2 (kq (j0 (x5u c h u))) (tq (j1 (x5v c h u) 1) (sqN 1 (bk 0 (lq (x1w c h u) (λr=>j2 r 1 5) λrec0=>(kq (j2 (x3j c h u rec0) 1 5)))))))))
noncomputable abbrev xmd:=VX x1i 10 r_12
theorem x88:xmd c h u (x97 x1i) r_12 eNil=j1 (x3l c h u) 0:=(kq (j1 (x3l c h u) 0))
noncomputable abbrev xme:=VX xy 6 r_4
theorem x89:xme c h u (x97 xy) r_4 eNil=j2 (x3m c h u) 0 1:=(kq (j2 (x3m c h u) 0 1))
noncomputable abbrev xmf:=VX xd 7 r_1
theorem x8a:xmf c h u (x97 xd) r_1 eNil=j1 (x2c c h u) 0:=(kq (j1 (x2c c h u) 0))
noncomputable abbrev xmg:=VX xz 25 r_4
theorem x8b:xmg c h u (x97 xz) r_4 eNil=j2 (x3n c h u) 0 1:=(kq (j2 (x3n c h u) 0 1))
noncomputable abbrev xmh:=VX x1j 18 r_13
theorem x8c:xmh c h u (x97 x1j) r_13 eNil=j2 (x3o c h u) 0 1:=(kq (j2 (x3o c h u) 0 1))
noncomputable abbrev xmi:=VX xl 18 r_1
theorem x8d:xmi c h u (x97 xl) r_1 eNil=j1 (x3p c h u) 0:=(kq (j1 (x3p c h u) 0))
noncomputable abbrev xmj:=VX x1k 13 r_4
theorem x8e:xmj c h u (x97 x1k) r_4 eNil=j2 (x3r c h u) 0 1:=(tq (j2 (x3r c h u) 0 1) (sqN 1 (sq2 (kq (j1 (x3q c h u) 0)) (bk 0 (lq (xq c h u) (λr=>j2 r 0 1) λrec0=>(kq (j2 (x1x c h u rec0) 0 1)))))))
noncomputable abbrev xmk:=VX x1l 21 r_12
theorem x8f:xmk c h u (x97 x1l) r_12 eNil=j1 (x3s c h u) 0:=(kq (j1 (x3s c h u) 0))
noncomputable abbrev xml:=VX x1m 36 r_0
theorem x8g:xml c h u (x97 x1m) r_0 eNil=j3 (x1y c h u) 0 1 2:=(kq (j3 (x1y c h u) 0 1 2))
noncomputable abbrev xmm:=VX x1n 20 r_0
theorem x8h:xmm c h u (x97 x1n) r_0 eNil=j3 (x3t c h u) 0 1 2:=(kq (j3 (x3t c h u) 0 1 2))
noncomputable abbrev xmn:=VX x1o 13 r_4
theorem x8i:xmn c h u (x97 x1o) r_4 eNil=j2 (x3u c h u) 0 1:=(kq (j2 (x3u c h u) 0 1))
noncomputable abbrev xmo:=VX xf 34 r_14
theorem x8j:xmo c h u (x97 xf) r_14 eNil=j3 (x3w c h u) 0 1 2:=(tq (j3 (x3w c h u) 0 1 2) (sqN 1 (bk 0 (lq (x1z c h u) (λr=>j5 r 0 1 2 9 10) λrec0=>(kq (j5 (x3v c h u rec0) 0 1 2 9 10))))))
noncomputable abbrev xmp:=VX x1p 22 r_0
theorem x8k:xmp c h u (x97 x1p) r_0 eNil=j3 (x3x c h u) 0 1 2:=(kq (j3 (x3x c h u) 0 1 2))
noncomputable abbrev xmq:=VX x1q 24 r_15
theorem x8l:xmq c h u (x97 x1q) r_15 eNil=j2 (x3z c h u) 0 1:=(tq (j2 (x3z c h u) 0 1) (sqN 1 (sq2 (kq (j0 (x5w c h u))) (tq (j2 (x5x c h u) 0 1) (sqN 1 (bk 0 (lq (x20 c h u) (λr=>j4 r 1 9 10 11) λrec0=>(kq (j4 (x3y c h u rec0) 1 9 10 11)))))))))
noncomputable abbrev xmr:=VX x1r 38 r_0
theorem x8m:xmr c h u (x97 x1r) r_0 eNil=j3 (x40 c h u) 0 1 2:=(kq (j3 (x40 c h u) 0 1 2))
noncomputable abbrev xms:=VX x10 15 r_0
theorem x8n:xms c h u (x97 x10) r_0 eNil=j3 (x41 c h u) 0 1 2:=(kq (j3 (x41 c h u) 0 1 2))
noncomputable abbrev xmt:=VX x1s 40 r_4
theorem x8o:xmt c h u (x97 x1s) r_4 eNil=j2 (x42 c h u) 0 1:=(tq (j2 (x42 c h u) 0 1) (sqN 3 (sq2 (sq2 (kq (j0 (x68 c h u))) (tq (j2 (x5y c h u) 1 6) (sqN 1 (bk 2 (lq (x2e c h u) (λr=>j3 r 1 31 32) λrec0=>(kq (j3 (xg c h u rec0) 1 31 32))))))) (tq (j2 (x5z c h u) 1 6) (sqN 1 (bk 0 (lq (x2f c h u) (λr=>j4 r 1 6 18 19) λs=>(kq (j4 (xh c h u s) 1 6 18 19)))))))))
noncomputable abbrev xmu:=VX x11 24 r_1
theorem x8p:xmu c h u (x97 x11) r_1 eNil=j1 (x43 c h u) 0:=(kq (j1 (x43 c h u) 0))
noncomputable abbrev xmv:=VX x12 15 r_4
theorem x8q:xmv c h u (x97 x12) r_4 eNil=j2 (x44 c h u) 0 1:=(tq (j2 (x44 c h u) 0 1) (sqN 1 (sq2 (kq (j1 (x2g c h u) 0)) (kq (j2 (x60 c h u) 0 1)))))
noncomputable abbrev xmw:=VX x13 7 r_1
theorem x8r:xmw c h u (x97 x13) r_1 eNil=j1 (x45 c h u) 0:=(kq (j1 (x45 c h u) 0))
noncomputable abbrev xmx:=VX xm 7 r_1
theorem x8s:xmx c h u (x97 xm) r_1 eNil=j1 (x46 c h u) 0:=(kq (j1 (x46 c h u) 0))
end Go.Ix
