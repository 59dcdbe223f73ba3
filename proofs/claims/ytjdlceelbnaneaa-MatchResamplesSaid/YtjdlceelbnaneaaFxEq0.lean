import Derived.Test.YtjdlceelbnaneaaFxText0
import Derived.Test.YtjdlceelbnaneaaFxEnt
import Derived.Test.YtjdlceelbnaneaaFxRules
import Derived.Test.YtjdlceelbnaneaaFxProj
import Derived.ProofKit
set_option linter.unusedVariables false
namespace Go.Ix
open Go.Proofs
variable{c:x9w}{h:FHs}{u:Nat}
noncomputable abbrev xmi:=VX x2b 58 r_0
theorem x8f:xmi c h u (xa4 x2b) r_0 eNil=j2 (x2x c h u) 0 1:=(tq (j2 (x2x c h u) 0 1) (sqN 6 (sq2 (kq (j5 (x2d c h u) 3 5 6 7 8)) (kq (j5 (x2w c h u) 3 5 6 7 8)))))
noncomputable abbrev xmj:=VX xe 15 r_1
theorem x8g:xmj c h u (xa4 xe) r_1 eNil=j3 (x2y c h u) 0 1 2:=(kq (j3 (x2y c h u) 0 1 2))
noncomputable abbrev xmk:=VX x19 26 r_2
theorem x8h:xmk c h u (xa4 x19) r_2 eNil=j1 (x30 c h u) 0:=(tq (j1 (x30 c h u) 0) (sqN 2 (sq2 (kq (j0 (x64 c h u))) (tq (j1 (x66 c h u) 1) (sqN 1 (bk 0 (lq (x2z c h u) (λr=>j2 r 1 3) λrec0=>(kq (j2 (x65 c h u rec0) 1 3)))))))))
noncomputable abbrev xml:=VX xr 14 r_0
theorem x8i:xml c h u (xa4 xr) r_0 eNil=j2 (x31 c h u) 0 1:=(tq (j2 (x31 c h u) 0 1) (sqN 2 (sq2 (kq (j1 (x2e c h u) 0)) (kq (j2 (x67 c h u) 0 1)))))
noncomputable abbrev xmm:=VX xh 16 r_0
theorem x8j:xmm c h u (xa4 xh) r_0 eNil=j2 (x32 c h u) 0 1:=(tq (j2 (x32 c h u) 0 1) (sqN 2 (sq2 (kq (j1 (x2f c h u) 5)) (kq (j3 (x68 c h u) 0 1 5)))))
noncomputable abbrev xmn:=VX x1a 5 r_2
theorem x8k:xmn c h u (xa4 x1a) r_2 eNil=j1 (x33 c h u) 0:=(kq (j1 (x33 c h u) 0))
noncomputable abbrev xmo:=VX x1b 7 r_2
theorem x8l:xmo c h u (xa4 x1b) r_2 eNil=j1 (x34 c h u) 0:=(kq (j1 (x34 c h u) 0))
noncomputable abbrev xmp:=VX xt 10 r_3
theorem x8m:xmp c h u (xa4 xt) r_3 eNil=j1 (x35 c h u) 0:=(kq (j1 (x35 c h u) 0))
noncomputable abbrev xmq:=VX x1c 11 r_2
theorem x8n:xmq c h u (xa4 x1c) r_2 eNil=j1 (x36 c h u) 0:=(kq (j1 (x36 c h u) 0))
noncomputable abbrev xmr:=VX x1d 45 r_0
theorem x8o:xmr c h u (xa4 x1d) r_0 eNil=j2 (x38 c h u) 0 1:=(tq (j2 (x38 c h u) 0 1) (sqN 2 (sq2 (kq (j0 (x69 c h u))) (tq (j2 (x6a c h u) 0 1) (sqN 1 (bk 0 (lq (x22 c h u) (λr=>j3 r 0 1 5) λrec0=>(kq (j3 (x37 c h u rec0) 0 1 5)))))))))
noncomputable abbrev xms:=VX x1e 108 r_4
theorem x8p:xms c h u (xa4 x1e) r_4 eNil=j3 (x3d c h u) 0 1 2:=(tq (j3 (x3d c h u) 0 1 2) (sqN 4 (sq2 (tq (j7 (x2g c h u) 3 8 9 10 11 12 13) (sqN 1 (sq2 (kq (j4 (x39 c h u) 11 13 14 15)) (tq (j9 (x6c c h u) 3 8 9 10 11 12 13 14 15) (sqN 1 (bk 0 (lq (x14 c h u) (λr=>j10 r 3 8 9 10 11 12 13 14 15 16) λrec0=>(tq (j10 (x3c c h u rec0) 3 8 9 10 11 12 13 14 15 16) (sqN 1 (sq2 (kq (j10 (x3a c h u rec0) 3 8 9 10 11 12 13 14 15 16)) (bk 1 (tq (j10 (x6b c h u rec0) 3 8 9 10 11 12 13 14 15 16) (sqN 1 (bk 2 (lq (x23 c h u rec0) (λr=>j11 r 3 8 9 10 11 12 13 14 15 16 17) λs=>(kq (j11 (x3b c h u rec0 s) 3 8 9 10 11 12 13 14 15 16 17))))))))))))))))) (kq (j7 (x6d c h u) 3 8 9 10 11 12 13)))))
noncomputable abbrev xmt:=VX xu 14 r_0
theorem x8q:xmt c h u (xa4 xu) r_0 eNil=j2 (x3e c h u) 0 1:=(kq (j2 (x3e c h u) 0 1))
noncomputable abbrev xmu:=VX x1f 26 r_4
theorem x8r:xmu c h u (xa4 x1f) r_4 eNil=j3 (x3f c h u) 0 1 2:=(kq (j3 (x3f c h u) 0 1 2))
noncomputable abbrev xmv:=VX xv 24 r_0
theorem x8s:xmv c h u (xa4 xv) r_0 eNil=j2 (x3g c h u) 0 1:=(kq (j2 (x3g c h u) 0 1))
noncomputable abbrev xmw:=VX x1g 23 r_2
theorem x8t:xmw c h u (xa4 x1g) r_2 eNil=j1 (x3i c h u) 0:=(tq (j1 (x3i c h u) 0) (sqN 2 (sq2 (kq (j0 (x6e c h u))) (tq (j1 (x6g c h u) 1) (sqN 1 (bk 0 (lq (x3h c h u) (λr=>j3 r 13 14 15) λrec0=>(kq (j3 (x6f c h u rec0) 13 14 15)))))))))
noncomputable abbrev xmx:=VX x1h 34 r_5
theorem x8u:xmx c h u (xa4 x1h) r_5 eNil=j3 (x3j c h u) 0 1 2:=(kq (j3 (x3j c h u) 0 1 2))
noncomputable abbrev xmy:=VX xw 39 r_6
theorem x8v:xmy c h u (xa4 xw) r_6 eNil=j2 (x2i c h u) 0 1:=(tq (j2 (x2i c h u) 0 1) (sqN 2 (sq2 (kq (j4 (x15 c h u) 2 3 4 6)) (kq (j4 (x3l c h u) 2 3 4 6)))))
noncomputable abbrev xmz:=VX x1i 20 r_2
theorem x8w:xmz c h u (xa4 x1i) r_2 eNil=j1 (x3m c h u) 0:=(kq (j1 (x3m c h u) 0))
noncomputable abbrev xn0:=VX x1j 60 r_7
theorem x8x:xn0 c h u (xa4 x1j) r_7 eNil=j2 (x3s c h u) 0 1:=(tq (j2 (x3s c h u) 0 1) (sqN 2 (sq2 (kq (j2 (x3n c h u) 4 5)) (tq (j4 (x6j c h u) 2 3 4 5) (sqN 1 (bk 0 (lq (x16 c h u) (λr=>j5 r 2 3 4 5 6) λrec0=>(tq (j5 (x3r c h u rec0) 2 3 4 5 6) (sqN 1 (sq2 (kq (j5 (x3o c h u rec0) 2 3 4 5 6)) (bk 1 (tq (j5 (x6i c h u rec0) 2 3 4 5 6) (sqN 1 (bk 2 (lq (x24 c h u rec0) (λr=>j6 r 2 3 4 5 6 7) λs=>(kq (j6 (x3p c h u rec0 s) 2 3 4 5 6 7)))))))))))))))))
noncomputable abbrev xn1:=VX x1k 35 r_8
theorem x8y:xn1 c h u (xa4 x1k) r_8 eNil=j3 (x3t c h u) 0 1 2:=(tq (j3 (x3t c h u) 0 1 2) (sqN 2 (sq2 (kq (j2 (x6k c h u) 6 7)) (tq (j3 (x6m c h u) 2 6 7) (sqN 1 (bk 0 (lq (x2j c h u) (λr=>j4 r 2 6 7 8) λrec0=>(kq (j4 (x6l c h u rec0) 2 6 7 8)))))))))
noncomputable abbrev xn2:=VX x1l 25 r_9
theorem x8z:xn2 c h u (xa4 x1l) r_9 eNil=j5 (x3u c h u) 0 1 2 3 4:=(kq (j5 (x3u c h u) 0 1 2 3 4))
noncomputable abbrev xn3:=VX xg 15 r_1
theorem x90:xn3 c h u (xa4 xg) r_1 eNil=j3 (x3v c h u) 0 1 2:=(kq (j3 (x3v c h u) 0 1 2))
noncomputable abbrev xn4:=VX x1m 5 r_2
theorem x91:xn4 c h u (xa4 x1m) r_2 eNil=j1 (x3w c h u) 0:=(kq (j1 (x3w c h u) 0))
noncomputable abbrev xn5:=VX x1n 11 r_2
theorem x92:xn5 c h u (xa4 x1n) r_2 eNil=j1 (x3x c h u) 0:=(kq (j1 (x3x c h u) 0))
noncomputable abbrev xn6:=VX x1o 91 r_1
theorem x93:xn6 c h u (xa4 x1o) r_1 eNil=j3 (x42 c h u) 0 1 2:=(tq (j3 (x42 c h u) 0 1 2) (sqN 4 (sq2 (kq (j3 (x3y c h u) 9 10 11)) (tq (j6 (x6o c h u) 3 7 8 9 10 11) (sqN 1 (bk 0 (lq (x17 c h u) (λr=>j9 r 3 7 8 9 10 11 38 39 40) λrec0=>(tq (j9 (x41 c h u rec0) 3 7 8 9 10 11 38 39 40) (sqN 2 (sq2 (kq (j9 (x3z c h u rec0) 3 7 8 9 10 11 38 39 40)) (bk 1 (tq (j9 (x6n c h u rec0) 3 7 8 9 10 11 38 39 40) (sqN 2 (bk 2 (lq (x25 c h u rec0) (λr=>j14 r 3 7 8 9 10 11 12 13 38 39 40 46 47 48) λs=>(kq (j14 (x40 c h u rec0 s) 3 7 8 9 10 11 12 13 38 39 40 46 47 48)))))))))))))))))
noncomputable abbrev xn7:=VX x1p 35 r_10
theorem x94:xn7 c h u (xa4 x1p) r_10 eNil=j1 (x44 c h u) 0:=(tq (j1 (x44 c h u) 0) (sqN 2 (sq2 (kq (j0 (x6q c h u))) (tq (j1 (x6r c h u) 1) (sqN 1 (bk 0 (lq (x26 c h u) (λr=>j2 r 1 5) λrec0=>(kq (j2 (x43 c h u rec0) 1 5)))))))))
noncomputable abbrev xn8:=VX xx 14 r_0
theorem x95:xn8 c h u (xa4 xx) r_0 eNil=j2 (x45 c h u) 0 1:=(kq (j2 (x45 c h u) 0 1))
noncomputable abbrev xn9:=VX x1q 10 r_10
theorem x96:xn9 c h u (xa4 x1q) r_10 eNil=j1 (x46 c h u) 0:=(kq (j1 (x46 c h u) 0))
noncomputable abbrev xna:=VX x1r 27 r_5
theorem x97:xna c h u (xa4 x1r) r_5 eNil=j3 (x47 c h u) 0 1 2:=(kq (j3 (x47 c h u) 0 1 2))
noncomputable abbrev xnb:=VX x1s 53 r_7
theorem x98:xnb c h u (xa4 x1s) r_7 eNil=j2 (x4c c h u) 0 1:=(tq (j2 (x4c c h u) 0 1) (sqN 2 (sq2 (kq (j2 (x48 c h u) 4 5)) (tq (j4 (x6v c h u) 2 3 4 5) (sqN 1 (bk 0 (lq (x18 c h u) (λr=>j6 r 2 3 4 5 15 16) λrec0=>(tq (j6 (x4b c h u rec0) 2 3 4 5 15 16) (sqN 2 (sq2 (kq (j6 (x49 c h u rec0) 2 3 4 5 15 16)) (bk 1 (tq (j6 (x6u c h u rec0) 2 3 4 5 15 16) (sqN 2 (bk 2 (lq (x27 c h u rec0) (λr=>j9 r 2 3 4 5 6 15 16 20 21) λs=>(kq (j9 (x4a c h u rec0 s) 2 3 4 5 6 15 16 20 21)))))))))))))))))
noncomputable abbrev xnc:=VX x1t 21 r_10
theorem x99:xnc c h u (xa4 x1t) r_10 eNil=j1 (x4d c h u) 0:=(kq (j1 (x4d c h u) 0))
noncomputable abbrev xnd:=VX xn 16 r_0
theorem x9a:xnd c h u (xa4 xn) r_0 eNil=j2 (x4e c h u) 0 1:=(tq (j2 (x4e c h u) 0 1) (sqN 2 (sq2 (kq (j1 (x2l c h u) 5)) (kq (j3 (x6w c h u) 0 1 5)))))
noncomputable abbrev xne:=VX x1u 36 r_1
theorem x9b:xne c h u (xa4 x1u) r_1 eNil=j3 (x28 c h u) 0 1 2:=(kq (j3 (x28 c h u) 0 1 2))
noncomputable abbrev xnf:=VX xy 12 r_0
theorem x9c:xnf c h u (xa4 xy) r_0 eNil=j2 (x4f c h u) 0 1:=(kq (j2 (x4f c h u) 0 1))
noncomputable abbrev xng:=VX x1v 20 r_1
theorem x9d:xng c h u (xa4 x1v) r_1 eNil=j3 (x4g c h u) 0 1 2:=(kq (j3 (x4g c h u) 0 1 2))
noncomputable abbrev xnh:=VX x1w 13 r_0
theorem x9e:xnh c h u (xa4 x1w) r_0 eNil=j2 (x4h c h u) 0 1:=(kq (j2 (x4h c h u) 0 1))
noncomputable abbrev xni:=VX xo 12 r_0
theorem x9f:xni c h u (xa4 xo) r_0 eNil=j2 (x4i c h u) 0 1:=(kq (j2 (x4i c h u) 0 1))
noncomputable abbrev xnj:=VX x1x 22 r_1
theorem x9g:xnj c h u (xa4 x1x) r_1 eNil=j3 (x4j c h u) 0 1 2:=(kq (j3 (x4j c h u) 0 1 2))
noncomputable abbrev xnk:=VX x1y 24 r_11
theorem x9h:xnk c h u (xa4 x1y) r_11 eNil=j2 (x4l c h u) 0 1:=(tq (j2 (x4l c h u) 0 1) (sqN 1 (sq2 (kq (j0 (x6x c h u))) (tq (j2 (x6y c h u) 0 1) (sqN 1 (bk 0 (lq (x29 c h u) (λr=>j4 r 1 9 10 11) λrec0=>(kq (j4 (x4k c h u rec0) 1 9 10 11)))))))))
noncomputable abbrev xnl:=VX x1z 38 r_1
theorem x9i:xnl c h u (xa4 x1z) r_1 eNil=j3 (x4m c h u) 0 1 2:=(kq (j3 (x4m c h u) 0 1 2))
noncomputable abbrev xnm:=VX xz 15 r_1
theorem x9j:xnm c h u (xa4 xz) r_1 eNil=j3 (x4n c h u) 0 1 2:=(kq (j3 (x4n c h u) 0 1 2))
noncomputable abbrev xnn:=VX x20 40 r_0
theorem x9k:xnn c h u (xa4 x20) r_0 eNil=j2 (x4o c h u) 0 1:=(tq (j2 (x4o c h u) 0 1) (sqN 3 (sq2 (sq2 (kq (j0 (x73 c h u))) (tq (j2 (x6z c h u) 1 6) (sqN 1 (bk 2 (lq (x2n c h u) (λr=>j3 r 1 31 32) λrec0=>(kq (j3 (xk c h u rec0) 1 31 32))))))) (tq (j2 (x70 c h u) 1 6) (sqN 1 (bk 0 (lq (x2o c h u) (λr=>j4 r 1 6 18 19) λs=>(kq (j4 (xl c h u s) 1 6 18 19)))))))))
noncomputable abbrev xno:=VX x10 24 r_2
theorem x9l:xno c h u (xa4 x10) r_2 eNil=j1 (x4p c h u) 0:=(kq (j1 (x4p c h u) 0))
noncomputable abbrev xnp:=VX x11 15 r_0
theorem x9m:xnp c h u (xa4 x11) r_0 eNil=j2 (x4q c h u) 0 1:=(tq (j2 (x4q c h u) 0 1) (sqN 1 (sq2 (kq (j1 (x2p c h u) 0)) (kq (j2 (x71 c h u) 0 1)))))
noncomputable abbrev xnq:=VX x12 7 r_2
theorem x9n:xnq c h u (xa4 x12) r_2 eNil=j1 (x4r c h u) 0:=(kq (j1 (x4r c h u) 0))
noncomputable abbrev xnr:=VX xp 7 r_2
theorem x9o:xnr c h u (xa4 xp) r_2 eNil=j1 (x4s c h u) 0:=(kq (j1 (x4s c h u) 0))
end Go.Ix
