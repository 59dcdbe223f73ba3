import Derived.Test.YtjdlceelbnaneaaFxText0
import Derived.Test.YtjdlceelbnaneaaFxEnt
import Derived.Test.YtjdlceelbnaneaaFxRules
import Derived.Test.YtjdlceelbnaneaaFxProj
import Derived.ProofKit
set_option linter.unusedVariables false
namespace Go.Ix
open Go.Proofs
variable{c:x71}{h:FHs}{u:Nat}
noncomputable abbrev xir:=VX x1n 55 r_0
theorem x5x:xir c h u (x7b x1n) r_0 eNil=j2 (x24 c h u) 0 1:=(tq (j2 (x24 c h u) 0 1) (sqN 6 (sq2 (kq (j6 (x1p c h u) 2 3 5 6 7 8)) (kq (j6 (x23 c h u) 2 3 5 6 7 8)))))
noncomputable abbrev xis:=VX x9 15 r_1
theorem x5y:xis c h u (x7b x9) r_1 eNil=j3 (x25 c h u) 0 1 2:=(kq (j3 (x25 c h u) 0 1 2))
noncomputable abbrev xit:=VX xu 7 r_2
theorem x5z:xit c h u (x7b xu) r_2 eNil=j1 (x26 c h u) 0:=(kq (j1 (x26 c h u) 0))
noncomputable abbrev xiu:=VX xg 10 r_3
theorem x60:xiu c h u (x7b xg) r_3 eNil=j1 (x27 c h u) 0:=(kq (j1 (x27 c h u) 0))
noncomputable abbrev xiv:=VX xv 11 r_2
theorem x61:xiv c h u (x7b xv) r_2 eNil=j1 (x28 c h u) 0:=(kq (j1 (x28 c h u) 0))
noncomputable abbrev xiw:=VX xw 45 r_0
theorem x62:xiw c h u (x7b xw) r_0 eNil=j2 (x2a c h u) 0 1:=(tq (j2 (x2a c h u) 0 1) (sqN 2 (sq2 (kq (j0 (x4e c h u))) (tq (j2 (x4f c h u) 0 1) (sqN 1 (bk 0 (lq (x1g c h u) (λr=>j3 r 0 1 5) λrec0=>(kq (j3 (x29 c h u rec0) 0 1 5)))))))))
noncomputable abbrev xix:=VX xj 14 r_0
theorem x63:xix c h u (x7b xj) r_0 eNil=j2 (x2b c h u) 0 1:=(kq (j2 (x2b c h u) 0 1))
noncomputable abbrev xiy:=VX xx 26 r_4
theorem x64:xiy c h u (x7b xx) r_4 eNil=j3 (x2c c h u) 0 1 2:=(kq (j3 (x2c c h u) 0 1 2))
noncomputable abbrev xiz:=VX xk 37 r_5
theorem x65:xiz c h u (x7b xk) r_5 eNil=j2 (x1r c h u) 0 1:=(tq (j2 (x1r c h u) 0 1) (sqN 3 (sq2 (kq (j2 (x2d c h u) 4 7)) (tq (j4 (x4i c h u) 2 3 4 7) (sqN 1 (bk 0 (tq (j3 (x4h c h u) 4 7 25) (rg (.tmp 25) #[26,27] (λu=>(kq (j2 (x4g c h u) 7 9))) (λu=>(kq (j2 (x1q c h u) 7 27)))))))))))
noncomputable abbrev xj0:=VX xy 26 r_0
theorem x66:xj0 c h u (x7b xy) r_0 eNil=j2 (x2g c h u) 0 1:=(kq (j2 (x2g c h u) 0 1))
noncomputable abbrev xj1:=VX xl 15 r_0
theorem x67:xj1 c h u (x7b xl) r_0 eNil=j2 (x2h c h u) 0 1:=(kq (j2 (x2h c h u) 0 1))
noncomputable abbrev xj2:=VX xm 24 r_0
theorem x68:xj2 c h u (x7b xm) r_0 eNil=j2 (x2i c h u) 0 1:=(kq (j2 (x2i c h u) 0 1))
noncomputable abbrev xj3:=VX xz 49 r_6
theorem x69:xj3 c h u (x7b xz) r_6 eNil=j2 (x2n c h u) 0 1:=(tq (j2 (x2n c h u) 0 1) (sqN 2 (sq2 (kq (j2 (x2j c h u) 4 5)) (tq (j4 (x4k c h u) 2 3 4 5) (sqN 1 (bk 0 (lq (xt c h u) (λr=>j5 r 2 3 4 5 6) λrec0=>(tq (j5 (x2m c h u rec0) 2 3 4 5 6) (sqN 1 (sq2 (kq (j5 (x2k c h u rec0) 2 3 4 5 6)) (bk 1 (tq (j5 (x4j c h u rec0) 2 3 4 5 6) (sqN 1 (bk 2 (lq (x1h c h u rec0) (λr=>j6 r 2 3 4 5 6 7) λs=>(kq (j6 (x2l c h u rec0 s) 2 3 4 5 6 7)))))))))))))))))
noncomputable abbrev xj4:=VX x10 35 r_7
theorem x6a:xj4 c h u (x7b x10) r_7 eNil=j3 (x2o c h u) 0 1 2:=(tq (j3 (x2o c h u) 0 1 2) (sqN 2 (sq2 (kq (j2 (x4l c h u) 6 7)) (tq (j3 (x4n c h u) 2 6 7) (sqN 1 (bk 0 (lq (x1s c h u) (λr=>j4 r 2 6 7 8) λrec0=>(kq (j4 (x4m c h u rec0) 2 6 7 8)))))))))
noncomputable abbrev xj5:=VX x11 21 r_0
theorem x6b:xj5 c h u (x7b x11) r_0 eNil=j2 (x2p c h u) 0 1:=(kq (j2 (x2p c h u) 0 1))
noncomputable abbrev xj6:=VX xn 25 r_8
theorem x6c:xj6 c h u (x7b xn) r_8 eNil=j5 (x2q c h u) 0 1 2 3 4:=(kq (j5 (x2q c h u) 0 1 2 3 4))
noncomputable abbrev xj7:=VX xa 15 r_1
theorem x6d:xj7 c h u (x7b xa) r_1 eNil=j3 (x2r c h u) 0 1 2:=(kq (j3 (x2r c h u) 0 1 2))
noncomputable abbrev xj8:=VX x12 11 r_2
theorem x6e:xj8 c h u (x7b x12) r_2 eNil=j1 (x2s c h u) 0:=(kq (j1 (x2s c h u) 0))
noncomputable abbrev xj9:=VX x13 35 r_9
theorem x6f:xj9 c h u (x7b x13) r_9 eNil=j1 (x2u c h u) 0:=(tq (j1 (x2u c h u) 0) (sqN 2 (sq2 (kq (j0 (x4o c h u))) (tq (j1 (x4p c h u) 1) (sqN 1 (bk 0 (lq (x1i c h u) (λr=>j2 r 1 5) λrec0=>(kq (j2 (x2t c h u rec0) 1 5)))))))))
noncomputable abbrev xja:=VX x14 10 r_9
theorem x6g:xja c h u (x7b x14) r_9 eNil=j1 (x2v c h u) 0:=(kq (j1 (x2v c h u) 0))
noncomputable abbrev xjb:=VX x15 6 r_0
theorem x6h:xjb c h u (x7b x15) r_0 eNil=j2 (x2w c h u) 0 1:=(kq (j2 (x2w c h u) 0 1))
noncomputable abbrev xjc:=VX x16 25 r_0
theorem x6i:xjc c h u (x7b x16) r_0 eNil=j2 (x2x c h u) 0 1:=(kq (j2 (x2x c h u) 0 1))
noncomputable abbrev xjd:=VX x17 21 r_9
theorem x6j:xjd c h u (x7b x17) r_9 eNil=j1 (x2y c h u) 0:=(kq (j1 (x2y c h u) 0))
noncomputable abbrev xje:=VX x18 36 r_1
theorem x6k:xje c h u (x7b x18) r_1 eNil=j3 (x1j c h u) 0 1 2:=(kq (j3 (x1j c h u) 0 1 2))
noncomputable abbrev xjf:=VX x19 20 r_1
theorem x6l:xjf c h u (x7b x19) r_1 eNil=j3 (x2z c h u) 0 1 2:=(kq (j3 (x2z c h u) 0 1 2))
noncomputable abbrev xjg:=VX x1a 13 r_0
theorem x6m:xjg c h u (x7b x1a) r_0 eNil=j2 (x30 c h u) 0 1:=(kq (j2 (x30 c h u) 0 1))
noncomputable abbrev xjh:=VX xe 34 r_10
theorem x6n:xjh c h u (x7b xe) r_10 eNil=j3 (x32 c h u) 0 1 2:=(tq (j3 (x32 c h u) 0 1 2) (sqN 1 (bk 0 (lq (x1k c h u) (λr=>j5 r 0 1 2 9 10) λrec0=>(kq (j5 (x31 c h u rec0) 0 1 2 9 10))))))
noncomputable abbrev xji:=VX x1b 22 r_1
theorem x6o:xji c h u (x7b x1b) r_1 eNil=j3 (x33 c h u) 0 1 2:=(kq (j3 (x33 c h u) 0 1 2))
noncomputable abbrev xjj:=VX x1c 24 r_11
theorem x6p:xjj c h u (x7b x1c) r_11 eNil=j2 (x35 c h u) 0 1:=(tq (j2 (x35 c h u) 0 1) (sqN 1 (sq2 (kq (j0 (x4q c h u))) (tq (j2 (x4r c h u) 0 1) (sqN 1 (bk 0 (lq (x1l c h u) (λr=>j4 r 1 9 10 11) λrec0=>(kq (j4 (x34 c h u rec0) 1 9 10 11)))))))))
noncomputable abbrev xjk:=VX x1d 38 r_1
theorem x6q:xjk c h u (x7b x1d) r_1 eNil=j3 (x36 c h u) 0 1 2:=(kq (j3 (x36 c h u) 0 1 2))
noncomputable abbrev xjl:=VX xo 15 r_1
theorem x6r:xjl c h u (x7b xo) r_1 eNil=j3 (x37 c h u) 0 1 2:=(kq (j3 (x37 c h u) 0 1 2))
noncomputable abbrev xjm:=VX x1e 40 r_0
theorem x6s:xjm c h u (x7b x1e) r_0 eNil=j2 (x38 c h u) 0 1:=(tq (j2 (x38 c h u) 0 1) (sqN 3 (sq2 (sq2 (kq (j0 (x4w c h u))) (tq (j2 (x4s c h u) 1 6) (sqN 1 (bk 2 (lq (x1u c h u) (λr=>j3 r 1 31 32) λrec0=>(kq (j3 (xc c h u rec0) 1 31 32))))))) (tq (j2 (x4t c h u) 1 6) (sqN 1 (bk 0 (lq (x1v c h u) (λr=>j4 r 1 6 18 19) λs=>(kq (j4 (xd c h u s) 1 6 18 19)))))))))
noncomputable abbrev xjn:=VX xp 24 r_2
theorem x6t:xjn c h u (x7b xp) r_2 eNil=j1 (x39 c h u) 0:=(kq (j1 (x39 c h u) 0))
noncomputable abbrev xjo:=VX xq 15 r_0
theorem x6u:xjo c h u (x7b xq) r_0 eNil=j2 (x3a c h u) 0 1:=(tq (j2 (x3a c h u) 0 1) (sqN 1 (sq2 (kq (j1 (x1w c h u) 0)) (kq (j2 (x4u c h u) 0 1)))))
noncomputable abbrev xjp:=VX xr 7 r_2
theorem x6v:xjp c h u (x7b xr) r_2 eNil=j1 (x3b c h u) 0:=(kq (j1 (x3b c h u) 0))
noncomputable abbrev xjq:=VX xh 7 r_2
theorem x6w:xjq c h u (x7b xh) r_2 eNil=j1 (x3c c h u) 0:=(kq (j1 (x3c c h u) 0))
end Go.Ix
