import Derived.Test.YtklcdahoajabmaaFxText0
import Derived.Test.YtklcdahoajabmaaFxEnt
import Derived.Test.YtklcdahoajabmaaFxRules
import Derived.Test.YtklcdahoajabmaaFxProj
import Derived.ProofKit
set_option linter.unusedVariables false
namespace Go.Ix
open Go.Proofs
variable{c:xcw}{h:FHs}{u:Nat}
noncomputable abbrev xrk:=VX x2z 193 r_0
theorem xaw:xrk c h u (xd2 x2z) r_0 eNil=j3 (x3r c h u) 0 1 2:=(tq (j3 (x3r c h u) 0 1 2) (sqN 14 (sq2 (kq (j0 (x7m c h u))) (tq (j5 (x7o c h u) 3 4 5 8 18) (sqN 1 (bk 0 (lq (x2i c h u) (λr=>j6 r 3 4 5 8 18 20) λrec0=>(kq (j6 (x3p c h u rec0) 3 4 5 8 18 20)))))))))
noncomputable abbrev xrl:=VX xm 10 r_1
theorem xax:xrl c h u (xd2 xm) r_1 eNil=j1 (x3s c h u) 0:=(kq (j1 (x3s c h u) 0))
noncomputable abbrev xrm:=VX x1r 11 r_2
theorem xay:xrm c h u (xd2 x1r) r_2 eNil=j1 (x3t c h u) 0:=(kq (j1 (x3t c h u) 0))
noncomputable abbrev xrn:=VX x1s 26 r_3
theorem xaz:xrn c h u (xd2 x1s) r_3 eNil=j2 (x3u c h u) 0 1:=(kq (j2 (x3u c h u) 0 1))
noncomputable abbrev xro:=VX xf 15 r_0
theorem xb0:xro c h u (xd2 xf) r_0 eNil=j3 (x3v c h u) 0 1 2:=(kq (j3 (x3v c h u) 0 1 2))
noncomputable abbrev xrp:=VX x14 39 r_4
theorem xb1:xrp c h u (xd2 x14) r_4 eNil=j2 (x3w c h u) 0 1:=(tq (j2 (x3w c h u) 0 1) (sqN 2 (sq2 (kq (j4 (x2j c h u) 2 3 4 6)) (kq (j4 (x7r c h u) 2 3 4 6)))))
noncomputable abbrev xrq:=VX x15 21 r_5
theorem xb2:xrq c h u (xd2 x15) r_5 eNil=j1 (x3x c h u) 0:=(kq (j1 (x3x c h u) 0))
noncomputable abbrev xrr:=VX x16 9 r_1
theorem xb3:xrr c h u (xd2 x16) r_1 eNil=j1 (x31 c h u) 0:=(kq (j1 (x31 c h u) 0))
noncomputable abbrev xrs:=VX x1t 42 r_6
theorem xb4:xrs c h u (xd2 x1t) r_6 eNil=j3 (x3y c h u) 0 1 2:=(kq (j3 (x3y c h u) 0 1 2))
noncomputable abbrev xrt:=VX x1u 55 r_7
theorem xb5:xrt c h u (xd2 x1u) r_7 eNil=j3 (x3z c h u) 0 1 2:=(kq (j3 (x3z c h u) 0 1 2))
noncomputable abbrev xru:=VX xn 7 r_2
theorem xb6:xru c h u (xd2 xn) r_2 eNil=j1 (x40 c h u) 0:=(kq (j1 (x40 c h u) 0))
noncomputable abbrev xrv:=VX x17 37 r_4
theorem xb7:xrv c h u (xd2 x17) r_4 eNil=j2 (x42 c h u) 0 1:=(tq (j2 (x42 c h u) 0 1) (sqN 3 (sq2 (kq (j2 (x41 c h u) 4 7)) (tq (j4 (x7u c h u) 2 3 4 7) (sqN 1 (bk 0 (tq (j3 (x7t c h u) 4 7 25) (rg (.tmp 25) #[26,27] (λu=>(kq (j2 (x7s c h u) 7 9))) (λu=>(kq (j2 (x33 c h u) 7 27)))))))))))
noncomputable abbrev xrw:=VX x1v 24 r_3
theorem xb8:xrw c h u (xd2 x1v) r_3 eNil=j2 (x43 c h u) 0 1:=(kq (j2 (x43 c h u) 0 1))
noncomputable abbrev xrx:=VX x1w 35 r_8
theorem xb9:xrx c h u (xd2 x1w) r_8 eNil=j3 (x44 c h u) 0 1 2:=(tq (j3 (x44 c h u) 0 1 2) (sqN 2 (sq2 (kq (j2 (x7v c h u) 6 7)) (tq (j3 (x7x c h u) 2 6 7) (sqN 1 (bk 0 (lq (x34 c h u) (λr=>j4 r 2 6 7 8) λrec0=>(kq (j4 (x7w c h u rec0) 2 6 7 8)))))))))
noncomputable abbrev xry:=VX x1x 35 r_5
theorem xba:xry c h u (xd2 x1x) r_5 eNil=j1 (x46 c h u) 0:=(tq (j1 (x46 c h u) 0) (sqN 2 (sq2 (kq (j0 (x7y c h u))) (tq (j1 (x7z c h u) 1) (sqN 1 (bk 0 (lq (x2m c h u) (λr=>j2 r 1 5) λrec0=>(kq (j2 (x45 c h u rec0) 1 5)))))))))
noncomputable abbrev xrz:=VX x1y 25 r_9
theorem xbb:xrz c h u (xd2 x1y) r_9 eNil=j5 (x47 c h u) 0 1 2 3 4:=(kq (j5 (x47 c h u) 0 1 2 3 4))
noncomputable abbrev xs0:=VX xr 11 r_2
theorem xbc:xs0 c h u (xd2 xr) r_2 eNil=j1 (x48 c h u) 0:=(kq (j1 (x48 c h u) 0))
noncomputable abbrev xs1:=VX x1z 5 r_2
theorem xbd:xs1 c h u (xd2 x1z) r_2 eNil=j1 (x49 c h u) 0:=(kq (j1 (x49 c h u) 0))
noncomputable abbrev xs2:=VX xc 15 r_0
theorem xbe:xs2 c h u (xd2 xc) r_0 eNil=j3 (x4a c h u) 0 1 2:=(kq (j3 (x4a c h u) 0 1 2))
noncomputable abbrev xs3:=VX x20 23 r_2
theorem xbf:xs3 c h u (xd2 x20) r_2 eNil=j1 (x4c c h u) 0:=(tq (j1 (x4c c h u) 0) (sqN 2 (sq2 (kq (j0 (x80 c h u))) (tq (j1 (x82 c h u) 1) (sqN 1 (bk 0 (lq (x4b c h u) (λr=>j3 r 13 14 15) λrec0=>(kq (j3 (x81 c h u rec0) 13 14 15)))))))))
noncomputable abbrev xs4:=VX x21 53 r_10
theorem xbg:xs4 c h u (xd2 x21) r_10 eNil=j2 (x4h c h u) 0 1:=(tq (j2 (x4h c h u) 0 1) (sqN 2 (sq2 (kq (j2 (x4d c h u) 4 5)) (tq (j4 (x85 c h u) 2 3 4 5) (sqN 1 (bk 0 (lq (x1m c h u) (λr=>j6 r 2 3 4 5 15 16) λrec0=>(tq (j6 (x4g c h u rec0) 2 3 4 5 15 16) (sqN 2 (sq2 (kq (j6 (x4e c h u rec0) 2 3 4 5 15 16)) (bk 1 (tq (j6 (x84 c h u rec0) 2 3 4 5 15 16) (sqN 2 (bk 2 (lq (x2n c h u rec0) (λr=>j9 r 2 3 4 5 6 15 16 20 21) λs=>(kq (j9 (x4f c h u rec0 s) 2 3 4 5 6 15 16 20 21)))))))))))))))))
noncomputable abbrev xs5:=VX x22 22 r_0
theorem xbh:xs5 c h u (xd2 x22) r_0 eNil=j3 (x4i c h u) 0 1 2:=(kq (j3 (x4i c h u) 0 1 2))
noncomputable abbrev xs6:=VX x23 24 r_11
theorem xbi:xs6 c h u (xd2 x23) r_11 eNil=j2 (x4k c h u) 0 1:=(tq (j2 (x4k c h u) 0 1) (sqN 1 (sq2 (kq (j0 (x86 c h u))) (tq (j2 (x87 c h u) 0 1) (sqN 1 (bk 0 (lq (x2o c h u) (λr=>j4 r 1 9 10 11) λrec0=>(kq (j4 (x4j c h u rec0) 1 9 10 11)))))))))
noncomputable abbrev xs7:=VX x18 29 r_12
theorem xbj:xs7 c h u (xd2 x18) r_12 eNil=j1 (x4n c h u) 0:=(tq (j1 (x4n c h u) 0) (sqN 1 (sq2 (kq (j2 (x88 c h u) 1 2)) (tq (j2 (x8a c h u) 1 2) (sqN 1 (bk 0 (lq (x4m c h u) (λr=>j4 r 1 2 11 12) λrec0=>(kq (j4 (x89 c h u rec0) 1 2 11 12)))))))))
noncomputable abbrev xs8:=VX xt 21 r_3
theorem xbk:xs8 c h u (xd2 xt) r_3 eNil=j2 (x4o c h u) 0 1:=(kq (j2 (x4o c h u) 0 1))
noncomputable abbrev xs9:=VX xo 91 r_13
theorem xbl:xs9 c h u (xd2 xo) r_13 eNil=j3 (x38 c h u) 0 1 2:=(tq (j3 (x38 c h u) 0 1 2) (sqN 6 (sq2 (sq2 (kq (j4 (x35 c h u) 6 9 10 11)) (tq (j7 (x4p c h u) 3 4 6 9 10 11 12) (sqN 1 (bk 2 (tq (j6 (x8c c h u) 6 9 10 11 12 55) (rg (.tmp 55) #[56,57] (λu=>(kq (j5 (x8b c h u) 9 10 12 15 16))) (λu=>(kq (j5 (x36 c h u) 9 10 12 56 57))))))))) (tq (j8 (x8f c h u) 3 4 6 8 9 10 11 12) (sqN 1 (bk 0 (tq (j8 (x8e c h u) 3 4 6 9 10 11 12 41) (rg (.tmp 41) #[42,43] (λu=>(kq (j3 (x8d c h u) 11 12 14))) (λu=>(kq (j3 (x37 c h u) 11 12 43)))))))))))
noncomputable abbrev xsa:=VX x19 18 r_14
theorem xbm:xsa c h u (xd2 x19) r_14 eNil=j1 (x4r c h u) 0:=(kq (j1 (x4r c h u) 0))
noncomputable abbrev xsb:=VX xu 57 r_15
theorem xbn:xsb c h u (xd2 xu) r_15 eNil=j3 (x4t c h u) 0 1 2:=(tq (j3 (x4t c h u) 0 1 2) (sqN 3 (sq2 (kq (j3 (x8h c h u) 6 8 9)) (tq (j6 (x8j c h u) 2 3 4 6 8 9) (sqN 1 (bk 0 (lq (x11 c h u) (λr=>j7 r 2 3 4 6 8 9 10) λrec0=>(tq (j7 (x4s c h u rec0) 2 3 4 6 8 9 10) (sqN 1 (sq2 (kq (j7 (x39 c h u rec0) 2 3 4 6 8 9 10)) (bk 1 (tq (j7 (x8i c h u rec0) 2 3 4 6 8 9 10) (sqN 1 (bk 2 (lq (x1o c h u rec0) (λr=>j8 r 2 3 4 6 8 9 10 11) λs=>(tq (j8 (x1n c h u rec0 s) 2 3 4 6 8 9 10 11) (sqN 1 (sq2 (kq (j8 (x3a c h u rec0 s) 2 3 4 6 8 9 10 11)) (kq (j8 (x2p c h u rec0 s) 2 3 4 6 8 9 10 11))))))))))))))))))))
noncomputable abbrev xsc:=VX x24 15 r_3
theorem xbo:xsc c h u (xd2 x24) r_3 eNil=j2 (x4u c h u) 0 1:=(kq (j2 (x4u c h u) 0 1))
noncomputable abbrev xsd:=VX xv 6 r_3
theorem xbp:xsd c h u (xd2 xv) r_3 eNil=j2 (x4v c h u) 0 1:=(kq (j2 (x4v c h u) 0 1))
noncomputable abbrev xse:=VX x25 45 r_3
theorem xbq:xse c h u (xd2 x25) r_3 eNil=j2 (x4x c h u) 0 1:=(tq (j2 (x4x c h u) 0 1) (sqN 2 (sq2 (kq (j0 (x8k c h u))) (tq (j2 (x8l c h u) 0 1) (sqN 1 (bk 0 (lq (x2r c h u) (λr=>j3 r 0 1 5) λrec0=>(kq (j3 (x4w c h u rec0) 0 1 5)))))))))
noncomputable abbrev xsf:=VX x26 20 r_0
theorem xbr:xsf c h u (xd2 x26) r_0 eNil=j3 (x4y c h u) 0 1 2:=(kq (j3 (x4y c h u) 0 1 2))
noncomputable abbrev xsg:=VX x27 13 r_3
theorem xbs:xsg c h u (xd2 x27) r_3 eNil=j2 (x4z c h u) 0 1:=(kq (j2 (x4z c h u) 0 1))
noncomputable abbrev xsh:=VX x28 27 r_16
theorem xbt:xsh c h u (xd2 x28) r_16 eNil=j3 (x50 c h u) 0 1 2:=(kq (j3 (x50 c h u) 0 1 2))
noncomputable abbrev xsi:=VX x29 91 r_0
theorem xbu:xsi c h u (xd2 x29) r_0 eNil=j3 (x55 c h u) 0 1 2:=(tq (j3 (x55 c h u) 0 1 2) (sqN 4 (sq2 (kq (j3 (x51 c h u) 9 10 11)) (tq (j6 (x8o c h u) 3 7 8 9 10 11) (sqN 1 (bk 0 (lq (x1p c h u) (λr=>j9 r 3 7 8 9 10 11 38 39 40) λrec0=>(tq (j9 (x54 c h u rec0) 3 7 8 9 10 11 38 39 40) (sqN 2 (sq2 (kq (j9 (x52 c h u rec0) 3 7 8 9 10 11 38 39 40)) (bk 1 (tq (j9 (x8n c h u rec0) 3 7 8 9 10 11 38 39 40) (sqN 2 (bk 2 (lq (x2s c h u rec0) (λr=>j14 r 3 7 8 9 10 11 12 13 38 39 40 46 47 48) λs=>(kq (j14 (x53 c h u rec0 s) 3 7 8 9 10 11 12 13 38 39 40 46 47 48)))))))))))))))))
noncomputable abbrev xsj:=VX x1a 15 r_0
theorem xbv:xsj c h u (xd2 x1a) r_0 eNil=j3 (x56 c h u) 0 1 2:=(kq (j3 (x56 c h u) 0 1 2))
noncomputable abbrev xsk:=VX x2a 40 r_3
theorem xbw:xsk c h u (xd2 x2a) r_3 eNil=j2 (x57 c h u) 0 1:=(tq (j2 (x57 c h u) 0 1) (sqN 3 (sq2 (sq2 (kq (j0 (x94 c h u))) (tq (j2 (x8q c h u) 1 6) (sqN 1 (bk 2 (lq (x3d c h u) (λr=>j3 r 1 31 32) λrec0=>(kq (j3 (xk c h u rec0) 1 31 32))))))) (tq (j2 (x8r c h u) 1 6) (sqN 1 (bk 0 (lq (x3e c h u) (λr=>j4 r 1 6 18 19) λs=>(kq (j4 (xl c h u s) 1 6 18 19)))))))))
noncomputable abbrev xsl:=VX x1b 25 r_3
theorem xbx:xsl c h u (xd2 x1b) r_3 eNil=j2 (x58 c h u) 0 1:=(kq (j2 (x58 c h u) 0 1))
noncomputable abbrev xsm:=VX x2b 18 r_17
theorem xby:xsm c h u (xd2 x2b) r_17 eNil=j2 (x59 c h u) 0 1:=(kq (j2 (x59 c h u) 0 1))
noncomputable abbrev xsn:=VX xe 7 r_2
theorem xbz:xsn c h u (xd2 xe) r_2 eNil=j1 (x3f c h u) 0:=(kq (j1 (x3f c h u) 0))
noncomputable abbrev xso:=VX xw 18 r_2
theorem xc0:xso c h u (xd2 xw) r_2 eNil=j1 (x5a c h u) 0:=(kq (j1 (x5a c h u) 0))
noncomputable abbrev xsp:=VX x2c 13 r_3
theorem xc1:xsp c h u (xd2 x2c) r_3 eNil=j2 (x5c c h u) 0 1:=(tq (j2 (x5c c h u) 0 1) (sqN 1 (sq2 (kq (j1 (x5b c h u) 0)) (bk 0 (lq (x12 c h u) (λr=>j2 r 0 1) λrec0=>(kq (j2 (x2u c h u rec0) 0 1)))))))
noncomputable abbrev xsq:=VX x2d 26 r_3
theorem xc2:xsq c h u (xd2 x2d) r_3 eNil=j2 (x5d c h u) 0 1:=(kq (j2 (x5d c h u) 0 1))
noncomputable abbrev xsr:=VX xh 34 r_18
theorem xc3:xsr c h u (xd2 xh) r_18 eNil=j3 (x5f c h u) 0 1 2:=(tq (j3 (x5f c h u) 0 1 2) (sqN 1 (bk 0 (lq (x2v c h u) (λr=>j5 r 0 1 2 9 10) λrec0=>(kq (j5 (x5e c h u rec0) 0 1 2 9 10))))))
noncomputable abbrev xss:=VX x1c 36 r_0
theorem xc4:xss c h u (xd2 x1c) r_0 eNil=j3 (x2w c h u) 0 1 2:=(kq (j3 (x2w c h u) 0 1 2))
noncomputable abbrev xst:=VX x2e 38 r_0
theorem xc5:xst c h u (xd2 x2e) r_0 eNil=j3 (x5g c h u) 0 1 2:=(kq (j3 (x5g c h u) 0 1 2))
noncomputable abbrev xsu:=VX xx 12 r_3
theorem xc6:xsu c h u (xd2 xx) r_3 eNil=j2 (x5h c h u) 0 1:=(kq (j2 (x5h c h u) 0 1))
noncomputable abbrev xsv:=VX xy 16 r_3
theorem xc7:xsv c h u (xd2 xy) r_3 eNil=j2 (x5i c h u) 0 1:=(tq (j2 (x5i c h u) 0 1) (sqN 2 (sq2 (kq (j1 (x3g c h u) 5)) (kq (j3 (x8s c h u) 0 1 5)))))
noncomputable abbrev xsw:=VX x1d 12 r_3
theorem xc8:xsw c h u (xd2 x1d) r_3 eNil=j2 (x5j c h u) 0 1:=(kq (j2 (x5j c h u) 0 1))
noncomputable abbrev xsx:=VX x1e 15 r_3
theorem xc9:xsx c h u (xd2 x1e) r_3 eNil=j2 (x5k c h u) 0 1:=(tq (j2 (x5k c h u) 0 1) (sqN 1 (sq2 (kq (j1 (x3h c h u) 0)) (kq (j2 (x8t c h u) 0 1)))))
noncomputable abbrev xsy:=VX x1f 7 r_2
theorem xca:xsy c h u (xd2 x1f) r_2 eNil=j1 (x5l c h u) 0:=(kq (j1 (x5l c h u) 0))
noncomputable abbrev xsz:=VX xz 7 r_2
theorem xcb:xsz c h u (xd2 xz) r_2 eNil=j1 (x5m c h u) 0:=(kq (j1 (x5m c h u) 0))
noncomputable abbrev xt0:=VX xd 12 r_2
theorem xcc:xt0 c h u (xd2 xd) r_2 eNil=j1 (x5n c h u) 0:=(kq (j1 (x5n c h u) 0))
noncomputable abbrev xt1:=VX xp 18 r_2
theorem xcd:xt1 c h u (xd2 xp) r_2 eNil=j1 (x5p c h u) 0:=(tq (j1 (x5p c h u) 0) (sqN 2 (sq2 (kq (j1 (x8u c h u) 3)) (tq (j2 (x8v c h u) 0 3) (sqN 1 (bk 0 (lq (x2x c h u) (λr=>j4 r 3 6 7 8) λrec0=>(kq (j4 (x5o c h u rec0) 3 6 7 8)))))))))
noncomputable abbrev xt2:=VX x2f 37 r_3
theorem xce:xt2 c h u (xd2 x2f) r_3 eNil=j2 (x5q c h u) 0 1:=(kq (j2 (x5q c h u) 0 1))
noncomputable abbrev xt3:=VX x1g 20 r_3
theorem xcf:xt3 c h u (xd2 x1g) r_3 eNil=j2 (x5r c h u) 0 1:=(kq (j2 (x5r c h u) 0 1))
noncomputable abbrev xt4:=VX x2g 36 r_3
theorem xcg:xt4 c h u (xd2 x2g) r_3 eNil=j2 (x5t c h u) 0 1:=(tq (j2 (x5t c h u) 0 1) (sqN 1 (sq2 (kq (j2 (x8w c h u) 0 1)) (tq (j2 (x8y c h u) 0 1) (sqN 1 (bk 0 (lq (x5s c h u) (λr=>j5 r 0 1 9 10 11) λrec0=>(kq (j5 (x8x c h u rec0) 0 1 9 10 11)))))))))
noncomputable abbrev xt5:=VX x1h 24 r_2
theorem xch:xt5 c h u (xd2 x1h) r_2 eNil=j1 (x5u c h u) 0:=(kq (j1 (x5u c h u) 0))
noncomputable abbrev xt6:=VX x13 51 r_11
theorem xav:xt6 c h u (xd2 x13) r_11 eNil=j2 (x5v c h u) 0 1:=(kq (j2 (x5v c h u) 0 1))
noncomputable abbrev xt7:=VX x1i 20 r_3
theorem xci:xt7 c h u (xd2 x1i) r_3 eNil=j2 (x5w c h u) 0 1:=(kq (j2 (x5w c h u) 0 1))
noncomputable abbrev xt8:=VX x1j 6 r_2
theorem xcj:xt8 c h u (xd2 x1j) r_2 eNil=j1 (x5x c h u) 0:=(kq (j1 (x5x c h u) 0))
noncomputable abbrev xt9:=VX x1k 6 r_2
theorem xck:xt9 c h u (xd2 x1k) r_2 eNil=j1 (x5y c h u) 0:=(kq (j1 (x5y c h u) 0))
end Go.Ix
