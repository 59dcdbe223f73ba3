import Derived.Test.YtpeakdjfagbpcaaGreatFxText0
import Derived.Test.YtpeakdjfagbpcaaGreatFxText1
import Derived.Test.YtpeakdjfagbpcaaGreatFxEnt
import Derived.Test.YtpeakdjfagbpcaaGreatFxRules
import Derived.Test.YtpeakdjfagbpcaaGreatFxProj
import Derived.ProofKit
set_option linter.unusedVariables false
namespace Go.Ix
open Go.Proofs
variable{call:x2i5}{hs:FHs}{u:Nat}
noncomputable abbrev x2ml:=VX xgn 135 r_0
noncomputable def x11l:=x2ia xgn
noncomputable def xp2:=nRs 5 x11l
noncomputable def x1vl:=nL xp2
noncomputable def x11m:=nR xp2
noncomputable def xp3:=nRs 4 x11m
noncomputable def x11n:=nL xp3
noncomputable def x1vm:=nR xp3
noncomputable def x11o:=nR x11n
noncomputable def x11p:=nR x11o
noncomputable def x1vn:=nR x11p
theorem x1vo:x2ml call hs u x1vm r_0 eNil=j0 (x6f call hs u):=by kernel_rfl
theorem x1vp{rec0:AV->AV->AV->Mem->Nat->O2}:x2ml call hs u x1vn (j3 rec0 2 5 11) (setE 0 (j0 (x6f call hs u)) eNil)=j3 (xsa call hs u rec0) 2 5 11:=by kernel_rfl
theorem x1vq:x2ml call hs u x11p (j0 (x6f call hs u)) (setE 0 (j0 (x6f call hs u)) eNil)=j3 (x91 call hs u NN) 2 5 11:=lp (Ln:=fun n=>j3 (x91 call hs u n) 2 5 11) fun n=>tr x1vp
theorem x1vr:x2ml call hs u x11o (j0 (x6f call hs u)) eNil=j3 (x91 call hs u NN) 2 5 11:=bk x1vq
theorem x1vs:x2ml call hs u x11n (j0 (x6f call hs u)) eNil=j2 (xiv call hs u) 2 5:=tr (sqN 1 x1vr)
theorem x1vt:x2ml call hs u xp3 r_0 eNil=j2 (xiv call hs u) 2 5:=sq2 x1vo x1vs
theorem x1vu:x2ml call hs u x11m r_0 eNil=j6 (xcm call hs u) 1 2 5 6 7 8:=tr (sqN 4 x1vt)
theorem x1vv:x2ml call hs u x1vl (j6 (xcm call hs u) 1 2 5 6 7 8) eNil=j6 (xiw call hs u) 1 2 5 6 7 8:=by kernel_rfl
theorem x1vw:x2ml call hs u xp2 r_0 eNil=j6 (xiw call hs u) 1 2 5 6 7 8:=sq2 x1vu x1vv
theorem x1g6:x2ml call hs u x11l r_0 eNil=j2 (xsb call hs u) 0 1:=tr (sqN 5 x1vw)
noncomputable abbrev x2mm:=VX xgo 88 r_1
noncomputable def x11q:=x2ia xgo
noncomputable def xp4:=nRs 3 x11q
noncomputable def x11r:=nL xp4
noncomputable def x11s:=nR xp4
noncomputable def xp5:=nRs 2 x11s
noncomputable def x1vx:=nL xp5
noncomputable def x1vy:=nR xp5
noncomputable def x11t:=nR x11r
noncomputable def x11u:=nR x11t
noncomputable def x1vz:=nR x11u
theorem x1w0:x2mm call hs u x1vy r_1 eNil=j6 (xcn call hs u) 0 1 2 8 9 11:=by kernel_rfl
theorem x1w1:x2mm call hs u x1vx (j6 (xcn call hs u) 0 1 2 8 9 11) eNil=j6 (xix call hs u) 0 1 2 8 9 11:=by kernel_rfl
theorem x1w2:x2mm call hs u xp5 r_1 eNil=j6 (xix call hs u) 0 1 2 8 9 11:=sq2 x1w0 x1w1
theorem x1w3:x2mm call hs u x11s r_1 eNil=j3 (x6g call hs u) 0 1 2:=tr (sqN 2 x1w2)
theorem x1w4{rec0:AV->AV->AV->AV->Mem->Nat->O2}:x2mm call hs u x1vz (j4 rec0 0 1 2 7) (setE 0 (j3 (x6g call hs u) 0 1 2) eNil)=j4 (xsc call hs u rec0) 0 1 2 7:=by kernel_rfl
theorem x1w5:x2mm call hs u x11u (j3 (x6g call hs u) 0 1 2) (setE 0 (j3 (x6g call hs u) 0 1 2) eNil)=j4 (x92 call hs u NN) 0 1 2 7:=lp (Ln:=fun n=>j4 (x92 call hs u n) 0 1 2 7) fun n=>tr x1w4
theorem x1w6:x2mm call hs u x11t (j3 (x6g call hs u) 0 1 2) eNil=j4 (x92 call hs u NN) 0 1 2 7:=bk x1w5
theorem x1w7:x2mm call hs u x11r (j3 (x6g call hs u) 0 1 2) eNil=j3 (xiy call hs u) 0 1 2:=tr (sqN 1 x1w6)
theorem x1w8:x2mm call hs u xp4 r_1 eNil=j3 (xiy call hs u) 0 1 2:=sq2 x1w3 x1w7
theorem x1g7:x2mm call hs u x11q r_1 eNil=j3 (xsd call hs u) 0 1 2:=tr (sqN 3 x1w8)
noncomputable abbrev x2sa:=VX xgp 42 r_0
noncomputable def x11v:=x2ia xgp
noncomputable def xp6:=nRs 5 x11v
noncomputable def x1w9:=nL xp6
noncomputable def x1wa:=nR xp6
theorem x1wb:x2sa call hs u x1wa r_0 eNil=j2 (xco call hs u) 5 6:=by kernel_rfl
theorem x1wc:x2sa call hs u x1w9 (j2 (xco call hs u) 5 6) eNil=j4 (xiz call hs u) 1 2 5 6:=by kernel_rfl
theorem x1wd:x2sa call hs u xp6 r_0 eNil=j4 (xiz call hs u) 1 2 5 6:=sq2 x1wb x1wc
theorem x1g8:x2sa call hs u x11v r_0 eNil=j2 (xse call hs u) 0 1:=tr (sqN 5 x1wd)
noncomputable abbrev x2sb:=VX x8o 118 r_1
noncomputable def x11w:=x2ia x8o
noncomputable def xp7:=nRs 10 x11w
noncomputable def x1we:=nL xp7
noncomputable def x1wf:=nR xp7
theorem x1wg:x2sb call hs u x1wf r_1 eNil=j8 (x7t call hs u) 7 8 9 10 12 13 15 16:=by kernel_rfl
theorem x1wh:x2sb call hs u x1we (j8 (x7t call hs u) 7 8 9 10 12 13 15 16) eNil=j10 (xcp call hs u) 2 7 8 9 10 12 13 14 15 16:=by kernel_rfl
theorem x1wi:x2sb call hs u xp7 r_1 eNil=j10 (xcp call hs u) 2 7 8 9 10 12 13 14 15 16:=sq2 x1wg x1wh
theorem x1g9:x2sb call hs u x11w r_1 eNil=j3 (xj0 call hs u) 0 1 2:=tr (sqN 10 x1wi)
noncomputable abbrev x30q:=VX xgr 83 r_1
noncomputable def x1wj:=x2ia xgr
theorem x1ga:x30q call hs u x1wj r_1 eNil=j3 (xsf call hs u) 0 1 2:=by kernel_rfl
noncomputable abbrev x30r:=VX x1w 82 r_2
noncomputable def x1wk:=x2ia x1w
theorem x1gb:x30r call hs u x1wk r_2 eNil=j0 (xsg call hs u):=by kernel_rfl
noncomputable abbrev x2oh:=VX x2s 63 r_3
noncomputable def x11x:=x2ia x2s
noncomputable def xp8:=nRs 3 x11x
noncomputable def x11y:=nL xp8
noncomputable def x1wl:=nR xp8
noncomputable def x11z:=nR x11y
noncomputable def x120:=nR x11z
noncomputable def x1wm:=nR x120
theorem x1wn:x2oh call hs u x1wl r_3 eNil=j0 (x3y call hs u):=by kernel_rfl
theorem x1wo{rec0:AV->AV->Mem->Nat->O2}:x2oh call hs u x1wm (j2 rec0 1 3) (setE 0 (j0 (x3y call hs u)) eNil)=j2 (xcq call hs u rec0) 1 3:=by kernel_rfl
theorem x1wp:x2oh call hs u x120 (j0 (x3y call hs u)) (setE 0 (j0 (x3y call hs u)) eNil)=j2 (x3z call hs u NN) 1 3:=lp (Ln:=fun n=>j2 (x3z call hs u n) 1 3) fun n=>tr x1wo
theorem x1wq:x2oh call hs u x11z (j0 (x3y call hs u)) eNil=j2 (x3z call hs u NN) 1 3:=bk x1wp
theorem x1wr:x2oh call hs u x11y (j0 (x3y call hs u)) eNil=j1 (x93 call hs u) 1:=tr (sqN 1 x1wq)
theorem x1ws:x2oh call hs u xp8 r_3 eNil=j1 (x93 call hs u) 1:=sq2 x1wn x1wr
theorem x1gc:x2oh call hs u x11x r_3 eNil=j1 (xj1 call hs u) 0:=tr (sqN 3 x1ws)
noncomputable abbrev x2jz:=VX x75 90 r_4
noncomputable def x121:=x2ia x75
noncomputable def xp9:=nRs 5 x121
noncomputable def x122:=nL xp9
noncomputable def x123:=nR xp9
noncomputable def xpa:=nRs 3 x123
noncomputable def x124:=nL xpa
noncomputable def x1wt:=nR xpa
noncomputable def x125:=nR x124
noncomputable def x126:=nR x125
noncomputable def x127:=nR x126
noncomputable def xpb:=nRs 2 x127
noncomputable def x1wu:=nL xpb
noncomputable def x1wv:=nR xpb
noncomputable def x128:=nR x122
noncomputable def x129:=nR x128
noncomputable def x12a:=nR x129
noncomputable def xpc:=nRs 2 x12a
noncomputable def x1ww:=nL xpc
noncomputable def x1wx:=nR xpc
theorem x1wy:x2jz call hs u x1wt r_4 eNil=j1 (x20 call hs u) 14:=by kernel_rfl
theorem x1wz{rec0:AV->AV->AV->AV->AV->AV->AV->Mem->Nat->O2}:x2jz call hs u x1wv (j7 rec0 1 12 13 14 60 61 62) (setE 2 (j1 (x20 call hs u) 14) eNil)=j7 (xcr call hs u rec0) 1 12 13 14 60 61 62:=by kernel_rfl
theorem x1x0{rec0:AV->AV->AV->AV->AV->AV->AV->Mem->Nat->O2}:x2jz call hs u x1wu (j7 (xcr call hs u rec0) 1 12 13 14 60 61 62) (setE 2 (j1 (x20 call hs u) 14) eNil)=j7 (xj2 call hs u rec0) 1 12 13 14 60 61 62:=by kernel_rfl
theorem x1x1{rec0:AV->AV->AV->AV->AV->AV->AV->Mem->Nat->O2}:x2jz call hs u xpb (j7 rec0 1 12 13 14 60 61 62) (setE 2 (j1 (x20 call hs u) 14) eNil)=j7 (xj2 call hs u rec0) 1 12 13 14 60 61 62:=sq2 x1wz x1x0
theorem x1x2{rec0:AV->AV->AV->AV->AV->AV->AV->Mem->Nat->O2}:x2jz call hs u x127 (j7 rec0 1 12 13 14 60 61 62) (setE 2 (j1 (x20 call hs u) 14) eNil)=j7 (xsh call hs u rec0) 1 12 13 14 60 61 62:=tr (sqN 2 x1x1)
theorem x1x3:x2jz call hs u x126 (j1 (x20 call hs u) 14) (setE 2 (j1 (x20 call hs u) 14) eNil)=j7 (x94 call hs u NN) 1 12 13 14 60 61 62:=lp (Ln:=fun n=>j7 (x94 call hs u n) 1 12 13 14 60 61 62) fun n=>tr x1x2
theorem x1x4:x2jz call hs u x125 (j1 (x20 call hs u) 14) eNil=j7 (x94 call hs u NN) 1 12 13 14 60 61 62:=bk x1x3
theorem x1x5:x2jz call hs u x124 (j1 (x20 call hs u) 14) eNil=j4 (xj3 call hs u) 1 12 13 14:=tr (sqN 1 x1x4)
theorem x1x6:x2jz call hs u xpa r_4 eNil=j4 (xj3 call hs u) 1 12 13 14:=sq2 x1wy x1x5
theorem x1x7:x2jz call hs u x123 r_4 eNil=j4 (x21 call hs u) 1 2 8 9:=tr (sqN 3 x1x6)
theorem x1x8{rec1:AV->AV->AV->AV->AV->AV->AV->Mem->Nat->O2}:x2jz call hs u x1wx (j7 rec1 1 2 8 9 36 37 38) (setE 0 (j4 (x21 call hs u) 1 2 8 9) eNil)=j7 (xcs call hs u rec1) 1 2 8 9 36 37 38:=by kernel_rfl
theorem x1x9{rec1:AV->AV->AV->AV->AV->AV->AV->Mem->Nat->O2}:x2jz call hs u x1ww (j7 (xcs call hs u rec1) 1 2 8 9 36 37 38) (setE 0 (j4 (x21 call hs u) 1 2 8 9) eNil)=j7 (xj4 call hs u rec1) 1 2 8 9 36 37 38:=by kernel_rfl
theorem x1xa{rec1:AV->AV->AV->AV->AV->AV->AV->Mem->Nat->O2}:x2jz call hs u xpc (j7 rec1 1 2 8 9 36 37 38) (setE 0 (j4 (x21 call hs u) 1 2 8 9) eNil)=j7 (xj4 call hs u rec1) 1 2 8 9 36 37 38:=sq2 x1x8 x1x9
theorem x1xb{rec1:AV->AV->AV->AV->AV->AV->AV->Mem->Nat->O2}:x2jz call hs u x12a (j7 rec1 1 2 8 9 36 37 38) (setE 0 (j4 (x21 call hs u) 1 2 8 9) eNil)=j7 (xsi call hs u rec1) 1 2 8 9 36 37 38:=tr (sqN 2 x1xa)
theorem x1xc:x2jz call hs u x129 (j4 (x21 call hs u) 1 2 8 9) (setE 0 (j4 (x21 call hs u) 1 2 8 9) eNil)=j7 (x95 call hs u NN) 1 2 8 9 36 37 38:=lp (Ln:=fun n=>j7 (x95 call hs u n) 1 2 8 9 36 37 38) fun n=>tr x1xb
theorem x1xd:x2jz call hs u x128 (j4 (x21 call hs u) 1 2 8 9) eNil=j7 (x95 call hs u NN) 1 2 8 9 36 37 38:=bk x1xc
theorem x1xe:x2jz call hs u x122 (j4 (x21 call hs u) 1 2 8 9) eNil=j4 (xj5 call hs u) 1 2 8 9:=tr (sqN 1 x1xd)
theorem x1xf:x2jz call hs u xp9 r_4 eNil=j4 (xj5 call hs u) 1 2 8 9:=sq2 x1x7 x1xe
theorem x1gd:x2jz call hs u x121 r_4 eNil=j2 (xsj call hs u) 0 1:=tr (sqN 5 x1xf)
noncomputable abbrev x30s:=VX xy 13 r_5
noncomputable def x1xg:=x2ia xy
theorem x1ge:x30s call hs u x1xg r_5 eNil=j1 (xct call hs u) 0:=by kernel_rfl
noncomputable abbrev x2lr:=VX x1x 58 r_3
noncomputable def x12b:=x2ia x1x
noncomputable def xpd:=nRs 3 x12b
noncomputable def x12c:=nL xpd
noncomputable def xpe:=nR xpd
noncomputable def x12d:=nL xpe
noncomputable def x1xh:=nR xpe
noncomputable def x12e:=nR x12d
noncomputable def x12f:=nR x12e
noncomputable def x1xi:=nR x12f
noncomputable def x12g:=nR x12c
noncomputable def x12h:=nR x12g
noncomputable def x1xj:=nR x12h
theorem x1xk:x2lr call hs u x1xh r_3 eNil=j0 (x40 call hs u):=by kernel_rfl
theorem x1xl{rec0:AV->AV->Mem->Nat->O2}:x2lr call hs u x1xi (j2 rec0 1 5) (setE 2 (j0 (x40 call hs u)) eNil)=j2 (xcu call hs u rec0) 1 5:=by kernel_rfl
theorem x1xm:x2lr call hs u x12f (j0 (x40 call hs u)) (setE 2 (j0 (x40 call hs u)) eNil)=j2 (x41 call hs u NN) 1 5:=lp (Ln:=fun n=>j2 (x41 call hs u n) 1 5) fun n=>tr x1xl
theorem x1xn:x2lr call hs u x12e (j0 (x40 call hs u)) eNil=j2 (x41 call hs u NN) 1 5:=bk x1xm
theorem x1xo:x2lr call hs u x12d (j0 (x40 call hs u)) eNil=j1 (x31 call hs u) 1:=tr (sqN 1 x1xn)
theorem x1xp:x2lr call hs u xpe r_3 eNil=j1 (x31 call hs u) 1:=sq2 x1xk x1xo
theorem x1xq{rec1:AV->AV->Mem->Nat->O2}:x2lr call hs u x1xj (j2 rec1 1 4) (setE 0 (j1 (x31 call hs u) 1) eNil)=j2 (xcv call hs u rec1) 1 4:=by kernel_rfl
theorem x1xr:x2lr call hs u x12h (j1 (x31 call hs u) 1) (setE 0 (j1 (x31 call hs u) 1) eNil)=j2 (x42 call hs u NN) 1 4:=lp (Ln:=fun n=>j2 (x42 call hs u n) 1 4) fun n=>tr x1xq
theorem x1xs:x2lr call hs u x12g (j1 (x31 call hs u) 1) eNil=j2 (x42 call hs u NN) 1 4:=bk x1xr
theorem x1xt:x2lr call hs u x12c (j1 (x31 call hs u) 1) eNil=j1 (xcw call hs u) 1:=tr (sqN 1 x1xs)
theorem x1xu:x2lr call hs u xpd r_3 eNil=j1 (xcw call hs u) 1:=sq2 x1xp x1xt
theorem x1gf:x2lr call hs u x12b r_3 eNil=j1 (xj6 call hs u) 0:=tr (sqN 3 x1xu)
noncomputable abbrev x30t:=VX xg 15 r_1
noncomputable def x1xv:=x2ia xg
theorem x1gg:x30t call hs u x1xv r_1 eNil=j3 (xj7 call hs u) 0 1 2:=by kernel_rfl
noncomputable abbrev x2k0:=VX xbk 79 r_6
noncomputable def x12i:=x2ia xbk
noncomputable def xpf:=nRs 3 x12i
noncomputable def x12j:=nL xpf
noncomputable def x12k:=nR xpf
noncomputable def xpg:=nRs 4 x12k
noncomputable def x12l:=nL xpg
noncomputable def x1xw:=nR xpg
noncomputable def x12m:=nR x12l
noncomputable def x12n:=nR x12m
noncomputable def x12o:=nR x12n
noncomputable def xph:=nR x12o
noncomputable def x1xx:=nL xph
noncomputable def x1xy:=nR xph
noncomputable def x12p:=nR x12j
noncomputable def x12q:=nR x12p
noncomputable def x12r:=nR x12q
noncomputable def xpi:=nR x12r
noncomputable def x1xz:=nL xpi
noncomputable def x1y0:=nR xpi
theorem x1y1:x2k0 call hs u x1xw r_6 eNil=j1 (x22 call hs u) 13:=by kernel_rfl
theorem x1y2{rec0:AV->AV->AV->AV->AV->Mem->Nat->O2}:x2k0 call hs u x1xy (j5 rec0 1 11 12 13 14) (setE 2 (j1 (x22 call hs u) 13) eNil)=j5 (xcx call hs u rec0) 1 11 12 13 14:=by kernel_rfl
theorem x1y3{rec0:AV->AV->AV->AV->AV->Mem->Nat->O2}:x2k0 call hs u x1xx (j5 (xcx call hs u rec0) 1 11 12 13 14) (setE 2 (j1 (x22 call hs u) 13) eNil)=j5 (xj8 call hs u rec0) 1 11 12 13 14:=by kernel_rfl
theorem x1y4{rec0:AV->AV->AV->AV->AV->Mem->Nat->O2}:x2k0 call hs u xph (j5 rec0 1 11 12 13 14) (setE 2 (j1 (x22 call hs u) 13) eNil)=j5 (xj8 call hs u rec0) 1 11 12 13 14:=sq2 x1y2 x1y3
theorem x1y5{rec0:AV->AV->AV->AV->AV->Mem->Nat->O2}:x2k0 call hs u x12o (j5 rec0 1 11 12 13 14) (setE 2 (j1 (x22 call hs u) 13) eNil)=j5 (xsk call hs u rec0) 1 11 12 13 14:=tr (sqN 1 x1y4)
theorem x1y6:x2k0 call hs u x12n (j1 (x22 call hs u) 13) (setE 2 (j1 (x22 call hs u) 13) eNil)=j5 (x96 call hs u NN) 1 11 12 13 14:=lp (Ln:=fun n=>j5 (x96 call hs u n) 1 11 12 13 14) fun n=>tr x1y5
theorem x1y7:x2k0 call hs u x12m (j1 (x22 call hs u) 13) eNil=j5 (x96 call hs u NN) 1 11 12 13 14:=bk x1y6
theorem x1y8:x2k0 call hs u x12l (j1 (x22 call hs u) 13) eNil=j4 (xj9 call hs u) 1 11 12 13:=tr (sqN 1 x1y7)
theorem x1y9:x2k0 call hs u xpg r_6 eNil=j4 (xj9 call hs u) 1 11 12 13:=sq2 x1y1 x1y8
theorem x1ya:x2k0 call hs u x12k r_6 eNil=j3 (x23 call hs u) 1 2 7:=tr (sqN 4 x1y9)
theorem x1yb{rec1:AV->AV->AV->AV->AV->Mem->Nat->O2}:x2k0 call hs u x1y0 (j5 rec1 1 2 6 7 8) (setE 0 (j3 (x23 call hs u) 1 2 7) eNil)=j5 (xcy call hs u rec1) 1 2 6 7 8:=by kernel_rfl
theorem x1yc{rec1:AV->AV->AV->AV->AV->Mem->Nat->O2}:x2k0 call hs u x1xz (j5 (xcy call hs u rec1) 1 2 6 7 8) (setE 0 (j3 (x23 call hs u) 1 2 7) eNil)=j5 (xja call hs u rec1) 1 2 6 7 8:=by kernel_rfl
theorem x1yd{rec1:AV->AV->AV->AV->AV->Mem->Nat->O2}:x2k0 call hs u xpi (j5 rec1 1 2 6 7 8) (setE 0 (j3 (x23 call hs u) 1 2 7) eNil)=j5 (xja call hs u rec1) 1 2 6 7 8:=sq2 x1yb x1yc
theorem x1ye{rec1:AV->AV->AV->AV->AV->Mem->Nat->O2}:x2k0 call hs u x12r (j5 rec1 1 2 6 7 8) (setE 0 (j3 (x23 call hs u) 1 2 7) eNil)=j5 (xsl call hs u rec1) 1 2 6 7 8:=tr (sqN 1 x1yd)
theorem x1yf:x2k0 call hs u x12q (j3 (x23 call hs u) 1 2 7) (setE 0 (j3 (x23 call hs u) 1 2 7) eNil)=j5 (x97 call hs u NN) 1 2 6 7 8:=lp (Ln:=fun n=>j5 (x97 call hs u n) 1 2 6 7 8) fun n=>tr x1ye
theorem x1yg:x2k0 call hs u x12p (j3 (x23 call hs u) 1 2 7) eNil=j5 (x97 call hs u NN) 1 2 6 7 8:=bk x1yf
theorem x1yh:x2k0 call hs u x12j (j3 (x23 call hs u) 1 2 7) eNil=j4 (xjb call hs u) 1 2 6 7:=tr (sqN 1 x1yg)
theorem x1yi:x2k0 call hs u xpf r_6 eNil=j4 (xjb call hs u) 1 2 6 7:=sq2 x1ya x1yh
theorem x1gh:x2k0 call hs u x12i r_6 eNil=j2 (xsm call hs u) 0 1:=tr (sqN 3 x1yi)
noncomputable abbrev x2oi:=VX x2t 26 r_0
noncomputable def x12s:=x2ia x2t
noncomputable def xpj:=nRs 2 x12s
noncomputable def x12t:=nL xpj
noncomputable def x1yj:=nR xpj
noncomputable def x12u:=nR x12t
noncomputable def x12v:=nR x12u
noncomputable def x1yk:=nR x12v
theorem x1yl:x2oi call hs u x1yj r_0 eNil=j0 (x6h call hs u):=by kernel_rfl
theorem x1ym{rec0:AV->AV->AV->Mem->Nat->O2}:x2oi call hs u x1yk (j3 rec0 0 1 5) (setE 0 (j0 (x6h call hs u)) eNil)=j3 (xsn call hs u rec0) 0 1 5:=by kernel_rfl
theorem x1yn:x2oi call hs u x12v (j0 (x6h call hs u)) (setE 0 (j0 (x6h call hs u)) eNil)=j3 (x98 call hs u NN) 0 1 5:=lp (Ln:=fun n=>j3 (x98 call hs u n) 0 1 5) fun n=>tr x1ym
theorem x1yo:x2oi call hs u x12u (j0 (x6h call hs u)) eNil=j3 (x98 call hs u NN) 0 1 5:=bk x1yn
theorem x1yp:x2oi call hs u x12t (j0 (x6h call hs u)) eNil=j2 (xjc call hs u) 0 1:=tr (sqN 1 x1yo)
theorem x1yq:x2oi call hs u xpj r_0 eNil=j2 (xjc call hs u) 0 1:=sq2 x1yl x1yp
theorem x1gi:x2oi call hs u x12s r_0 eNil=j2 (xso call hs u) 0 1:=tr (sqN 2 x1yq)
noncomputable abbrev x2k8:=VX xbl 77 r_7
noncomputable def x12w:=x2ia xbl
noncomputable def xpk:=nRs 4 x12w
noncomputable def x12x:=nL xpk
noncomputable def x1yr:=nR xpk
noncomputable def x12y:=nR x12x
noncomputable def x12z:=nR x12y
noncomputable def x130:=nR x12z
noncomputable def xpl:=nRs 2 x130
noncomputable def x131:=nL xpl
noncomputable def x1ys:=nR xpl
noncomputable def x132:=nR x131
noncomputable def x133:=nRs 2 x132
noncomputable def x134:=nR x133
noncomputable def x135:=nR x134
noncomputable def xpm:=nR x135
noncomputable def x1yt:=nL xpm
noncomputable def x1yu:=nR xpm
theorem x1yv:x2k8 call hs u x1yr r_7 eNil=j1 (xq call hs u) 10:=by kernel_rfl
theorem x1yw{rec0:AV->AV->AV->AV->AV->AV->AV->Mem->Nat->O2}:x2k8 call hs u x1ys (j7 rec0 0 1 2 10 31 32 33) (setE 0 (j1 (xq call hs u) 10) eNil)=j7 (xk call hs u rec0) 0 1 2 10 31 32 33:=by kernel_rfl
theorem x1yx{rec0:AV->AV->AV->AV->AV->AV->AV->Mem->Nat->O2}{rec1:AV->AV->AV->AV->AV->AV->AV->AV->AV->AV->Mem->Nat->O2}:x2k8 call hs u x1yu (j10 rec1 0 1 2 10 11 12 13 31 32 33) (setE 2 (j7 (xk call hs u rec0) 0 1 2 10 31 32 33) (setE 1 (j7 (xk call hs u rec0) 0 1 2 10 31 32 33) (setE 0 (j1 (xq call hs u) 10) eNil)))=j10 (xcz call hs u rec0 rec1) 0 1 2 10 11 12 13 31 32 33:=by kernel_rfl
theorem x1yy{rec0:AV->AV->AV->AV->AV->AV->AV->Mem->Nat->O2}{rec1:AV->AV->AV->AV->AV->AV->AV->AV->AV->AV->Mem->Nat->O2}:x2k8 call hs u x1yt (j10 (xcz call hs u rec0 rec1) 0 1 2 10 11 12 13 31 32 33) (setE 2 (j7 (xk call hs u rec0) 0 1 2 10 31 32 33) (setE 1 (j7 (xk call hs u rec0) 0 1 2 10 31 32 33) (setE 0 (j1 (xq call hs u) 10) eNil)))=j10 (xjd call hs u rec0 rec1) 0 1 2 10 11 12 13 31 32 33:=by kernel_rfl
theorem x1yz{rec0:AV->AV->AV->AV->AV->AV->AV->Mem->Nat->O2}{rec1:AV->AV->AV->AV->AV->AV->AV->AV->AV->AV->Mem->Nat->O2}:x2k8 call hs u xpm (j10 rec1 0 1 2 10 11 12 13 31 32 33) (setE 2 (j7 (xk call hs u rec0) 0 1 2 10 31 32 33) (setE 1 (j7 (xk call hs u rec0) 0 1 2 10 31 32 33) (setE 0 (j1 (xq call hs u) 10) eNil)))=j10 (xjd call hs u rec0 rec1) 0 1 2 10 11 12 13 31 32 33:=sq2 x1yx x1yy
theorem x1z0{rec0:AV->AV->AV->AV->AV->AV->AV->Mem->Nat->O2}{rec1:AV->AV->AV->AV->AV->AV->AV->AV->AV->AV->Mem->Nat->O2}:x2k8 call hs u x135 (j10 rec1 0 1 2 10 11 12 13 31 32 33) (setE 2 (j7 (xk call hs u rec0) 0 1 2 10 31 32 33) (setE 1 (j7 (xk call hs u rec0) 0 1 2 10 31 32 33) (setE 0 (j1 (xq call hs u) 10) eNil)))=j10 (xsp call hs u rec0 rec1) 0 1 2 10 11 12 13 31 32 33:=tr (sqN 1 x1yz)
theorem x1z1{rec0:AV->AV->AV->AV->AV->AV->AV->Mem->Nat->O2}:x2k8 call hs u x134 (j7 (xk call hs u rec0) 0 1 2 10 31 32 33) (setE 2 (j7 (xk call hs u rec0) 0 1 2 10 31 32 33) (setE 1 (j7 (xk call hs u rec0) 0 1 2 10 31 32 33) (setE 0 (j1 (xq call hs u) 10) eNil)))=j10 (x99 call hs u rec0 NN) 0 1 2 10 11 12 13 31 32 33:=lp (Ln:=fun n=>j10 (x99 call hs u rec0 n) 0 1 2 10 11 12 13 31 32 33) fun n=>tr x1z0
theorem x1z2{rec0:AV->AV->AV->AV->AV->AV->AV->Mem->Nat->O2}:x2k8 call hs u x133 (j7 (xk call hs u rec0) 0 1 2 10 31 32 33) (setE 1 (j7 (xk call hs u rec0) 0 1 2 10 31 32 33) (setE 0 (j1 (xq call hs u) 10) eNil))=j10 (x99 call hs u rec0 NN) 0 1 2 10 11 12 13 31 32 33:=bk x1z1
theorem x1z3{rec0:AV->AV->AV->AV->AV->AV->AV->Mem->Nat->O2}:x2k8 call hs u x132 (j7 (xk call hs u rec0) 0 1 2 10 31 32 33) (setE 1 (j7 (xk call hs u rec0) 0 1 2 10 31 32 33) (setE 0 (j1 (xq call hs u) 10) eNil))=j7 (xd0 call hs u rec0) 0 1 2 10 31 32 33:=tr (sqN 2 x1z2)
theorem x1z4{rec0:AV->AV->AV->AV->AV->AV->AV->Mem->Nat->O2}:x2k8 call hs u x131 (j7 (xk call hs u rec0) 0 1 2 10 31 32 33) (setE 0 (j1 (xq call hs u) 10) eNil)=j7 (xd0 call hs u rec0) 0 1 2 10 31 32 33:=bk x1z3
theorem x1z5{rec0:AV->AV->AV->AV->AV->AV->AV->Mem->Nat->O2}:x2k8 call hs u xpl (j7 rec0 0 1 2 10 31 32 33) (setE 0 (j1 (xq call hs u) 10) eNil)=j7 (xd0 call hs u rec0) 0 1 2 10 31 32 33:=sq2 x1yw x1z4
theorem x1z6{rec0:AV->AV->AV->AV->AV->AV->AV->Mem->Nat->O2}:x2k8 call hs u x130 (j7 rec0 0 1 2 10 31 32 33) (setE 0 (j1 (xq call hs u) 10) eNil)=j7 (xsq call hs u rec0) 0 1 2 10 31 32 33:=tr (sqN 2 x1z5)
theorem x1z7:x2k8 call hs u x12z (j1 (xq call hs u) 10) (setE 0 (j1 (xq call hs u) 10) eNil)=j7 (x9a call hs u NN) 0 1 2 10 31 32 33:=lp (Ln:=fun n=>j7 (x9a call hs u n) 0 1 2 10 31 32 33) fun n=>tr x1z6
theorem x1z8:x2k8 call hs u x12y (j1 (xq call hs u) 10) eNil=j7 (x9a call hs u NN) 0 1 2 10 31 32 33:=bk x1z7
theorem x1z9:x2k8 call hs u x12x (j1 (xq call hs u) 10) eNil=j4 (xje call hs u) 0 1 2 10:=tr (sqN 1 x1z8)
theorem x1za:x2k8 call hs u xpk r_7 eNil=j4 (xje call hs u) 0 1 2 10:=sq2 x1yv x1z9
theorem x1gj:x2k8 call hs u x12w r_7 eNil=j3 (xsr call hs u) 0 1 2:=tr (sqN 4 x1za)
noncomputable abbrev x2k9:=VX x3h 50 r_8
noncomputable def x136:=x2ia x3h
noncomputable def xpn:=nRs 2 x136
noncomputable def x137:=nL xpn
noncomputable def x1zb:=nR xpn
noncomputable def x138:=nR x137
noncomputable def x139:=nR x138
noncomputable def x13a:=nR x139
noncomputable def xpo:=nR x13a
noncomputable def x13b:=nL xpo
noncomputable def x1zc:=nR xpo
noncomputable def x13c:=nR x13b
noncomputable def xpp:=nRs 2 x13c
noncomputable def x13d:=nL xpp
noncomputable def x1zd:=nR xpp
noncomputable def x13e:=nR x13d
noncomputable def x13f:=nR x13e
noncomputable def x1ze:=nR x13f
theorem x1zf:x2k9 call hs u x1zb r_8 eNil=j0 (xl call hs u):=by kernel_rfl
theorem x1zg{rec0:AV->AV->Mem->Nat->O2}:x2k9 call hs u x1zc (j2 rec0 0 4) (setE 0 (j0 (xl call hs u)) eNil)=j2 (x14 call hs u rec0) 0 4:=by kernel_rfl
theorem x1zh{rec0:AV->AV->Mem->Nat->O2}:x2k9 call hs u x1zd (j2 (x14 call hs u rec0) 0 4) (setE 1 (j2 (x14 call hs u rec0) 0 4) (setE 0 (j0 (xl call hs u)) eNil))=j3 (x32 call hs u rec0) 0 4 5:=by kernel_rfl
theorem x1zi{rec0:AV->AV->Mem->Nat->O2}{rec1:AV->AV->AV->AV->Mem->Nat->O2}:x2k9 call hs u x1ze (j4 rec1 0 4 5 6) (setE 2 (j3 (x32 call hs u rec0) 0 4 5) (setE 1 (j2 (x14 call hs u rec0) 0 4) (setE 0 (j0 (xl call hs u)) eNil)))=j4 (xd1 call hs u rec0 rec1) 0 4 5 6:=by kernel_rfl
theorem x1zj{rec0:AV->AV->Mem->Nat->O2}:x2k9 call hs u x13f (j3 (x32 call hs u rec0) 0 4 5) (setE 2 (j3 (x32 call hs u rec0) 0 4 5) (setE 1 (j2 (x14 call hs u rec0) 0 4) (setE 0 (j0 (xl call hs u)) eNil)))=j4 (x43 call hs u rec0 NN) 0 4 5 6:=lp (Ln:=fun n=>j4 (x43 call hs u rec0 n) 0 4 5 6) fun n=>tr x1zi
theorem x1zk{rec0:AV->AV->Mem->Nat->O2}:x2k9 call hs u x13e (j3 (x32 call hs u rec0) 0 4 5) (setE 1 (j2 (x14 call hs u rec0) 0 4) (setE 0 (j0 (xl call hs u)) eNil))=j4 (x43 call hs u rec0 NN) 0 4 5 6:=bk x1zj
theorem x1zl{rec0:AV->AV->Mem->Nat->O2}:x2k9 call hs u x13d (j3 (x32 call hs u rec0) 0 4 5) (setE 1 (j2 (x14 call hs u rec0) 0 4) (setE 0 (j0 (xl call hs u)) eNil))=j3 (xd2 call hs u rec0) 0 4 5:=tr (sqN 1 x1zk)
theorem x1zm{rec0:AV->AV->Mem->Nat->O2}:x2k9 call hs u xpp (j2 (x14 call hs u rec0) 0 4) (setE 1 (j2 (x14 call hs u rec0) 0 4) (setE 0 (j0 (xl call hs u)) eNil))=j3 (xd2 call hs u rec0) 0 4 5:=sq2 x1zh x1zl
theorem x1zn{rec0:AV->AV->Mem->Nat->O2}:x2k9 call hs u x13c (j2 (x14 call hs u rec0) 0 4) (setE 1 (j2 (x14 call hs u rec0) 0 4) (setE 0 (j0 (xl call hs u)) eNil))=j2 (x9b call hs u rec0) 0 4:=tr (sqN 2 x1zm)
theorem x1zo{rec0:AV->AV->Mem->Nat->O2}:x2k9 call hs u x13b (j2 (x14 call hs u rec0) 0 4) (setE 0 (j0 (xl call hs u)) eNil)=j2 (x9b call hs u rec0) 0 4:=bk x1zn
theorem x1zp{rec0:AV->AV->Mem->Nat->O2}:x2k9 call hs u xpo (j2 rec0 0 4) (setE 0 (j0 (xl call hs u)) eNil)=j2 (x9b call hs u rec0) 0 4:=sq2 x1zg x1zo
theorem x1zq{rec0:AV->AV->Mem->Nat->O2}:x2k9 call hs u x13a (j2 rec0 0 4) (setE 0 (j0 (xl call hs u)) eNil)=j2 (xd3 call hs u rec0) 0 4:=tr (sqN 1 x1zp)
theorem x1zr:x2k9 call hs u x139 (j0 (xl call hs u)) (setE 0 (j0 (xl call hs u)) eNil)=j2 (x24 call hs u NN) 0 4:=lp (Ln:=fun n=>j2 (x24 call hs u n) 0 4) fun n=>tr x1zq
theorem x1zs:x2k9 call hs u x138 (j0 (xl call hs u)) eNil=j2 (x24 call hs u NN) 0 4:=bk x1zr
theorem x1zt:x2k9 call hs u x137 (j0 (xl call hs u)) eNil=j1 (xd4 call hs u) 0:=tr (sqN 1 x1zs)
theorem x1zu:x2k9 call hs u xpn r_8 eNil=j1 (xd4 call hs u) 0:=sq2 x1zf x1zt
theorem x1gk:x2k9 call hs u x136 r_8 eNil=j1 (xjf call hs u) 0:=tr (sqN 2 x1zu)
noncomputable abbrev x2ka:=VX xbm 61 r_1
noncomputable def x13g:=x2ia xbm
noncomputable def xpq:=nRs 2 x13g
noncomputable def x13h:=nL xpq
noncomputable def x1zv:=nR xpq
noncomputable def x13i:=nR x13h
noncomputable def x13j:=nR x13i
noncomputable def x13k:=nR x13j
noncomputable def xpr:=nR x13k
noncomputable def x13l:=nL xpr
noncomputable def x1zw:=nR xpr
noncomputable def x13m:=nR x13l
noncomputable def x13n:=nR x13m
noncomputable def x13o:=nR x13n
noncomputable def x13p:=nR x13o
noncomputable def xps:=nR x13p
noncomputable def x1zx:=nL xps
noncomputable def x1zy:=nR xps
theorem x1zz:x2ka call hs u x1zv r_1 eNil=j1 (xr call hs u) 7:=by kernel_rfl
theorem x200{rec0:AV->AV->AV->AV->AV->Mem->Nat->O2}:x2ka call hs u x1zw (j5 rec0 0 1 2 7 8) (setE 0 (j1 (xr call hs u) 7) eNil)=j5 (xn call hs u rec0) 0 1 2 7 8:=by kernel_rfl
theorem x201{rec0:AV->AV->AV->AV->AV->Mem->Nat->O2}{rec1:AV->AV->AV->AV->AV->AV->Mem->Nat->O2}:x2ka call hs u x1zy (j6 rec1 0 1 2 7 8 9) (setE 2 (j5 (xn call hs u rec0) 0 1 2 7 8) (setE 1 (j5 (xn call hs u rec0) 0 1 2 7 8) (setE 0 (j1 (xr call hs u) 7) eNil)))=j6 (xd5 call hs u rec0 rec1) 0 1 2 7 8 9:=by kernel_rfl
theorem x202{rec0:AV->AV->AV->AV->AV->Mem->Nat->O2}{rec1:AV->AV->AV->AV->AV->AV->Mem->Nat->O2}:x2ka call hs u x1zx (j6 (xd5 call hs u rec0 rec1) 0 1 2 7 8 9) (setE 2 (j5 (xn call hs u rec0) 0 1 2 7 8) (setE 1 (j5 (xn call hs u rec0) 0 1 2 7 8) (setE 0 (j1 (xr call hs u) 7) eNil)))=j6 (xjg call hs u rec0 rec1) 0 1 2 7 8 9:=by kernel_rfl
theorem x203{rec0:AV->AV->AV->AV->AV->Mem->Nat->O2}{rec1:AV->AV->AV->AV->AV->AV->Mem->Nat->O2}:x2ka call hs u xps (j6 rec1 0 1 2 7 8 9) (setE 2 (j5 (xn call hs u rec0) 0 1 2 7 8) (setE 1 (j5 (xn call hs u rec0) 0 1 2 7 8) (setE 0 (j1 (xr call hs u) 7) eNil)))=j6 (xjg call hs u rec0 rec1) 0 1 2 7 8 9:=sq2 x201 x202
theorem x204{rec0:AV->AV->AV->AV->AV->Mem->Nat->O2}{rec1:AV->AV->AV->AV->AV->AV->Mem->Nat->O2}:x2ka call hs u x13p (j6 rec1 0 1 2 7 8 9) (setE 2 (j5 (xn call hs u rec0) 0 1 2 7 8) (setE 1 (j5 (xn call hs u rec0) 0 1 2 7 8) (setE 0 (j1 (xr call hs u) 7) eNil)))=j6 (xss call hs u rec0 rec1) 0 1 2 7 8 9:=tr (sqN 1 x203)
theorem x205{rec0:AV->AV->AV->AV->AV->Mem->Nat->O2}:x2ka call hs u x13o (j5 (xn call hs u rec0) 0 1 2 7 8) (setE 2 (j5 (xn call hs u rec0) 0 1 2 7 8) (setE 1 (j5 (xn call hs u rec0) 0 1 2 7 8) (setE 0 (j1 (xr call hs u) 7) eNil)))=j6 (x9c call hs u rec0 NN) 0 1 2 7 8 9:=lp (Ln:=fun n=>j6 (x9c call hs u rec0 n) 0 1 2 7 8 9) fun n=>tr x204
theorem x206{rec0:AV->AV->AV->AV->AV->Mem->Nat->O2}:x2ka call hs u x13n (j5 (xn call hs u rec0) 0 1 2 7 8) (setE 1 (j5 (xn call hs u rec0) 0 1 2 7 8) (setE 0 (j1 (xr call hs u) 7) eNil))=j6 (x9c call hs u rec0 NN) 0 1 2 7 8 9:=bk x205
theorem x207{rec0:AV->AV->AV->AV->AV->Mem->Nat->O2}:x2ka call hs u x13m (j5 (xn call hs u rec0) 0 1 2 7 8) (setE 1 (j5 (xn call hs u rec0) 0 1 2 7 8) (setE 0 (j1 (xr call hs u) 7) eNil))=j5 (xd6 call hs u rec0) 0 1 2 7 8:=tr (sqN 1 x206)
theorem x208{rec0:AV->AV->AV->AV->AV->Mem->Nat->O2}:x2ka call hs u x13l (j5 (xn call hs u rec0) 0 1 2 7 8) (setE 0 (j1 (xr call hs u) 7) eNil)=j5 (xd6 call hs u rec0) 0 1 2 7 8:=bk x207
theorem x209{rec0:AV->AV->AV->AV->AV->Mem->Nat->O2}:x2ka call hs u xpr (j5 rec0 0 1 2 7 8) (setE 0 (j1 (xr call hs u) 7) eNil)=j5 (xd6 call hs u rec0) 0 1 2 7 8:=sq2 x200 x208
theorem x20a{rec0:AV->AV->AV->AV->AV->Mem->Nat->O2}:x2ka call hs u x13k (j5 rec0 0 1 2 7 8) (setE 0 (j1 (xr call hs u) 7) eNil)=j5 (xst call hs u rec0) 0 1 2 7 8:=tr (sqN 1 x209)
theorem x20b:x2ka call hs u x13j (j1 (xr call hs u) 7) (setE 0 (j1 (xr call hs u) 7) eNil)=j5 (x9d call hs u NN) 0 1 2 7 8:=lp (Ln:=fun n=>j5 (x9d call hs u n) 0 1 2 7 8) fun n=>tr x20a
theorem x20c:x2ka call hs u x13i (j1 (xr call hs u) 7) eNil=j5 (x9d call hs u NN) 0 1 2 7 8:=bk x20b
theorem x20d:x2ka call hs u x13h (j1 (xr call hs u) 7) eNil=j4 (xjh call hs u) 0 1 2 7:=tr (sqN 1 x20c)
theorem x20e:x2ka call hs u xpq r_1 eNil=j4 (xjh call hs u) 0 1 2 7:=sq2 x1zz x20d
theorem x1gl:x2ka call hs u x13g r_1 eNil=j3 (xsu call hs u) 0 1 2:=tr (sqN 2 x20e)
noncomputable abbrev x2oj:=VX xbn 26 r_0
noncomputable def x13q:=x2ia xbn
noncomputable def xpt:=nRs 2 x13q
noncomputable def x13r:=nL xpt
noncomputable def x20f:=nR xpt
noncomputable def x13s:=nR x13r
noncomputable def x13t:=nR x13s
noncomputable def x20g:=nR x13t
theorem x20h:x2oj call hs u x20f r_0 eNil=j0 (x6i call hs u):=by kernel_rfl
theorem x20i{rec0:AV->AV->AV->Mem->Nat->O2}:x2oj call hs u x20g (j3 rec0 0 1 5) (setE 0 (j0 (x6i call hs u)) eNil)=j3 (xsv call hs u rec0) 0 1 5:=by kernel_rfl
theorem x20j:x2oj call hs u x13t (j0 (x6i call hs u)) (setE 0 (j0 (x6i call hs u)) eNil)=j3 (x9e call hs u NN) 0 1 5:=lp (Ln:=fun n=>j3 (x9e call hs u n) 0 1 5) fun n=>tr x20i
theorem x20k:x2oj call hs u x13s (j0 (x6i call hs u)) eNil=j3 (x9e call hs u NN) 0 1 5:=bk x20j
theorem x20l:x2oj call hs u x13r (j0 (x6i call hs u)) eNil=j2 (xji call hs u) 0 1:=tr (sqN 1 x20k)
theorem x20m:x2oj call hs u xpt r_0 eNil=j2 (xji call hs u) 0 1:=sq2 x20h x20l
theorem x1gm:x2oj call hs u x13q r_0 eNil=j2 (xsw call hs u) 0 1:=tr (sqN 2 x20m)
noncomputable abbrev x2ok:=VX x5v 53 r_3
noncomputable def x13u:=x2ia x5v
noncomputable def xpu:=nRs 2 x13u
noncomputable def x13v:=nL xpu
noncomputable def x20n:=nR xpu
noncomputable def x13w:=nR x13v
noncomputable def x13x:=nR x13w
noncomputable def x20o:=nR x13x
theorem x20p:x2ok call hs u x20n r_3 eNil=j0 (x44 call hs u):=by kernel_rfl
theorem x20q{rec0:AV->AV->Mem->Nat->O2}:x2ok call hs u x20o (j2 rec0 1 3) (setE 0 (j0 (x44 call hs u)) eNil)=j2 (xd7 call hs u rec0) 1 3:=by kernel_rfl
theorem x20r:x2ok call hs u x13x (j0 (x44 call hs u)) (setE 0 (j0 (x44 call hs u)) eNil)=j2 (x45 call hs u NN) 1 3:=lp (Ln:=fun n=>j2 (x45 call hs u n) 1 3) fun n=>tr x20q
theorem x20s:x2ok call hs u x13w (j0 (x44 call hs u)) eNil=j2 (x45 call hs u NN) 1 3:=bk x20r
theorem x20t:x2ok call hs u x13v (j0 (x44 call hs u)) eNil=j1 (x9f call hs u) 1:=tr (sqN 1 x20s)
theorem x20u:x2ok call hs u xpu r_3 eNil=j1 (x9f call hs u) 1:=sq2 x20p x20t
theorem x1gn:x2ok call hs u x13u r_3 eNil=j1 (xjj call hs u) 0:=tr (sqN 2 x20u)
noncomputable abbrev x2ol:=VX xgx 64 r_6
noncomputable def x13y:=x2ia xgx
noncomputable def xpv:=nRs 3 x13y
noncomputable def x13z:=nL xpv
noncomputable def x20v:=nR xpv
noncomputable def x140:=nR x13z
noncomputable def x141:=nR x140
noncomputable def x20w:=nR x141
theorem x20x:x2ol call hs u x20v r_6 eNil=j3 (x6j call hs u) 1 2 7:=by kernel_rfl
theorem x20y{rec0:AV->AV->AV->AV->AV->AV->Mem->Nat->O2}:x2ol call hs u x20w (j6 rec0 1 2 7 19 20 21) (setE 0 (j3 (x6j call hs u) 1 2 7) eNil)=j6 (xsx call hs u rec0) 1 2 7 19 20 21:=by kernel_rfl
theorem x20z:x2ol call hs u x141 (j3 (x6j call hs u) 1 2 7) (setE 0 (j3 (x6j call hs u) 1 2 7) eNil)=j6 (x9g call hs u NN) 1 2 7 19 20 21:=lp (Ln:=fun n=>j6 (x9g call hs u n) 1 2 7 19 20 21) fun n=>tr x20y
theorem x210:x2ol call hs u x140 (j3 (x6j call hs u) 1 2 7) eNil=j6 (x9g call hs u NN) 1 2 7 19 20 21:=bk x20z
theorem x211:x2ol call hs u x13z (j3 (x6j call hs u) 1 2 7) eNil=j3 (xjk call hs u) 1 2 7:=tr (sqN 1 x210)
theorem x212:x2ol call hs u xpv r_6 eNil=j3 (xjk call hs u) 1 2 7:=sq2 x20x x211
theorem x1go:x2ol call hs u x13y r_6 eNil=j2 (xsy call hs u) 0 1:=tr (sqN 3 x212)
noncomputable abbrev x30u:=VX x3i 12 r_9
noncomputable def x213:=x2ia x3i
theorem x1gp:x30u call hs u x213 r_9 eNil=j1 (xjl call hs u) 0:=by kernel_rfl
noncomputable abbrev x30v:=VX x1h 6 r_3
noncomputable def x214:=x2ia x1h
theorem x1gq:x30v call hs u x214 r_3 eNil=j1 (x9i call hs u) 0:=by kernel_rfl
noncomputable abbrev x30w:=VX x5w 11 r_3
noncomputable def x215:=x2ia x5w
theorem x1gr:x30w call hs u x215 r_3 eNil=j1 (xjm call hs u) 0:=by kernel_rfl
noncomputable abbrev x2le:=VX xh0 109 r_6
noncomputable def x142:=x2ia xh0
noncomputable def xpw:=nRs 2 x142
noncomputable def x143:=nL xpw
noncomputable def x144:=nR xpw
noncomputable def xpx:=nR x144
noncomputable def x145:=nL xpx
noncomputable def x216:=nR xpx
noncomputable def x146:=nR x145
noncomputable def x147:=nR x146
noncomputable def x217:=nR x147
noncomputable def x148:=nR x143
noncomputable def x149:=nR x148
noncomputable def x218:=nR x149
theorem x219:x2le call hs u x216 r_6 eNil=j1 (x6k call hs u) 6:=by kernel_rfl
theorem x21a{rec0:AV->AV->AV->AV->Mem->Nat->O2}:x2le call hs u x217 (j4 rec0 2 6 9 10) (setE 2 (j1 (x6k call hs u) 6) eNil)=j4 (xsz call hs u rec0) 2 6 9 10:=by kernel_rfl
theorem x21b:x2le call hs u x147 (j1 (x6k call hs u) 6) (setE 2 (j1 (x6k call hs u) 6) eNil)=j4 (x9j call hs u NN) 2 6 9 10:=lp (Ln:=fun n=>j4 (x9j call hs u n) 2 6 9 10) fun n=>tr x21a
theorem x21c:x2le call hs u x146 (j1 (x6k call hs u) 6) eNil=j4 (x9j call hs u NN) 2 6 9 10:=bk x21b
theorem x21d:x2le call hs u x145 (j1 (x6k call hs u) 6) eNil=j3 (xjn call hs u) 2 6 9:=tr (sqN 1 x21c)
theorem x21e:x2le call hs u xpx r_6 eNil=j3 (xjn call hs u) 2 6 9:=sq2 x219 x21d
theorem x21f:x2le call hs u x144 r_6 eNil=j3 (x6l call hs u) 1 2 6:=tr (sqN 1 x21e)
theorem x21g{rec1:AV->AV->AV->AV->Mem->Nat->O2}:x2le call hs u x218 (j4 rec1 1 2 6 7) (setE 0 (j3 (x6l call hs u) 1 2 6) eNil)=j4 (xt0 call hs u rec1) 1 2 6 7:=by kernel_rfl
theorem x21h:x2le call hs u x149 (j3 (x6l call hs u) 1 2 6) (setE 0 (j3 (x6l call hs u) 1 2 6) eNil)=j4 (x9k call hs u NN) 1 2 6 7:=lp (Ln:=fun n=>j4 (x9k call hs u n) 1 2 6 7) fun n=>tr x21g
theorem x21i:x2le call hs u x148 (j3 (x6l call hs u) 1 2 6) eNil=j4 (x9k call hs u NN) 1 2 6 7:=bk x21h
theorem x21j:x2le call hs u x143 (j3 (x6l call hs u) 1 2 6) eNil=j3 (xjo call hs u) 1 2 6:=tr (sqN 1 x21i)
theorem x21k:x2le call hs u xpw r_6 eNil=j3 (xjo call hs u) 1 2 6:=sq2 x21f x21j
theorem x1gs:x2le call hs u x142 r_6 eNil=j2 (xt1 call hs u) 0 1:=tr (sqN 2 x21k)
noncomputable abbrev x2mn:=VX xbo 51 r_8
noncomputable def x14a:=x2ia xbo
noncomputable def xpy:=nRs 6 x14a
noncomputable def x14b:=nL xpy
noncomputable def x21l:=nR xpy
noncomputable def x14c:=nR x14b
noncomputable def x14d:=nR x14c
noncomputable def x14e:=nR x14d
noncomputable def xpz:=nRs 2 x14e
noncomputable def x21m:=nL xpz
noncomputable def x21n:=nR xpz
theorem x21o:x2mn call hs u x21l r_8 eNil=j1 (x25 call hs u) 7:=by kernel_rfl
theorem x21p{rec0:AV->AV->AV->AV->AV->Mem->Nat->O2}:x2mn call hs u x21n (j5 rec0 6 7 27 28 29) (setE 0 (j1 (x25 call hs u) 7) eNil)=j5 (xd8 call hs u rec0) 6 7 27 28 29:=by kernel_rfl
theorem x21q{rec0:AV->AV->AV->AV->AV->Mem->Nat->O2}:x2mn call hs u x21m (j5 (xd8 call hs u rec0) 6 7 27 28 29) (setE 0 (j1 (x25 call hs u) 7) eNil)=j5 (xjp call hs u rec0) 6 7 27 28 29:=by kernel_rfl
theorem x21r{rec0:AV->AV->AV->AV->AV->Mem->Nat->O2}:x2mn call hs u xpz (j5 rec0 6 7 27 28 29) (setE 0 (j1 (x25 call hs u) 7) eNil)=j5 (xjp call hs u rec0) 6 7 27 28 29:=sq2 x21p x21q
theorem x21s{rec0:AV->AV->AV->AV->AV->Mem->Nat->O2}:x2mn call hs u x14e (j5 rec0 6 7 27 28 29) (setE 0 (j1 (x25 call hs u) 7) eNil)=j5 (xt2 call hs u rec0) 6 7 27 28 29:=tr (sqN 2 x21r)
theorem x21t:x2mn call hs u x14d (j1 (x25 call hs u) 7) (setE 0 (j1 (x25 call hs u) 7) eNil)=j5 (x9l call hs u NN) 6 7 27 28 29:=lp (Ln:=fun n=>j5 (x9l call hs u n) 6 7 27 28 29) fun n=>tr x21s
theorem x21u:x2mn call hs u x14c (j1 (x25 call hs u) 7) eNil=j5 (x9l call hs u NN) 6 7 27 28 29:=bk x21t
theorem x21v:x2mn call hs u x14b (j1 (x25 call hs u) 7) eNil=j3 (xjq call hs u) 4 6 7:=tr (sqN 1 x21u)
theorem x21w:x2mn call hs u xpy r_8 eNil=j3 (xjq call hs u) 4 6 7:=sq2 x21o x21v
theorem x1gt:x2mn call hs u x14a r_8 eNil=j1 (xt3 call hs u) 0:=tr (sqN 6 x21w)
noncomputable abbrev x2ls:=VX x5x 70 r_10
noncomputable def x14f:=x2ia x5x
noncomputable def xq0:=nRs 3 x14f
noncomputable def x14g:=nL xq0
noncomputable def xq1:=nR xq0
noncomputable def x14h:=nL xq1
noncomputable def x21x:=nR xq1
noncomputable def x14i:=nR x14h
noncomputable def x14j:=nR x14i
noncomputable def x21y:=nR x14j
noncomputable def x14k:=nR x14g
noncomputable def x14l:=nR x14k
noncomputable def x21z:=nR x14l
theorem x220:x2ls call hs u x21x r_10 eNil=j2 (x46 call hs u) 2 4:=by kernel_rfl
theorem x221{rec0:AV->AV->AV->AV->AV->Mem->Nat->O2}:x2ls call hs u x21y (j5 rec0 1 2 4 5 7) (setE 2 (j2 (x46 call hs u) 2 4) eNil)=j5 (xd9 call hs u rec0) 1 2 4 5 7:=by kernel_rfl
theorem x222:x2ls call hs u x14j (j2 (x46 call hs u) 2 4) (setE 2 (j2 (x46 call hs u) 2 4) eNil)=j5 (x47 call hs u NN) 1 2 4 5 7:=lp (Ln:=fun n=>j5 (x47 call hs u n) 1 2 4 5 7) fun n=>tr x221
theorem x223:x2ls call hs u x14i (j2 (x46 call hs u) 2 4) eNil=j5 (x47 call hs u NN) 1 2 4 5 7:=bk x222
theorem x224:x2ls call hs u x14h (j2 (x46 call hs u) 2 4) eNil=j4 (x33 call hs u) 1 2 4 5:=tr (sqN 1 x223)
theorem x225:x2ls call hs u xq1 r_10 eNil=j4 (x33 call hs u) 1 2 4 5:=sq2 x220 x224
theorem x226{rec1:AV->AV->AV->AV->AV->Mem->Nat->O2}:x2ls call hs u x21z (j5 rec1 1 2 4 5 6) (setE 0 (j4 (x33 call hs u) 1 2 4 5) eNil)=j5 (xda call hs u rec1) 1 2 4 5 6:=by kernel_rfl
theorem x227:x2ls call hs u x14l (j4 (x33 call hs u) 1 2 4 5) (setE 0 (j4 (x33 call hs u) 1 2 4 5) eNil)=j5 (x48 call hs u NN) 1 2 4 5 6:=lp (Ln:=fun n=>j5 (x48 call hs u n) 1 2 4 5 6) fun n=>tr x226
theorem x228:x2ls call hs u x14k (j4 (x33 call hs u) 1 2 4 5) eNil=j5 (x48 call hs u NN) 1 2 4 5 6:=bk x227
theorem x229:x2ls call hs u x14g (j4 (x33 call hs u) 1 2 4 5) eNil=j4 (xdb call hs u) 1 2 4 5:=tr (sqN 1 x228)
theorem x22a:x2ls call hs u xq0 r_10 eNil=j4 (xdb call hs u) 1 2 4 5:=sq2 x225 x229
theorem x1gu:x2ls call hs u x14f r_10 eNil=j1 (xjr call hs u) 0:=tr (sqN 3 x22a)
noncomputable abbrev x2om:=VX xbp 60 r_11
noncomputable def x14m:=x2ia xbp
noncomputable def xq2:=nRs 6 x14m
noncomputable def x14n:=nL xq2
noncomputable def x22b:=nR xq2
noncomputable def x14o:=nR x14n
noncomputable def x14p:=nR x14o
noncomputable def x22c:=nR x14p
theorem x22d:x2om call hs u x22b r_11 eNil=j3 (x6m call hs u) 9 10 11:=by kernel_rfl
theorem x22e{rec0:AV->AV->AV->AV->AV->AV->AV->Mem->Nat->O2}:x2om call hs u x22c (j7 rec0 8 9 10 11 33 34 35) (setE 0 (j3 (x6m call hs u) 9 10 11) eNil)=j7 (xt4 call hs u rec0) 8 9 10 11 33 34 35:=by kernel_rfl
theorem x22f:x2om call hs u x14p (j3 (x6m call hs u) 9 10 11) (setE 0 (j3 (x6m call hs u) 9 10 11) eNil)=j7 (x9m call hs u NN) 8 9 10 11 33 34 35:=lp (Ln:=fun n=>j7 (x9m call hs u n) 8 9 10 11 33 34 35) fun n=>tr x22e
theorem x22g:x2om call hs u x14o (j3 (x6m call hs u) 9 10 11) eNil=j7 (x9m call hs u NN) 8 9 10 11 33 34 35:=bk x22f
theorem x22h:x2om call hs u x14n (j3 (x6m call hs u) 9 10 11) eNil=j5 (xjs call hs u) 6 8 9 10 11:=tr (sqN 1 x22g)
theorem x22i:x2om call hs u xq2 r_11 eNil=j5 (xjs call hs u) 6 8 9 10 11:=sq2 x22d x22h
theorem x1gv:x2om call hs u x14m r_11 eNil=j1 (xt5 call hs u) 0:=tr (sqN 6 x22i)
noncomputable abbrev x2on:=VX x3j 63 r_6
noncomputable def x14q:=x2ia x3j
noncomputable def xq3:=nRs 5 x14q
noncomputable def x14r:=nL xq3
noncomputable def x22j:=nR xq3
noncomputable def x14s:=nR x14r
noncomputable def x14t:=nR x14s
noncomputable def x22k:=nR x14t
theorem x22l:x2on call hs u x22j r_6 eNil=j3 (x49 call hs u) 2 7 8:=by kernel_rfl
theorem x22m{rec0:AV->AV->AV->AV->AV->AV->Mem->Nat->O2}:x2on call hs u x22k (j6 rec0 2 7 8 30 31 32) (setE 1 (j3 (x49 call hs u) 2 7 8) eNil)=j6 (xdc call hs u rec0) 2 7 8 30 31 32:=by kernel_rfl
theorem x22n:x2on call hs u x14t (j3 (x49 call hs u) 2 7 8) (setE 1 (j3 (x49 call hs u) 2 7 8) eNil)=j6 (x4a call hs u NN) 2 7 8 30 31 32:=lp (Ln:=fun n=>j6 (x4a call hs u n) 2 7 8 30 31 32) fun n=>tr x22m
theorem x22o:x2on call hs u x14s (j3 (x49 call hs u) 2 7 8) eNil=j6 (x4a call hs u NN) 2 7 8 30 31 32:=bk x22n
theorem x22p:x2on call hs u x14r (j3 (x49 call hs u) 2 7 8) eNil=j4 (xdd call hs u) 1 2 7 8:=tr (sqN 1 x22o)
theorem x22q:x2on call hs u xq3 r_6 eNil=j4 (xdd call hs u) 1 2 7 8:=sq2 x22l x22p
theorem x1gw:x2on call hs u x14q r_6 eNil=j2 (xjt call hs u) 0 1:=tr (sqN 5 x22q)
noncomputable abbrev x2oo:=VX x3k 18 r_0
noncomputable def x14u:=x2ia x3k
noncomputable def xq4:=nR x14u
noncomputable def x14v:=nL xq4
noncomputable def x22r:=nR xq4
noncomputable def x14w:=nR x14v
noncomputable def x14x:=nR x14w
noncomputable def x22s:=nR x14x
theorem x22t:x2oo call hs u x22r r_0 eNil=j0 (x4b call hs u):=by kernel_rfl
theorem x22u{rec0:AV->AV->AV->Mem->Nat->O2}:x2oo call hs u x22s (j3 rec0 0 1 5) (setE 0 (j0 (x4b call hs u)) eNil)=j3 (xde call hs u rec0) 0 1 5:=by kernel_rfl
theorem x22v:x2oo call hs u x14x (j0 (x4b call hs u)) (setE 0 (j0 (x4b call hs u)) eNil)=j3 (x4c call hs u NN) 0 1 5:=lp (Ln:=fun n=>j3 (x4c call hs u n) 0 1 5) fun n=>tr x22u
theorem x22w:x2oo call hs u x14w (j0 (x4b call hs u)) eNil=j3 (x4c call hs u NN) 0 1 5:=bk x22v
theorem x22x:x2oo call hs u x14v (j0 (x4b call hs u)) eNil=j2 (xju call hs u) 0 1:=tr (sqN 1 x22w)
theorem x22y:x2oo call hs u xq4 r_0 eNil=j2 (xju call hs u) 0 1:=sq2 x22t x22x
theorem x1gx:x2oo call hs u x14u r_0 eNil=j2 (xt6 call hs u) 0 1:=tr (sqN 1 x22y)
noncomputable abbrev x30x:=VX xbq 8 r_3
noncomputable def x22z:=x2ia xbq
theorem x1gy:x30x call hs u x22z r_3 eNil=j1 (xt7 call hs u) 0:=by kernel_rfl
noncomputable abbrev x2l3:=VX x8q 70 r_0
noncomputable def x14y:=x2ia x8q
noncomputable def xq5:=nRs 4 x14y
noncomputable def x14z:=nL xq5
noncomputable def x230:=nR xq5
noncomputable def x150:=nR x14z
noncomputable def x151:=nR x150
noncomputable def x152:=nR x151
noncomputable def xq6:=nRs 2 x152
noncomputable def x153:=nL xq6
noncomputable def x231:=nR xq6
noncomputable def x154:=nR x153
noncomputable def xq7:=nRs 3 x154
noncomputable def x232:=nL xq7
noncomputable def x233:=nR xq7
theorem x234:x2l3 call hs u x230 r_0 eNil=j2 (x15 call hs u) 6 7:=by kernel_rfl
theorem x235{rec0:AV->AV->AV->AV->AV->AV->Mem->Nat->O2}:x2l3 call hs u x231 (j6 rec0 2 6 7 25 26 27) (setE 1 (j2 (x15 call hs u) 6 7) eNil)=j6 (x26 call hs u rec0) 2 6 7 25 26 27:=by kernel_rfl
theorem x236{rec0:AV->AV->AV->AV->AV->AV->Mem->Nat->O2}:x2l3 call hs u x233 (j6 (x26 call hs u rec0) 2 6 7 25 26 27) (setE 2 (j6 (x26 call hs u rec0) 2 6 7 25 26 27) (setE 1 (j2 (x15 call hs u) 6 7) eNil))=j6 (xdf call hs u rec0) 2 6 11 25 26 27:=by kernel_rfl
theorem x237{rec0:AV->AV->AV->AV->AV->AV->Mem->Nat->O2}:x2l3 call hs u x232 (j6 (xdf call hs u rec0) 2 6 11 25 26 27) (setE 2 (j6 (x26 call hs u rec0) 2 6 7 25 26 27) (setE 1 (j2 (x15 call hs u) 6 7) eNil))=j9 (xjv call hs u rec0) 2 6 7 8 10 11 25 26 27:=by kernel_rfl
theorem x238{rec0:AV->AV->AV->AV->AV->AV->Mem->Nat->O2}:x2l3 call hs u xq7 (j6 (x26 call hs u rec0) 2 6 7 25 26 27) (setE 2 (j6 (x26 call hs u rec0) 2 6 7 25 26 27) (setE 1 (j2 (x15 call hs u) 6 7) eNil))=j9 (xjv call hs u rec0) 2 6 7 8 10 11 25 26 27:=sq2 x236 x237
theorem x239{rec0:AV->AV->AV->AV->AV->AV->Mem->Nat->O2}:x2l3 call hs u x154 (j6 (x26 call hs u rec0) 2 6 7 25 26 27) (setE 2 (j6 (x26 call hs u rec0) 2 6 7 25 26 27) (setE 1 (j2 (x15 call hs u) 6 7) eNil))=j6 (xdg call hs u rec0) 2 6 7 25 26 27:=tr (sqN 3 x238)
theorem x23a{rec0:AV->AV->AV->AV->AV->AV->Mem->Nat->O2}:x2l3 call hs u x153 (j6 (x26 call hs u rec0) 2 6 7 25 26 27) (setE 1 (j2 (x15 call hs u) 6 7) eNil)=j6 (xdg call hs u rec0) 2 6 7 25 26 27:=bk x239
theorem x23b{rec0:AV->AV->AV->AV->AV->AV->Mem->Nat->O2}:x2l3 call hs u xq6 (j6 rec0 2 6 7 25 26 27) (setE 1 (j2 (x15 call hs u) 6 7) eNil)=j6 (xdg call hs u rec0) 2 6 7 25 26 27:=sq2 x235 x23a
theorem x23c{rec0:AV->AV->AV->AV->AV->AV->Mem->Nat->O2}:x2l3 call hs u x152 (j6 rec0 2 6 7 25 26 27) (setE 1 (j2 (x15 call hs u) 6 7) eNil)=j6 (xt8 call hs u rec0) 2 6 7 25 26 27:=tr (sqN 2 x23b)
theorem x23d:x2l3 call hs u x151 (j2 (x15 call hs u) 6 7) (setE 1 (j2 (x15 call hs u) 6 7) eNil)=j6 (x9n call hs u NN) 2 6 7 25 26 27:=lp (Ln:=fun n=>j6 (x9n call hs u n) 2 6 7 25 26 27) fun n=>tr x23c
theorem x23e:x2l3 call hs u x150 (j2 (x15 call hs u) 6 7) eNil=j6 (x9n call hs u NN) 2 6 7 25 26 27:=bk x23d
theorem x23f:x2l3 call hs u x14z (j2 (x15 call hs u) 6 7) eNil=j4 (xjw call hs u) 1 2 6 7:=tr (sqN 1 x23e)
theorem x23g:x2l3 call hs u xq5 r_0 eNil=j4 (xjw call hs u) 1 2 6 7:=sq2 x234 x23f
theorem x1gz:x2l3 call hs u x14y r_0 eNil=j2 (xt9 call hs u) 0 1:=tr (sqN 4 x23g)
noncomputable abbrev x30y:=VX x8r 6 r_3
noncomputable def x23h:=x2ia x8r
theorem x1h0:x30y call hs u x23h r_3 eNil=j1 (xta call hs u) 0:=by kernel_rfl
noncomputable abbrev x2l4:=VX xbr 59 r_0
noncomputable def x155:=x2ia xbr
noncomputable def xq8:=nRs 4 x155
noncomputable def x156:=nL xq8
noncomputable def x23i:=nR xq8
noncomputable def x157:=nR x156
noncomputable def x158:=nR x157
noncomputable def x159:=nR x158
noncomputable def xq9:=nR x159
noncomputable def x15a:=nL xq9
noncomputable def x23j:=nR xq9
noncomputable def x15b:=nR x15a
noncomputable def xqa:=nRs 4 x15b
noncomputable def x23k:=nL xqa
noncomputable def x23l:=nR xqa
theorem x23m:x2l4 call hs u x23i r_0 eNil=j2 (x17 call hs u) 5 6:=by kernel_rfl
theorem x23n{rec0:AV->AV->AV->AV->AV->Mem->Nat->O2}:x2l4 call hs u x23j (j5 rec0 1 2 5 6 7) (setE 0 (j2 (x17 call hs u) 5 6) eNil)=j5 (x27 call hs u rec0) 1 2 5 6 7:=by kernel_rfl
theorem x23o{rec0:AV->AV->AV->AV->AV->Mem->Nat->O2}:x2l4 call hs u x23l (j5 (x27 call hs u rec0) 1 2 5 6 7) (setE 1 (j5 (x27 call hs u rec0) 1 2 5 6 7) (setE 0 (j2 (x17 call hs u) 5 6) eNil))=j5 (xdh call hs u rec0) 1 2 5 7 10:=by kernel_rfl
theorem x23p{rec0:AV->AV->AV->AV->AV->Mem->Nat->O2}:x2l4 call hs u x23k (j5 (xdh call hs u rec0) 1 2 5 7 10) (setE 1 (j5 (x27 call hs u rec0) 1 2 5 6 7) (setE 0 (j2 (x17 call hs u) 5 6) eNil))=j7 (xjx call hs u rec0) 1 2 5 6 7 9 10:=by kernel_rfl
theorem x23q{rec0:AV->AV->AV->AV->AV->Mem->Nat->O2}:x2l4 call hs u xqa (j5 (x27 call hs u rec0) 1 2 5 6 7) (setE 1 (j5 (x27 call hs u rec0) 1 2 5 6 7) (setE 0 (j2 (x17 call hs u) 5 6) eNil))=j7 (xjx call hs u rec0) 1 2 5 6 7 9 10:=sq2 x23o x23p
theorem x23r{rec0:AV->AV->AV->AV->AV->Mem->Nat->O2}:x2l4 call hs u x15b (j5 (x27 call hs u rec0) 1 2 5 6 7) (setE 1 (j5 (x27 call hs u rec0) 1 2 5 6 7) (setE 0 (j2 (x17 call hs u) 5 6) eNil))=j5 (xdi call hs u rec0) 1 2 5 6 7:=tr (sqN 4 x23q)
theorem x23s{rec0:AV->AV->AV->AV->AV->Mem->Nat->O2}:x2l4 call hs u x15a (j5 (x27 call hs u rec0) 1 2 5 6 7) (setE 0 (j2 (x17 call hs u) 5 6) eNil)=j5 (xdi call hs u rec0) 1 2 5 6 7:=bk x23r
theorem x23t{rec0:AV->AV->AV->AV->AV->Mem->Nat->O2}:x2l4 call hs u xq9 (j5 rec0 1 2 5 6 7) (setE 0 (j2 (x17 call hs u) 5 6) eNil)=j5 (xdi call hs u rec0) 1 2 5 6 7:=sq2 x23n x23s
theorem x23u{rec0:AV->AV->AV->AV->AV->Mem->Nat->O2}:x2l4 call hs u x159 (j5 rec0 1 2 5 6 7) (setE 0 (j2 (x17 call hs u) 5 6) eNil)=j5 (xtb call hs u rec0) 1 2 5 6 7:=tr (sqN 1 x23t)
theorem x23v:x2l4 call hs u x158 (j2 (x17 call hs u) 5 6) (setE 0 (j2 (x17 call hs u) 5 6) eNil)=j5 (x9o call hs u NN) 1 2 5 6 7:=lp (Ln:=fun n=>j5 (x9o call hs u n) 1 2 5 6 7) fun n=>tr x23u
theorem x23w:x2l4 call hs u x157 (j2 (x17 call hs u) 5 6) eNil=j5 (x9o call hs u NN) 1 2 5 6 7:=bk x23v
theorem x23x:x2l4 call hs u x156 (j2 (x17 call hs u) 5 6) eNil=j4 (xjy call hs u) 1 2 5 6:=tr (sqN 1 x23w)
theorem x23y:x2l4 call hs u xq8 r_0 eNil=j4 (xjy call hs u) 1 2 5 6:=sq2 x23m x23x
theorem x1h1:x2l4 call hs u x155 r_0 eNil=j2 (xtc call hs u) 0 1:=tr (sqN 4 x23y)
noncomputable abbrev x30z:=VX xbs 20 r_12
noncomputable def x23z:=x2ia xbs
theorem x1h2:x30z call hs u x23z r_12 eNil=j1 (xtd call hs u) 0:=by kernel_rfl
noncomputable abbrev x310:=VX x76 21 r_6
noncomputable def x240:=x2ia x76
theorem x1h3:x310 call hs u x240 r_6 eNil=j2 (xjz call hs u) 0 1:=by kernel_rfl
noncomputable abbrev x2lf:=VX x5y 57 r_6
noncomputable def x15c:=x2ia x5y
noncomputable def xqb:=nRs 2 x15c
noncomputable def x15d:=nL xqb
noncomputable def x15e:=nR xqb
noncomputable def xqc:=nRs 2 x15e
noncomputable def x15f:=nL xqc
noncomputable def x241:=nR xqc
noncomputable def x15g:=nR x15f
noncomputable def x15h:=nR x15g
noncomputable def x242:=nR x15h
noncomputable def x15i:=nR x15d
noncomputable def x15j:=nR x15i
noncomputable def x243:=nR x15j
theorem x244:x2lf call hs u x241 r_6 eNil=j1 (x4d call hs u) 8:=by kernel_rfl
theorem x245{rec0:AV->AV->AV->AV->AV->Mem->Nat->O2}:x2lf call hs u x242 (j5 rec0 1 2 7 8 9) (setE 2 (j1 (x4d call hs u) 8) eNil)=j5 (xdj call hs u rec0) 1 2 7 8 9:=by kernel_rfl
theorem x246:x2lf call hs u x15h (j1 (x4d call hs u) 8) (setE 2 (j1 (x4d call hs u) 8) eNil)=j5 (x4e call hs u NN) 1 2 7 8 9:=lp (Ln:=fun n=>j5 (x4e call hs u n) 1 2 7 8 9) fun n=>tr x245
theorem x247:x2lf call hs u x15g (j1 (x4d call hs u) 8) eNil=j5 (x4e call hs u NN) 1 2 7 8 9:=bk x246
theorem x248:x2lf call hs u x15f (j1 (x4d call hs u) 8) eNil=j4 (xdk call hs u) 1 2 7 8:=tr (sqN 1 x247)
theorem x249:x2lf call hs u xqc r_6 eNil=j4 (xdk call hs u) 1 2 7 8:=sq2 x244 x248
theorem x24a:x2lf call hs u x15e r_6 eNil=j2 (x4f call hs u) 1 2:=tr (sqN 2 x249)
theorem x24b{rec1:AV->AV->AV->Mem->Nat->O2}:x2lf call hs u x243 (j3 rec1 1 2 6) (setE 0 (j2 (x4f call hs u) 1 2) eNil)=j3 (xdl call hs u rec1) 1 2 6:=by kernel_rfl
theorem x24c:x2lf call hs u x15j (j2 (x4f call hs u) 1 2) (setE 0 (j2 (x4f call hs u) 1 2) eNil)=j3 (x4g call hs u NN) 1 2 6:=lp (Ln:=fun n=>j3 (x4g call hs u n) 1 2 6) fun n=>tr x24b
theorem x24d:x2lf call hs u x15i (j2 (x4f call hs u) 1 2) eNil=j3 (x4g call hs u NN) 1 2 6:=bk x24c
theorem x24e:x2lf call hs u x15d (j2 (x4f call hs u) 1 2) eNil=j2 (xdm call hs u) 1 2:=tr (sqN 1 x24d)
theorem x24f:x2lf call hs u xqb r_6 eNil=j2 (xdm call hs u) 1 2:=sq2 x24a x24e
theorem x1h4:x2lf call hs u x15c r_6 eNil=j2 (xk0 call hs u) 0 1:=tr (sqN 2 x24f)
noncomputable abbrev x2lt:=VX x77 91 r_6
noncomputable def x15k:=x2ia x77
noncomputable def xqd:=nRs 4 x15k
noncomputable def x15l:=nL xqd
noncomputable def xqe:=nR xqd
noncomputable def x15m:=nL xqe
noncomputable def x24g:=nR xqe
noncomputable def x15n:=nR x15m
noncomputable def x15o:=nR x15n
noncomputable def x24h:=nR x15o
noncomputable def x15p:=nR x15l
noncomputable def x15q:=nR x15p
noncomputable def x24i:=nR x15q
theorem x24j:x2lt call hs u x24g r_6 eNil=j1 (x4h call hs u) 7:=by kernel_rfl
theorem x24k{rec0:AV->AV->AV->AV->Mem->Nat->O2}:x2lt call hs u x24h (j4 rec0 2 6 7 10) (setE 2 (j1 (x4h call hs u) 7) eNil)=j4 (xdn call hs u rec0) 2 6 7 10:=by kernel_rfl
theorem x24l:x2lt call hs u x15o (j1 (x4h call hs u) 7) (setE 2 (j1 (x4h call hs u) 7) eNil)=j4 (x4i call hs u NN) 2 6 7 10:=lp (Ln:=fun n=>j4 (x4i call hs u n) 2 6 7 10) fun n=>tr x24k
theorem x24m:x2lt call hs u x15n (j1 (x4h call hs u) 7) eNil=j4 (x4i call hs u NN) 2 6 7 10:=bk x24l
theorem x24n:x2lt call hs u x15m (j1 (x4h call hs u) 7) eNil=j3 (x34 call hs u) 2 6 7:=tr (sqN 1 x24m)
theorem x24o:x2lt call hs u xqe r_6 eNil=j3 (x34 call hs u) 2 6 7:=sq2 x24j x24n
theorem x24p{rec1:AV->AV->AV->AV->AV->Mem->Nat->O2}:x2lt call hs u x24i (j5 rec1 1 2 6 7 8) (setE 0 (j3 (x34 call hs u) 2 6 7) eNil)=j5 (xdo call hs u rec1) 1 2 6 7 8:=by kernel_rfl
theorem x24q:x2lt call hs u x15q (j3 (x34 call hs u) 2 6 7) (setE 0 (j3 (x34 call hs u) 2 6 7) eNil)=j5 (x4j call hs u NN) 1 2 6 7 8:=lp (Ln:=fun n=>j5 (x4j call hs u n) 1 2 6 7 8) fun n=>tr x24p
theorem x24r:x2lt call hs u x15p (j3 (x34 call hs u) 2 6 7) eNil=j5 (x4j call hs u NN) 1 2 6 7 8:=bk x24q
theorem x24s:x2lt call hs u x15l (j3 (x34 call hs u) 2 6 7) eNil=j4 (xdp call hs u) 1 2 6 7:=tr (sqN 1 x24r)
theorem x24t:x2lt call hs u xqd r_6 eNil=j4 (xdp call hs u) 1 2 6 7:=sq2 x24o x24s
theorem x1h5:x2lt call hs u x15k r_6 eNil=j2 (xk1 call hs u) 0 1:=tr (sqN 4 x24t)
noncomputable abbrev x2ja:=VX x3l 98 r_8
noncomputable def x15r:=x2ia x3l
noncomputable def xqf:=nRs 4 x15r
noncomputable def x15s:=nL xqf
noncomputable def x15t:=nR xqf
noncomputable def xqg:=nR x15t
noncomputable def x15u:=nL xqg
noncomputable def x24u:=nR xqg
noncomputable def x15v:=nR x15u
noncomputable def x15w:=nR x15v
noncomputable def x15x:=nR x15w
noncomputable def xqh:=nR x15x
noncomputable def x24v:=nL xqh
noncomputable def x24w:=nR xqh
noncomputable def x15y:=nR x15s
noncomputable def x15z:=nR x15y
noncomputable def x160:=nR x15z
noncomputable def xqi:=nRs 2 x160
noncomputable def x161:=nL xqi
noncomputable def x24x:=nR xqi
noncomputable def x162:=nR x161
noncomputable def xqj:=nR x162
noncomputable def x163:=nL xqj
noncomputable def x24y:=nR xqj
noncomputable def x164:=nR x163
noncomputable def x165:=nR x164
noncomputable def x166:=nR x165
noncomputable def xqk:=nR x166
noncomputable def x24z:=nL xqk
noncomputable def x250:=nR xqk
theorem x251:x2ja call hs u x24u r_8 eNil=j2 (x1r call hs u) 5 10:=by kernel_rfl
theorem x252{rec0:AV->AV->AV->AV->AV->Mem->Nat->O2}:x2ja call hs u x24w (j5 rec0 1 4 5 10 11) (setE 4 (j2 (x1r call hs u) 5 10) eNil)=j5 (x7u call hs u rec0) 1 4 5 10 11:=by kernel_rfl
theorem x253{rec0:AV->AV->AV->AV->AV->Mem->Nat->O2}:x2ja call hs u x24v (j5 (x7u call hs u rec0) 1 4 5 10 11) (setE 4 (j2 (x1r call hs u) 5 10) eNil)=j5 (xdq call hs u rec0) 1 4 5 10 11:=by kernel_rfl
theorem x254{rec0:AV->AV->AV->AV->AV->Mem->Nat->O2}:x2ja call hs u xqh (j5 rec0 1 4 5 10 11) (setE 4 (j2 (x1r call hs u) 5 10) eNil)=j5 (xdq call hs u rec0) 1 4 5 10 11:=sq2 x252 x253
theorem x255{rec0:AV->AV->AV->AV->AV->Mem->Nat->O2}:x2ja call hs u x15x (j5 rec0 1 4 5 10 11) (setE 4 (j2 (x1r call hs u) 5 10) eNil)=j5 (xdr call hs u rec0) 1 4 5 10 11:=tr (sqN 1 x254)
theorem x256:x2ja call hs u x15w (j2 (x1r call hs u) 5 10) (setE 4 (j2 (x1r call hs u) 5 10) eNil)=j5 (x4k call hs u NN) 1 4 5 10 11:=lp (Ln:=fun n=>j5 (x4k call hs u n) 1 4 5 10 11) fun n=>tr x255
theorem x257:x2ja call hs u x15v (j2 (x1r call hs u) 5 10) eNil=j5 (x4k call hs u NN) 1 4 5 10 11:=bk x256
theorem x258:x2ja call hs u x15u (j2 (x1r call hs u) 5 10) eNil=j4 (xds call hs u) 1 4 5 10:=tr (sqN 1 x257)
theorem x259:x2ja call hs u xqg r_8 eNil=j4 (xds call hs u) 1 4 5 10:=sq2 x251 x258
theorem x25a:x2ja call hs u x15t r_8 eNil=j3 (xe call hs u) 1 4 5:=tr (sqN 1 x259)
theorem x25b{rec1:AV->AV->AV->AV->AV->AV->Mem->Nat->O2}:x2ja call hs u x24x (j6 rec1 1 4 5 6 18 19) (setE 0 (j3 (xe call hs u) 1 4 5) eNil)=j6 (xf call hs u rec1) 1 4 5 6 18 19:=by kernel_rfl
theorem x25c{rec1:AV->AV->AV->AV->AV->AV->Mem->Nat->O2}:x2ja call hs u x24y (j6 (xf call hs u rec1) 1 4 5 6 18 19) (setE 1 (j6 (xf call hs u rec1) 1 4 5 6 18 19) (setE 0 (j3 (xe call hs u) 1 4 5) eNil))=j7 (x1m call hs u rec1) 1 4 5 6 7 18 19:=by kernel_rfl
theorem x25d{rec1:AV->AV->AV->AV->AV->AV->Mem->Nat->O2}{rec2:AV->AV->AV->AV->AV->AV->AV->AV->Mem->Nat->O2}:x2ja call hs u x250 (j8 rec2 1 4 5 6 7 8 18 19) (setE 2 (j7 (x1m call hs u rec1) 1 4 5 6 7 18 19) (setE 1 (j6 (xf call hs u rec1) 1 4 5 6 18 19) (setE 0 (j3 (xe call hs u) 1 4 5) eNil)))=j8 (x4l call hs u rec1 rec2) 1 4 5 6 7 8 18 19:=by kernel_rfl
theorem x25e{rec1:AV->AV->AV->AV->AV->AV->Mem->Nat->O2}{rec2:AV->AV->AV->AV->AV->AV->AV->AV->Mem->Nat->O2}:x2ja call hs u x24z (j8 (x4l call hs u rec1 rec2) 1 4 5 6 7 8 18 19) (setE 2 (j7 (x1m call hs u rec1) 1 4 5 6 7 18 19) (setE 1 (j6 (xf call hs u rec1) 1 4 5 6 18 19) (setE 0 (j3 (xe call hs u) 1 4 5) eNil)))=j8 (xdt call hs u rec1 rec2) 1 4 5 6 7 8 18 19:=by kernel_rfl
theorem x25f{rec1:AV->AV->AV->AV->AV->AV->Mem->Nat->O2}{rec2:AV->AV->AV->AV->AV->AV->AV->AV->Mem->Nat->O2}:x2ja call hs u xqk (j8 rec2 1 4 5 6 7 8 18 19) (setE 2 (j7 (x1m call hs u rec1) 1 4 5 6 7 18 19) (setE 1 (j6 (xf call hs u rec1) 1 4 5 6 18 19) (setE 0 (j3 (xe call hs u) 1 4 5) eNil)))=j8 (xdt call hs u rec1 rec2) 1 4 5 6 7 8 18 19:=sq2 x25d x25e
theorem x25g{rec1:AV->AV->AV->AV->AV->AV->Mem->Nat->O2}{rec2:AV->AV->AV->AV->AV->AV->AV->AV->Mem->Nat->O2}:x2ja call hs u x166 (j8 rec2 1 4 5 6 7 8 18 19) (setE 2 (j7 (x1m call hs u rec1) 1 4 5 6 7 18 19) (setE 1 (j6 (xf call hs u rec1) 1 4 5 6 18 19) (setE 0 (j3 (xe call hs u) 1 4 5) eNil)))=j8 (xdu call hs u rec1 rec2) 1 4 5 6 7 8 18 19:=tr (sqN 1 x25f)
theorem x25h{rec1:AV->AV->AV->AV->AV->AV->Mem->Nat->O2}:x2ja call hs u x165 (j7 (x1m call hs u rec1) 1 4 5 6 7 18 19) (setE 2 (j7 (x1m call hs u rec1) 1 4 5 6 7 18 19) (setE 1 (j6 (xf call hs u rec1) 1 4 5 6 18 19) (setE 0 (j3 (xe call hs u) 1 4 5) eNil)))=j8 (x35 call hs u rec1 NN) 1 4 5 6 7 8 18 19:=lp (Ln:=fun n=>j8 (x35 call hs u rec1 n) 1 4 5 6 7 8 18 19) fun n=>tr x25g
theorem x25i{rec1:AV->AV->AV->AV->AV->AV->Mem->Nat->O2}:x2ja call hs u x164 (j7 (x1m call hs u rec1) 1 4 5 6 7 18 19) (setE 1 (j6 (xf call hs u rec1) 1 4 5 6 18 19) (setE 0 (j3 (xe call hs u) 1 4 5) eNil))=j8 (x35 call hs u rec1 NN) 1 4 5 6 7 8 18 19:=bk x25h
theorem x25j{rec1:AV->AV->AV->AV->AV->AV->Mem->Nat->O2}:x2ja call hs u x163 (j7 (x1m call hs u rec1) 1 4 5 6 7 18 19) (setE 1 (j6 (xf call hs u rec1) 1 4 5 6 18 19) (setE 0 (j3 (xe call hs u) 1 4 5) eNil))=j7 (xdv call hs u rec1) 1 4 5 6 7 18 19:=tr (sqN 1 x25i)
theorem x25k{rec1:AV->AV->AV->AV->AV->AV->Mem->Nat->O2}:x2ja call hs u xqj (j6 (xf call hs u rec1) 1 4 5 6 18 19) (setE 1 (j6 (xf call hs u rec1) 1 4 5 6 18 19) (setE 0 (j3 (xe call hs u) 1 4 5) eNil))=j7 (xdv call hs u rec1) 1 4 5 6 7 18 19:=sq2 x25c x25j
theorem x25l{rec1:AV->AV->AV->AV->AV->AV->Mem->Nat->O2}:x2ja call hs u x162 (j6 (xf call hs u rec1) 1 4 5 6 18 19) (setE 1 (j6 (xf call hs u rec1) 1 4 5 6 18 19) (setE 0 (j3 (xe call hs u) 1 4 5) eNil))=j6 (x9p call hs u rec1) 1 4 5 6 18 19:=tr (sqN 1 x25k)
theorem x25m{rec1:AV->AV->AV->AV->AV->AV->Mem->Nat->O2}:x2ja call hs u x161 (j6 (xf call hs u rec1) 1 4 5 6 18 19) (setE 0 (j3 (xe call hs u) 1 4 5) eNil)=j6 (x9p call hs u rec1) 1 4 5 6 18 19:=bk x25l
theorem x25n{rec1:AV->AV->AV->AV->AV->AV->Mem->Nat->O2}:x2ja call hs u xqi (j6 rec1 1 4 5 6 18 19) (setE 0 (j3 (xe call hs u) 1 4 5) eNil)=j6 (x9p call hs u rec1) 1 4 5 6 18 19:=sq2 x25b x25m
theorem x25o{rec1:AV->AV->AV->AV->AV->AV->Mem->Nat->O2}:x2ja call hs u x160 (j6 rec1 1 4 5 6 18 19) (setE 0 (j3 (xe call hs u) 1 4 5) eNil)=j6 (xdw call hs u rec1) 1 4 5 6 18 19:=tr (sqN 2 x25n)
theorem x25p:x2ja call hs u x15z (j3 (xe call hs u) 1 4 5) (setE 0 (j3 (xe call hs u) 1 4 5) eNil)=j6 (x28 call hs u NN) 1 4 5 6 18 19:=lp (Ln:=fun n=>j6 (x28 call hs u n) 1 4 5 6 18 19) fun n=>tr x25o
theorem x25q:x2ja call hs u x15y (j3 (xe call hs u) 1 4 5) eNil=j6 (x28 call hs u NN) 1 4 5 6 18 19:=bk x25p
theorem x25r:x2ja call hs u x15s (j3 (xe call hs u) 1 4 5) eNil=j4 (xdx call hs u) 1 4 5 6:=tr (sqN 1 x25q)
theorem x25s:x2ja call hs u xqf r_8 eNil=j4 (xdx call hs u) 1 4 5 6:=sq2 x25a x25r
theorem x1h6:x2ja call hs u x15r r_8 eNil=j1 (xk2 call hs u) 0:=tr (sqN 4 x25s)
noncomputable abbrev x311:=VX x2u 40 r_0
noncomputable def x25t:=x2ia x2u
theorem x1h7:x311 call hs u x25t r_0 eNil=j2 (xk3 call hs u) 0 1:=by kernel_rfl
noncomputable abbrev x2op:=VX x3m 31 r_13
noncomputable def x167:=x2ia x3m
noncomputable def xql:=nRs 2 x167
noncomputable def x168:=nL xql
noncomputable def x25u:=nR xql
noncomputable def x169:=nR x168
noncomputable def x16a:=nR x169
noncomputable def x25v:=nR x16a
theorem x25w:x2op call hs u x25u r_13 eNil=j2 (x4m call hs u) 4 5:=by kernel_rfl
theorem x25x{rec0:AV->AV->AV->AV->Mem->Nat->O2}:x2op call hs u x25v (j4 rec0 1 4 5 6) (setE 0 (j2 (x4m call hs u) 4 5) eNil)=j4 (xdy call hs u rec0) 1 4 5 6:=by kernel_rfl
theorem x25y:x2op call hs u x16a (j2 (x4m call hs u) 4 5) (setE 0 (j2 (x4m call hs u) 4 5) eNil)=j4 (x4n call hs u NN) 1 4 5 6:=lp (Ln:=fun n=>j4 (x4n call hs u n) 1 4 5 6) fun n=>tr x25x
theorem x25z:x2op call hs u x169 (j2 (x4m call hs u) 4 5) eNil=j4 (x4n call hs u NN) 1 4 5 6:=bk x25y
theorem x260:x2op call hs u x168 (j2 (x4m call hs u) 4 5) eNil=j3 (xdz call hs u) 1 4 5:=tr (sqN 1 x25z)
theorem x261:x2op call hs u xql r_13 eNil=j3 (xdz call hs u) 1 4 5:=sq2 x25w x260
theorem x1h8:x2op call hs u x167 r_13 eNil=j2 (xk4 call hs u) 0 1:=tr (sqN 2 x261)
noncomputable abbrev x312:=VX xbt 24 r_6
noncomputable def x262:=x2ia xbt
theorem x1h9:x312 call hs u x262 r_6 eNil=j2 (xte call hs u) 0 1:=by kernel_rfl
noncomputable abbrev x313:=VX x2v 36 r_3
noncomputable def x263:=x2ia x2v
theorem x1ha:x313 call hs u x263 r_3 eNil=j1 (xk5 call hs u) 0:=by kernel_rfl
noncomputable abbrev x2oq:=VX x78 30 r_0
noncomputable def x16b:=x2ia x78
noncomputable def xqm:=nRs 2 x16b
noncomputable def x16c:=nL xqm
noncomputable def x264:=nR xqm
noncomputable def x16d:=nR x16c
noncomputable def x16e:=nR x16d
noncomputable def x265:=nR x16e
theorem x266:x2oq call hs u x264 r_0 eNil=j1 (x4o call hs u) 5:=by kernel_rfl
theorem x267{rec0:AV->AV->AV->AV->Mem->Nat->O2}:x2oq call hs u x265 (j4 rec0 0 1 5 6) (setE 0 (j1 (x4o call hs u) 5) eNil)=j4 (xe0 call hs u rec0) 0 1 5 6:=by kernel_rfl
theorem x268:x2oq call hs u x16e (j1 (x4o call hs u) 5) (setE 0 (j1 (x4o call hs u) 5) eNil)=j4 (x4p call hs u NN) 0 1 5 6:=lp (Ln:=fun n=>j4 (x4p call hs u n) 0 1 5 6) fun n=>tr x267
theorem x269:x2oq call hs u x16d (j1 (x4o call hs u) 5) eNil=j4 (x4p call hs u NN) 0 1 5 6:=bk x268
theorem x26a:x2oq call hs u x16c (j1 (x4o call hs u) 5) eNil=j3 (xe1 call hs u) 0 1 5:=tr (sqN 1 x269)
theorem x26b:x2oq call hs u xqm r_0 eNil=j3 (xe1 call hs u) 0 1 5:=sq2 x266 x26a
theorem x1hb:x2oq call hs u x16b r_0 eNil=j2 (xk6 call hs u) 0 1:=tr (sqN 2 x26b)
noncomputable abbrev x314:=VX x8s 12 r_14
noncomputable def x26c:=x2ia x8s
theorem x1hc:x314 call hs u x26c r_14 eNil=j0 (xtf call hs u):=by kernel_rfl
noncomputable abbrev x315:=VX x79 10 r_13
noncomputable def x26d:=x2ia x79
theorem x1hd:x315 call hs u x26d r_13 eNil=j2 (xtg call hs u) 0 1:=by kernel_rfl
noncomputable abbrev x316:=VX x1p 7 r_3
noncomputable def x26e:=x2ia x1p
theorem x1he:x316 call hs u x26e r_3 eNil=j1 (xk7 call hs u) 0:=by kernel_rfl
noncomputable abbrev x317:=VX xz 15 r_1
noncomputable def x26f:=x2ia xz
theorem x1hf:x317 call hs u x26f r_1 eNil=j3 (xk8 call hs u) 0 1 2:=by kernel_rfl
noncomputable abbrev x2or:=VX x1y 42 r_0
noncomputable def x16f:=x2ia x1y
noncomputable def xqn:=nRs 3 x16f
noncomputable def x16g:=nL xqn
noncomputable def x26g:=nR xqn
noncomputable def x16h:=nR x16g
noncomputable def x16i:=nR x16h
noncomputable def x26h:=nR x16i
theorem x26i:x2or call hs u x26g r_0 eNil=j1 (x4q call hs u) 6:=by kernel_rfl
theorem x26j{rec0:AV->AV->AV->AV->AV->AV->Mem->Nat->O2}:x2or call hs u x26h (j6 rec0 1 5 6 14 15 16) (setE 0 (j1 (x4q call hs u) 6) eNil)=j6 (xe2 call hs u rec0) 1 5 6 14 15 16:=by kernel_rfl
theorem x26k:x2or call hs u x16i (j1 (x4q call hs u) 6) (setE 0 (j1 (x4q call hs u) 6) eNil)=j6 (x4r call hs u NN) 1 5 6 14 15 16:=lp (Ln:=fun n=>j6 (x4r call hs u n) 1 5 6 14 15 16) fun n=>tr x26j
theorem x26l:x2or call hs u x16h (j1 (x4q call hs u) 6) eNil=j6 (x4r call hs u NN) 1 5 6 14 15 16:=bk x26k
theorem x26m:x2or call hs u x16g (j1 (x4q call hs u) 6) eNil=j4 (xe3 call hs u) 1 2 5 6:=tr (sqN 1 x26l)
theorem x26n:x2or call hs u xqn r_0 eNil=j4 (xe3 call hs u) 1 2 5 6:=sq2 x26i x26m
theorem x1hg:x2or call hs u x16f r_0 eNil=j2 (xk9 call hs u) 0 1:=tr (sqN 3 x26n)
noncomputable abbrev x2mo:=VX x3n 38 r_0
noncomputable def x16j:=x2ia x3n
noncomputable def xqo:=nRs 5 x16j
noncomputable def x16k:=nL xqo
noncomputable def x26o:=nR xqo
noncomputable def x16l:=nR x16k
noncomputable def x16m:=nR x16l
noncomputable def x16n:=nR x16m
noncomputable def xqp:=nRs 2 x16n
noncomputable def x26p:=nL xqp
noncomputable def x26q:=nR xqp
theorem x26r:x2mo call hs u x26o r_0 eNil=j1 (x1s call hs u) 5:=by kernel_rfl
theorem x26s{rec0:AV->AV->AV->AV->AV->Mem->Nat->O2}:x2mo call hs u x26q (j5 rec0 5 6 8 24 25) (setE 0 (j1 (x1s call hs u) 5) eNil)=j5 (x7w call hs u rec0) 5 6 8 24 25:=by kernel_rfl
theorem x26t{rec0:AV->AV->AV->AV->AV->Mem->Nat->O2}:x2mo call hs u x26p (j5 (x7w call hs u rec0) 5 6 8 24 25) (setE 0 (j1 (x1s call hs u) 5) eNil)=j5 (xe4 call hs u rec0) 5 6 8 24 25:=by kernel_rfl
theorem x26u{rec0:AV->AV->AV->AV->AV->Mem->Nat->O2}:x2mo call hs u xqp (j5 rec0 5 6 8 24 25) (setE 0 (j1 (x1s call hs u) 5) eNil)=j5 (xe4 call hs u rec0) 5 6 8 24 25:=sq2 x26s x26t
theorem x26v{rec0:AV->AV->AV->AV->AV->Mem->Nat->O2}:x2mo call hs u x16n (j5 rec0 5 6 8 24 25) (setE 0 (j1 (x1s call hs u) 5) eNil)=j5 (xe5 call hs u rec0) 5 6 8 24 25:=tr (sqN 2 x26u)
theorem x26w:x2mo call hs u x16m (j1 (x1s call hs u) 5) (setE 0 (j1 (x1s call hs u) 5) eNil)=j5 (x4s call hs u NN) 5 6 8 24 25:=lp (Ln:=fun n=>j5 (x4s call hs u n) 5 6 8 24 25) fun n=>tr x26v
theorem x26x:x2mo call hs u x16l (j1 (x1s call hs u) 5) eNil=j5 (x4s call hs u NN) 5 6 8 24 25:=bk x26w
theorem x26y:x2mo call hs u x16k (j1 (x1s call hs u) 5) eNil=j3 (xe6 call hs u) 5 6 8:=tr (sqN 1 x26x)
theorem x26z:x2mo call hs u xqo r_0 eNil=j3 (xe6 call hs u) 5 6 8:=sq2 x26r x26y
theorem x1hh:x2mo call hs u x16j r_0 eNil=j2 (xka call hs u) 0 1:=tr (sqN 5 x26z)
noncomputable abbrev x2mp:=VX xbu 30 r_0
noncomputable def x16o:=x2ia xbu
noncomputable def xqq:=nRs 2 x16o
noncomputable def x16p:=nL xqq
noncomputable def x270:=nR xqq
noncomputable def x16q:=nR x16p
noncomputable def x16r:=nR x16q
noncomputable def x16s:=nR x16r
noncomputable def xqr:=nRs 2 x16s
noncomputable def x271:=nL xqr
noncomputable def x272:=nR xqr
theorem x273:x2mp call hs u x270 r_0 eNil=j1 (x29 call hs u) 5:=by kernel_rfl
theorem x274{rec0:AV->AV->AV->AV->AV->Mem->Nat->O2}:x2mp call hs u x272 (j5 rec0 1 5 15 16 17) (setE 0 (j1 (x29 call hs u) 5) eNil)=j5 (xe7 call hs u rec0) 1 5 15 16 17:=by kernel_rfl
theorem x275{rec0:AV->AV->AV->AV->AV->Mem->Nat->O2}:x2mp call hs u x271 (j5 (xe7 call hs u rec0) 1 5 15 16 17) (setE 0 (j1 (x29 call hs u) 5) eNil)=j5 (xkc call hs u rec0) 1 5 15 16 17:=by kernel_rfl
theorem x276{rec0:AV->AV->AV->AV->AV->Mem->Nat->O2}:x2mp call hs u xqr (j5 rec0 1 5 15 16 17) (setE 0 (j1 (x29 call hs u) 5) eNil)=j5 (xkc call hs u rec0) 1 5 15 16 17:=sq2 x274 x275
theorem x277{rec0:AV->AV->AV->AV->AV->Mem->Nat->O2}:x2mp call hs u x16s (j5 rec0 1 5 15 16 17) (setE 0 (j1 (x29 call hs u) 5) eNil)=j5 (xti call hs u rec0) 1 5 15 16 17:=tr (sqN 2 x276)
theorem x278:x2mp call hs u x16r (j1 (x29 call hs u) 5) (setE 0 (j1 (x29 call hs u) 5) eNil)=j5 (x9q call hs u NN) 1 5 15 16 17:=lp (Ln:=fun n=>j5 (x9q call hs u n) 1 5 15 16 17) fun n=>tr x277
theorem x279:x2mp call hs u x16q (j1 (x29 call hs u) 5) eNil=j5 (x9q call hs u NN) 1 5 15 16 17:=bk x278
theorem x27a:x2mp call hs u x16p (j1 (x29 call hs u) 5) eNil=j3 (xkd call hs u) 1 2 5:=tr (sqN 1 x279)
theorem x27b:x2mp call hs u xqq r_0 eNil=j3 (xkd call hs u) 1 2 5:=sq2 x273 x27a
theorem x1hi:x2mp call hs u x16o r_0 eNil=j2 (xtj call hs u) 0 1:=tr (sqN 2 x27b)
noncomputable abbrev x2os:=VX x2w 52 r_3
noncomputable def x16t:=x2ia x2w
noncomputable def xqs:=nRs 4 x16t
noncomputable def x16u:=nL xqs
noncomputable def x27c:=nR xqs
noncomputable def x16v:=nR x16u
noncomputable def x16w:=nR x16v
noncomputable def x27d:=nR x16w
theorem x27e:x2os call hs u x27c r_3 eNil=j1 (x4u call hs u) 6:=by kernel_rfl
theorem x27f{rec0:AV->AV->AV->AV->Mem->Nat->O2}:x2os call hs u x27d (j4 rec0 1 5 6 7) (setE 0 (j1 (x4u call hs u) 6) eNil)=j4 (xe8 call hs u rec0) 1 5 6 7:=by kernel_rfl
theorem x27g:x2os call hs u x16w (j1 (x4u call hs u) 6) (setE 0 (j1 (x4u call hs u) 6) eNil)=j4 (x4v call hs u NN) 1 5 6 7:=lp (Ln:=fun n=>j4 (x4v call hs u n) 1 5 6 7) fun n=>tr x27f
theorem x27h:x2os call hs u x16v (j1 (x4u call hs u) 6) eNil=j4 (x4v call hs u NN) 1 5 6 7:=bk x27g
theorem x27i:x2os call hs u x16u (j1 (x4u call hs u) 6) eNil=j3 (xe9 call hs u) 1 5 6:=tr (sqN 1 x27h)
theorem x27j:x2os call hs u xqs r_3 eNil=j3 (xe9 call hs u) 1 5 6:=sq2 x27e x27i
theorem x1hj:x2os call hs u x16t r_3 eNil=j1 (xke call hs u) 0:=tr (sqN 4 x27j)
noncomputable abbrev x2ot:=VX x3o 36 r_0
noncomputable def x16x:=x2ia x3o
noncomputable def xqt:=nRs 3 x16x
noncomputable def x16y:=nL xqt
noncomputable def x27k:=nR xqt
noncomputable def x16z:=nR x16y
noncomputable def x170:=nR x16z
noncomputable def x27l:=nR x170
theorem x27m:x2ot call hs u x27k r_0 eNil=j1 (x4w call hs u) 6:=by kernel_rfl
theorem x27n{rec0:AV->AV->AV->AV->AV->Mem->Nat->O2}:x2ot call hs u x27l (j5 rec0 1 2 5 6 7) (setE 0 (j1 (x4w call hs u) 6) eNil)=j5 (xea call hs u rec0) 1 2 5 6 7:=by kernel_rfl
theorem x27o:x2ot call hs u x170 (j1 (x4w call hs u) 6) (setE 0 (j1 (x4w call hs u) 6) eNil)=j5 (x4x call hs u NN) 1 2 5 6 7:=lp (Ln:=fun n=>j5 (x4x call hs u n) 1 2 5 6 7) fun n=>tr x27n
theorem x27p:x2ot call hs u x16z (j1 (x4w call hs u) 6) eNil=j5 (x4x call hs u NN) 1 2 5 6 7:=bk x27o
theorem x27q:x2ot call hs u x16y (j1 (x4w call hs u) 6) eNil=j4 (xeb call hs u) 1 2 5 6:=tr (sqN 1 x27p)
theorem x27r:x2ot call hs u xqt r_0 eNil=j4 (xeb call hs u) 1 2 5 6:=sq2 x27m x27q
theorem x1hk:x2ot call hs u x16x r_0 eNil=j2 (xkf call hs u) 0 1:=tr (sqN 3 x27r)
noncomputable abbrev x2ou:=VX x3p 42 r_8
noncomputable def x171:=x2ia x3p
noncomputable def xqu:=nRs 2 x171
noncomputable def x172:=nL xqu
noncomputable def x27s:=nR xqu
noncomputable def x173:=nR x172
noncomputable def x174:=nR x173
noncomputable def x27t:=nR x174
theorem x27u:x2ou call hs u x27s r_8 eNil=j0 (x4y call hs u):=by kernel_rfl
theorem x27v{rec0:AV->AV->AV->AV->Mem->Nat->O2}:x2ou call hs u x27t (j4 rec0 0 9 10 11) (setE 0 (j0 (x4y call hs u)) eNil)=j4 (xec call hs u rec0) 0 9 10 11:=by kernel_rfl
theorem x27w:x2ou call hs u x174 (j0 (x4y call hs u)) (setE 0 (j0 (x4y call hs u)) eNil)=j4 (x36 call hs u NN) 0 9 10 11:=lp (Ln:=fun n=>j4 (x36 call hs u n) 0 9 10 11) fun n=>tr x27v
theorem x27x:x2ou call hs u x173 (j0 (x4y call hs u)) eNil=j4 (x36 call hs u NN) 0 9 10 11:=bk x27w
theorem x27y:x2ou call hs u x172 (j0 (x4y call hs u)) eNil=j1 (xed call hs u) 0:=tr (sqN 1 x27x)
theorem x27z:x2ou call hs u xqu r_8 eNil=j1 (xed call hs u) 0:=sq2 x27u x27y
theorem x1hl:x2ou call hs u x171 r_8 eNil=j1 (xkg call hs u) 0:=tr (sqN 2 x27z)
noncomputable abbrev x318:=VX x1q 10 r_0
noncomputable def x280:=x2ia x1q
theorem x1hm:x318 call hs u x280 r_0 eNil=j2 (xkh call hs u) 0 1:=by kernel_rfl
noncomputable abbrev x2ov:=VX x7a 55 r_3
noncomputable def x175:=x2ia x7a
noncomputable def xqv:=nRs 2 x175
noncomputable def x176:=nL xqv
noncomputable def x281:=nR xqv
noncomputable def x177:=nR x176
noncomputable def x178:=nR x177
noncomputable def x282:=nR x178
theorem x283:x2ov call hs u x281 r_3 eNil=j0 (x4z call hs u):=by kernel_rfl
theorem x284{rec0:AV->AV->Mem->Nat->O2}:x2ov call hs u x282 (j2 rec0 0 3) (setE 0 (j0 (x4z call hs u)) eNil)=j2 (xee call hs u rec0) 0 3:=by kernel_rfl
theorem x285:x2ov call hs u x178 (j0 (x4z call hs u)) (setE 0 (j0 (x4z call hs u)) eNil)=j2 (x37 call hs u NN) 0 3:=lp (Ln:=fun n=>j2 (x37 call hs u n) 0 3) fun n=>tr x284
theorem x286:x2ov call hs u x177 (j0 (x4z call hs u)) eNil=j2 (x37 call hs u NN) 0 3:=bk x285
theorem x287:x2ov call hs u x176 (j0 (x4z call hs u)) eNil=j1 (xef call hs u) 0:=tr (sqN 1 x286)
theorem x288:x2ov call hs u xqv r_3 eNil=j1 (xef call hs u) 0:=sq2 x283 x287
theorem x1hn:x2ov call hs u x175 r_3 eNil=j1 (xki call hs u) 0:=tr (sqN 2 x288)
noncomputable abbrev x319:=VX x2x 11 r_3
noncomputable def x289:=x2ia x2x
theorem x1ho:x319 call hs u x289 r_3 eNil=j1 (xkj call hs u) 0:=by kernel_rfl
noncomputable abbrev x2ow:=VX x2y 15 r_3
noncomputable def x179:=x2ia x2y
noncomputable def xqw:=nRs 2 x179
noncomputable def x17a:=nL xqw
noncomputable def x28a:=nR xqw
noncomputable def x17b:=nR x17a
noncomputable def x17c:=nR x17b
noncomputable def x28b:=nR x17c
theorem x28c:x2ow call hs u x28a r_3 eNil=j1 (x50 call hs u) 3:=by kernel_rfl
theorem x28d{rec0:AV->AV->AV->Mem->Nat->O2}:x2ow call hs u x28b (j3 rec0 3 5 6) (setE 0 (j1 (x50 call hs u) 3) eNil)=j3 (xeg call hs u rec0) 3 5 6:=by kernel_rfl
theorem x28e:x2ow call hs u x17c (j1 (x50 call hs u) 3) (setE 0 (j1 (x50 call hs u) 3) eNil)=j3 (x51 call hs u NN) 3 5 6:=lp (Ln:=fun n=>j3 (x51 call hs u n) 3 5 6) fun n=>tr x28d
theorem x28f:x2ow call hs u x17b (j1 (x50 call hs u) 3) eNil=j3 (x51 call hs u NN) 3 5 6:=bk x28e
theorem x28g:x2ow call hs u x17a (j1 (x50 call hs u) 3) eNil=j2 (xeh call hs u) 0 3:=tr (sqN 1 x28f)
theorem x28h:x2ow call hs u xqw r_3 eNil=j2 (xeh call hs u) 0 3:=sq2 x28c x28g
theorem x1hp:x2ow call hs u x179 r_3 eNil=j1 (xkk call hs u) 0:=tr (sqN 2 x28h)
noncomputable abbrev x2mq:=VX x3q 44 r_0
noncomputable def x17d:=x2ia x3q
noncomputable def xqx:=nRs 2 x17d
noncomputable def x17e:=nL xqx
noncomputable def x28i:=nR xqx
noncomputable def x17f:=nR x17e
noncomputable def x17g:=nR x17f
noncomputable def x17h:=nR x17g
noncomputable def xqy:=nRs 2 x17h
noncomputable def x28j:=nL xqy
noncomputable def x28k:=nR xqy
theorem x28l:x2mq call hs u x28i r_0 eNil=j2 (x1t call hs u) 5 6:=by kernel_rfl
theorem x28m{rec0:AV->AV->AV->AV->AV->AV->Mem->Nat->O2}:x2mq call hs u x28k (j6 rec0 0 5 6 19 20 21) (setE 0 (j2 (x1t call hs u) 5 6) eNil)=j6 (x9r call hs u rec0) 0 5 6 19 20 21:=by kernel_rfl
theorem x28n{rec0:AV->AV->AV->AV->AV->AV->Mem->Nat->O2}:x2mq call hs u x28j (j6 (x9r call hs u rec0) 0 5 6 19 20 21) (setE 0 (j2 (x1t call hs u) 5 6) eNil)=j6 (xei call hs u rec0) 0 5 6 19 20 21:=by kernel_rfl
theorem x28o{rec0:AV->AV->AV->AV->AV->AV->Mem->Nat->O2}:x2mq call hs u xqy (j6 rec0 0 5 6 19 20 21) (setE 0 (j2 (x1t call hs u) 5 6) eNil)=j6 (xei call hs u rec0) 0 5 6 19 20 21:=sq2 x28m x28n
theorem x28p{rec0:AV->AV->AV->AV->AV->AV->Mem->Nat->O2}:x2mq call hs u x17h (j6 rec0 0 5 6 19 20 21) (setE 0 (j2 (x1t call hs u) 5 6) eNil)=j6 (xej call hs u rec0) 0 5 6 19 20 21:=tr (sqN 2 x28o)
theorem x28q:x2mq call hs u x17g (j2 (x1t call hs u) 5 6) (setE 0 (j2 (x1t call hs u) 5 6) eNil)=j6 (x52 call hs u NN) 0 5 6 19 20 21:=lp (Ln:=fun n=>j6 (x52 call hs u n) 0 5 6 19 20 21) fun n=>tr x28p
theorem x28r:x2mq call hs u x17f (j2 (x1t call hs u) 5 6) eNil=j6 (x52 call hs u NN) 0 5 6 19 20 21:=bk x28q
theorem x28s:x2mq call hs u x17e (j2 (x1t call hs u) 5 6) eNil=j3 (xek call hs u) 0 5 6:=tr (sqN 1 x28r)
theorem x28t:x2mq call hs u xqx r_0 eNil=j3 (xek call hs u) 0 5 6:=sq2 x28l x28s
theorem x1hq:x2mq call hs u x17d r_0 eNil=j2 (xkm call hs u) 0 1:=tr (sqN 2 x28t)
noncomputable abbrev x31a:=VX xbv 9 r_0
noncomputable def x28u:=x2ia xbv
theorem x1hr:x31a call hs u x28u r_0 eNil=j2 (xtk call hs u) 0 1:=by kernel_rfl
noncomputable abbrev x31b:=VX xbw 15 r_15
noncomputable def x28v:=x2ia xbw
theorem x1hs:x31b call hs u x28v r_15 eNil=j2 (xtl call hs u) 0 1:=by kernel_rfl
noncomputable abbrev x2ox:=VX x8t 21 r_0
noncomputable def x17i:=x2ia x8t
noncomputable def xqz:=nRs 2 x17i
noncomputable def x17j:=nL xqz
noncomputable def x28w:=nR xqz
noncomputable def x17k:=nR x17j
noncomputable def x17l:=nR x17k
noncomputable def x28x:=nR x17l
theorem x28y:x2ox call hs u x28w r_0 eNil=j1 (x6n call hs u) 5:=by kernel_rfl
theorem x28z{rec0:AV->AV->AV->AV->AV->Mem->Nat->O2}:x2ox call hs u x28x (j5 rec0 2 5 8 9 10) (setE 0 (j1 (x6n call hs u) 5) eNil)=j5 (xtm call hs u rec0) 2 5 8 9 10:=by kernel_rfl
theorem x290:x2ox call hs u x17l (j1 (x6n call hs u) 5) (setE 0 (j1 (x6n call hs u) 5) eNil)=j5 (x9s call hs u NN) 2 5 8 9 10:=lp (Ln:=fun n=>j5 (x9s call hs u n) 2 5 8 9 10) fun n=>tr x28z
theorem x291:x2ox call hs u x17k (j1 (x6n call hs u) 5) eNil=j5 (x9s call hs u NN) 2 5 8 9 10:=bk x290
theorem x292:x2ox call hs u x17j (j1 (x6n call hs u) 5) eNil=j3 (xkn call hs u) 1 2 5:=tr (sqN 1 x291)
theorem x293:x2ox call hs u xqz r_0 eNil=j3 (xkn call hs u) 1 2 5:=sq2 x28y x292
theorem x1ht:x2ox call hs u x17i r_0 eNil=j2 (xtn call hs u) 0 1:=tr (sqN 2 x293)
noncomputable abbrev x2l5:=VX x7b 73 r_8
noncomputable def x17m:=x2ia x7b
noncomputable def xr0:=nRs 3 x17m
noncomputable def x17n:=nL xr0
noncomputable def x294:=nR xr0
noncomputable def x17o:=nR x17n
noncomputable def x17p:=nR x17o
noncomputable def x17q:=nR x17p
noncomputable def xr1:=nR x17q
noncomputable def x17r:=nL xr1
noncomputable def x295:=nR xr1
noncomputable def x17s:=nR x17r
noncomputable def x17t:=nRs 4 x17s
noncomputable def x17u:=nR x17t
noncomputable def x296:=nR x17u
theorem x297:x2l5 call hs u x294 r_8 eNil=j0 (x11 call hs u):=by kernel_rfl
theorem x298{rec0:AV->AV->Mem->Nat->O2}:x2l5 call hs u x295 (j2 rec0 1 6) (setE 0 (j0 (x11 call hs u)) eNil)=j2 (x1e call hs u rec0) 1 6:=by kernel_rfl
theorem x299{rec0:AV->AV->Mem->Nat->O2}{rec1:AV->AV->AV->AV->Mem->Nat->O2}:x2l5 call hs u x296 (j4 rec1 1 6 7 8) (setE 2 (j2 (x1e call hs u rec0) 1 6) (setE 1 (j2 (x1e call hs u rec0) 1 6) (setE 0 (j0 (x11 call hs u)) eNil)))=j4 (xel call hs u rec0 rec1) 1 6 7 8:=by kernel_rfl
theorem x29a{rec0:AV->AV->Mem->Nat->O2}:x2l5 call hs u x17u (j2 (x1e call hs u rec0) 1 6) (setE 2 (j2 (x1e call hs u rec0) 1 6) (setE 1 (j2 (x1e call hs u rec0) 1 6) (setE 0 (j0 (x11 call hs u)) eNil)))=j4 (x38 call hs u rec0 NN) 1 6 7 8:=lp (Ln:=fun n=>j4 (x38 call hs u rec0 n) 1 6 7 8) fun n=>tr x299
theorem x29b{rec0:AV->AV->Mem->Nat->O2}:x2l5 call hs u x17t (j2 (x1e call hs u rec0) 1 6) (setE 1 (j2 (x1e call hs u rec0) 1 6) (setE 0 (j0 (x11 call hs u)) eNil))=j4 (x38 call hs u rec0 NN) 1 6 7 8:=bk x29a
theorem x29c{rec0:AV->AV->Mem->Nat->O2}:x2l5 call hs u x17s (j2 (x1e call hs u rec0) 1 6) (setE 1 (j2 (x1e call hs u rec0) 1 6) (setE 0 (j0 (x11 call hs u)) eNil))=j2 (x9t call hs u rec0) 1 6:=tr (sqN 4 x29b)
theorem x29d{rec0:AV->AV->Mem->Nat->O2}:x2l5 call hs u x17r (j2 (x1e call hs u rec0) 1 6) (setE 0 (j0 (x11 call hs u)) eNil)=j2 (x9t call hs u rec0) 1 6:=bk x29c
theorem x29e{rec0:AV->AV->Mem->Nat->O2}:x2l5 call hs u xr1 (j2 rec0 1 6) (setE 0 (j0 (x11 call hs u)) eNil)=j2 (x9t call hs u rec0) 1 6:=sq2 x298 x29d
theorem x29f{rec0:AV->AV->Mem->Nat->O2}:x2l5 call hs u x17q (j2 rec0 1 6) (setE 0 (j0 (x11 call hs u)) eNil)=j2 (xem call hs u rec0) 1 6:=tr (sqN 1 x29e)
theorem x29g:x2l5 call hs u x17p (j0 (x11 call hs u)) (setE 0 (j0 (x11 call hs u)) eNil)=j2 (x2a call hs u NN) 1 6:=lp (Ln:=fun n=>j2 (x2a call hs u n) 1 6) fun n=>tr x29f
theorem x29h:x2l5 call hs u x17o (j0 (x11 call hs u)) eNil=j2 (x2a call hs u NN) 1 6:=bk x29g
theorem x29i:x2l5 call hs u x17n (j0 (x11 call hs u)) eNil=j1 (xen call hs u) 1:=tr (sqN 1 x29h)
theorem x29j:x2l5 call hs u xr0 r_8 eNil=j1 (xen call hs u) 1:=sq2 x297 x29i
theorem x1hu:x2l5 call hs u x17m r_8 eNil=j1 (xko call hs u) 0:=tr (sqN 3 x29j)
noncomputable abbrev x2js:=VX x1i 68 r_0
noncomputable def x17v:=x2ia x1i
noncomputable def xr2:=nRs 2 x17v
noncomputable def x17w:=nL xr2
noncomputable def xr3:=nR xr2
noncomputable def x17x:=nL xr3
noncomputable def x29k:=nR xr3
noncomputable def x17y:=nR x17x
noncomputable def x17z:=nR x17y
noncomputable def x180:=nR x17z
noncomputable def xr4:=nR x180
noncomputable def x181:=nL xr4
noncomputable def x29l:=nR xr4
noncomputable def x182:=nR x181
noncomputable def x183:=nRs 3 x182
noncomputable def x184:=nR x183
noncomputable def x185:=nR x184
noncomputable def xr5:=nR x185
noncomputable def x29m:=nL xr5
noncomputable def x29n:=nR xr5
noncomputable def x186:=nR x17w
noncomputable def x187:=nR x186
noncomputable def x29o:=nR x187
theorem x29p:x2js call hs u x29k r_0 eNil=j1 (xo call hs u) 5:=by kernel_rfl
theorem x29q{rec0:AV->AV->AV->AV->Mem->Nat->O2}:x2js call hs u x29l (j4 rec0 1 2 5 7) (setE 2 (j1 (xo call hs u) 5) eNil)=j4 (xi call hs u rec0) 1 2 5 7:=by kernel_rfl
theorem x29r{rec0:AV->AV->AV->AV->Mem->Nat->O2}{rec1:AV->AV->AV->AV->AV->AV->AV->Mem->Nat->O2}:x2js call hs u x29n (j7 rec1 1 2 5 7 9 10 11) (setE 4 (j4 (xi call hs u rec0) 1 2 5 7) (setE 3 (j4 (xi call hs u rec0) 1 2 5 7) (setE 2 (j1 (xo call hs u) 5) eNil)))=j7 (x9u call hs u rec0 rec1) 1 2 5 7 9 10 11:=by kernel_rfl
theorem x29s{rec0:AV->AV->AV->AV->Mem->Nat->O2}{rec1:AV->AV->AV->AV->AV->AV->AV->Mem->Nat->O2}:x2js call hs u x29m (j7 (x9u call hs u rec0 rec1) 1 2 5 7 9 10 11) (setE 4 (j4 (xi call hs u rec0) 1 2 5 7) (setE 3 (j4 (xi call hs u rec0) 1 2 5 7) (setE 2 (j1 (xo call hs u) 5) eNil)))=j7 (xeo call hs u rec0 rec1) 1 2 5 7 9 10 11:=by kernel_rfl
theorem x29t{rec0:AV->AV->AV->AV->Mem->Nat->O2}{rec1:AV->AV->AV->AV->AV->AV->AV->Mem->Nat->O2}:x2js call hs u xr5 (j7 rec1 1 2 5 7 9 10 11) (setE 4 (j4 (xi call hs u rec0) 1 2 5 7) (setE 3 (j4 (xi call hs u rec0) 1 2 5 7) (setE 2 (j1 (xo call hs u) 5) eNil)))=j7 (xeo call hs u rec0 rec1) 1 2 5 7 9 10 11:=sq2 x29r x29s
theorem x29u{rec0:AV->AV->AV->AV->Mem->Nat->O2}{rec1:AV->AV->AV->AV->AV->AV->AV->Mem->Nat->O2}:x2js call hs u x185 (j7 rec1 1 2 5 7 9 10 11) (setE 4 (j4 (xi call hs u rec0) 1 2 5 7) (setE 3 (j4 (xi call hs u rec0) 1 2 5 7) (setE 2 (j1 (xo call hs u) 5) eNil)))=j7 (xep call hs u rec0 rec1) 1 2 5 7 9 10 11:=tr (sqN 1 x29t)
theorem x29v{rec0:AV->AV->AV->AV->Mem->Nat->O2}:x2js call hs u x184 (j4 (xi call hs u rec0) 1 2 5 7) (setE 4 (j4 (xi call hs u rec0) 1 2 5 7) (setE 3 (j4 (xi call hs u rec0) 1 2 5 7) (setE 2 (j1 (xo call hs u) 5) eNil)))=j7 (x39 call hs u rec0 NN) 1 2 5 7 9 10 11:=lp (Ln:=fun n=>j7 (x39 call hs u rec0 n) 1 2 5 7 9 10 11) fun n=>tr x29u
theorem x29w{rec0:AV->AV->AV->AV->Mem->Nat->O2}:x2js call hs u x183 (j4 (xi call hs u rec0) 1 2 5 7) (setE 3 (j4 (xi call hs u rec0) 1 2 5 7) (setE 2 (j1 (xo call hs u) 5) eNil))=j7 (x39 call hs u rec0 NN) 1 2 5 7 9 10 11:=bk x29v
theorem x29x{rec0:AV->AV->AV->AV->Mem->Nat->O2}:x2js call hs u x182 (j4 (xi call hs u rec0) 1 2 5 7) (setE 3 (j4 (xi call hs u rec0) 1 2 5 7) (setE 2 (j1 (xo call hs u) 5) eNil))=j4 (x9v call hs u rec0) 1 2 5 7:=tr (sqN 3 x29w)
theorem x29y{rec0:AV->AV->AV->AV->Mem->Nat->O2}:x2js call hs u x181 (j4 (xi call hs u rec0) 1 2 5 7) (setE 2 (j1 (xo call hs u) 5) eNil)=j4 (x9v call hs u rec0) 1 2 5 7:=bk x29x
theorem x29z{rec0:AV->AV->AV->AV->Mem->Nat->O2}:x2js call hs u xr4 (j4 rec0 1 2 5 7) (setE 2 (j1 (xo call hs u) 5) eNil)=j4 (x9v call hs u rec0) 1 2 5 7:=sq2 x29q x29y
theorem x2a0{rec0:AV->AV->AV->AV->Mem->Nat->O2}:x2js call hs u x180 (j4 rec0 1 2 5 7) (setE 2 (j1 (xo call hs u) 5) eNil)=j4 (xeq call hs u rec0) 1 2 5 7:=tr (sqN 1 x29z)
theorem x2a1:x2js call hs u x17z (j1 (xo call hs u) 5) (setE 2 (j1 (xo call hs u) 5) eNil)=j4 (x3a call hs u NN) 1 2 5 7:=lp (Ln:=fun n=>j4 (x3a call hs u n) 1 2 5 7) fun n=>tr x2a0
theorem x2a2:x2js call hs u x17y (j1 (xo call hs u) 5) eNil=j4 (x3a call hs u NN) 1 2 5 7:=bk x2a1
theorem x2a3:x2js call hs u x17x (j1 (xo call hs u) 5) eNil=j3 (x3b call hs u) 1 2 5:=tr (sqN 1 x2a2)
theorem x2a4:x2js call hs u xr3 r_0 eNil=j3 (x3b call hs u) 1 2 5:=sq2 x29p x2a3
theorem x2a5{rec2:AV->AV->AV->AV->Mem->Nat->O2}:x2js call hs u x29o (j4 rec2 1 2 5 6) (setE 0 (j3 (x3b call hs u) 1 2 5) eNil)=j4 (xer call hs u rec2) 1 2 5 6:=by kernel_rfl
theorem x2a6:x2js call hs u x187 (j3 (x3b call hs u) 1 2 5) (setE 0 (j3 (x3b call hs u) 1 2 5) eNil)=j4 (x53 call hs u NN) 1 2 5 6:=lp (Ln:=fun n=>j4 (x53 call hs u n) 1 2 5 6) fun n=>tr x2a5
theorem x2a7:x2js call hs u x186 (j3 (x3b call hs u) 1 2 5) eNil=j4 (x53 call hs u NN) 1 2 5 6:=bk x2a6
theorem x2a8:x2js call hs u x17w (j3 (x3b call hs u) 1 2 5) eNil=j3 (xes call hs u) 1 2 5:=tr (sqN 1 x2a7)
theorem x2a9:x2js call hs u xr2 r_0 eNil=j3 (xes call hs u) 1 2 5:=sq2 x2a4 x2a8
theorem x1hv:x2js call hs u x17v r_0 eNil=j2 (xkp call hs u) 0 1:=tr (sqN 2 x2a9)
noncomputable abbrev x31c:=VX x1j 9 r_0
noncomputable def x2aa:=x2ia x1j
theorem x1hw:x31c call hs u x2aa r_0 eNil=j2 (xkq call hs u) 0 1:=by kernel_rfl
noncomputable abbrev x31d:=VX x1z 15 r_10
noncomputable def x2ab:=x2ia x1z
theorem x1hx:x31d call hs u x2ab r_10 eNil=j1 (xet call hs u) 0:=by kernel_rfl
noncomputable abbrev x31e:=VX xby 16 r_8
noncomputable def x2ac:=x2ia xby
theorem x1hy:x31e call hs u x2ac r_8 eNil=j1 (xto call hs u) 0:=by kernel_rfl
noncomputable abbrev x2sc:=VX x7c 14 r_0
noncomputable def x188:=x2ia x7c
noncomputable def xr6:=nRs 2 x188
noncomputable def x2ad:=nL xr6
noncomputable def x2ae:=nR xr6
theorem x2af:x2sc call hs u x2ae r_0 eNil=j1 (x7y call hs u) 0:=by kernel_rfl
theorem x2ag:x2sc call hs u x2ad (j1 (x7y call hs u) 0) eNil=j2 (xeu call hs u) 0 1:=by kernel_rfl
theorem x2ah:x2sc call hs u xr6 r_0 eNil=j2 (xeu call hs u) 0 1:=sq2 x2af x2ag
theorem x1hz:x2sc call hs u x188 r_0 eNil=j2 (xkr call hs u) 0 1:=tr (sqN 2 x2ah)
noncomputable abbrev x31f:=VX xbz 33 r_11
noncomputable def x2ai:=x2ia xbz
theorem x1i0:x31f call hs u x2ai r_11 eNil=j1 (xtp call hs u) 0:=by kernel_rfl
noncomputable abbrev x31g:=VX x5z 6 r_3
noncomputable def x2aj:=x2ia x5z
theorem x1i1:x31g call hs u x2aj r_3 eNil=j1 (xks call hs u) 0:=by kernel_rfl
noncomputable abbrev x31h:=VX x60 8 r_3
noncomputable def x2ak:=x2ia x60
theorem x1i2:x31h call hs u x2ak r_3 eNil=j1 (xkt call hs u) 0:=by kernel_rfl
noncomputable abbrev x31i:=VX x3r 7 r_3
noncomputable def x2al:=x2ia x3r
theorem x1i3:x31i call hs u x2al r_3 eNil=j1 (xku call hs u) 0:=by kernel_rfl
noncomputable abbrev x31j:=VX x61 5 r_3
noncomputable def x2am:=x2ia x61
theorem x1i4:x31j call hs u x2am r_3 eNil=j1 (xkv call hs u) 0:=by kernel_rfl
noncomputable abbrev x2mr:=VX xc0 38 r_3
noncomputable def x189:=x2ia xc0
noncomputable def xr7:=nRs 3 x189
noncomputable def x18a:=nL xr7
noncomputable def x2an:=nR xr7
noncomputable def x18b:=nR x18a
noncomputable def x18c:=nR x18b
noncomputable def x18d:=nR x18c
noncomputable def xr8:=nR x18d
noncomputable def x2ao:=nL xr8
noncomputable def x2ap:=nR xr8
theorem x2aq:x2mr call hs u x2an r_3 eNil=j1 (x2b call hs u) 3:=by kernel_rfl
theorem x2ar{rec0:AV->AV->AV->AV->Mem->Nat->O2}:x2mr call hs u x2ap (j4 rec0 0 3 4 5) (setE 0 (j1 (x2b call hs u) 3) eNil)=j4 (xev call hs u rec0) 0 3 4 5:=by kernel_rfl
theorem x2as{rec0:AV->AV->AV->AV->Mem->Nat->O2}:x2mr call hs u x2ao (j4 (xev call hs u rec0) 0 3 4 5) (setE 0 (j1 (x2b call hs u) 3) eNil)=j4 (xkw call hs u rec0) 0 3 4 5:=by kernel_rfl
theorem x2at{rec0:AV->AV->AV->AV->Mem->Nat->O2}:x2mr call hs u xr8 (j4 rec0 0 3 4 5) (setE 0 (j1 (x2b call hs u) 3) eNil)=j4 (xkw call hs u rec0) 0 3 4 5:=sq2 x2ar x2as
theorem x2au{rec0:AV->AV->AV->AV->Mem->Nat->O2}:x2mr call hs u x18d (j4 rec0 0 3 4 5) (setE 0 (j1 (x2b call hs u) 3) eNil)=j4 (xtq call hs u rec0) 0 3 4 5:=tr (sqN 1 x2at)
theorem x2av:x2mr call hs u x18c (j1 (x2b call hs u) 3) (setE 0 (j1 (x2b call hs u) 3) eNil)=j4 (x9w call hs u NN) 0 3 4 5:=lp (Ln:=fun n=>j4 (x9w call hs u n) 0 3 4 5) fun n=>tr x2au
theorem x2aw:x2mr call hs u x18b (j1 (x2b call hs u) 3) eNil=j4 (x9w call hs u NN) 0 3 4 5:=bk x2av
theorem x2ax:x2mr call hs u x18a (j1 (x2b call hs u) 3) eNil=j3 (xkx call hs u) 0 3 4:=tr (sqN 1 x2aw)
theorem x2ay:x2mr call hs u xr7 r_3 eNil=j3 (xkx call hs u) 0 3 4:=sq2 x2aq x2ax
theorem x1i5:x2mr call hs u x189 r_3 eNil=j1 (xtr call hs u) 0:=tr (sqN 3 x2ay)
noncomputable abbrev x2ms:=VX x62 22 r_0
noncomputable def x18e:=x2ia x62
noncomputable def xr9:=nRs 2 x18e
noncomputable def x18f:=nL xr9
noncomputable def x2az:=nR xr9
noncomputable def x18g:=nR x18f
noncomputable def x18h:=nR x18g
noncomputable def x18i:=nR x18h
noncomputable def xra:=nR x18i
noncomputable def x2b0:=nL xra
noncomputable def x2b1:=nR xra
theorem x2b2:x2ms call hs u x2az r_0 eNil=j1 (x1u call hs u) 5:=by kernel_rfl
theorem x2b3{rec0:AV->AV->AV->AV->Mem->Nat->O2}:x2ms call hs u x2b1 (j4 rec0 1 2 5 6) (setE 0 (j1 (x1u call hs u) 5) eNil)=j4 (x7z call hs u rec0) 1 2 5 6:=by kernel_rfl
theorem x2b4{rec0:AV->AV->AV->AV->Mem->Nat->O2}:x2ms call hs u x2b0 (j4 (x7z call hs u rec0) 1 2 5 6) (setE 0 (j1 (x1u call hs u) 5) eNil)=j4 (xew call hs u rec0) 1 2 5 6:=by kernel_rfl
theorem x2b5{rec0:AV->AV->AV->AV->Mem->Nat->O2}:x2ms call hs u xra (j4 rec0 1 2 5 6) (setE 0 (j1 (x1u call hs u) 5) eNil)=j4 (xew call hs u rec0) 1 2 5 6:=sq2 x2b3 x2b4
theorem x2b6{rec0:AV->AV->AV->AV->Mem->Nat->O2}:x2ms call hs u x18i (j4 rec0 1 2 5 6) (setE 0 (j1 (x1u call hs u) 5) eNil)=j4 (xex call hs u rec0) 1 2 5 6:=tr (sqN 1 x2b5)
theorem x2b7:x2ms call hs u x18h (j1 (x1u call hs u) 5) (setE 0 (j1 (x1u call hs u) 5) eNil)=j4 (x54 call hs u NN) 1 2 5 6:=lp (Ln:=fun n=>j4 (x54 call hs u n) 1 2 5 6) fun n=>tr x2b6
theorem x2b8:x2ms call hs u x18g (j1 (x1u call hs u) 5) eNil=j4 (x54 call hs u NN) 1 2 5 6:=bk x2b7
theorem x2b9:x2ms call hs u x18f (j1 (x1u call hs u) 5) eNil=j3 (xey call hs u) 1 2 5:=tr (sqN 1 x2b8)
theorem x2ba:x2ms call hs u xr9 r_0 eNil=j3 (xey call hs u) 1 2 5:=sq2 x2b2 x2b9
theorem x1i6:x2ms call hs u x18e r_0 eNil=j2 (xky call hs u) 0 1:=tr (sqN 2 x2ba)
noncomputable abbrev x31k:=VX x63 25 r_6
noncomputable def x2bb:=x2ia x63
theorem x1i7:x31k call hs u x2bb r_6 eNil=j2 (xkz call hs u) 0 1:=by kernel_rfl
noncomputable abbrev x31l:=VX x3s 24 r_6
noncomputable def x2bc:=x2ia x3s
theorem x1i8:x31l call hs u x2bc r_6 eNil=j2 (xl0 call hs u) 0 1:=by kernel_rfl
noncomputable abbrev x2kj:=VX x3t 51 r_3
noncomputable def x18j:=x2ia x3t
noncomputable def xrb:=nRs 2 x18j
noncomputable def x18k:=nL xrb
noncomputable def x18l:=nR xrb
noncomputable def xrc:=nRs 2 x18l
noncomputable def x18m:=nL xrc
noncomputable def x2bd:=nR xrc
noncomputable def x18n:=nR x18m
noncomputable def x18o:=nR x18n
noncomputable def x18p:=nR x18o
noncomputable def xrd:=nRs 2 x18p
noncomputable def x2be:=nL xrd
noncomputable def x2bf:=nR xrd
noncomputable def x18q:=nR x18k
noncomputable def x18r:=nR x18q
noncomputable def x2bg:=nR x18r
theorem x2bh:x2kj call hs u x2bd r_3 eNil=j1 (x1v call hs u) 4:=by kernel_rfl
theorem x2bi{rec0:AV->AV->AV->AV->AV->AV->Mem->Nat->O2}:x2kj call hs u x2bf (j6 rec0 1 4 6 29 30 31) (setE 2 (j1 (x1v call hs u) 4) eNil)=j6 (x80 call hs u rec0) 1 4 6 29 30 31:=by kernel_rfl
theorem x2bj{rec0:AV->AV->AV->AV->AV->AV->Mem->Nat->O2}:x2kj call hs u x2be (j6 (x80 call hs u rec0) 1 4 6 29 30 31) (setE 2 (j1 (x1v call hs u) 4) eNil)=j6 (xez call hs u rec0) 1 4 6 29 30 31:=by kernel_rfl
theorem x2bk{rec0:AV->AV->AV->AV->AV->AV->Mem->Nat->O2}:x2kj call hs u xrd (j6 rec0 1 4 6 29 30 31) (setE 2 (j1 (x1v call hs u) 4) eNil)=j6 (xez call hs u rec0) 1 4 6 29 30 31:=sq2 x2bi x2bj
theorem x2bl{rec0:AV->AV->AV->AV->AV->AV->Mem->Nat->O2}:x2kj call hs u x18p (j6 rec0 1 4 6 29 30 31) (setE 2 (j1 (x1v call hs u) 4) eNil)=j6 (xf0 call hs u rec0) 1 4 6 29 30 31:=tr (sqN 2 x2bk)
theorem x2bm:x2kj call hs u x18o (j1 (x1v call hs u) 4) (setE 2 (j1 (x1v call hs u) 4) eNil)=j6 (x55 call hs u NN) 1 4 6 29 30 31:=lp (Ln:=fun n=>j6 (x55 call hs u n) 1 4 6 29 30 31) fun n=>tr x2bl
theorem x2bn:x2kj call hs u x18n (j1 (x1v call hs u) 4) eNil=j6 (x55 call hs u NN) 1 4 6 29 30 31:=bk x2bm
theorem x2bo:x2kj call hs u x18m (j1 (x1v call hs u) 4) eNil=j4 (xf1 call hs u) 1 3 4 6:=tr (sqN 1 x2bn)
theorem x2bp:x2kj call hs u xrc r_3 eNil=j4 (xf1 call hs u) 1 3 4 6:=sq2 x2bh x2bo
theorem x2bq:x2kj call hs u x18l r_3 eNil=j3 (x56 call hs u) 1 3 4:=tr (sqN 2 x2bp)
theorem x2br{rec1:AV->AV->AV->AV->AV->Mem->Nat->O2}:x2kj call hs u x2bg (j5 rec1 1 3 4 12 13) (setE 0 (j3 (x56 call hs u) 1 3 4) eNil)=j5 (xf2 call hs u rec1) 1 3 4 12 13:=by kernel_rfl
theorem x2bs:x2kj call hs u x18r (j3 (x56 call hs u) 1 3 4) (setE 0 (j3 (x56 call hs u) 1 3 4) eNil)=j5 (x57 call hs u NN) 1 3 4 12 13:=lp (Ln:=fun n=>j5 (x57 call hs u n) 1 3 4 12 13) fun n=>tr x2br
theorem x2bt:x2kj call hs u x18q (j3 (x56 call hs u) 1 3 4) eNil=j5 (x57 call hs u NN) 1 3 4 12 13:=bk x2bs
theorem x2bu:x2kj call hs u x18k (j3 (x56 call hs u) 1 3 4) eNil=j3 (xf3 call hs u) 1 3 4:=tr (sqN 1 x2bt)
theorem x2bv:x2kj call hs u xrb r_3 eNil=j3 (xf3 call hs u) 1 3 4:=sq2 x2bq x2bu
theorem x1i9:x2kj call hs u x18j r_3 eNil=j1 (xl1 call hs u) 0:=tr (sqN 2 x2bv)
noncomputable abbrev x31m:=VX x7d 21 r_6
noncomputable def x2bw:=x2ia x7d
theorem x1ia:x31m call hs u x2bw r_6 eNil=j2 (xl2 call hs u) 0 1:=by kernel_rfl
noncomputable abbrev x2oy:=VX xc1 26 r_0
noncomputable def x18s:=x2ia xc1
noncomputable def xre:=nRs 2 x18s
noncomputable def x18t:=nL xre
noncomputable def x2bx:=nR xre
noncomputable def x18u:=nR x18t
noncomputable def x18v:=nR x18u
noncomputable def x2by:=nR x18v
theorem x2bz:x2oy call hs u x2bx r_0 eNil=j1 (x6o call hs u) 5:=by kernel_rfl
theorem x2c0{rec0:AV->AV->AV->AV->AV->Mem->Nat->O2}:x2oy call hs u x2by (j5 rec0 0 5 8 9 10) (setE 0 (j1 (x6o call hs u) 5) eNil)=j5 (xts call hs u rec0) 0 5 8 9 10:=by kernel_rfl
theorem x2c1:x2oy call hs u x18v (j1 (x6o call hs u) 5) (setE 0 (j1 (x6o call hs u) 5) eNil)=j5 (x9x call hs u NN) 0 5 8 9 10:=lp (Ln:=fun n=>j5 (x9x call hs u n) 0 5 8 9 10) fun n=>tr x2c0
theorem x2c2:x2oy call hs u x18u (j1 (x6o call hs u) 5) eNil=j5 (x9x call hs u NN) 0 5 8 9 10:=bk x2c1
theorem x2c3:x2oy call hs u x18t (j1 (x6o call hs u) 5) eNil=j3 (xl3 call hs u) 0 1 5:=tr (sqN 1 x2c2)
theorem x2c4:x2oy call hs u xre r_0 eNil=j3 (xl3 call hs u) 0 1 5:=sq2 x2bz x2c3
theorem x1ib:x2oy call hs u x18s r_0 eNil=j2 (xtt call hs u) 0 1:=tr (sqN 2 x2c4)
noncomputable abbrev x31n:=VX x64 6 r_3
noncomputable def x2c5:=x2ia x64
theorem x1ic:x31n call hs u x2c5 r_3 eNil=j1 (xl4 call hs u) 0:=by kernel_rfl
noncomputable abbrev x31o:=VX x65 6 r_3
noncomputable def x2c6:=x2ia x65
theorem x1id:x31o call hs u x2c6 r_3 eNil=j1 (xl5 call hs u) 0:=by kernel_rfl
noncomputable abbrev x2j8:=VX x66 96 r_16
noncomputable def x18w:=x2ia x66
noncomputable def xrf:=nRs 4 x18w
noncomputable def x18x:=nL xrf
noncomputable def x18y:=nR xrf
noncomputable def xrg:=nR x18y
noncomputable def x18z:=nL xrg
noncomputable def x2c7:=nR xrg
noncomputable def x190:=nR x18z
noncomputable def x191:=nR x190
noncomputable def x2c8:=nR x191
noncomputable def x192:=nR x18x
noncomputable def x193:=nR x192
noncomputable def x194:=nR x193
noncomputable def xrh:=nRs 2 x194
noncomputable def x195:=nL xrh
noncomputable def x2c9:=nR xrh
noncomputable def x196:=nR x195
noncomputable def x197:=nR x196
noncomputable def x198:=nR x197
noncomputable def x199:=nR x198
noncomputable def xri:=nR x199
noncomputable def x19a:=nL xri
noncomputable def x2ca:=nR xri
noncomputable def x19b:=nR x19a
noncomputable def x19c:=nR x19b
noncomputable def x19d:=nR x19c
noncomputable def x19e:=nR x19d
noncomputable def xrj:=nR x19e
noncomputable def x2cb:=nL xrj
noncomputable def x2cc:=nR xrj
theorem x2cd:x2j8 call hs u x2c7 r_16 eNil=j1 (x58 call hs u) 16:=by kernel_rfl
theorem x2ce{rec0:AV->AV->AV->AV->AV->Mem->Nat->O2}:x2j8 call hs u x2c8 (j5 rec0 2 4 9 16 17) (setE 6 (j1 (x58 call hs u) 16) eNil)=j5 (xf4 call hs u rec0) 2 4 9 16 17:=by kernel_rfl
theorem x2cf:x2j8 call hs u x191 (j1 (x58 call hs u) 16) (setE 6 (j1 (x58 call hs u) 16) eNil)=j5 (x59 call hs u NN) 2 4 9 16 17:=lp (Ln:=fun n=>j5 (x59 call hs u n) 2 4 9 16 17) fun n=>tr x2ce
theorem x2cg:x2j8 call hs u x190 (j1 (x58 call hs u) 16) eNil=j5 (x59 call hs u NN) 2 4 9 16 17:=bk x2cf
theorem x2ch:x2j8 call hs u x18z (j1 (x58 call hs u) 16) eNil=j5 (xf5 call hs u) 2 3 4 9 16:=tr (sqN 1 x2cg)
theorem x2ci:x2j8 call hs u xrg r_16 eNil=j5 (xf5 call hs u) 2 3 4 9 16:=sq2 x2cd x2ch
theorem x2cj:x2j8 call hs u x18y r_16 eNil=j4 (xb call hs u) 2 3 4 9:=tr (sqN 1 x2ci)
theorem x2ck{rec1:AV->AV->AV->AV->AV->AV->AV->AV->Mem->Nat->O2}:x2j8 call hs u x2c9 (j8 rec1 1 2 3 4 9 10 31 32) (setE 0 (j4 (xb call hs u) 2 3 4 9) eNil)=j8 (x6 call hs u rec1) 1 2 3 4 9 10 31 32:=by kernel_rfl
theorem x2cl{rec1:AV->AV->AV->AV->AV->AV->AV->AV->Mem->Nat->O2}{rec2:AV->AV->AV->AV->AV->AV->AV->AV->AV->Mem->Nat->O2}:x2j8 call hs u x2ca (j9 rec2 1 2 3 4 9 10 11 31 32) (setE 2 (j8 (x6 call hs u rec1) 1 2 3 4 9 10 31 32) (setE 1 (j8 (x6 call hs u rec1) 1 2 3 4 9 10 31 32) (setE 0 (j4 (xb call hs u) 2 3 4 9) eNil)))=j9 (xj call hs u rec1 rec2) 1 2 3 4 9 10 11 31 32:=by kernel_rfl
theorem x2cm{rec1:AV->AV->AV->AV->AV->AV->AV->AV->Mem->Nat->O2}{rec2:AV->AV->AV->AV->AV->AV->AV->AV->AV->Mem->Nat->O2}{rec3:AV->AV->AV->AV->AV->AV->AV->AV->AV->AV->Mem->Nat->O2}:x2j8 call hs u x2cc (j10 rec3 1 2 3 4 9 10 11 12 31 32) (setE 4 (j9 (xj call hs u rec1 rec2) 1 2 3 4 9 10 11 31 32) (setE 3 (j9 (xj call hs u rec1 rec2) 1 2 3 4 9 10 11 31 32) (setE 2 (j8 (x6 call hs u rec1) 1 2 3 4 9 10 31 32) (setE 1 (j8 (x6 call hs u rec1) 1 2 3 4 9 10 31 32) (setE 0 (j4 (xb call hs u) 2 3 4 9) eNil)))))=j10 (x6p call hs u rec1 rec2 rec3) 1 2 3 4 9 10 11 12 31 32:=by kernel_rfl
theorem x2cn{rec1:AV->AV->AV->AV->AV->AV->AV->AV->Mem->Nat->O2}{rec2:AV->AV->AV->AV->AV->AV->AV->AV->AV->Mem->Nat->O2}{rec3:AV->AV->AV->AV->AV->AV->AV->AV->AV->AV->Mem->Nat->O2}:x2j8 call hs u x2cb (j10 (x6p call hs u rec1 rec2 rec3) 1 2 3 4 9 10 11 12 31 32) (setE 4 (j9 (xj call hs u rec1 rec2) 1 2 3 4 9 10 11 31 32) (setE 3 (j9 (xj call hs u rec1 rec2) 1 2 3 4 9 10 11 31 32) (setE 2 (j8 (x6 call hs u rec1) 1 2 3 4 9 10 31 32) (setE 1 (j8 (x6 call hs u rec1) 1 2 3 4 9 10 31 32) (setE 0 (j4 (xb call hs u) 2 3 4 9) eNil)))))=j10 (xf6 call hs u rec1 rec2 rec3) 1 2 3 4 9 10 11 12 31 32:=by kernel_rfl
theorem x2co{rec1:AV->AV->AV->AV->AV->AV->AV->AV->Mem->Nat->O2}{rec2:AV->AV->AV->AV->AV->AV->AV->AV->AV->Mem->Nat->O2}{rec3:AV->AV->AV->AV->AV->AV->AV->AV->AV->AV->Mem->Nat->O2}:x2j8 call hs u xrj (j10 rec3 1 2 3 4 9 10 11 12 31 32) (setE 4 (j9 (xj call hs u rec1 rec2) 1 2 3 4 9 10 11 31 32) (setE 3 (j9 (xj call hs u rec1 rec2) 1 2 3 4 9 10 11 31 32) (setE 2 (j8 (x6 call hs u rec1) 1 2 3 4 9 10 31 32) (setE 1 (j8 (x6 call hs u rec1) 1 2 3 4 9 10 31 32) (setE 0 (j4 (xb call hs u) 2 3 4 9) eNil)))))=j10 (xf6 call hs u rec1 rec2 rec3) 1 2 3 4 9 10 11 12 31 32:=sq2 x2cm x2cn
theorem x2cp{rec1:AV->AV->AV->AV->AV->AV->AV->AV->Mem->Nat->O2}{rec2:AV->AV->AV->AV->AV->AV->AV->AV->AV->Mem->Nat->O2}{rec3:AV->AV->AV->AV->AV->AV->AV->AV->AV->AV->Mem->Nat->O2}:x2j8 call hs u x19e (j10 rec3 1 2 3 4 9 10 11 12 31 32) (setE 4 (j9 (xj call hs u rec1 rec2) 1 2 3 4 9 10 11 31 32) (setE 3 (j9 (xj call hs u rec1 rec2) 1 2 3 4 9 10 11 31 32) (setE 2 (j8 (x6 call hs u rec1) 1 2 3 4 9 10 31 32) (setE 1 (j8 (x6 call hs u rec1) 1 2 3 4 9 10 31 32) (setE 0 (j4 (xb call hs u) 2 3 4 9) eNil)))))=j10 (xf7 call hs u rec1 rec2 rec3) 1 2 3 4 9 10 11 12 31 32:=tr (sqN 1 x2co)
theorem x2cq{rec1:AV->AV->AV->AV->AV->AV->AV->AV->Mem->Nat->O2}{rec2:AV->AV->AV->AV->AV->AV->AV->AV->AV->Mem->Nat->O2}:x2j8 call hs u x19d (j9 (xj call hs u rec1 rec2) 1 2 3 4 9 10 11 31 32) (setE 4 (j9 (xj call hs u rec1 rec2) 1 2 3 4 9 10 11 31 32) (setE 3 (j9 (xj call hs u rec1 rec2) 1 2 3 4 9 10 11 31 32) (setE 2 (j8 (x6 call hs u rec1) 1 2 3 4 9 10 31 32) (setE 1 (j8 (x6 call hs u rec1) 1 2 3 4 9 10 31 32) (setE 0 (j4 (xb call hs u) 2 3 4 9) eNil)))))=j10 (x2c call hs u rec1 rec2 NN) 1 2 3 4 9 10 11 12 31 32:=lp (Ln:=fun n=>j10 (x2c call hs u rec1 rec2 n) 1 2 3 4 9 10 11 12 31 32) fun n=>tr x2cp
theorem x2cr{rec1:AV->AV->AV->AV->AV->AV->AV->AV->Mem->Nat->O2}{rec2:AV->AV->AV->AV->AV->AV->AV->AV->AV->Mem->Nat->O2}:x2j8 call hs u x19c (j9 (xj call hs u rec1 rec2) 1 2 3 4 9 10 11 31 32) (setE 3 (j9 (xj call hs u rec1 rec2) 1 2 3 4 9 10 11 31 32) (setE 2 (j8 (x6 call hs u rec1) 1 2 3 4 9 10 31 32) (setE 1 (j8 (x6 call hs u rec1) 1 2 3 4 9 10 31 32) (setE 0 (j4 (xb call hs u) 2 3 4 9) eNil))))=j10 (x2c call hs u rec1 rec2 NN) 1 2 3 4 9 10 11 12 31 32:=bk x2cq
theorem x2cs{rec1:AV->AV->AV->AV->AV->AV->AV->AV->Mem->Nat->O2}{rec2:AV->AV->AV->AV->AV->AV->AV->AV->AV->Mem->Nat->O2}:x2j8 call hs u x19b (j9 (xj call hs u rec1 rec2) 1 2 3 4 9 10 11 31 32) (setE 3 (j9 (xj call hs u rec1 rec2) 1 2 3 4 9 10 11 31 32) (setE 2 (j8 (x6 call hs u rec1) 1 2 3 4 9 10 31 32) (setE 1 (j8 (x6 call hs u rec1) 1 2 3 4 9 10 31 32) (setE 0 (j4 (xb call hs u) 2 3 4 9) eNil))))=j9 (x9y call hs u rec1 rec2) 1 2 3 4 9 10 11 31 32:=tr (sqN 1 x2cr)
theorem x2ct{rec1:AV->AV->AV->AV->AV->AV->AV->AV->Mem->Nat->O2}{rec2:AV->AV->AV->AV->AV->AV->AV->AV->AV->Mem->Nat->O2}:x2j8 call hs u x19a (j9 (xj call hs u rec1 rec2) 1 2 3 4 9 10 11 31 32) (setE 2 (j8 (x6 call hs u rec1) 1 2 3 4 9 10 31 32) (setE 1 (j8 (x6 call hs u rec1) 1 2 3 4 9 10 31 32) (setE 0 (j4 (xb call hs u) 2 3 4 9) eNil)))=j9 (x9y call hs u rec1 rec2) 1 2 3 4 9 10 11 31 32:=bk x2cs
theorem x2cu{rec1:AV->AV->AV->AV->AV->AV->AV->AV->Mem->Nat->O2}{rec2:AV->AV->AV->AV->AV->AV->AV->AV->AV->Mem->Nat->O2}:x2j8 call hs u xri (j9 rec2 1 2 3 4 9 10 11 31 32) (setE 2 (j8 (x6 call hs u rec1) 1 2 3 4 9 10 31 32) (setE 1 (j8 (x6 call hs u rec1) 1 2 3 4 9 10 31 32) (setE 0 (j4 (xb call hs u) 2 3 4 9) eNil)))=j9 (x9y call hs u rec1 rec2) 1 2 3 4 9 10 11 31 32:=sq2 x2cl x2ct
theorem x2cv{rec1:AV->AV->AV->AV->AV->AV->AV->AV->Mem->Nat->O2}{rec2:AV->AV->AV->AV->AV->AV->AV->AV->AV->Mem->Nat->O2}:x2j8 call hs u x199 (j9 rec2 1 2 3 4 9 10 11 31 32) (setE 2 (j8 (x6 call hs u rec1) 1 2 3 4 9 10 31 32) (setE 1 (j8 (x6 call hs u rec1) 1 2 3 4 9 10 31 32) (setE 0 (j4 (xb call hs u) 2 3 4 9) eNil)))=j9 (xf8 call hs u rec1 rec2) 1 2 3 4 9 10 11 31 32:=tr (sqN 1 x2cu)
theorem x2cw{rec1:AV->AV->AV->AV->AV->AV->AV->AV->Mem->Nat->O2}:x2j8 call hs u x198 (j8 (x6 call hs u rec1) 1 2 3 4 9 10 31 32) (setE 2 (j8 (x6 call hs u rec1) 1 2 3 4 9 10 31 32) (setE 1 (j8 (x6 call hs u rec1) 1 2 3 4 9 10 31 32) (setE 0 (j4 (xb call hs u) 2 3 4 9) eNil)))=j9 (x5a call hs u rec1 NN) 1 2 3 4 9 10 11 31 32:=lp (Ln:=fun n=>j9 (x5a call hs u rec1 n) 1 2 3 4 9 10 11 31 32) fun n=>tr x2cv
theorem x2cx{rec1:AV->AV->AV->AV->AV->AV->AV->AV->Mem->Nat->O2}:x2j8 call hs u x197 (j8 (x6 call hs u rec1) 1 2 3 4 9 10 31 32) (setE 1 (j8 (x6 call hs u rec1) 1 2 3 4 9 10 31 32) (setE 0 (j4 (xb call hs u) 2 3 4 9) eNil))=j9 (x5a call hs u rec1 NN) 1 2 3 4 9 10 11 31 32:=bk x2cw
theorem x2cy{rec1:AV->AV->AV->AV->AV->AV->AV->AV->Mem->Nat->O2}:x2j8 call hs u x196 (j8 (x6 call hs u rec1) 1 2 3 4 9 10 31 32) (setE 1 (j8 (x6 call hs u rec1) 1 2 3 4 9 10 31 32) (setE 0 (j4 (xb call hs u) 2 3 4 9) eNil))=j8 (x9z call hs u rec1) 1 2 3 4 9 10 31 32:=tr (sqN 1 x2cx)
theorem x2cz{rec1:AV->AV->AV->AV->AV->AV->AV->AV->Mem->Nat->O2}:x2j8 call hs u x195 (j8 (x6 call hs u rec1) 1 2 3 4 9 10 31 32) (setE 0 (j4 (xb call hs u) 2 3 4 9) eNil)=j8 (x9z call hs u rec1) 1 2 3 4 9 10 31 32:=bk x2cy
theorem x2d0{rec1:AV->AV->AV->AV->AV->AV->AV->AV->Mem->Nat->O2}:x2j8 call hs u xrh (j8 rec1 1 2 3 4 9 10 31 32) (setE 0 (j4 (xb call hs u) 2 3 4 9) eNil)=j8 (x9z call hs u rec1) 1 2 3 4 9 10 31 32:=sq2 x2ck x2cz
theorem x2d1{rec1:AV->AV->AV->AV->AV->AV->AV->AV->Mem->Nat->O2}:x2j8 call hs u x194 (j8 rec1 1 2 3 4 9 10 31 32) (setE 0 (j4 (xb call hs u) 2 3 4 9) eNil)=j8 (xf9 call hs u rec1) 1 2 3 4 9 10 31 32:=tr (sqN 2 x2d0)
theorem x2d2:x2j8 call hs u x193 (j4 (xb call hs u) 2 3 4 9) (setE 0 (j4 (xb call hs u) 2 3 4 9) eNil)=j8 (x3c call hs u NN) 1 2 3 4 9 10 31 32:=lp (Ln:=fun n=>j8 (x3c call hs u n) 1 2 3 4 9 10 31 32) fun n=>tr x2d1
theorem x2d3:x2j8 call hs u x192 (j4 (xb call hs u) 2 3 4 9) eNil=j8 (x3c call hs u NN) 1 2 3 4 9 10 31 32:=bk x2d2
theorem x2d4:x2j8 call hs u x18x (j4 (xb call hs u) 2 3 4 9) eNil=j6 (xfa call hs u) 1 2 3 4 9 10:=tr (sqN 1 x2d3)
theorem x2d5:x2j8 call hs u xrf r_16 eNil=j6 (xfa call hs u) 1 2 3 4 9 10:=sq2 x2cj x2d4
theorem x1ie:x2j8 call hs u x18w r_16 eNil=j4 (xl6 call hs u) 0 1 2 3:=tr (sqN 4 x2d5)
noncomputable abbrev x2u6:=VX x1k 43 r_17
noncomputable abbrev x2xl:=VX (R:=Mem) x1k 43 fNil
noncomputable def x19f:=x2ia x1k
noncomputable def x19g:=nRs 3 x19f
noncomputable def xgk:=nR x19g
noncomputable def x2d6:=nL xgk
noncomputable def x2d7:=nR xgk
theorem x2d8:x2xl call hs u x2d7 (fun s=>some s.m) eNil=j7 (xfb call hs u) 1 4 5 6 7 8 9:=by kernel_rfl
theorem x2d9:x2xl call hs u x2d6 (j7 (xfb call hs u) 1 4 5 6 7 8 9) eNil=j7 (xfc call hs u) 1 4 5 6 7 17 18:=by kernel_rfl
theorem x2da:x2u6 call hs u xgk r_17 (setE 0 r_17 eNil)=j6 (xfd call hs u) 1 4 5 6 7 16:=tr (rg (C:=xgk) (c:={f:=x1k,u:=u,nt:=43,hs:=hs}) (f:=(.tmp 16)) (ps:=#[17,18]) (fun u=>x2d8) (fun u=>x2d9))
theorem x2db:x2u6 call hs u x19g r_17 eNil=j6 (xfd call hs u) 1 4 5 6 7 16:=bk x2da
theorem x1if:x2u6 call hs u x19f r_17 eNil=j7 (xl7 call hs u) 0 1 2 3 4 5 6:=tr (sqN 3 x2db)
noncomputable abbrev x31p:=VX x7e 8 r_1
noncomputable def x2dc:=x2ia x7e
theorem x1ig:x31p call hs u x2dc r_1 eNil=j3 (xl8 call hs u) 0 1 2:=by kernel_rfl
noncomputable abbrev x2kv:=VX x7f 49 r_3
noncomputable def x19h:=x2ia x7f
noncomputable def xrk:=nRs 2 x19h
noncomputable def x19i:=nL xrk
noncomputable def x2dd:=nR xrk
noncomputable def x19j:=nR x19i
noncomputable def x19k:=nR x19j
noncomputable def x19l:=nR x19k
noncomputable def xrl:=nRs 2 x19l
noncomputable def x19m:=nL xrl
noncomputable def x2de:=nR xrl
noncomputable def x19n:=nR x19m
noncomputable def x19o:=nR x19n
noncomputable def xrm:=nR x19o
noncomputable def x2df:=nL xrm
noncomputable def x2dg:=nR xrm
theorem x2dh:x2kv call hs u x2dd r_3 eNil=j0 (xw call hs u):=by kernel_rfl
theorem x2di{rec0:AV->AV->AV->Mem->Nat->O2}:x2kv call hs u x2de (j3 rec0 13 14 15) (setE 0 (j0 (xw call hs u)) eNil)=j3 (xt call hs u rec0) 13 14 15:=by kernel_rfl
theorem x2dj{rec0:AV->AV->AV->Mem->Nat->O2}:x2kv call hs u x2dg (j3 (xt call hs u rec0) 13 14 15) (setE 2 (j3 (xt call hs u rec0) 13 14 15) (setE 1 (j3 (xt call hs u rec0) 13 14 15) (setE 0 (j0 (xw call hs u)) eNil)))=j6 (xa0 call hs u rec0) 3 4 13 14 15 20:=by kernel_rfl
theorem x2dk{rec0:AV->AV->AV->Mem->Nat->O2}:x2kv call hs u x2df (j6 (xa0 call hs u rec0) 3 4 13 14 15 20) (setE 2 (j3 (xt call hs u rec0) 13 14 15) (setE 1 (j3 (xt call hs u rec0) 13 14 15) (setE 0 (j0 (xw call hs u)) eNil)))=j5 (xa1 call hs u rec0) 3 4 13 14 15:=by kernel_rfl
theorem x2dl{rec0:AV->AV->AV->Mem->Nat->O2}:x2kv call hs u xrm (j3 (xt call hs u rec0) 13 14 15) (setE 2 (j3 (xt call hs u rec0) 13 14 15) (setE 1 (j3 (xt call hs u rec0) 13 14 15) (setE 0 (j0 (xw call hs u)) eNil)))=j5 (xa1 call hs u rec0) 3 4 13 14 15:=sq2 x2dj x2dk
theorem x2dm{rec0:AV->AV->AV->Mem->Nat->O2}:x2kv call hs u x19o (j3 (xt call hs u rec0) 13 14 15) (setE 1 (j3 (xt call hs u rec0) 13 14 15) (setE 0 (j0 (xw call hs u)) eNil))=j5 (xa1 call hs u rec0) 3 4 13 14 15:=bk x2dl
theorem x2dn{rec0:AV->AV->AV->Mem->Nat->O2}:x2kv call hs u x19n (j3 (xt call hs u rec0) 13 14 15) (setE 1 (j3 (xt call hs u rec0) 13 14 15) (setE 0 (j0 (xw call hs u)) eNil))=j3 (xa2 call hs u rec0) 13 14 15:=tr (sqN 1 x2dm)
theorem x2do{rec0:AV->AV->AV->Mem->Nat->O2}:x2kv call hs u x19m (j3 (xt call hs u rec0) 13 14 15) (setE 0 (j0 (xw call hs u)) eNil)=j3 (xa2 call hs u rec0) 13 14 15:=bk x2dn
theorem x2dp{rec0:AV->AV->AV->Mem->Nat->O2}:x2kv call hs u xrl (j3 rec0 13 14 15) (setE 0 (j0 (xw call hs u)) eNil)=j3 (xa2 call hs u rec0) 13 14 15:=sq2 x2di x2do
theorem x2dq{rec0:AV->AV->AV->Mem->Nat->O2}:x2kv call hs u x19l (j3 rec0 13 14 15) (setE 0 (j0 (xw call hs u)) eNil)=j3 (xfe call hs u rec0) 13 14 15:=tr (sqN 2 x2dp)
theorem x2dr:x2kv call hs u x19k (j0 (xw call hs u)) (setE 0 (j0 (xw call hs u)) eNil)=j3 (x3d call hs u NN) 13 14 15:=lp (Ln:=fun n=>j3 (x3d call hs u n) 13 14 15) fun n=>tr x2dq
theorem x2ds:x2kv call hs u x19j (j0 (xw call hs u)) eNil=j3 (x3d call hs u NN) 13 14 15:=bk x2dr
theorem x2dt:x2kv call hs u x19i (j0 (xw call hs u)) eNil=j1 (xff call hs u) 0:=tr (sqN 1 x2ds)
theorem x2du:x2kv call hs u xrk r_3 eNil=j1 (xff call hs u) 0:=sq2 x2dh x2dt
theorem x1ih:x2kv call hs u x19h r_3 eNil=j1 (xl9 call hs u) 0:=tr (sqN 2 x2du)
noncomputable abbrev x31q:=VX x7g 9 r_0
noncomputable def x2dv:=x2ia x7g
theorem x1ii:x31q call hs u x2dv r_0 eNil=j2 (xla call hs u) 0 1:=by kernel_rfl
noncomputable abbrev x31r:=VX xu 9 r_15
noncomputable def x2dw:=x2ia xu
theorem x1ij:x31r call hs u x2dw r_15 eNil=j2 (xlb call hs u) 0 1:=by kernel_rfl
noncomputable abbrev x2oz:=VX x7h 66 r_8
noncomputable def x19p:=x2ia x7h
noncomputable def xrn:=nRs 4 x19p
noncomputable def x19q:=nL xrn
noncomputable def x2dx:=nR xrn
noncomputable def x19r:=nR x19q
noncomputable def x19s:=nR x19r
noncomputable def x2dy:=nR x19s
theorem x2dz:x2oz call hs u x2dx r_8 eNil=j0 (x5b call hs u):=by kernel_rfl
theorem x2e0{rec0:AV->AV->AV->AV->AV->Mem->Nat->O2}:x2oz call hs u x2dy (j5 rec0 1 6 26 27 28) (setE 0 (j0 (x5b call hs u)) eNil)=j5 (xfg call hs u rec0) 1 6 26 27 28:=by kernel_rfl
theorem x2e1:x2oz call hs u x19s (j0 (x5b call hs u)) (setE 0 (j0 (x5b call hs u)) eNil)=j5 (x3e call hs u NN) 1 6 26 27 28:=lp (Ln:=fun n=>j5 (x3e call hs u n) 1 6 26 27 28) fun n=>tr x2e0
theorem x2e2:x2oz call hs u x19r (j0 (x5b call hs u)) eNil=j5 (x3e call hs u NN) 1 6 26 27 28:=bk x2e1
theorem x2e3:x2oz call hs u x19q (j0 (x5b call hs u)) eNil=j2 (xfh call hs u) 1 6:=tr (sqN 1 x2e2)
theorem x2e4:x2oz call hs u xrn r_8 eNil=j2 (xfh call hs u) 1 6:=sq2 x2dz x2e3
theorem x1ik:x2oz call hs u x19p r_8 eNil=j1 (xld call hs u) 0:=tr (sqN 4 x2e4)
noncomputable abbrev x2p0:=VX xc2 19 r_0
noncomputable def x19t:=x2ia xc2
noncomputable def xro:=nR x19t
noncomputable def x19u:=nL xro
noncomputable def x2e5:=nR xro
noncomputable def x19v:=nR x19u
noncomputable def x19w:=nR x19v
noncomputable def x2e6:=nR x19w
theorem x2e7:x2p0 call hs u x2e5 r_0 eNil=j0 (x6q call hs u):=by kernel_rfl
theorem x2e8{rec0:AV->AV->AV->AV->Mem->Nat->O2}:x2p0 call hs u x2e6 (j4 rec0 0 1 7 8) (setE 0 (j0 (x6q call hs u)) eNil)=j4 (xtu call hs u rec0) 0 1 7 8:=by kernel_rfl
theorem x2e9:x2p0 call hs u x19w (j0 (x6q call hs u)) (setE 0 (j0 (x6q call hs u)) eNil)=j4 (xa4 call hs u NN) 0 1 7 8:=lp (Ln:=fun n=>j4 (xa4 call hs u n) 0 1 7 8) fun n=>tr x2e8
theorem x2ea:x2p0 call hs u x19v (j0 (x6q call hs u)) eNil=j4 (xa4 call hs u NN) 0 1 7 8:=bk x2e9
theorem x2eb:x2p0 call hs u x19u (j0 (x6q call hs u)) eNil=j2 (xle call hs u) 0 1:=tr (sqN 1 x2ea)
theorem x2ec:x2p0 call hs u xro r_0 eNil=j2 (xle call hs u) 0 1:=sq2 x2e7 x2eb
theorem x1il:x2p0 call hs u x19t r_0 eNil=j2 (xtv call hs u) 0 1:=tr (sqN 1 x2ec)
noncomputable abbrev x31s:=VX x3u 41 r_0
noncomputable def x2ed:=x2ia x3u
theorem x1im:x31s call hs u x2ed r_0 eNil=j2 (xlf call hs u) 0 1:=by kernel_rfl
noncomputable abbrev x2p1:=VX x5u 19 r_0
noncomputable def x19x:=x2ia x5u
noncomputable def xrp:=nR x19x
noncomputable def x19y:=nL xrp
noncomputable def x2ee:=nR xrp
noncomputable def x19z:=nR x19y
noncomputable def x1a0:=nR x19z
noncomputable def x2ef:=nR x1a0
theorem x2eg:x2p1 call hs u x2ee r_0 eNil=j0 (x5c call hs u):=by kernel_rfl
theorem x2eh{rec0:AV->AV->AV->AV->Mem->Nat->O2}:x2p1 call hs u x2ef (j4 rec0 0 1 7 8) (setE 0 (j0 (x5c call hs u)) eNil)=j4 (xfi call hs u rec0) 0 1 7 8:=by kernel_rfl
theorem x2ei:x2p1 call hs u x1a0 (j0 (x5c call hs u)) (setE 0 (j0 (x5c call hs u)) eNil)=j4 (x5d call hs u NN) 0 1 7 8:=lp (Ln:=fun n=>j4 (x5d call hs u n) 0 1 7 8) fun n=>tr x2eh
theorem x2ej:x2p1 call hs u x19z (j0 (x5c call hs u)) eNil=j4 (x5d call hs u NN) 0 1 7 8:=bk x2ei
theorem x2ek:x2p1 call hs u x19y (j0 (x5c call hs u)) eNil=j2 (xfj call hs u) 0 1:=tr (sqN 1 x2ej)
theorem x2el:x2p1 call hs u xrp r_0 eNil=j2 (xfj call hs u) 0 1:=sq2 x2eg x2ek
theorem x1g4:x2p1 call hs u x19x r_0 eNil=j2 (xlg call hs u) 0 1:=tr (sqN 1 x2el)
noncomputable abbrev x2p2:=VX x7i 59 r_10
noncomputable def x1a1:=x2ia x7i
noncomputable def xrq:=nRs 4 x1a1
noncomputable def x1a2:=nL xrq
noncomputable def x2em:=nR xrq
noncomputable def x1a3:=nR x1a2
noncomputable def x1a4:=nR x1a3
noncomputable def x2en:=nR x1a4
theorem x2eo:x2p2 call hs u x2em r_10 eNil=j2 (x5e call hs u) 2 5:=by kernel_rfl
theorem x2ep{rec0:AV->AV->AV->AV->AV->AV->AV->Mem->Nat->O2}:x2p2 call hs u x2en (j7 rec0 1 2 4 5 25 26 27) (setE 0 (j2 (x5e call hs u) 2 5) eNil)=j7 (xfk call hs u rec0) 1 2 4 5 25 26 27:=by kernel_rfl
theorem x2eq:x2p2 call hs u x1a4 (j2 (x5e call hs u) 2 5) (setE 0 (j2 (x5e call hs u) 2 5) eNil)=j7 (x5f call hs u NN) 1 2 4 5 25 26 27:=lp (Ln:=fun n=>j7 (x5f call hs u n) 1 2 4 5 25 26 27) fun n=>tr x2ep
theorem x2er:x2p2 call hs u x1a3 (j2 (x5e call hs u) 2 5) eNil=j7 (x5f call hs u NN) 1 2 4 5 25 26 27:=bk x2eq
theorem x2es:x2p2 call hs u x1a2 (j2 (x5e call hs u) 2 5) eNil=j4 (xfl call hs u) 1 2 4 5:=tr (sqN 1 x2er)
theorem x2et:x2p2 call hs u xrq r_10 eNil=j4 (xfl call hs u) 1 2 4 5:=sq2 x2eo x2es
theorem x1in:x2p2 call hs u x1a1 r_10 eNil=j1 (xlh call hs u) 0:=tr (sqN 4 x2et)
noncomputable abbrev x31t:=VX x3v 14 r_18
noncomputable def x2eu:=x2ia x3v
theorem x1io:x31t call hs u x2eu r_18 eNil=j1 (xli call hs u) 0:=by kernel_rfl
noncomputable abbrev x2p3:=VX xc3 26 r_3
noncomputable def x1a5:=x2ia xc3
noncomputable def xrr:=nRs 3 x1a5
noncomputable def x1a6:=nL xrr
noncomputable def x2ev:=nR xrr
noncomputable def x1a7:=nR x1a6
noncomputable def x1a8:=nR x1a7
noncomputable def x2ew:=nR x1a8
theorem x2ex:x2p3 call hs u x2ev r_3 eNil=j2 (x6r call hs u) 1 4:=by kernel_rfl
theorem x2ey{rec0:AV->AV->AV->AV->AV->Mem->Nat->O2}:x2p3 call hs u x2ew (j5 rec0 1 3 4 10 11) (setE 0 (j2 (x6r call hs u) 1 4) eNil)=j5 (xtw call hs u rec0) 1 3 4 10 11:=by kernel_rfl
theorem x2ez:x2p3 call hs u x1a8 (j2 (x6r call hs u) 1 4) (setE 0 (j2 (x6r call hs u) 1 4) eNil)=j5 (xa5 call hs u NN) 1 3 4 10 11:=lp (Ln:=fun n=>j5 (xa5 call hs u n) 1 3 4 10 11) fun n=>tr x2ey
theorem x2f0:x2p3 call hs u x1a7 (j2 (x6r call hs u) 1 4) eNil=j5 (xa5 call hs u NN) 1 3 4 10 11:=bk x2ez
theorem x2f1:x2p3 call hs u x1a6 (j2 (x6r call hs u) 1 4) eNil=j3 (xlj call hs u) 1 3 4:=tr (sqN 1 x2f0)
theorem x2f2:x2p3 call hs u xrr r_3 eNil=j3 (xlj call hs u) 1 3 4:=sq2 x2ex x2f1
theorem x1ip:x2p3 call hs u x1a5 r_3 eNil=j1 (xtx call hs u) 0:=tr (sqN 3 x2f2)
noncomputable abbrev x2k1:=VX x8u 64 r_3
noncomputable def x1a9:=x2ia x8u
noncomputable def xrs:=nRs 2 x1a9
noncomputable def x1aa:=nL xrs
noncomputable def x1ab:=nR xrs
noncomputable def xrt:=nRs 2 x1ab
noncomputable def x1ac:=nL xrt
noncomputable def x2f3:=nR xrt
noncomputable def x1ad:=nR x1ac
noncomputable def x1ae:=nR x1ad
noncomputable def x1af:=nR x1ae
noncomputable def xru:=nRs 2 x1af
noncomputable def x1ag:=nL xru
noncomputable def x2f4:=nR xru
noncomputable def x1ah:=nR x1ag
noncomputable def xrv:=nR x1ah
noncomputable def x2f5:=nL xrv
noncomputable def x2f6:=nR xrv
noncomputable def x1ai:=nR x1aa
noncomputable def x2f7:=nR x1ai
theorem x2f8:x2k1 call hs u x2f3 r_3 eNil=j1 (x18 call hs u) 3:=by kernel_rfl
theorem x2f9{rec0:AV->AV->AV->AV->AV->Mem->Nat->O2}:x2k1 call hs u x2f4 (j5 rec0 3 6 26 27 28) (setE 2 (j1 (x18 call hs u) 3) eNil)=j5 (x2d call hs u rec0) 3 6 26 27 28:=by kernel_rfl
theorem x2fa{rec0:AV->AV->AV->AV->AV->Mem->Nat->O2}:x2k1 call hs u x2f6 (j5 (x2d call hs u rec0) 3 6 26 27 28) (setE 3 (j5 (x2d call hs u rec0) 3 6 26 27 28) (setE 2 (j1 (x18 call hs u) 3) eNil))=j7 (xfm call hs u rec0) 3 6 7 8 26 27 28:=by kernel_rfl
theorem x2fb{rec0:AV->AV->AV->AV->AV->Mem->Nat->O2}:x2k1 call hs u x2f5 (j7 (xfm call hs u rec0) 3 6 7 8 26 27 28) (setE 3 (j5 (x2d call hs u rec0) 3 6 26 27 28) (setE 2 (j1 (x18 call hs u) 3) eNil))=j7 (xll call hs u rec0) 3 6 7 8 26 27 28:=by kernel_rfl
theorem x2fc{rec0:AV->AV->AV->AV->AV->Mem->Nat->O2}:x2k1 call hs u xrv (j5 (x2d call hs u rec0) 3 6 26 27 28) (setE 3 (j5 (x2d call hs u rec0) 3 6 26 27 28) (setE 2 (j1 (x18 call hs u) 3) eNil))=j7 (xll call hs u rec0) 3 6 7 8 26 27 28:=sq2 x2fa x2fb
theorem x2fd{rec0:AV->AV->AV->AV->AV->Mem->Nat->O2}:x2k1 call hs u x1ah (j5 (x2d call hs u rec0) 3 6 26 27 28) (setE 3 (j5 (x2d call hs u rec0) 3 6 26 27 28) (setE 2 (j1 (x18 call hs u) 3) eNil))=j5 (xfn call hs u rec0) 3 6 26 27 28:=tr (sqN 1 x2fc)
theorem x2fe{rec0:AV->AV->AV->AV->AV->Mem->Nat->O2}:x2k1 call hs u x1ag (j5 (x2d call hs u rec0) 3 6 26 27 28) (setE 2 (j1 (x18 call hs u) 3) eNil)=j5 (xfn call hs u rec0) 3 6 26 27 28:=bk x2fd
theorem x2ff{rec0:AV->AV->AV->AV->AV->Mem->Nat->O2}:x2k1 call hs u xru (j5 rec0 3 6 26 27 28) (setE 2 (j1 (x18 call hs u) 3) eNil)=j5 (xfn call hs u rec0) 3 6 26 27 28:=sq2 x2f9 x2fe
theorem x2fg{rec0:AV->AV->AV->AV->AV->Mem->Nat->O2}:x2k1 call hs u x1af (j5 rec0 3 6 26 27 28) (setE 2 (j1 (x18 call hs u) 3) eNil)=j5 (xtz call hs u rec0) 3 6 26 27 28:=tr (sqN 2 x2ff)
theorem x2fh:x2k1 call hs u x1ae (j1 (x18 call hs u) 3) (setE 2 (j1 (x18 call hs u) 3) eNil)=j5 (xa6 call hs u NN) 3 6 26 27 28:=lp (Ln:=fun n=>j5 (xa6 call hs u n) 3 6 26 27 28) fun n=>tr x2fg
theorem x2fi:x2k1 call hs u x1ad (j1 (x18 call hs u) 3) eNil=j5 (xa6 call hs u NN) 3 6 26 27 28:=bk x2fh
theorem x2fj:x2k1 call hs u x1ac (j1 (x18 call hs u) 3) eNil=j3 (xlm call hs u) 3 5 6:=tr (sqN 1 x2fi)
theorem x2fk:x2k1 call hs u xrt r_3 eNil=j3 (xlm call hs u) 3 5 6:=sq2 x2f8 x2fj
theorem x2fl:x2k1 call hs u x1ab r_3 eNil=j2 (x81 call hs u) 1 3:=tr (sqN 2 x2fk)
theorem x2fm{rec1:AV->AV->Mem->Nat->O2}:x2k1 call hs u x2f7 (j2 rec1 1 3) (setE 0 (j2 (x81 call hs u) 1 3) eNil)=j2 (xu0 call hs u rec1) 1 3:=by kernel_rfl
theorem x2fn:x2k1 call hs u x1ai (j2 (x81 call hs u) 1 3) (setE 0 (j2 (x81 call hs u) 1 3) eNil)=j2 (x82 call hs u NN) 1 3:=lp (Ln:=fun n=>j2 (x82 call hs u n) 1 3) fun n=>tr x2fm
theorem x2fo:x2k1 call hs u x1aa (j2 (x81 call hs u) 1 3) eNil=j2 (x82 call hs u NN) 1 3:=bk x2fn
theorem x2fp:x2k1 call hs u xrs r_3 eNil=j2 (x82 call hs u NN) 1 3:=sq2 x2fl x2fo
theorem x1iq:x2k1 call hs u x1a9 r_3 eNil=j1 (xu1 call hs u) 0:=tr (sqN 2 x2fp)
noncomputable abbrev x2p4:=VX xc4 27 r_0
noncomputable def x1aj:=x2ia xc4
noncomputable def xrw:=nRs 2 x1aj
noncomputable def x1ak:=nL xrw
noncomputable def x2fq:=nR xrw
noncomputable def x1al:=nR x1ak
noncomputable def x1am:=nR x1al
noncomputable def x2fr:=nR x1am
theorem x2fs:x2p4 call hs u x2fq r_0 eNil=j1 (x6s call hs u) 5:=by kernel_rfl
theorem x2ft{rec0:AV->AV->AV->AV->AV->Mem->Nat->O2}:x2p4 call hs u x2fr (j5 rec0 1 5 10 11 12) (setE 0 (j1 (x6s call hs u) 5) eNil)=j5 (xu2 call hs u rec0) 1 5 10 11 12:=by kernel_rfl
theorem x2fu:x2p4 call hs u x1am (j1 (x6s call hs u) 5) (setE 0 (j1 (x6s call hs u) 5) eNil)=j5 (xa7 call hs u NN) 1 5 10 11 12:=lp (Ln:=fun n=>j5 (xa7 call hs u n) 1 5 10 11 12) fun n=>tr x2ft
theorem x2fv:x2p4 call hs u x1al (j1 (x6s call hs u) 5) eNil=j5 (xa7 call hs u NN) 1 5 10 11 12:=bk x2fu
theorem x2fw:x2p4 call hs u x1ak (j1 (x6s call hs u) 5) eNil=j3 (xln call hs u) 1 2 5:=tr (sqN 1 x2fv)
theorem x2fx:x2p4 call hs u xrw r_0 eNil=j3 (xln call hs u) 1 2 5:=sq2 x2fs x2fw
theorem x1ir:x2p4 call hs u x1aj r_0 eNil=j2 (xu3 call hs u) 0 1:=tr (sqN 2 x2fx)
noncomputable abbrev x31u:=VX x7j 9 r_17
noncomputable def x2fy:=x2ia x7j
theorem x1is:x31u call hs u x2fy r_17 eNil=j2 (xlo call hs u) 0 1:=by kernel_rfl
noncomputable abbrev x31v:=VX x67 13 r_19
noncomputable def x2fz:=x2ia x67
theorem x1it:x31v call hs u x2fz r_19 eNil=j3 (xlp call hs u) 0 1 2:=by kernel_rfl
noncomputable abbrev x31w:=VX x7k 11 r_17
noncomputable def x2g0:=x2ia x7k
theorem x1iu:x31w call hs u x2g0 r_17 eNil=j1 (xlq call hs u) 0:=by kernel_rfl
noncomputable abbrev x2p5:=VX x7l 76 r_6
noncomputable def x1an:=x2ia x7l
noncomputable def xrx:=nRs 3 x1an
noncomputable def x1ao:=nL xrx
noncomputable def x2g1:=nR xrx
noncomputable def x1ap:=nR x1ao
noncomputable def x1aq:=nR x1ap
noncomputable def x2g2:=nR x1aq
theorem x2g3:x2p5 call hs u x2g1 r_6 eNil=j2 (x5g call hs u) 6 7:=by kernel_rfl
theorem x2g4{rec0:AV->AV->AV->AV->AV->AV->Mem->Nat->O2}:x2p5 call hs u x2g2 (j6 rec0 1 6 7 23 24 25) (setE 0 (j2 (x5g call hs u) 6 7) eNil)=j6 (xfo call hs u rec0) 1 6 7 23 24 25:=by kernel_rfl
theorem x2g5:x2p5 call hs u x1aq (j2 (x5g call hs u) 6 7) (setE 0 (j2 (x5g call hs u) 6 7) eNil)=j6 (x5h call hs u NN) 1 6 7 23 24 25:=lp (Ln:=fun n=>j6 (x5h call hs u n) 1 6 7 23 24 25) fun n=>tr x2g4
theorem x2g6:x2p5 call hs u x1ap (j2 (x5g call hs u) 6 7) eNil=j6 (x5h call hs u NN) 1 6 7 23 24 25:=bk x2g5
theorem x2g7:x2p5 call hs u x1ao (j2 (x5g call hs u) 6 7) eNil=j4 (xfp call hs u) 1 2 6 7:=tr (sqN 1 x2g6)
theorem x2g8:x2p5 call hs u xrx r_6 eNil=j4 (xfp call hs u) 1 2 6 7:=sq2 x2g3 x2g7
theorem x1iv:x2p5 call hs u x1an r_6 eNil=j2 (xlr call hs u) 0 1:=tr (sqN 3 x2g8)
noncomputable abbrev x2m7:=VX x3w 43 r_17
noncomputable def x1ar:=x2ia x3w
noncomputable def x1as:=nR x1ar
noncomputable def x1at:=nR x1as
noncomputable def x1au:=nR x1at
noncomputable def xry:=nRs 2 x1au
noncomputable def x1av:=nL xry
noncomputable def x2g9:=nR xry
noncomputable def x1aw:=nR x1av
noncomputable def x1ax:=nRs 2 x1aw
noncomputable def x1ay:=nR x1ax
noncomputable def x2ga:=nR x1ay
theorem x2gb{rec0:AV->AV->AV->AV->AV->AV->Mem->Nat->O2}:x2m7 call hs u x2g9 (j6 rec0 0 2 3 12 13 14) (setE 0 r_17 eNil)=j6 (x1f call hs u rec0) 0 2 3 12 13 14:=by kernel_rfl
theorem x2gc{rec0:AV->AV->AV->AV->AV->AV->Mem->Nat->O2}{rec1:AV->AV->AV->AV->AV->AV->AV->AV->AV->Mem->Nat->O2}:x2m7 call hs u x2ga (j9 rec1 0 2 3 6 12 13 14 18 19) (setE 2 (j6 (x1f call hs u rec0) 0 2 3 12 13 14) (setE 1 (j6 (x1f call hs u rec0) 0 2 3 12 13 14) (setE 0 r_17 eNil)))=j9 (xfq call hs u rec0 rec1) 0 2 3 6 12 13 14 18 19:=by kernel_rfl
theorem x2gd{rec0:AV->AV->AV->AV->AV->AV->Mem->Nat->O2}:x2m7 call hs u x1ay (j6 (x1f call hs u rec0) 0 2 3 12 13 14) (setE 2 (j6 (x1f call hs u rec0) 0 2 3 12 13 14) (setE 1 (j6 (x1f call hs u rec0) 0 2 3 12 13 14) (setE 0 r_17 eNil)))=j9 (x3f call hs u rec0 NN) 0 2 3 6 12 13 14 18 19:=lp (Ln:=fun n=>j9 (x3f call hs u rec0 n) 0 2 3 6 12 13 14 18 19) fun n=>tr x2gc
theorem x2ge{rec0:AV->AV->AV->AV->AV->AV->Mem->Nat->O2}:x2m7 call hs u x1ax (j6 (x1f call hs u rec0) 0 2 3 12 13 14) (setE 1 (j6 (x1f call hs u rec0) 0 2 3 12 13 14) (setE 0 r_17 eNil))=j9 (x3f call hs u rec0 NN) 0 2 3 6 12 13 14 18 19:=bk x2gd
theorem x2gf{rec0:AV->AV->AV->AV->AV->AV->Mem->Nat->O2}:x2m7 call hs u x1aw (j6 (x1f call hs u rec0) 0 2 3 12 13 14) (setE 1 (j6 (x1f call hs u rec0) 0 2 3 12 13 14) (setE 0 r_17 eNil))=j6 (xa9 call hs u rec0) 0 2 3 12 13 14:=tr (sqN 2 x2ge)
theorem x2gg{rec0:AV->AV->AV->AV->AV->AV->Mem->Nat->O2}:x2m7 call hs u x1av (j6 (x1f call hs u rec0) 0 2 3 12 13 14) (setE 0 r_17 eNil)=j6 (xa9 call hs u rec0) 0 2 3 12 13 14:=bk x2gf
theorem x2gh{rec0:AV->AV->AV->AV->AV->AV->Mem->Nat->O2}:x2m7 call hs u xry (j6 rec0 0 2 3 12 13 14) (setE 0 r_17 eNil)=j6 (xa9 call hs u rec0) 0 2 3 12 13 14:=sq2 x2gb x2gg
theorem x2gi{rec0:AV->AV->AV->AV->AV->AV->Mem->Nat->O2}:x2m7 call hs u x1au (j6 rec0 0 2 3 12 13 14) (setE 0 r_17 eNil)=j6 (xfr call hs u rec0) 0 2 3 12 13 14:=tr (sqN 2 x2gh)
theorem x2gj:x2m7 call hs u x1at r_17 (setE 0 r_17 eNil)=j6 (x2e call hs u NN) 0 2 3 12 13 14:=lp (Ln:=fun n=>j6 (x2e call hs u n) 0 2 3 12 13 14) fun n=>tr x2gi
theorem x2gk:x2m7 call hs u x1as r_17 eNil=j6 (x2e call hs u NN) 0 2 3 12 13 14:=bk x2gj
theorem x1iw:x2m7 call hs u x1ar r_17 eNil=j4 (xls call hs u) 0 1 2 3:=tr (sqN 1 x2gk)
noncomputable abbrev x2p6:=VX x7m 19 r_0
noncomputable def x1az:=x2ia x7m
noncomputable def xrz:=nR x1az
noncomputable def x1b0:=nL xrz
noncomputable def x2gl:=nR xrz
noncomputable def x1b1:=nR x1b0
noncomputable def x1b2:=nR x1b1
noncomputable def x2gm:=nR x1b2
theorem x2gn:x2p6 call hs u x2gl r_0 eNil=j0 (x5i call hs u):=by kernel_rfl
theorem x2go{rec0:AV->AV->AV->AV->Mem->Nat->O2}:x2p6 call hs u x2gm (j4 rec0 0 1 7 8) (setE 0 (j0 (x5i call hs u)) eNil)=j4 (xfs call hs u rec0) 0 1 7 8:=by kernel_rfl
theorem x2gp:x2p6 call hs u x1b2 (j0 (x5i call hs u)) (setE 0 (j0 (x5i call hs u)) eNil)=j4 (x5j call hs u NN) 0 1 7 8:=lp (Ln:=fun n=>j4 (x5j call hs u n) 0 1 7 8) fun n=>tr x2go
theorem x2gq:x2p6 call hs u x1b1 (j0 (x5i call hs u)) eNil=j4 (x5j call hs u NN) 0 1 7 8:=bk x2gp
theorem x2gr:x2p6 call hs u x1b0 (j0 (x5i call hs u)) eNil=j2 (xft call hs u) 0 1:=tr (sqN 1 x2gq)
theorem x2gs:x2p6 call hs u xrz r_0 eNil=j2 (xft call hs u) 0 1:=sq2 x2gn x2gr
theorem x1ix:x2p6 call hs u x1az r_0 eNil=j2 (xlt call hs u) 0 1:=tr (sqN 1 x2gs)
noncomputable abbrev x31x:=VX x68 6 r_3
noncomputable def x2gt:=x2ia x68
theorem x1iy:x31x call hs u x2gt r_3 eNil=j1 (xlu call hs u) 0:=by kernel_rfl
noncomputable abbrev x2p7:=VX x69 62 r_8
noncomputable def x1b3:=x2ia x69
noncomputable def xs0:=nRs 2 x1b3
noncomputable def x1b4:=nL xs0
noncomputable def x2gu:=nR xs0
noncomputable def x1b5:=nR x1b4
noncomputable def x1b6:=nR x1b5
noncomputable def x2gv:=nR x1b6
theorem x2gw:x2p7 call hs u x2gu r_8 eNil=j0 (x5k call hs u):=by kernel_rfl
theorem x2gx{rec0:AV->AV->AV->AV->Mem->Nat->O2}:x2p7 call hs u x2gv (j4 rec0 1 17 18 19) (setE 1 (j0 (x5k call hs u)) eNil)=j4 (xfu call hs u rec0) 1 17 18 19:=by kernel_rfl
theorem x2gy:x2p7 call hs u x1b6 (j0 (x5k call hs u)) (setE 1 (j0 (x5k call hs u)) eNil)=j4 (x5l call hs u NN) 1 17 18 19:=lp (Ln:=fun n=>j4 (x5l call hs u n) 1 17 18 19) fun n=>tr x2gx
theorem x2gz:x2p7 call hs u x1b5 (j0 (x5k call hs u)) eNil=j4 (x5l call hs u NN) 1 17 18 19:=bk x2gy
theorem x2h0:x2p7 call hs u x1b4 (j0 (x5k call hs u)) eNil=j1 (xfv call hs u) 1:=tr (sqN 1 x2gz)
theorem x2h1:x2p7 call hs u xs0 r_8 eNil=j1 (xfv call hs u) 1:=sq2 x2gw x2h0
theorem x1iz:x2p7 call hs u x1b3 r_8 eNil=j1 (xlv call hs u) 0:=tr (sqN 2 x2h1)
noncomputable abbrev x2mt:=VX xc5 47 r_0
noncomputable def x1b7:=x2ia xc5
noncomputable def xs1:=nRs 2 x1b7
noncomputable def x1b8:=nL xs1
noncomputable def x2h2:=nR xs1
noncomputable def x1b9:=nR x1b8
noncomputable def x1ba:=nR x1b9
noncomputable def x1bb:=nR x1ba
noncomputable def xs2:=nRs 2 x1bb
noncomputable def x2h3:=nL xs2
noncomputable def x2h4:=nR xs2
theorem x2h5:x2mt call hs u x2h2 r_0 eNil=j1 (x2f call hs u) 5:=by kernel_rfl
theorem x2h6{rec0:AV->AV->AV->AV->AV->Mem->Nat->O2}:x2mt call hs u x2h4 (j5 rec0 0 1 5 12 13) (setE 0 (j1 (x2f call hs u) 5) eNil)=j5 (xfw call hs u rec0) 0 1 5 12 13:=by kernel_rfl
theorem x2h7{rec0:AV->AV->AV->AV->AV->Mem->Nat->O2}:x2mt call hs u x2h3 (j5 (xfw call hs u rec0) 0 1 5 12 13) (setE 0 (j1 (x2f call hs u) 5) eNil)=j5 (xlw call hs u rec0) 0 1 5 12 13:=by kernel_rfl
theorem x2h8{rec0:AV->AV->AV->AV->AV->Mem->Nat->O2}:x2mt call hs u xs2 (j5 rec0 0 1 5 12 13) (setE 0 (j1 (x2f call hs u) 5) eNil)=j5 (xlw call hs u rec0) 0 1 5 12 13:=sq2 x2h6 x2h7
theorem x2h9{rec0:AV->AV->AV->AV->AV->Mem->Nat->O2}:x2mt call hs u x1bb (j5 rec0 0 1 5 12 13) (setE 0 (j1 (x2f call hs u) 5) eNil)=j5 (xu5 call hs u rec0) 0 1 5 12 13:=tr (sqN 2 x2h8)
theorem x2ha:x2mt call hs u x1ba (j1 (x2f call hs u) 5) (setE 0 (j1 (x2f call hs u) 5) eNil)=j5 (xaa call hs u NN) 0 1 5 12 13:=lp (Ln:=fun n=>j5 (xaa call hs u n) 0 1 5 12 13) fun n=>tr x2h9
theorem x2hb:x2mt call hs u x1b9 (j1 (x2f call hs u) 5) eNil=j5 (xaa call hs u NN) 0 1 5 12 13:=bk x2ha
theorem x2hc:x2mt call hs u x1b8 (j1 (x2f call hs u) 5) eNil=j3 (xlx call hs u) 0 1 5:=tr (sqN 1 x2hb)
theorem x2hd:x2mt call hs u xs1 r_0 eNil=j3 (xlx call hs u) 0 1 5:=sq2 x2h5 x2hc
theorem x1j0:x2mt call hs u x1b7 r_0 eNil=j2 (xu6 call hs u) 0 1:=tr (sqN 2 x2hd)
noncomputable abbrev x2kk:=VX x8v 45 r_0
noncomputable def x1bc:=x2ia x8v
noncomputable def xs3:=nRs 3 x1bc
noncomputable def x1bd:=nL xs3
noncomputable def x2he:=nR xs3
noncomputable def x1be:=nR x1bd
noncomputable def x1bf:=nR x1be
noncomputable def x1bg:=nR x1bf
noncomputable def xs4:=nRs 2 x1bg
noncomputable def x1bh:=nL xs4
noncomputable def x2hf:=nR xs4
noncomputable def x1bi:=nR x1bh
noncomputable def xs5:=nRs 4 x1bi
noncomputable def x1bj:=nL xs5
noncomputable def x2hg:=nR xs5
noncomputable def x1bk:=nR x1bj
noncomputable def x2hh:=nR x1bk
theorem x2hi:x2kk call hs u x2he r_0 eNil=j1 (xx call hs u) 5:=by kernel_rfl
theorem x2hj{rec0:AV->AV->AV->AV->AV->Mem->Nat->O2}:x2kk call hs u x2hf (j5 rec0 1 5 6 14 15) (setE 0 (j1 (xx call hs u) 5) eNil)=j5 (x1g call hs u rec0) 1 5 6 14 15:=by kernel_rfl
theorem x2hk{rec0:AV->AV->AV->AV->AV->Mem->Nat->O2}:x2kk call hs u x2hg (j5 (x1g call hs u rec0) 1 5 6 14 15) (setE 1 (j5 (x1g call hs u rec0) 1 5 6 14 15) (setE 0 (j1 (xx call hs u) 5) eNil))=j5 (x83 call hs u rec0) 1 5 6 14 15:=by kernel_rfl
theorem x2hl{rec0:AV->AV->AV->AV->AV->Mem->Nat->O2}{rec1:AV->AV->AV->AV->AV->AV->Mem->Nat->O2}:x2kk call hs u x2hh (j6 rec1 1 5 6 8 14 15) (setE 2 (j5 (x83 call hs u rec0) 1 5 6 14 15) (setE 1 (j5 (x1g call hs u rec0) 1 5 6 14 15) (setE 0 (j1 (xx call hs u) 5) eNil)))=j6 (xu7 call hs u rec0 rec1) 1 5 6 8 14 15:=by kernel_rfl
theorem x2hm{rec0:AV->AV->AV->AV->AV->Mem->Nat->O2}:x2kk call hs u x1bk (j5 (x83 call hs u rec0) 1 5 6 14 15) (setE 2 (j5 (x83 call hs u rec0) 1 5 6 14 15) (setE 1 (j5 (x1g call hs u rec0) 1 5 6 14 15) (setE 0 (j1 (xx call hs u) 5) eNil)))=j6 (x84 call hs u rec0 NN) 1 5 6 8 14 15:=lp (Ln:=fun n=>j6 (x84 call hs u rec0 n) 1 5 6 8 14 15) fun n=>tr x2hl
theorem x2hn{rec0:AV->AV->AV->AV->AV->Mem->Nat->O2}:x2kk call hs u x1bj (j5 (x83 call hs u rec0) 1 5 6 14 15) (setE 1 (j5 (x1g call hs u rec0) 1 5 6 14 15) (setE 0 (j1 (xx call hs u) 5) eNil))=j6 (x84 call hs u rec0 NN) 1 5 6 8 14 15:=bk x2hm
theorem x2ho{rec0:AV->AV->AV->AV->AV->Mem->Nat->O2}:x2kk call hs u xs5 (j5 (x1g call hs u rec0) 1 5 6 14 15) (setE 1 (j5 (x1g call hs u rec0) 1 5 6 14 15) (setE 0 (j1 (xx call hs u) 5) eNil))=j6 (x84 call hs u rec0 NN) 1 5 6 8 14 15:=sq2 x2hk x2hn
theorem x2hp{rec0:AV->AV->AV->AV->AV->Mem->Nat->O2}:x2kk call hs u x1bi (j5 (x1g call hs u rec0) 1 5 6 14 15) (setE 1 (j5 (x1g call hs u rec0) 1 5 6 14 15) (setE 0 (j1 (xx call hs u) 5) eNil))=j5 (xfx call hs u rec0) 1 5 6 14 15:=tr (sqN 4 x2ho)
theorem x2hq{rec0:AV->AV->AV->AV->AV->Mem->Nat->O2}:x2kk call hs u x1bh (j5 (x1g call hs u rec0) 1 5 6 14 15) (setE 0 (j1 (xx call hs u) 5) eNil)=j5 (xfx call hs u rec0) 1 5 6 14 15:=bk x2hp
theorem x2hr{rec0:AV->AV->AV->AV->AV->Mem->Nat->O2}:x2kk call hs u xs4 (j5 rec0 1 5 6 14 15) (setE 0 (j1 (xx call hs u) 5) eNil)=j5 (xfx call hs u rec0) 1 5 6 14 15:=sq2 x2hj x2hq
theorem x2hs{rec0:AV->AV->AV->AV->AV->Mem->Nat->O2}:x2kk call hs u x1bg (j5 rec0 1 5 6 14 15) (setE 0 (j1 (xx call hs u) 5) eNil)=j5 (xu8 call hs u rec0) 1 5 6 14 15:=tr (sqN 2 x2hr)
theorem x2ht:x2kk call hs u x1bf (j1 (xx call hs u) 5) (setE 0 (j1 (xx call hs u) 5) eNil)=j5 (xac call hs u NN) 1 5 6 14 15:=lp (Ln:=fun n=>j5 (xac call hs u n) 1 5 6 14 15) fun n=>tr x2hs
theorem x2hu:x2kk call hs u x1be (j1 (xx call hs u) 5) eNil=j5 (xac call hs u NN) 1 5 6 14 15:=bk x2ht
theorem x2hv:x2kk call hs u x1bd (j1 (xx call hs u) 5) eNil=j3 (xly call hs u) 1 5 6:=tr (sqN 1 x2hu)
theorem x2hw:x2kk call hs u xs3 r_0 eNil=j3 (xly call hs u) 1 5 6:=sq2 x2hi x2hv
theorem x1j1:x2kk call hs u x1bc r_0 eNil=j2 (xu9 call hs u) 0 1:=tr (sqN 3 x2hw)
noncomputable abbrev x2p8:=VX xbf 53 r_17
noncomputable def x1bl:=x2ia xbf
noncomputable def x1bm:=nR x1bl
noncomputable def x1bn:=nR x1bm
noncomputable def x1bo:=nR x1bn
noncomputable def xs6:=nRs 2 x1bo
noncomputable def x2hx:=nL xs6
noncomputable def x2hy:=nR xs6
theorem x2hz{rec0:AV->AV->AV->AV->AV->Mem->Nat->O2}:x2p8 call hs u x2hy (j5 rec0 0 1 3 9 10) (setE 0 r_17 eNil)=j5 (xfy call hs u rec0) 0 1 3 9 10:=by kernel_rfl
theorem x2i0{rec0:AV->AV->AV->AV->AV->Mem->Nat->O2}:x2p8 call hs u x2hx (j5 (xfy call hs u rec0) 0 1 3 9 10) (setE 0 r_17 eNil)=j5 (xlz call hs u rec0) 0 1 3 9 10:=by kernel_rfl
theorem x2i1{rec0:AV->AV->AV->AV->AV->Mem->Nat->O2}:x2p8 call hs u xs6 (j5 rec0 0 1 3 9 10) (setE 0 r_17 eNil)=j5 (xlz call hs u rec0) 0 1 3 9 10:=sq2 x2hz x2i0
theorem x2i2{rec0:AV->AV->AV->AV->AV->Mem->Nat->O2}:x2p8 call hs u x1bo (j5 rec0 0 1 3 9 10) (setE 0 r_17 eNil)=j5 (xua call hs u rec0) 0 1 3 9 10:=tr (sqN 2 x2i1)
theorem x2i3:x2p8 call hs u x1bn r_17 (setE 0 r_17 eNil)=j5 (xad call hs u NN) 0 1 3 9 10:=lp (Ln:=fun n=>j5 (xad call hs u n) 0 1 3 9 10) fun n=>tr x2i2
theorem x2i4:x2p8 call hs u x1bm r_17 eNil=j5 (xad call hs u NN) 0 1 3 9 10:=bk x2i3
theorem x1g1:x2p8 call hs u x1bl r_17 eNil=j4 (xub call hs u) 0 1 2 3:=tr (sqN 1 x2i4)
end Go.Ix
