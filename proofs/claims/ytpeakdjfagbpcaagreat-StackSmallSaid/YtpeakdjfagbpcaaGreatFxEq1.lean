import Derived.Test.YtpeakdjfagbpcaaGreatFxText0
import Derived.Test.YtpeakdjfagbpcaaGreatFxText1
import Derived.Test.YtpeakdjfagbpcaaGreatFxEnt
import Derived.Test.YtpeakdjfagbpcaaGreatFxRules
import Derived.Test.YtpeakdjfagbpcaaGreatFxProj
import Derived.ProofKit
set_option linter.unusedVariables false
namespace Go.Ix
open Go.Proofs
variable{call:x1nj}{hs:FHs}{u:Nat}
noncomputable abbrev x1oe:=VX x7y 168 r_19
noncomputable def xky:=x1nn x7y
noncomputable def xcm:=nRs 3 xky
noncomputable def xkz:=nL xcm
noncomputable def xcn:=nR xcm
noncomputable def xl0:=nL xcn
noncomputable def xl1:=nR xcn
noncomputable def xco:=nRs 4 xl1
noncomputable def xl2:=nL xco
noncomputable def x10t:=nR xco
noncomputable def xl3:=nR xl2
noncomputable def xl4:=nR xl3
noncomputable def xcp:=nR xl4
noncomputable def xl5:=nL xcp
noncomputable def xcq:=nR xcp
noncomputable def xl6:=nL xcq
noncomputable def x10u:=nR xcq
noncomputable def xl7:=nR xl6
noncomputable def x10v:=nR xl7
noncomputable def xl8:=nR xl5
noncomputable def x10w:=nR xl8
noncomputable def xl9:=nR xl0
noncomputable def x10x:=nR xl9
noncomputable def xla:=nR xkz
noncomputable def x10y:=nR xla
theorem x10z:x1oe call hs u x10t r_19 eNil=j3 (xl call hs u) 0 1 11:=by kernel_rfl
theorem x110{rec0:AV->AV->AV->AV->Mem->Nat->O2}:x1oe call hs u x10u (j4 rec0 0 1 10 11) (setE 5 (j4 rec0 0 1 10 11) (setE 4 (j3 (xl call hs u) 0 1 11) eNil))=j4 (x40 call hs u rec0) 0 1 10 11:=by kernel_rfl
theorem x111{rec0:AV->AV->AV->AV->Mem->Nat->O2}{rec1:AV->AV->AV->AV->Mem->Nat->O2}:x1oe call hs u x10v (j4 rec1 0 1 10 11) (setE 8 (j4 (x40 call hs u rec0) 0 1 10 11) (setE 5 (j4 rec0 0 1 10 11) (setE 4 (j3 (xl call hs u) 0 1 11) eNil)))=j4 (xk4 call hs u rec0 rec1) 0 1 10 11:=by kernel_rfl
theorem x112{rec0:AV->AV->AV->AV->Mem->Nat->O2}:x1oe call hs u xl7 (j4 (x40 call hs u rec0) 0 1 10 11) (setE 8 (j4 (x40 call hs u rec0) 0 1 10 11) (setE 5 (j4 rec0 0 1 10 11) (setE 4 (j3 (xl call hs u) 0 1 11) eNil)))=j4 (x1k call hs u rec0 NN) 0 1 10 11:=lp (Ln:=fun n=>j4 (x1k call hs u rec0 n) 0 1 10 11) fun n=>tr x111
theorem x113{rec0:AV->AV->AV->AV->Mem->Nat->O2}:x1oe call hs u xl6 (j4 (x40 call hs u rec0) 0 1 10 11) (setE 5 (j4 rec0 0 1 10 11) (setE 4 (j3 (xl call hs u) 0 1 11) eNil))=j4 (x1k call hs u rec0 NN) 0 1 10 11:=bk x112
theorem x114{rec0:AV->AV->AV->AV->Mem->Nat->O2}:x1oe call hs u xcq (j4 rec0 0 1 10 11) (setE 5 (j4 rec0 0 1 10 11) (setE 4 (j3 (xl call hs u) 0 1 11) eNil))=j4 (x1k call hs u rec0 NN) 0 1 10 11:=sq2 x110 x113
theorem x115{rec0:AV->AV->AV->AV->Mem->Nat->O2}{rec2:AV->AV->AV->AV->Mem->Nat->O2}:x1oe call hs u x10w (j4 rec2 0 1 10 11) (setE 6 (j4 (x1k call hs u rec0 NN) 0 1 10 11) (setE 5 (j4 rec0 0 1 10 11) (setE 4 (j3 (xl call hs u) 0 1 11) eNil)))=j4 (xk5 call hs u rec0 rec2) 0 1 10 11:=by kernel_rfl
theorem x116{rec0:AV->AV->AV->AV->Mem->Nat->O2}:x1oe call hs u xl8 (j4 (x1k call hs u rec0 NN) 0 1 10 11) (setE 6 (j4 (x1k call hs u rec0 NN) 0 1 10 11) (setE 5 (j4 rec0 0 1 10 11) (setE 4 (j3 (xl call hs u) 0 1 11) eNil)))=j4 (x33 call hs u rec0 NN) 0 1 10 11:=lp (Ln:=fun n=>j4 (x33 call hs u rec0 n) 0 1 10 11) fun n=>tr x115
theorem x117{rec0:AV->AV->AV->AV->Mem->Nat->O2}:x1oe call hs u xl5 (j4 (x1k call hs u rec0 NN) 0 1 10 11) (setE 5 (j4 rec0 0 1 10 11) (setE 4 (j3 (xl call hs u) 0 1 11) eNil))=j4 (x33 call hs u rec0 NN) 0 1 10 11:=bk x116
theorem x118{rec0:AV->AV->AV->AV->Mem->Nat->O2}:x1oe call hs u xcp (j4 rec0 0 1 10 11) (setE 5 (j4 rec0 0 1 10 11) (setE 4 (j3 (xl call hs u) 0 1 11) eNil))=j4 (x33 call hs u rec0 NN) 0 1 10 11:=sq2 x114 x117
theorem x119{rec0:AV->AV->AV->AV->Mem->Nat->O2}:x1oe call hs u xl4 (j4 rec0 0 1 10 11) (setE 4 (j3 (xl call hs u) 0 1 11) eNil)=j4 (x33 call hs u rec0 NN) 0 1 10 11:=bk x118
theorem x11a:x1oe call hs u xl3 (j3 (xl call hs u) 0 1 11) (setE 4 (j3 (xl call hs u) 0 1 11) eNil)=j4 (x41 call hs u NN) 0 1 10 11:=lp (Ln:=fun n=>j4 (x41 call hs u n) 0 1 10 11) fun n=>tr x119
theorem x11b:x1oe call hs u xl2 (j3 (xl call hs u) 0 1 11) eNil=j4 (x41 call hs u NN) 0 1 10 11:=bk x11a
theorem x11c:x1oe call hs u xco r_19 eNil=j4 (x41 call hs u NN) 0 1 10 11:=sq2 x10z x11b
theorem x11d:x1oe call hs u xl1 r_19 eNil=j4 (x42 call hs u) 0 1 10 11:=tr (sqN 4 x11c)
theorem x11e{rec3:AV->AV->AV->AV->Mem->Nat->O2}:x1oe call hs u x10x (j4 rec3 0 1 10 11) (setE 2 (j4 (x42 call hs u) 0 1 10 11) eNil)=j4 (xk6 call hs u rec3) 0 1 10 11:=by kernel_rfl
theorem x11f:x1oe call hs u xl9 (j4 (x42 call hs u) 0 1 10 11) (setE 2 (j4 (x42 call hs u) 0 1 10 11) eNil)=j4 (x1l call hs u NN) 0 1 10 11:=lp (Ln:=fun n=>j4 (x1l call hs u n) 0 1 10 11) fun n=>tr x11e
theorem x11g:x1oe call hs u xl0 (j4 (x42 call hs u) 0 1 10 11) eNil=j4 (x1l call hs u NN) 0 1 10 11:=bk x11f
theorem x11h:x1oe call hs u xcn r_19 eNil=j4 (x1l call hs u NN) 0 1 10 11:=sq2 x11d x11g
theorem x11i{rec4:AV->AV->AV->AV->Mem->Nat->O2}:x1oe call hs u x10y (j4 rec4 0 1 10 11) (setE 0 (j4 (x1l call hs u NN) 0 1 10 11) eNil)=j4 (xk7 call hs u rec4) 0 1 10 11:=by kernel_rfl
theorem x11j:x1oe call hs u xla (j4 (x1l call hs u NN) 0 1 10 11) (setE 0 (j4 (x1l call hs u NN) 0 1 10 11) eNil)=j4 (x43 call hs u NN) 0 1 10 11:=lp (Ln:=fun n=>j4 (x43 call hs u n) 0 1 10 11) fun n=>tr x11i
theorem x11k:x1oe call hs u xkz (j4 (x1l call hs u NN) 0 1 10 11) eNil=j4 (x43 call hs u NN) 0 1 10 11:=bk x11j
theorem x11l:x1oe call hs u xcm r_19 eNil=j4 (x43 call hs u NN) 0 1 10 11:=sq2 x11h x11k
theorem x107:x1oe call hs u xky r_19 eNil=j4 (xk8 call hs u) 0 1 2 3:=tr (sqN 3 x11l)
noncomputable abbrev x1s8:=VX x7z 19 r_8
noncomputable def xlb:=x1nn x7z
noncomputable def xcr:=nR xlb
noncomputable def x11m:=nL xcr
noncomputable def xcs:=nR xcr
noncomputable def x11n:=nL xcs
noncomputable def x11o:=nR xcs
theorem x11p:x1s8 call hs u x11o r_8 eNil=j2 (x9n call hs u) 0 2:=by kernel_rfl
theorem x11q:x1s8 call hs u x11n (j2 (x9n call hs u) 0 2) eNil=j2 (x6k call hs u) 0 2:=by kernel_rfl
theorem x11r:x1s8 call hs u xcs r_8 eNil=j2 (x6k call hs u) 0 2:=sq2 x11p x11q
theorem x11s:x1s8 call hs u x11m (j2 (x6k call hs u) 0 2) eNil=j2 (xch call hs u) 0 2:=by kernel_rfl
theorem x11t:x1s8 call hs u xcr r_8 eNil=j2 (xch call hs u) 0 2:=sq2 x11r x11s
theorem x108:x1s8 call hs u xlb r_8 eNil=j1 (xk9 call hs u) 0:=tr (sqN 1 x11t)
noncomputable abbrev x1r0:=VX x80 25 r_8
noncomputable def xlc:=x1nn x80
noncomputable def xct:=nR xlc
noncomputable def x11u:=nL xct
noncomputable def xcu:=nR xct
noncomputable def x11v:=nL xcu
noncomputable def xcv:=nR xcu
noncomputable def x11w:=nL xcv
noncomputable def x11x:=nR xcv
theorem x11y:x1r0 call hs u x11x r_8 eNil=j2 (x9o call hs u) 0 2:=by kernel_rfl
theorem x11z:x1r0 call hs u x11w (j2 (x9o call hs u) 0 2) eNil=j2 (x6l call hs u) 0 2:=by kernel_rfl
theorem x120:x1r0 call hs u xcv r_8 eNil=j2 (x6l call hs u) 0 2:=sq2 x11y x11z
theorem x121:x1r0 call hs u x11v (j2 (x6l call hs u) 0 2) eNil=j2 (x6m call hs u) 0 2:=by kernel_rfl
theorem x122:x1r0 call hs u xcu r_8 eNil=j2 (x6m call hs u) 0 2:=sq2 x120 x121
theorem x123:x1r0 call hs u x11u (j2 (x6m call hs u) 0 2) eNil=j2 (xci call hs u) 0 2:=by kernel_rfl
theorem x124:x1r0 call hs u xct r_8 eNil=j2 (xci call hs u) 0 2:=sq2 x122 x123
theorem x109:x1r0 call hs u xlc r_8 eNil=j1 (xka call hs u) 0:=tr (sqN 1 x124)
noncomputable abbrev x1yh:=VX x6s 6 r_3
noncomputable def x125:=x1nn x6s
theorem xxw:x1yh call hs u x125 r_3 eNil=j2 (xkb call hs u) 0 1:=by kernel_rfl
noncomputable abbrev x1yi:=VX x81 30 r_12
noncomputable def x126:=x1nn x81
theorem x10a:x1yi call hs u x126 r_12 eNil=j2 (xkc call hs u) 0 1:=by kernel_rfl
noncomputable abbrev x1s9:=VX x82 58 r_13
noncomputable def xld:=x1nn x82
noncomputable def xcw:=nRs 2 xld
noncomputable def xle:=nL xcw
noncomputable def x127:=nR xcw
noncomputable def xlf:=nR xle
noncomputable def x128:=nR xlf
theorem x129:x1s9 call hs u x127 r_13 eNil=j4 (x44 call hs u) 0 2 4 10:=by kernel_rfl
theorem x12a{rec0:AV->AV->AV->AV->AV->Mem->Nat->O2}:x1s9 call hs u x128 (j5 rec0 0 2 4 10 11) (setE 0 (j4 (x44 call hs u) 0 2 4 10) eNil)=j5 (xkd call hs u rec0) 0 2 4 10 11:=by kernel_rfl
theorem x12b:x1s9 call hs u xlf (j4 (x44 call hs u) 0 2 4 10) (setE 0 (j4 (x44 call hs u) 0 2 4 10) eNil)=j5 (x45 call hs u NN) 0 2 4 10 11:=lp (Ln:=fun n=>j5 (x45 call hs u n) 0 2 4 10 11) fun n=>tr x12a
theorem x12c:x1s9 call hs u xle (j4 (x44 call hs u) 0 2 4 10) eNil=j5 (x45 call hs u NN) 0 2 4 10 11:=bk x12b
theorem x12d:x1s9 call hs u xcw r_13 eNil=j5 (x45 call hs u NN) 0 2 4 10 11:=sq2 x129 x12c
theorem x10b:x1s9 call hs u xld r_13 eNil=j5 (xke call hs u) 0 1 2 3 4:=tr (sqN 2 x12d)
noncomputable abbrev x1r1:=VX x4o 76 r_13
noncomputable def xlg:=x1nn x4o
noncomputable def xlh:=nR xlg
noncomputable def xli:=nR xlh
noncomputable def xlj:=nR xli
noncomputable def xlk:=nR xlj
noncomputable def xcx:=nRs 2 xlk
noncomputable def x12e:=nL xcx
noncomputable def x12f:=nR xcx
theorem x12g{rec0:AV->AV->AV->AV->Mem->Nat->O2}:x1r1 call hs u x12f (j4 rec0 0 2 3 8) (setE 1 (j4 rec0 0 2 3 8) (setE 0 r_13 eNil))=j5 (x9p call hs u rec0) 0 2 3 8 9:=by kernel_rfl
theorem x12h{rec0:AV->AV->AV->AV->Mem->Nat->O2}:x1r1 call hs u x12e (j5 (x9p call hs u rec0) 0 2 3 8 9) (setE 1 (j4 rec0 0 2 3 8) (setE 0 r_13 eNil))=j5 (xcj call hs u rec0) 0 2 3 8 9:=by kernel_rfl
theorem x12i{rec0:AV->AV->AV->AV->Mem->Nat->O2}:x1r1 call hs u xcx (j4 rec0 0 2 3 8) (setE 1 (j4 rec0 0 2 3 8) (setE 0 r_13 eNil))=j5 (xcj call hs u rec0) 0 2 3 8 9:=sq2 x12g x12h
theorem x12j{rec0:AV->AV->AV->AV->Mem->Nat->O2}:x1r1 call hs u xlk (j4 rec0 0 2 3 8) (setE 1 (j4 rec0 0 2 3 8) (setE 0 r_13 eNil))=j4 (xck call hs u rec0) 0 2 3 8:=tr (sqN 2 x12i)
theorem x12k{rec0:AV->AV->AV->AV->Mem->Nat->O2}:x1r1 call hs u xlj (j4 rec0 0 2 3 8) (setE 0 r_13 eNil)=j4 (xck call hs u rec0) 0 2 3 8:=bk x12j
theorem x12l:x1r1 call hs u xli r_13 (setE 0 r_13 eNil)=j4 (x6n call hs u NN) 0 2 3 8:=lp (Ln:=fun n=>j4 (x6n call hs u n) 0 2 3 8) fun n=>tr x12k
theorem x12m:x1r1 call hs u xlh r_13 eNil=j4 (x6n call hs u NN) 0 2 3 8:=bk x12l
theorem x10c:x1r1 call hs u xlg r_13 eNil=j4 (xkf call hs u) 0 1 2 3:=tr (sqN 1 x12m)
noncomputable abbrev x1yj:=VX x83 7 r_8
noncomputable def x12n:=x1nn x83
theorem x10d:x1yj call hs u x12n r_8 eNil=j1 (xkg call hs u) 0:=by kernel_rfl
noncomputable abbrev x1yk:=VX x84 33 r_8
noncomputable def x12o:=x1nn x84
theorem x10e:x1yk call hs u x12o r_8 eNil=j1 (xkh call hs u) 0:=by kernel_rfl
noncomputable abbrev x1yl:=VX x3h 15 r_0
noncomputable def x12p:=x1nn x3h
theorem x10f:x1yl call hs u x12p r_0 eNil=j3 (xki call hs u) 0 1 2:=by kernel_rfl
noncomputable abbrev x1ym:=VX x4p 36 r_20
noncomputable def x12q:=x1nn x4p
theorem x10g:x1ym call hs u x12q r_20 eNil=j5 (xkj call hs u) 0 1 2 3 4:=by kernel_rfl
noncomputable abbrev x1yn:=VX x4q 6 r_8
noncomputable def x12r:=x1nn x4q
theorem x10h:x1yn call hs u x12r r_8 eNil=j1 (xkk call hs u) 0:=by kernel_rfl
noncomputable abbrev x1pt:=VX x6q 76 r_13
noncomputable def xll:=x1nn x6q
noncomputable def xlm:=nR xll
noncomputable def xln:=nR xlm
noncomputable def xlo:=nR xln
noncomputable def xcy:=nRs 2 xlo
noncomputable def xlp:=nL xcy
noncomputable def x12s:=nR xcy
noncomputable def xlq:=nR xlp
noncomputable def xcz:=nRs 3 xlq
noncomputable def x12t:=nL xcz
noncomputable def x12u:=nR xcz
theorem x12v{rec0:AV->AV->AV->AV->AV->AV->Mem->Nat->O2}:x1pt call hs u x12s (j6 rec0 0 1 2 14 15 16) (setE 0 r_13 eNil)=j6 (x1m call hs u rec0) 0 1 2 14 15 16:=by kernel_rfl
theorem x12w{rec0:AV->AV->AV->AV->AV->AV->Mem->Nat->O2}:x1pt call hs u x12u (j6 (x1m call hs u rec0) 0 1 2 14 15 16) (setE 1 (j6 (x1m call hs u rec0) 0 1 2 14 15 16) (setE 0 r_13 eNil))=j7 (x9q call hs u rec0) 0 1 2 7 14 15 16:=by kernel_rfl
theorem x12x{rec0:AV->AV->AV->AV->AV->AV->Mem->Nat->O2}:x1pt call hs u x12t (j7 (x9q call hs u rec0) 0 1 2 7 14 15 16) (setE 1 (j6 (x1m call hs u rec0) 0 1 2 14 15 16) (setE 0 r_13 eNil))=j9 (xcl call hs u rec0) 0 1 2 5 6 7 14 15 16:=by kernel_rfl
theorem x12y{rec0:AV->AV->AV->AV->AV->AV->Mem->Nat->O2}:x1pt call hs u xcz (j6 (x1m call hs u rec0) 0 1 2 14 15 16) (setE 1 (j6 (x1m call hs u rec0) 0 1 2 14 15 16) (setE 0 r_13 eNil))=j9 (xcl call hs u rec0) 0 1 2 5 6 7 14 15 16:=sq2 x12w x12x
theorem x12z{rec0:AV->AV->AV->AV->AV->AV->Mem->Nat->O2}:x1pt call hs u xlq (j6 (x1m call hs u rec0) 0 1 2 14 15 16) (setE 1 (j6 (x1m call hs u rec0) 0 1 2 14 15 16) (setE 0 r_13 eNil))=j6 (x9r call hs u rec0) 0 1 2 14 15 16:=tr (sqN 3 x12y)
theorem x130{rec0:AV->AV->AV->AV->AV->AV->Mem->Nat->O2}:x1pt call hs u xlp (j6 (x1m call hs u rec0) 0 1 2 14 15 16) (setE 0 r_13 eNil)=j6 (x9r call hs u rec0) 0 1 2 14 15 16:=bk x12z
theorem x131{rec0:AV->AV->AV->AV->AV->AV->Mem->Nat->O2}:x1pt call hs u xcy (j6 rec0 0 1 2 14 15 16) (setE 0 r_13 eNil)=j6 (x9r call hs u rec0) 0 1 2 14 15 16:=sq2 x12v x130
theorem x132{rec0:AV->AV->AV->AV->AV->AV->Mem->Nat->O2}:x1pt call hs u xlo (j6 rec0 0 1 2 14 15 16) (setE 0 r_13 eNil)=j6 (xkl call hs u rec0) 0 1 2 14 15 16:=tr (sqN 2 x131)
theorem x133:x1pt call hs u xln r_13 (setE 0 r_13 eNil)=j6 (x6o call hs u NN) 0 1 2 14 15 16:=lp (Ln:=fun n=>j6 (x6o call hs u n) 0 1 2 14 15 16) fun n=>tr x132
theorem x134:x1pt call hs u xlm r_13 eNil=j6 (x6o call hs u NN) 0 1 2 14 15 16:=bk x133
theorem xxs:x1pt call hs u xll r_13 eNil=j3 (xkm call hs u) 0 1 2:=tr (sqN 1 x134)
noncomputable abbrev x1yo:=VX x85 17 r_12
noncomputable def x135:=x1nn x85
theorem x10i:x1yo call hs u x135 r_12 eNil=j2 (xkn call hs u) 0 1:=by kernel_rfl
noncomputable abbrev x1yp:=VX x6u 51 r_12
noncomputable def x136:=x1nn x6u
theorem xxy:x1yp call hs u x136 r_12 eNil=j2 (xko call hs u) 0 1:=by kernel_rfl
noncomputable abbrev x1tp:=VX x3i 38 r_13
noncomputable def xlr:=x1nn x3i
noncomputable def xls:=nR xlr
noncomputable def xlt:=nR xls
noncomputable def x137:=nR xlt
theorem x138{rec0:AV->AV->AV->AV->AV->Mem->Nat->O2}:x1tp call hs u x137 (j5 rec0 0 1 2 3 10) (setE 0 r_13 eNil)=j5 (xkp call hs u rec0) 0 1 2 3 10:=by kernel_rfl
theorem x139:x1tp call hs u xlt r_13 (setE 0 r_13 eNil)=j5 (x6p call hs u NN) 0 1 2 3 10:=lp (Ln:=fun n=>j5 (x6p call hs u n) 0 1 2 3 10) fun n=>tr x138
theorem x13a:x1tp call hs u xls r_13 eNil=j5 (x6p call hs u NN) 0 1 2 3 10:=bk x139
theorem x10j:x1tp call hs u xlr r_13 eNil=j4 (xkq call hs u) 0 1 2 3:=tr (sqN 1 x13a)
noncomputable abbrev x1yq:=VX x3j 28 r_19
noncomputable def x13b:=x1nn x3j
theorem x10k:x1yq call hs u x13b r_19 eNil=j4 (xkr call hs u) 0 1 2 3:=by kernel_rfl
end Go.Ix
