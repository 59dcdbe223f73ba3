import Derived.Test.YtpeakdjfagbpcaaGreatFxText0
import Derived.Test.YtpeakdjfagbpcaaGreatFxText1
import Derived.Test.YtpeakdjfagbpcaaGreatFxEnt
import Derived.Test.YtpeakdjfagbpcaaGreatFxRules
import Derived.Test.YtpeakdjfagbpcaaGreatFxProj
import Derived.ProofKit
set_option linter.unusedVariables false
namespace Go.Ix
open Go.Proofs
variable{call:x1nj}{hs:FHs}{u:Nat}
noncomputable abbrev x1q4:=VX x47 88 r_0
noncomputable def xlu:=x1nn x47
noncomputable def xd0:=nRs 3 xlu
noncomputable def xlv:=nL xd0
noncomputable def xlw:=nR xd0
noncomputable def xd1:=nRs 2 xlw
noncomputable def x13c:=nL xd1
noncomputable def x13d:=nR xd1
noncomputable def xlx:=nR xlv
noncomputable def xly:=nR xlx
noncomputable def x13e:=nR xly
theorem x13f:x1q4 call hs u x13d r_0 eNil=j6 (x1x call hs u) 0 1 2 8 9 11:=by kernel_rfl
theorem x13g:x1q4 call hs u x13c (j6 (x1x call hs u) 0 1 2 8 9 11) eNil=j6 (x86 call hs u) 0 1 2 8 9 11:=by kernel_rfl
theorem x13h:x1q4 call hs u xd1 r_0 eNil=j6 (x86 call hs u) 0 1 2 8 9 11:=sq2 x13f x13g
theorem x13i:x1q4 call hs u xlw r_0 eNil=j3 (x1y call hs u) 0 1 2:=tr (sqN 2 x13h)
theorem x13j{rec0:AV->AV->AV->AV->Mem->Nat->O2}:x1q4 call hs u x13e (j4 rec0 0 1 2 7) (setE 0 (j3 (x1y call hs u) 0 1 2) eNil)=j4 (x87 call hs u rec0) 0 1 2 7:=by kernel_rfl
theorem x13k:x1q4 call hs u xly (j3 (x1y call hs u) 0 1 2) (setE 0 (j3 (x1y call hs u) 0 1 2) eNil)=j4 (x1z call hs u NN) 0 1 2 7:=lp (Ln:=fun n=>j4 (x1z call hs u n) 0 1 2 7) fun n=>tr x13j
theorem x13l:x1q4 call hs u xlx (j3 (x1y call hs u) 0 1 2) eNil=j4 (x1z call hs u NN) 0 1 2 7:=bk x13k
theorem x13m:x1q4 call hs u xlv (j3 (x1y call hs u) 0 1 2) eNil=j3 (x88 call hs u) 0 1 2:=tr (sqN 1 x13l)
theorem x13n:x1q4 call hs u xd0 r_0 eNil=j3 (x88 call hs u) 0 1 2:=sq2 x13i x13m
theorem xy4:x1q4 call hs u xlu r_0 eNil=j3 (xa9 call hs u) 0 1 2:=tr (sqN 3 x13n)
noncomputable abbrev x1yr:=VX x34 82 r_1
noncomputable def x13o:=x1nn x34
theorem xy5:x1yr call hs u x13o r_1 eNil=j0 (xfx call hs u):=by kernel_rfl
noncomputable abbrev x1oo:=VX x6z 90 r_2
noncomputable def xlz:=x1nn x6z
noncomputable def xd2:=nRs 5 xlz
noncomputable def xm0:=nL xd2
noncomputable def xm1:=nR xd2
noncomputable def xd3:=nRs 3 xm1
noncomputable def xm2:=nL xd3
noncomputable def x13p:=nR xd3
noncomputable def xm3:=nR xm2
noncomputable def xm4:=nR xm3
noncomputable def xm5:=nR xm4
noncomputable def xd4:=nRs 2 xm5
noncomputable def x13q:=nL xd4
noncomputable def x13r:=nR xd4
noncomputable def xm6:=nR xm0
noncomputable def xm7:=nR xm6
noncomputable def xm8:=nR xm7
noncomputable def xd5:=nRs 2 xm8
noncomputable def x13s:=nL xd5
noncomputable def x13t:=nR xd5
theorem x13u:x1oo call hs u x13p r_2 eNil=j1 (xz call hs u) 14:=by kernel_rfl
theorem x13v{rec0:AV->AV->AV->AV->AV->AV->AV->Mem->Nat->O2}:x1oo call hs u x13r (j7 rec0 1 12 13 14 60 61 62) (setE 2 (j1 (xz call hs u) 14) eNil)=j7 (x89 call hs u rec0) 1 12 13 14 60 61 62:=by kernel_rfl
theorem x13w{rec0:AV->AV->AV->AV->AV->AV->AV->Mem->Nat->O2}:x1oo call hs u x13q (j7 (x89 call hs u rec0) 1 12 13 14 60 61 62) (setE 2 (j1 (xz call hs u) 14) eNil)=j7 (xaa call hs u rec0) 1 12 13 14 60 61 62:=by kernel_rfl
theorem x13x{rec0:AV->AV->AV->AV->AV->AV->AV->Mem->Nat->O2}:x1oo call hs u xd4 (j7 rec0 1 12 13 14 60 61 62) (setE 2 (j1 (xz call hs u) 14) eNil)=j7 (xaa call hs u rec0) 1 12 13 14 60 61 62:=sq2 x13v x13w
theorem x13y{rec0:AV->AV->AV->AV->AV->AV->AV->Mem->Nat->O2}:x1oo call hs u xm5 (j7 rec0 1 12 13 14 60 61 62) (setE 2 (j1 (xz call hs u) 14) eNil)=j7 (xfy call hs u rec0) 1 12 13 14 60 61 62:=tr (sqN 2 x13x)
theorem x13z:x1oo call hs u xm4 (j1 (xz call hs u) 14) (setE 2 (j1 (xz call hs u) 14) eNil)=j7 (x4r call hs u NN) 1 12 13 14 60 61 62:=lp (Ln:=fun n=>j7 (x4r call hs u n) 1 12 13 14 60 61 62) fun n=>tr x13y
theorem x140:x1oo call hs u xm3 (j1 (xz call hs u) 14) eNil=j7 (x4r call hs u NN) 1 12 13 14 60 61 62:=bk x13z
theorem x141:x1oo call hs u xm2 (j1 (xz call hs u) 14) eNil=j4 (xab call hs u) 1 12 13 14:=tr (sqN 1 x140)
theorem x142:x1oo call hs u xd3 r_2 eNil=j4 (xab call hs u) 1 12 13 14:=sq2 x13u x141
theorem x143:x1oo call hs u xm1 r_2 eNil=j4 (x10 call hs u) 1 2 8 9:=tr (sqN 3 x142)
theorem x144{rec1:AV->AV->AV->AV->AV->AV->AV->Mem->Nat->O2}:x1oo call hs u x13t (j7 rec1 1 2 8 9 36 37 38) (setE 0 (j4 (x10 call hs u) 1 2 8 9) eNil)=j7 (x8a call hs u rec1) 1 2 8 9 36 37 38:=by kernel_rfl
theorem x145{rec1:AV->AV->AV->AV->AV->AV->AV->Mem->Nat->O2}:x1oo call hs u x13s (j7 (x8a call hs u rec1) 1 2 8 9 36 37 38) (setE 0 (j4 (x10 call hs u) 1 2 8 9) eNil)=j7 (xac call hs u rec1) 1 2 8 9 36 37 38:=by kernel_rfl
theorem x146{rec1:AV->AV->AV->AV->AV->AV->AV->Mem->Nat->O2}:x1oo call hs u xd5 (j7 rec1 1 2 8 9 36 37 38) (setE 0 (j4 (x10 call hs u) 1 2 8 9) eNil)=j7 (xac call hs u rec1) 1 2 8 9 36 37 38:=sq2 x144 x145
theorem x147{rec1:AV->AV->AV->AV->AV->AV->AV->Mem->Nat->O2}:x1oo call hs u xm8 (j7 rec1 1 2 8 9 36 37 38) (setE 0 (j4 (x10 call hs u) 1 2 8 9) eNil)=j7 (xfz call hs u rec1) 1 2 8 9 36 37 38:=tr (sqN 2 x146)
theorem x148:x1oo call hs u xm7 (j4 (x10 call hs u) 1 2 8 9) (setE 0 (j4 (x10 call hs u) 1 2 8 9) eNil)=j7 (x4s call hs u NN) 1 2 8 9 36 37 38:=lp (Ln:=fun n=>j7 (x4s call hs u n) 1 2 8 9 36 37 38) fun n=>tr x147
theorem x149:x1oo call hs u xm6 (j4 (x10 call hs u) 1 2 8 9) eNil=j7 (x4s call hs u NN) 1 2 8 9 36 37 38:=bk x148
theorem x14a:x1oo call hs u xm0 (j4 (x10 call hs u) 1 2 8 9) eNil=j4 (xad call hs u) 1 2 8 9:=tr (sqN 1 x149)
theorem x14b:x1oo call hs u xd2 r_2 eNil=j4 (xad call hs u) 1 2 8 9:=sq2 x143 x14a
theorem xy6:x1oo call hs u xlz r_2 eNil=j2 (xg0 call hs u) 0 1:=tr (sqN 5 x14b)
noncomputable abbrev x1ys:=VX x1n 15 r_0
noncomputable def x14c:=x1nn x1n
theorem xy7:x1ys call hs u x14c r_0 eNil=j3 (xae call hs u) 0 1 2:=by kernel_rfl
noncomputable abbrev x1re:=VX x2e 26 r_3
noncomputable def xm9:=x1nn x2e
noncomputable def xd6:=nRs 2 xm9
noncomputable def xma:=nL xd6
noncomputable def x14d:=nR xd6
noncomputable def xmb:=nR xma
noncomputable def xmc:=nR xmb
noncomputable def x14e:=nR xmc
theorem x14f:x1re call hs u x14d r_3 eNil=j0 (x2i call hs u):=by kernel_rfl
theorem x14g{rec0:AV->AV->AV->Mem->Nat->O2}:x1re call hs u x14e (j3 rec0 0 1 5) (setE 0 (j0 (x2i call hs u)) eNil)=j3 (xg1 call hs u rec0) 0 1 5:=by kernel_rfl
theorem x14h:x1re call hs u xmc (j0 (x2i call hs u)) (setE 0 (j0 (x2i call hs u)) eNil)=j3 (x4u call hs u NN) 0 1 5:=lp (Ln:=fun n=>j3 (x4u call hs u n) 0 1 5) fun n=>tr x14g
theorem x14i:x1re call hs u xmb (j0 (x2i call hs u)) eNil=j3 (x4u call hs u NN) 0 1 5:=bk x14h
theorem x14j:x1re call hs u xma (j0 (x2i call hs u)) eNil=j2 (xaf call hs u) 0 1:=tr (sqN 1 x14i)
theorem x14k:x1re call hs u xd6 r_3 eNil=j2 (xaf call hs u) 0 1:=sq2 x14f x14j
theorem xy8:x1re call hs u xm9 r_3 eNil=j2 (xg2 call hs u) 0 1:=tr (sqN 2 x14k)
noncomputable abbrev x1ow:=VX x35 77 r_4
noncomputable def xmd:=x1nn x35
noncomputable def xd7:=nRs 4 xmd
noncomputable def xme:=nL xd7
noncomputable def x14l:=nR xd7
noncomputable def xmf:=nR xme
noncomputable def xmg:=nR xmf
noncomputable def xmh:=nR xmg
noncomputable def xd8:=nRs 2 xmh
noncomputable def xmi:=nL xd8
noncomputable def x14m:=nR xd8
noncomputable def xmj:=nR xmi
noncomputable def xmk:=nRs 2 xmj
noncomputable def xml:=nR xmk
noncomputable def xmm:=nR xml
noncomputable def xd9:=nR xmm
noncomputable def x14n:=nL xd9
noncomputable def x14o:=nR xd9
theorem x14p:x1ow call hs u x14l r_4 eNil=j1 (x7 call hs u) 10:=by kernel_rfl
theorem x14q{rec0:AV->AV->AV->AV->AV->AV->AV->Mem->Nat->O2}:x1ow call hs u x14m (j7 rec0 0 1 2 10 31 32 33) (setE 0 (j1 (x7 call hs u) 10) eNil)=j7 (x8 call hs u rec0) 0 1 2 10 31 32 33:=by kernel_rfl
theorem x14r{rec0:AV->AV->AV->AV->AV->AV->AV->Mem->Nat->O2}{rec1:AV->AV->AV->AV->AV->AV->AV->AV->AV->AV->Mem->Nat->O2}:x1ow call hs u x14o (j10 rec1 0 1 2 10 11 12 13 31 32 33) (setE 2 (j7 (x8 call hs u rec0) 0 1 2 10 31 32 33) (setE 1 (j7 (x8 call hs u rec0) 0 1 2 10 31 32 33) (setE 0 (j1 (x7 call hs u) 10) eNil)))=j10 (x4v call hs u rec0 rec1) 0 1 2 10 11 12 13 31 32 33:=by kernel_rfl
theorem x14s{rec0:AV->AV->AV->AV->AV->AV->AV->Mem->Nat->O2}{rec1:AV->AV->AV->AV->AV->AV->AV->AV->AV->AV->Mem->Nat->O2}:x1ow call hs u x14n (j10 (x4v call hs u rec0 rec1) 0 1 2 10 11 12 13 31 32 33) (setE 2 (j7 (x8 call hs u rec0) 0 1 2 10 31 32 33) (setE 1 (j7 (x8 call hs u rec0) 0 1 2 10 31 32 33) (setE 0 (j1 (x7 call hs u) 10) eNil)))=j10 (x8b call hs u rec0 rec1) 0 1 2 10 11 12 13 31 32 33:=by kernel_rfl
theorem x14t{rec0:AV->AV->AV->AV->AV->AV->AV->Mem->Nat->O2}{rec1:AV->AV->AV->AV->AV->AV->AV->AV->AV->AV->Mem->Nat->O2}:x1ow call hs u xd9 (j10 rec1 0 1 2 10 11 12 13 31 32 33) (setE 2 (j7 (x8 call hs u rec0) 0 1 2 10 31 32 33) (setE 1 (j7 (x8 call hs u rec0) 0 1 2 10 31 32 33) (setE 0 (j1 (x7 call hs u) 10) eNil)))=j10 (x8b call hs u rec0 rec1) 0 1 2 10 11 12 13 31 32 33:=sq2 x14r x14s
theorem x14u{rec0:AV->AV->AV->AV->AV->AV->AV->Mem->Nat->O2}{rec1:AV->AV->AV->AV->AV->AV->AV->AV->AV->AV->Mem->Nat->O2}:x1ow call hs u xmm (j10 rec1 0 1 2 10 11 12 13 31 32 33) (setE 2 (j7 (x8 call hs u rec0) 0 1 2 10 31 32 33) (setE 1 (j7 (x8 call hs u rec0) 0 1 2 10 31 32 33) (setE 0 (j1 (x7 call hs u) 10) eNil)))=j10 (x8c call hs u rec0 rec1) 0 1 2 10 11 12 13 31 32 33:=tr (sqN 1 x14t)
theorem x14v{rec0:AV->AV->AV->AV->AV->AV->AV->Mem->Nat->O2}:x1ow call hs u xml (j7 (x8 call hs u rec0) 0 1 2 10 31 32 33) (setE 2 (j7 (x8 call hs u rec0) 0 1 2 10 31 32 33) (setE 1 (j7 (x8 call hs u rec0) 0 1 2 10 31 32 33) (setE 0 (j1 (x7 call hs u) 10) eNil)))=j10 (x11 call hs u rec0 NN) 0 1 2 10 11 12 13 31 32 33:=lp (Ln:=fun n=>j10 (x11 call hs u rec0 n) 0 1 2 10 11 12 13 31 32 33) fun n=>tr x14u
theorem x14w{rec0:AV->AV->AV->AV->AV->AV->AV->Mem->Nat->O2}:x1ow call hs u xmk (j7 (x8 call hs u rec0) 0 1 2 10 31 32 33) (setE 1 (j7 (x8 call hs u rec0) 0 1 2 10 31 32 33) (setE 0 (j1 (x7 call hs u) 10) eNil))=j10 (x11 call hs u rec0 NN) 0 1 2 10 11 12 13 31 32 33:=bk x14v
theorem x14x{rec0:AV->AV->AV->AV->AV->AV->AV->Mem->Nat->O2}:x1ow call hs u xmj (j7 (x8 call hs u rec0) 0 1 2 10 31 32 33) (setE 1 (j7 (x8 call hs u rec0) 0 1 2 10 31 32 33) (setE 0 (j1 (x7 call hs u) 10) eNil))=j7 (x4w call hs u rec0) 0 1 2 10 31 32 33:=tr (sqN 2 x14w)
theorem x14y{rec0:AV->AV->AV->AV->AV->AV->AV->Mem->Nat->O2}:x1ow call hs u xmi (j7 (x8 call hs u rec0) 0 1 2 10 31 32 33) (setE 0 (j1 (x7 call hs u) 10) eNil)=j7 (x4w call hs u rec0) 0 1 2 10 31 32 33:=bk x14x
theorem x14z{rec0:AV->AV->AV->AV->AV->AV->AV->Mem->Nat->O2}:x1ow call hs u xd8 (j7 rec0 0 1 2 10 31 32 33) (setE 0 (j1 (x7 call hs u) 10) eNil)=j7 (x4w call hs u rec0) 0 1 2 10 31 32 33:=sq2 x14q x14y
theorem x150{rec0:AV->AV->AV->AV->AV->AV->AV->Mem->Nat->O2}:x1ow call hs u xmh (j7 rec0 0 1 2 10 31 32 33) (setE 0 (j1 (x7 call hs u) 10) eNil)=j7 (x8d call hs u rec0) 0 1 2 10 31 32 33:=tr (sqN 2 x14z)
theorem x151:x1ow call hs u xmg (j1 (x7 call hs u) 10) (setE 0 (j1 (x7 call hs u) 10) eNil)=j7 (x12 call hs u NN) 0 1 2 10 31 32 33:=lp (Ln:=fun n=>j7 (x12 call hs u n) 0 1 2 10 31 32 33) fun n=>tr x150
theorem x152:x1ow call hs u xmf (j1 (x7 call hs u) 10) eNil=j7 (x12 call hs u NN) 0 1 2 10 31 32 33:=bk x151
theorem x153:x1ow call hs u xme (j1 (x7 call hs u) 10) eNil=j4 (x8e call hs u) 0 1 2 10:=tr (sqN 1 x152)
theorem x154:x1ow call hs u xd7 r_4 eNil=j4 (x8e call hs u) 0 1 2 10:=sq2 x14p x153
theorem xy9:x1ow call hs u xmd r_4 eNil=j3 (xag call hs u) 0 1 2:=tr (sqN 4 x154)
noncomputable abbrev x1ox:=VX x2f 50 r_5
noncomputable def xmn:=x1nn x2f
noncomputable def xda:=nRs 2 xmn
noncomputable def xmo:=nL xda
noncomputable def x155:=nR xda
noncomputable def xmp:=nR xmo
noncomputable def xmq:=nR xmp
noncomputable def xmr:=nR xmq
noncomputable def xdb:=nR xmr
noncomputable def xms:=nL xdb
noncomputable def x156:=nR xdb
noncomputable def xmt:=nR xms
noncomputable def xdc:=nRs 2 xmt
noncomputable def xmu:=nL xdc
noncomputable def x157:=nR xdc
noncomputable def xmv:=nR xmu
noncomputable def xmw:=nR xmv
noncomputable def x158:=nR xmw
theorem x159:x1ox call hs u x155 r_5 eNil=j0 (xa call hs u):=by kernel_rfl
theorem x15a{rec0:AV->AV->Mem->Nat->O2}:x1ox call hs u x156 (j2 rec0 0 4) (setE 0 (j0 (xa call hs u)) eNil)=j2 (xm call hs u rec0) 0 4:=by kernel_rfl
theorem x15b{rec0:AV->AV->Mem->Nat->O2}:x1ox call hs u x157 (j2 (xm call hs u rec0) 0 4) (setE 1 (j2 (xm call hs u rec0) 0 4) (setE 0 (j0 (xa call hs u)) eNil))=j3 (x1o call hs u rec0) 0 4 5:=by kernel_rfl
theorem x15c{rec0:AV->AV->Mem->Nat->O2}{rec1:AV->AV->AV->AV->Mem->Nat->O2}:x1ox call hs u x158 (j4 rec1 0 4 5 6) (setE 2 (j3 (x1o call hs u rec0) 0 4 5) (setE 1 (j2 (xm call hs u rec0) 0 4) (setE 0 (j0 (xa call hs u)) eNil)))=j4 (x8f call hs u rec0 rec1) 0 4 5 6:=by kernel_rfl
theorem x15d{rec0:AV->AV->Mem->Nat->O2}:x1ox call hs u xmw (j3 (x1o call hs u rec0) 0 4 5) (setE 2 (j3 (x1o call hs u rec0) 0 4 5) (setE 1 (j2 (xm call hs u rec0) 0 4) (setE 0 (j0 (xa call hs u)) eNil)))=j4 (x20 call hs u rec0 NN) 0 4 5 6:=lp (Ln:=fun n=>j4 (x20 call hs u rec0 n) 0 4 5 6) fun n=>tr x15c
theorem x15e{rec0:AV->AV->Mem->Nat->O2}:x1ox call hs u xmv (j3 (x1o call hs u rec0) 0 4 5) (setE 1 (j2 (xm call hs u rec0) 0 4) (setE 0 (j0 (xa call hs u)) eNil))=j4 (x20 call hs u rec0 NN) 0 4 5 6:=bk x15d
theorem x15f{rec0:AV->AV->Mem->Nat->O2}:x1ox call hs u xmu (j3 (x1o call hs u rec0) 0 4 5) (setE 1 (j2 (xm call hs u rec0) 0 4) (setE 0 (j0 (xa call hs u)) eNil))=j3 (x8g call hs u rec0) 0 4 5:=tr (sqN 1 x15e)
theorem x15g{rec0:AV->AV->Mem->Nat->O2}:x1ox call hs u xdc (j2 (xm call hs u rec0) 0 4) (setE 1 (j2 (xm call hs u rec0) 0 4) (setE 0 (j0 (xa call hs u)) eNil))=j3 (x8g call hs u rec0) 0 4 5:=sq2 x15b x15f
theorem x15h{rec0:AV->AV->Mem->Nat->O2}:x1ox call hs u xmt (j2 (xm call hs u rec0) 0 4) (setE 1 (j2 (xm call hs u rec0) 0 4) (setE 0 (j0 (xa call hs u)) eNil))=j2 (x4x call hs u rec0) 0 4:=tr (sqN 2 x15g)
theorem x15i{rec0:AV->AV->Mem->Nat->O2}:x1ox call hs u xms (j2 (xm call hs u rec0) 0 4) (setE 0 (j0 (xa call hs u)) eNil)=j2 (x4x call hs u rec0) 0 4:=bk x15h
theorem x15j{rec0:AV->AV->Mem->Nat->O2}:x1ox call hs u xdb (j2 rec0 0 4) (setE 0 (j0 (xa call hs u)) eNil)=j2 (x4x call hs u rec0) 0 4:=sq2 x15a x15i
theorem x15k{rec0:AV->AV->Mem->Nat->O2}:x1ox call hs u xmr (j2 rec0 0 4) (setE 0 (j0 (xa call hs u)) eNil)=j2 (x8h call hs u rec0) 0 4:=tr (sqN 1 x15j)
theorem x15l:x1ox call hs u xmq (j0 (xa call hs u)) (setE 0 (j0 (xa call hs u)) eNil)=j2 (x13 call hs u NN) 0 4:=lp (Ln:=fun n=>j2 (x13 call hs u n) 0 4) fun n=>tr x15k
theorem x15m:x1ox call hs u xmp (j0 (xa call hs u)) eNil=j2 (x13 call hs u NN) 0 4:=bk x15l
theorem x15n:x1ox call hs u xmo (j0 (xa call hs u)) eNil=j1 (x8i call hs u) 0:=tr (sqN 1 x15m)
theorem x15o:x1ox call hs u xda r_5 eNil=j1 (x8i call hs u) 0:=sq2 x159 x15n
theorem xya:x1ox call hs u xmn r_5 eNil=j1 (xah call hs u) 0:=tr (sqN 2 x15o)
noncomputable abbrev x1oy:=VX x36 61 r_0
noncomputable def xmx:=x1nn x36
noncomputable def xdd:=nRs 2 xmx
noncomputable def xmy:=nL xdd
noncomputable def x15p:=nR xdd
noncomputable def xmz:=nR xmy
noncomputable def xn0:=nR xmz
noncomputable def xn1:=nR xn0
noncomputable def xde:=nR xn1
noncomputable def xn2:=nL xde
noncomputable def x15q:=nR xde
noncomputable def xn3:=nR xn2
noncomputable def xn4:=nR xn3
noncomputable def xn5:=nR xn4
noncomputable def xn6:=nR xn5
noncomputable def xdf:=nR xn6
noncomputable def x15r:=nL xdf
noncomputable def x15s:=nR xdf
theorem x15t:x1oy call hs u x15p r_0 eNil=j1 (xc call hs u) 7:=by kernel_rfl
theorem x15u{rec0:AV->AV->AV->AV->AV->Mem->Nat->O2}:x1oy call hs u x15q (j5 rec0 0 1 2 7 8) (setE 0 (j1 (xc call hs u) 7) eNil)=j5 (x9 call hs u rec0) 0 1 2 7 8:=by kernel_rfl
theorem x15v{rec0:AV->AV->AV->AV->AV->Mem->Nat->O2}{rec1:AV->AV->AV->AV->AV->AV->Mem->Nat->O2}:x1oy call hs u x15s (j6 rec1 0 1 2 7 8 9) (setE 2 (j5 (x9 call hs u rec0) 0 1 2 7 8) (setE 1 (j5 (x9 call hs u rec0) 0 1 2 7 8) (setE 0 (j1 (xc call hs u) 7) eNil)))=j6 (x4y call hs u rec0 rec1) 0 1 2 7 8 9:=by kernel_rfl
theorem x15w{rec0:AV->AV->AV->AV->AV->Mem->Nat->O2}{rec1:AV->AV->AV->AV->AV->AV->Mem->Nat->O2}:x1oy call hs u x15r (j6 (x4y call hs u rec0 rec1) 0 1 2 7 8 9) (setE 2 (j5 (x9 call hs u rec0) 0 1 2 7 8) (setE 1 (j5 (x9 call hs u rec0) 0 1 2 7 8) (setE 0 (j1 (xc call hs u) 7) eNil)))=j6 (x8j call hs u rec0 rec1) 0 1 2 7 8 9:=by kernel_rfl
theorem x15x{rec0:AV->AV->AV->AV->AV->Mem->Nat->O2}{rec1:AV->AV->AV->AV->AV->AV->Mem->Nat->O2}:x1oy call hs u xdf (j6 rec1 0 1 2 7 8 9) (setE 2 (j5 (x9 call hs u rec0) 0 1 2 7 8) (setE 1 (j5 (x9 call hs u rec0) 0 1 2 7 8) (setE 0 (j1 (xc call hs u) 7) eNil)))=j6 (x8j call hs u rec0 rec1) 0 1 2 7 8 9:=sq2 x15v x15w
theorem x15y{rec0:AV->AV->AV->AV->AV->Mem->Nat->O2}{rec1:AV->AV->AV->AV->AV->AV->Mem->Nat->O2}:x1oy call hs u xn6 (j6 rec1 0 1 2 7 8 9) (setE 2 (j5 (x9 call hs u rec0) 0 1 2 7 8) (setE 1 (j5 (x9 call hs u rec0) 0 1 2 7 8) (setE 0 (j1 (xc call hs u) 7) eNil)))=j6 (x8k call hs u rec0 rec1) 0 1 2 7 8 9:=tr (sqN 1 x15x)
theorem x15z{rec0:AV->AV->AV->AV->AV->Mem->Nat->O2}:x1oy call hs u xn5 (j5 (x9 call hs u rec0) 0 1 2 7 8) (setE 2 (j5 (x9 call hs u rec0) 0 1 2 7 8) (setE 1 (j5 (x9 call hs u rec0) 0 1 2 7 8) (setE 0 (j1 (xc call hs u) 7) eNil)))=j6 (x14 call hs u rec0 NN) 0 1 2 7 8 9:=lp (Ln:=fun n=>j6 (x14 call hs u rec0 n) 0 1 2 7 8 9) fun n=>tr x15y
theorem x160{rec0:AV->AV->AV->AV->AV->Mem->Nat->O2}:x1oy call hs u xn4 (j5 (x9 call hs u rec0) 0 1 2 7 8) (setE 1 (j5 (x9 call hs u rec0) 0 1 2 7 8) (setE 0 (j1 (xc call hs u) 7) eNil))=j6 (x14 call hs u rec0 NN) 0 1 2 7 8 9:=bk x15z
theorem x161{rec0:AV->AV->AV->AV->AV->Mem->Nat->O2}:x1oy call hs u xn3 (j5 (x9 call hs u rec0) 0 1 2 7 8) (setE 1 (j5 (x9 call hs u rec0) 0 1 2 7 8) (setE 0 (j1 (xc call hs u) 7) eNil))=j5 (x4z call hs u rec0) 0 1 2 7 8:=tr (sqN 1 x160)
theorem x162{rec0:AV->AV->AV->AV->AV->Mem->Nat->O2}:x1oy call hs u xn2 (j5 (x9 call hs u rec0) 0 1 2 7 8) (setE 0 (j1 (xc call hs u) 7) eNil)=j5 (x4z call hs u rec0) 0 1 2 7 8:=bk x161
theorem x163{rec0:AV->AV->AV->AV->AV->Mem->Nat->O2}:x1oy call hs u xde (j5 rec0 0 1 2 7 8) (setE 0 (j1 (xc call hs u) 7) eNil)=j5 (x4z call hs u rec0) 0 1 2 7 8:=sq2 x15u x162
theorem x164{rec0:AV->AV->AV->AV->AV->Mem->Nat->O2}:x1oy call hs u xn1 (j5 rec0 0 1 2 7 8) (setE 0 (j1 (xc call hs u) 7) eNil)=j5 (x8l call hs u rec0) 0 1 2 7 8:=tr (sqN 1 x163)
theorem x165:x1oy call hs u xn0 (j1 (xc call hs u) 7) (setE 0 (j1 (xc call hs u) 7) eNil)=j5 (x15 call hs u NN) 0 1 2 7 8:=lp (Ln:=fun n=>j5 (x15 call hs u n) 0 1 2 7 8) fun n=>tr x164
theorem x166:x1oy call hs u xmz (j1 (xc call hs u) 7) eNil=j5 (x15 call hs u NN) 0 1 2 7 8:=bk x165
theorem x167:x1oy call hs u xmy (j1 (xc call hs u) 7) eNil=j4 (x8m call hs u) 0 1 2 7:=tr (sqN 1 x166)
theorem x168:x1oy call hs u xdd r_0 eNil=j4 (x8m call hs u) 0 1 2 7:=sq2 x15t x167
theorem xyb:x1oy call hs u xmx r_0 eNil=j3 (xai call hs u) 0 1 2:=tr (sqN 2 x168)
noncomputable abbrev x1rf:=VX x37 26 r_3
noncomputable def xn7:=x1nn x37
noncomputable def xdg:=nRs 2 xn7
noncomputable def xn8:=nL xdg
noncomputable def x169:=nR xdg
noncomputable def xn9:=nR xn8
noncomputable def xna:=nR xn9
noncomputable def x16a:=nR xna
theorem x16b:x1rf call hs u x169 r_3 eNil=j0 (x21 call hs u):=by kernel_rfl
theorem x16c{rec0:AV->AV->AV->Mem->Nat->O2}:x1rf call hs u x16a (j3 rec0 0 1 5) (setE 0 (j0 (x21 call hs u)) eNil)=j3 (x8n call hs u rec0) 0 1 5:=by kernel_rfl
theorem x16d:x1rf call hs u xna (j0 (x21 call hs u)) (setE 0 (j0 (x21 call hs u)) eNil)=j3 (x22 call hs u NN) 0 1 5:=lp (Ln:=fun n=>j3 (x22 call hs u n) 0 1 5) fun n=>tr x16c
theorem x16e:x1rf call hs u xn9 (j0 (x21 call hs u)) eNil=j3 (x22 call hs u NN) 0 1 5:=bk x16d
theorem x16f:x1rf call hs u xn8 (j0 (x21 call hs u)) eNil=j2 (x8o call hs u) 0 1:=tr (sqN 1 x16e)
theorem x16g:x1rf call hs u xdg r_3 eNil=j2 (x8o call hs u) 0 1:=sq2 x16b x16f
theorem xyc:x1rf call hs u xn7 r_3 eNil=j2 (xaj call hs u) 0 1:=tr (sqN 2 x16g)
noncomputable abbrev x1q5:=VX x70 51 r_5
noncomputable def xnb:=x1nn x70
noncomputable def xdh:=nRs 6 xnb
noncomputable def xnc:=nL xdh
noncomputable def x16h:=nR xdh
noncomputable def xnd:=nR xnc
noncomputable def xne:=nR xnd
noncomputable def xnf:=nR xne
noncomputable def xdi:=nRs 2 xnf
noncomputable def x16i:=nL xdi
noncomputable def x16j:=nR xdi
theorem x16k:x1q5 call hs u x16h r_5 eNil=j1 (x16 call hs u) 7:=by kernel_rfl
theorem x16l{rec0:AV->AV->AV->AV->AV->Mem->Nat->O2}:x1q5 call hs u x16j (j5 rec0 6 7 27 28 29) (setE 0 (j1 (x16 call hs u) 7) eNil)=j5 (x8p call hs u rec0) 6 7 27 28 29:=by kernel_rfl
theorem x16m{rec0:AV->AV->AV->AV->AV->Mem->Nat->O2}:x1q5 call hs u x16i (j5 (x8p call hs u rec0) 6 7 27 28 29) (setE 0 (j1 (x16 call hs u) 7) eNil)=j5 (xak call hs u rec0) 6 7 27 28 29:=by kernel_rfl
theorem x16n{rec0:AV->AV->AV->AV->AV->Mem->Nat->O2}:x1q5 call hs u xdi (j5 rec0 6 7 27 28 29) (setE 0 (j1 (x16 call hs u) 7) eNil)=j5 (xak call hs u rec0) 6 7 27 28 29:=sq2 x16l x16m
theorem x16o{rec0:AV->AV->AV->AV->AV->Mem->Nat->O2}:x1q5 call hs u xnf (j5 rec0 6 7 27 28 29) (setE 0 (j1 (x16 call hs u) 7) eNil)=j5 (xg3 call hs u rec0) 6 7 27 28 29:=tr (sqN 2 x16n)
theorem x16p:x1q5 call hs u xne (j1 (x16 call hs u) 7) (setE 0 (j1 (x16 call hs u) 7) eNil)=j5 (x51 call hs u NN) 6 7 27 28 29:=lp (Ln:=fun n=>j5 (x51 call hs u n) 6 7 27 28 29) fun n=>tr x16o
theorem x16q:x1q5 call hs u xnd (j1 (x16 call hs u) 7) eNil=j5 (x51 call hs u NN) 6 7 27 28 29:=bk x16p
theorem x16r:x1q5 call hs u xnc (j1 (x16 call hs u) 7) eNil=j3 (xal call hs u) 4 6 7:=tr (sqN 1 x16q)
theorem x16s:x1q5 call hs u xdh r_5 eNil=j3 (xal call hs u) 4 6 7:=sq2 x16k x16r
theorem xyd:x1q5 call hs u xnb r_5 eNil=j1 (xg4 call hs u) 0:=tr (sqN 6 x16s)
noncomputable abbrev x1rg:=VX x71 60 r_6
noncomputable def xng:=x1nn x71
noncomputable def xdj:=nRs 6 xng
noncomputable def xnh:=nL xdj
noncomputable def x16t:=nR xdj
noncomputable def xni:=nR xnh
noncomputable def xnj:=nR xni
noncomputable def x16u:=nR xnj
theorem x16v:x1rg call hs u x16t r_6 eNil=j3 (x2j call hs u) 9 10 11:=by kernel_rfl
theorem x16w{rec0:AV->AV->AV->AV->AV->AV->AV->Mem->Nat->O2}:x1rg call hs u x16u (j7 rec0 8 9 10 11 33 34 35) (setE 0 (j3 (x2j call hs u) 9 10 11) eNil)=j7 (xg5 call hs u rec0) 8 9 10 11 33 34 35:=by kernel_rfl
theorem x16x:x1rg call hs u xnj (j3 (x2j call hs u) 9 10 11) (setE 0 (j3 (x2j call hs u) 9 10 11) eNil)=j7 (x52 call hs u NN) 8 9 10 11 33 34 35:=lp (Ln:=fun n=>j7 (x52 call hs u n) 8 9 10 11 33 34 35) fun n=>tr x16w
theorem x16y:x1rg call hs u xni (j3 (x2j call hs u) 9 10 11) eNil=j7 (x52 call hs u NN) 8 9 10 11 33 34 35:=bk x16x
theorem x16z:x1rg call hs u xnh (j3 (x2j call hs u) 9 10 11) eNil=j5 (xam call hs u) 6 8 9 10 11:=tr (sqN 1 x16y)
theorem x170:x1rg call hs u xdj r_6 eNil=j5 (xam call hs u) 6 8 9 10 11:=sq2 x16v x16z
theorem xye:x1rg call hs u xng r_6 eNil=j1 (xg6 call hs u) 0:=tr (sqN 6 x170)
noncomputable abbrev x1yt:=VX x72 20 r_7
noncomputable def x171:=x1nn x72
theorem xyf:x1yt call hs u x171 r_7 eNil=j1 (xg7 call hs u) 0:=by kernel_rfl
noncomputable abbrev x1yu:=VX x48 36 r_8
noncomputable def x172:=x1nn x48
theorem xyg:x1yu call hs u x172 r_8 eNil=j1 (xg8 call hs u) 0:=by kernel_rfl
noncomputable abbrev x1yv:=VX x49 12 r_9
noncomputable def x173:=x1nn x49
theorem xyh:x1yv call hs u x173 r_9 eNil=j0 (xg9 call hs u):=by kernel_rfl
noncomputable abbrev x1yw:=VX x38 10 r_10
noncomputable def x174:=x1nn x38
theorem xyi:x1yw call hs u x174 r_10 eNil=j2 (xgb call hs u) 0 1:=by kernel_rfl
noncomputable abbrev x1yx:=VX x2g 7 r_8
noncomputable def x175:=x1nn x2g
theorem xyj:x1yx call hs u x175 r_8 eNil=j1 (xan call hs u) 0:=by kernel_rfl
noncomputable abbrev x1yy:=VX xq 15 r_0
noncomputable def x176:=x1nn xq
theorem xyk:x1yy call hs u x176 r_0 eNil=j3 (xao call hs u) 0 1 2:=by kernel_rfl
noncomputable abbrev x1rh:=VX x4a 42 r_3
noncomputable def xnk:=x1nn x4a
noncomputable def xdk:=nRs 3 xnk
noncomputable def xnl:=nL xdk
noncomputable def x177:=nR xdk
noncomputable def xnm:=nR xnl
noncomputable def xnn:=nR xnm
noncomputable def x178:=nR xnn
theorem x179:x1rh call hs u x177 r_3 eNil=j1 (x2k call hs u) 6:=by kernel_rfl
theorem x17a{rec0:AV->AV->AV->AV->AV->AV->Mem->Nat->O2}:x1rh call hs u x178 (j6 rec0 1 5 6 14 15 16) (setE 0 (j1 (x2k call hs u) 6) eNil)=j6 (xgd call hs u rec0) 1 5 6 14 15 16:=by kernel_rfl
theorem x17b:x1rh call hs u xnn (j1 (x2k call hs u) 6) (setE 0 (j1 (x2k call hs u) 6) eNil)=j6 (x53 call hs u NN) 1 5 6 14 15 16:=lp (Ln:=fun n=>j6 (x53 call hs u n) 1 5 6 14 15 16) fun n=>tr x17a
theorem x17c:x1rh call hs u xnm (j1 (x2k call hs u) 6) eNil=j6 (x53 call hs u NN) 1 5 6 14 15 16:=bk x17b
theorem x17d:x1rh call hs u xnl (j1 (x2k call hs u) 6) eNil=j4 (xap call hs u) 1 2 5 6:=tr (sqN 1 x17c)
theorem x17e:x1rh call hs u xdk r_3 eNil=j4 (xap call hs u) 1 2 5 6:=sq2 x179 x17d
theorem xyl:x1rh call hs u xnk r_3 eNil=j2 (xge call hs u) 0 1:=tr (sqN 3 x17e)
noncomputable abbrev x1q6:=VX x4b 38 r_3
noncomputable def xno:=x1nn x4b
noncomputable def xdl:=nRs 5 xno
noncomputable def xnp:=nL xdl
noncomputable def x17f:=nR xdl
noncomputable def xnq:=nR xnp
noncomputable def xnr:=nR xnq
noncomputable def xns:=nR xnr
noncomputable def xdm:=nRs 2 xns
noncomputable def x17g:=nL xdm
noncomputable def x17h:=nR xdm
theorem x17i:x1q6 call hs u x17f r_3 eNil=j1 (x17 call hs u) 5:=by kernel_rfl
theorem x17j{rec0:AV->AV->AV->AV->AV->Mem->Nat->O2}:x1q6 call hs u x17h (j5 rec0 5 6 8 24 25) (setE 0 (j1 (x17 call hs u) 5) eNil)=j5 (x8q call hs u rec0) 5 6 8 24 25:=by kernel_rfl
theorem x17k{rec0:AV->AV->AV->AV->AV->Mem->Nat->O2}:x1q6 call hs u x17g (j5 (x8q call hs u rec0) 5 6 8 24 25) (setE 0 (j1 (x17 call hs u) 5) eNil)=j5 (xaq call hs u rec0) 5 6 8 24 25:=by kernel_rfl
theorem x17l{rec0:AV->AV->AV->AV->AV->Mem->Nat->O2}:x1q6 call hs u xdm (j5 rec0 5 6 8 24 25) (setE 0 (j1 (x17 call hs u) 5) eNil)=j5 (xaq call hs u rec0) 5 6 8 24 25:=sq2 x17j x17k
theorem x17m{rec0:AV->AV->AV->AV->AV->Mem->Nat->O2}:x1q6 call hs u xns (j5 rec0 5 6 8 24 25) (setE 0 (j1 (x17 call hs u) 5) eNil)=j5 (xgf call hs u rec0) 5 6 8 24 25:=tr (sqN 2 x17l)
theorem x17n:x1q6 call hs u xnr (j1 (x17 call hs u) 5) (setE 0 (j1 (x17 call hs u) 5) eNil)=j5 (x54 call hs u NN) 5 6 8 24 25:=lp (Ln:=fun n=>j5 (x54 call hs u n) 5 6 8 24 25) fun n=>tr x17m
theorem x17o:x1q6 call hs u xnq (j1 (x17 call hs u) 5) eNil=j5 (x54 call hs u NN) 5 6 8 24 25:=bk x17n
theorem x17p:x1q6 call hs u xnp (j1 (x17 call hs u) 5) eNil=j3 (xar call hs u) 5 6 8:=tr (sqN 1 x17o)
theorem x17q:x1q6 call hs u xdl r_3 eNil=j3 (xar call hs u) 5 6 8:=sq2 x17i x17p
theorem xym:x1q6 call hs u xno r_3 eNil=j2 (xgg call hs u) 0 1:=tr (sqN 5 x17q)
noncomputable abbrev x1q7:=VX x73 30 r_3
noncomputable def xnt:=x1nn x73
noncomputable def xdn:=nRs 2 xnt
noncomputable def xnu:=nL xdn
noncomputable def x17r:=nR xdn
noncomputable def xnv:=nR xnu
noncomputable def xnw:=nR xnv
noncomputable def xnx:=nR xnw
noncomputable def xdo:=nRs 2 xnx
noncomputable def x17s:=nL xdo
noncomputable def x17t:=nR xdo
theorem x17u:x1q7 call hs u x17r r_3 eNil=j1 (x18 call hs u) 5:=by kernel_rfl
theorem x17v{rec0:AV->AV->AV->AV->AV->Mem->Nat->O2}:x1q7 call hs u x17t (j5 rec0 1 5 15 16 17) (setE 0 (j1 (x18 call hs u) 5) eNil)=j5 (x8r call hs u rec0) 1 5 15 16 17:=by kernel_rfl
theorem x17w{rec0:AV->AV->AV->AV->AV->Mem->Nat->O2}:x1q7 call hs u x17s (j5 (x8r call hs u rec0) 1 5 15 16 17) (setE 0 (j1 (x18 call hs u) 5) eNil)=j5 (xas call hs u rec0) 1 5 15 16 17:=by kernel_rfl
theorem x17x{rec0:AV->AV->AV->AV->AV->Mem->Nat->O2}:x1q7 call hs u xdo (j5 rec0 1 5 15 16 17) (setE 0 (j1 (x18 call hs u) 5) eNil)=j5 (xas call hs u rec0) 1 5 15 16 17:=sq2 x17v x17w
theorem x17y{rec0:AV->AV->AV->AV->AV->Mem->Nat->O2}:x1q7 call hs u xnx (j5 rec0 1 5 15 16 17) (setE 0 (j1 (x18 call hs u) 5) eNil)=j5 (xgi call hs u rec0) 1 5 15 16 17:=tr (sqN 2 x17x)
theorem x17z:x1q7 call hs u xnw (j1 (x18 call hs u) 5) (setE 0 (j1 (x18 call hs u) 5) eNil)=j5 (x55 call hs u NN) 1 5 15 16 17:=lp (Ln:=fun n=>j5 (x55 call hs u n) 1 5 15 16 17) fun n=>tr x17y
theorem x180:x1q7 call hs u xnv (j1 (x18 call hs u) 5) eNil=j5 (x55 call hs u NN) 1 5 15 16 17:=bk x17z
theorem x181:x1q7 call hs u xnu (j1 (x18 call hs u) 5) eNil=j3 (xat call hs u) 1 2 5:=tr (sqN 1 x180)
theorem x182:x1q7 call hs u xdn r_3 eNil=j3 (xat call hs u) 1 2 5:=sq2 x17u x181
theorem xyn:x1q7 call hs u xnt r_3 eNil=j2 (xgj call hs u) 0 1:=tr (sqN 2 x182)
noncomputable abbrev x1ri:=VX x1w 42 r_5
noncomputable def xny:=x1nn x1w
noncomputable def xdp:=nRs 2 xny
noncomputable def xnz:=nL xdp
noncomputable def x183:=nR xdp
noncomputable def xo0:=nR xnz
noncomputable def xo1:=nR xo0
noncomputable def x184:=nR xo1
theorem x185:x1ri call hs u x183 r_5 eNil=j0 (x24 call hs u):=by kernel_rfl
theorem x186{rec0:AV->AV->AV->AV->Mem->Nat->O2}:x1ri call hs u x184 (j4 rec0 0 9 10 11) (setE 0 (j0 (x24 call hs u)) eNil)=j4 (x8s call hs u rec0) 0 9 10 11:=by kernel_rfl
theorem x187:x1ri call hs u xo1 (j0 (x24 call hs u)) (setE 0 (j0 (x24 call hs u)) eNil)=j4 (x1r call hs u NN) 0 9 10 11:=lp (Ln:=fun n=>j4 (x1r call hs u n) 0 9 10 11) fun n=>tr x186
theorem x188:x1ri call hs u xo0 (j0 (x24 call hs u)) eNil=j4 (x1r call hs u NN) 0 9 10 11:=bk x187
theorem x189:x1ri call hs u xnz (j0 (x24 call hs u)) eNil=j1 (x8t call hs u) 0:=tr (sqN 1 x188)
theorem x18a:x1ri call hs u xdp r_5 eNil=j1 (x8t call hs u) 0:=sq2 x185 x189
theorem xyo:x1ri call hs u xny r_5 eNil=j1 (xau call hs u) 0:=tr (sqN 2 x18a)
noncomputable abbrev x1yz:=VX xy 10 r_3
noncomputable def x18b:=x1nn xy
theorem xyp:x1yz call hs u x18b r_3 eNil=j2 (xav call hs u) 0 1:=by kernel_rfl
noncomputable abbrev x1rj:=VX x39 55 r_8
noncomputable def xo2:=x1nn x39
noncomputable def xdq:=nRs 2 xo2
noncomputable def xo3:=nL xdq
noncomputable def x18c:=nR xdq
noncomputable def xo4:=nR xo3
noncomputable def xo5:=nR xo4
noncomputable def x18d:=nR xo5
theorem x18e:x1rj call hs u x18c r_8 eNil=j0 (x25 call hs u):=by kernel_rfl
theorem x18f{rec0:AV->AV->Mem->Nat->O2}:x1rj call hs u x18d (j2 rec0 0 3) (setE 0 (j0 (x25 call hs u)) eNil)=j2 (x8u call hs u rec0) 0 3:=by kernel_rfl
theorem x18g:x1rj call hs u xo5 (j0 (x25 call hs u)) (setE 0 (j0 (x25 call hs u)) eNil)=j2 (x1s call hs u NN) 0 3:=lp (Ln:=fun n=>j2 (x1s call hs u n) 0 3) fun n=>tr x18f
theorem x18h:x1rj call hs u xo4 (j0 (x25 call hs u)) eNil=j2 (x1s call hs u NN) 0 3:=bk x18g
theorem x18i:x1rj call hs u xo3 (j0 (x25 call hs u)) eNil=j1 (x8v call hs u) 0:=tr (sqN 1 x18h)
theorem x18j:x1rj call hs u xdq r_8 eNil=j1 (x8v call hs u) 0:=sq2 x18e x18i
theorem xyq:x1rj call hs u xo2 r_8 eNil=j1 (xaw call hs u) 0:=tr (sqN 2 x18j)
noncomputable abbrev x1z0:=VX x4c 11 r_8
noncomputable def x18k:=x1nn x4c
theorem xyr:x1z0 call hs u x18k r_8 eNil=j1 (xgk call hs u) 0:=by kernel_rfl
noncomputable abbrev x1rk:=VX x4d 15 r_8
noncomputable def xo6:=x1nn x4d
noncomputable def xdr:=nRs 2 xo6
noncomputable def xo7:=nL xdr
noncomputable def x18l:=nR xdr
noncomputable def xo8:=nR xo7
noncomputable def xo9:=nR xo8
noncomputable def x18m:=nR xo9
theorem x18n:x1rk call hs u x18l r_8 eNil=j1 (x2m call hs u) 3:=by kernel_rfl
theorem x18o{rec0:AV->AV->AV->Mem->Nat->O2}:x1rk call hs u x18m (j3 rec0 3 5 6) (setE 0 (j1 (x2m call hs u) 3) eNil)=j3 (xgl call hs u rec0) 3 5 6:=by kernel_rfl
theorem x18p:x1rk call hs u xo9 (j1 (x2m call hs u) 3) (setE 0 (j1 (x2m call hs u) 3) eNil)=j3 (x56 call hs u NN) 3 5 6:=lp (Ln:=fun n=>j3 (x56 call hs u n) 3 5 6) fun n=>tr x18o
theorem x18q:x1rk call hs u xo8 (j1 (x2m call hs u) 3) eNil=j3 (x56 call hs u NN) 3 5 6:=bk x18p
theorem x18r:x1rk call hs u xo7 (j1 (x2m call hs u) 3) eNil=j2 (xax call hs u) 0 3:=tr (sqN 1 x18q)
theorem x18s:x1rk call hs u xdr r_8 eNil=j2 (xax call hs u) 0 3:=sq2 x18n x18r
theorem xys:x1rk call hs u xo6 r_8 eNil=j1 (xgm call hs u) 0:=tr (sqN 2 x18s)
noncomputable abbrev x1q8:=VX x4e 44 r_3
noncomputable def xoa:=x1nn x4e
noncomputable def xds:=nRs 2 xoa
noncomputable def xob:=nL xds
noncomputable def x18t:=nR xds
noncomputable def xoc:=nR xob
noncomputable def xod:=nR xoc
noncomputable def xoe:=nR xod
noncomputable def xdt:=nRs 2 xoe
noncomputable def x18u:=nL xdt
noncomputable def x18v:=nR xdt
theorem x18w:x1q8 call hs u x18t r_3 eNil=j2 (x19 call hs u) 5 6:=by kernel_rfl
theorem x18x{rec0:AV->AV->AV->AV->AV->AV->Mem->Nat->O2}:x1q8 call hs u x18v (j6 rec0 0 5 6 19 20 21) (setE 0 (j2 (x19 call hs u) 5 6) eNil)=j6 (x8w call hs u rec0) 0 5 6 19 20 21:=by kernel_rfl
theorem x18y{rec0:AV->AV->AV->AV->AV->AV->Mem->Nat->O2}:x1q8 call hs u x18u (j6 (x8w call hs u rec0) 0 5 6 19 20 21) (setE 0 (j2 (x19 call hs u) 5 6) eNil)=j6 (xay call hs u rec0) 0 5 6 19 20 21:=by kernel_rfl
theorem x18z{rec0:AV->AV->AV->AV->AV->AV->Mem->Nat->O2}:x1q8 call hs u xdt (j6 rec0 0 5 6 19 20 21) (setE 0 (j2 (x19 call hs u) 5 6) eNil)=j6 (xay call hs u rec0) 0 5 6 19 20 21:=sq2 x18x x18y
theorem x190{rec0:AV->AV->AV->AV->AV->AV->Mem->Nat->O2}:x1q8 call hs u xoe (j6 rec0 0 5 6 19 20 21) (setE 0 (j2 (x19 call hs u) 5 6) eNil)=j6 (xgn call hs u rec0) 0 5 6 19 20 21:=tr (sqN 2 x18z)
theorem x191:x1q8 call hs u xod (j2 (x19 call hs u) 5 6) (setE 0 (j2 (x19 call hs u) 5 6) eNil)=j6 (x57 call hs u NN) 0 5 6 19 20 21:=lp (Ln:=fun n=>j6 (x57 call hs u n) 0 5 6 19 20 21) fun n=>tr x190
theorem x192:x1q8 call hs u xoc (j2 (x19 call hs u) 5 6) eNil=j6 (x57 call hs u NN) 0 5 6 19 20 21:=bk x191
theorem x193:x1q8 call hs u xob (j2 (x19 call hs u) 5 6) eNil=j3 (xaz call hs u) 0 5 6:=tr (sqN 1 x192)
theorem x194:x1q8 call hs u xds r_3 eNil=j3 (xaz call hs u) 0 5 6:=sq2 x18w x193
theorem xyt:x1q8 call hs u xoa r_3 eNil=j2 (xgo call hs u) 0 1:=tr (sqN 2 x194)
noncomputable abbrev x1rl:=VX x74 21 r_3
noncomputable def xof:=x1nn x74
noncomputable def xdu:=nRs 2 xof
noncomputable def xog:=nL xdu
noncomputable def x195:=nR xdu
noncomputable def xoh:=nR xog
noncomputable def xoi:=nR xoh
noncomputable def x196:=nR xoi
theorem x197:x1rl call hs u x195 r_3 eNil=j1 (x2n call hs u) 5:=by kernel_rfl
theorem x198{rec0:AV->AV->AV->AV->AV->Mem->Nat->O2}:x1rl call hs u x196 (j5 rec0 2 5 8 9 10) (setE 0 (j1 (x2n call hs u) 5) eNil)=j5 (xgp call hs u rec0) 2 5 8 9 10:=by kernel_rfl
theorem x199:x1rl call hs u xoi (j1 (x2n call hs u) 5) (setE 0 (j1 (x2n call hs u) 5) eNil)=j5 (x58 call hs u NN) 2 5 8 9 10:=lp (Ln:=fun n=>j5 (x58 call hs u n) 2 5 8 9 10) fun n=>tr x198
theorem x19a:x1rl call hs u xoh (j1 (x2n call hs u) 5) eNil=j5 (x58 call hs u NN) 2 5 8 9 10:=bk x199
theorem x19b:x1rl call hs u xog (j1 (x2n call hs u) 5) eNil=j3 (xb0 call hs u) 1 2 5:=tr (sqN 1 x19a)
theorem x19c:x1rl call hs u xdu r_3 eNil=j3 (xb0 call hs u) 1 2 5:=sq2 x197 x19b
theorem xyu:x1rl call hs u xof r_3 eNil=j2 (xgq call hs u) 0 1:=tr (sqN 2 x19c)
noncomputable abbrev x1z1:=VX x3a 9 r_3
noncomputable def x19d:=x1nn x3a
theorem xyv:x1z1 call hs u x19d r_3 eNil=j2 (xgr call hs u) 0 1:=by kernel_rfl
noncomputable abbrev x1z2:=VX x4f 15 r_11
noncomputable def x19e:=x1nn x4f
theorem xyw:x1z2 call hs u x19e r_11 eNil=j1 (xgs call hs u) 0:=by kernel_rfl
noncomputable abbrev x1z3:=VX x75 16 r_5
noncomputable def x19f:=x1nn x75
theorem xyx:x1z3 call hs u x19f r_5 eNil=j1 (xgt call hs u) 0:=by kernel_rfl
noncomputable abbrev x1z4:=VX x76 33 r_6
noncomputable def x19g:=x1nn x76
theorem xyy:x1z4 call hs u x19g r_6 eNil=j1 (xgu call hs u) 0:=by kernel_rfl
noncomputable abbrev x1z5:=VX x4g 7 r_8
noncomputable def x19h:=x1nn x4g
theorem xyz:x1z5 call hs u x19h r_8 eNil=j1 (xgv call hs u) 0:=by kernel_rfl
noncomputable abbrev x1z6:=VX x77 25 r_12
noncomputable def x19i:=x1nn x77
theorem xz0:x1z6 call hs u x19i r_12 eNil=j2 (xgw call hs u) 0 1:=by kernel_rfl
noncomputable abbrev x1p1:=VX x4h 51 r_8
noncomputable def xoj:=x1nn x4h
noncomputable def xdv:=nRs 2 xoj
noncomputable def xok:=nL xdv
noncomputable def xol:=nR xdv
noncomputable def xdw:=nRs 2 xol
noncomputable def xom:=nL xdw
noncomputable def x19j:=nR xdw
noncomputable def xon:=nR xom
noncomputable def xoo:=nR xon
noncomputable def xop:=nR xoo
noncomputable def xdx:=nRs 2 xop
noncomputable def x19k:=nL xdx
noncomputable def x19l:=nR xdx
noncomputable def xoq:=nR xok
noncomputable def xos:=nR xoq
noncomputable def x19m:=nR xos
theorem x19n:x1p1 call hs u x19j r_8 eNil=j1 (x1a call hs u) 4:=by kernel_rfl
theorem x19o{rec0:AV->AV->AV->AV->AV->AV->Mem->Nat->O2}:x1p1 call hs u x19l (j6 rec0 1 4 6 29 30 31) (setE 2 (j1 (x1a call hs u) 4) eNil)=j6 (x8y call hs u rec0) 1 4 6 29 30 31:=by kernel_rfl
theorem x19p{rec0:AV->AV->AV->AV->AV->AV->Mem->Nat->O2}:x1p1 call hs u x19k (j6 (x8y call hs u rec0) 1 4 6 29 30 31) (setE 2 (j1 (x1a call hs u) 4) eNil)=j6 (xb1 call hs u rec0) 1 4 6 29 30 31:=by kernel_rfl
theorem x19q{rec0:AV->AV->AV->AV->AV->AV->Mem->Nat->O2}:x1p1 call hs u xdx (j6 rec0 1 4 6 29 30 31) (setE 2 (j1 (x1a call hs u) 4) eNil)=j6 (xb1 call hs u rec0) 1 4 6 29 30 31:=sq2 x19o x19p
theorem x19r{rec0:AV->AV->AV->AV->AV->AV->Mem->Nat->O2}:x1p1 call hs u xop (j6 rec0 1 4 6 29 30 31) (setE 2 (j1 (x1a call hs u) 4) eNil)=j6 (xgx call hs u rec0) 1 4 6 29 30 31:=tr (sqN 2 x19q)
theorem x19s:x1p1 call hs u xoo (j1 (x1a call hs u) 4) (setE 2 (j1 (x1a call hs u) 4) eNil)=j6 (x59 call hs u NN) 1 4 6 29 30 31:=lp (Ln:=fun n=>j6 (x59 call hs u n) 1 4 6 29 30 31) fun n=>tr x19r
theorem x19t:x1p1 call hs u xon (j1 (x1a call hs u) 4) eNil=j6 (x59 call hs u NN) 1 4 6 29 30 31:=bk x19s
theorem x19u:x1p1 call hs u xom (j1 (x1a call hs u) 4) eNil=j4 (xb2 call hs u) 1 3 4 6:=tr (sqN 1 x19t)
theorem x19v:x1p1 call hs u xdw r_8 eNil=j4 (xb2 call hs u) 1 3 4 6:=sq2 x19n x19u
theorem x19w:x1p1 call hs u xol r_8 eNil=j3 (x2o call hs u) 1 3 4:=tr (sqN 2 x19v)
theorem x19x{rec1:AV->AV->AV->AV->AV->Mem->Nat->O2}:x1p1 call hs u x19m (j5 rec1 1 3 4 12 13) (setE 0 (j3 (x2o call hs u) 1 3 4) eNil)=j5 (xgy call hs u rec1) 1 3 4 12 13:=by kernel_rfl
theorem x19y:x1p1 call hs u xos (j3 (x2o call hs u) 1 3 4) (setE 0 (j3 (x2o call hs u) 1 3 4) eNil)=j5 (x5a call hs u NN) 1 3 4 12 13:=lp (Ln:=fun n=>j5 (x5a call hs u n) 1 3 4 12 13) fun n=>tr x19x
theorem x19z:x1p1 call hs u xoq (j3 (x2o call hs u) 1 3 4) eNil=j5 (x5a call hs u NN) 1 3 4 12 13:=bk x19y
theorem x1a0:x1p1 call hs u xok (j3 (x2o call hs u) 1 3 4) eNil=j3 (xb3 call hs u) 1 3 4:=tr (sqN 1 x19z)
theorem x1a1:x1p1 call hs u xdv r_8 eNil=j3 (xb3 call hs u) 1 3 4:=sq2 x19w x1a0
theorem xz1:x1p1 call hs u xoj r_8 eNil=j1 (xgz call hs u) 0:=tr (sqN 2 x1a1)
noncomputable abbrev x1z7:=VX x78 6 r_8
noncomputable def x1a2:=x1nn x78
theorem xz2:x1z7 call hs u x1a2 r_8 eNil=j1 (xh0 call hs u) 0:=by kernel_rfl
noncomputable abbrev x1z8:=VX x79 6 r_8
noncomputable def x1a3:=x1nn x79
theorem xz3:x1z8 call hs u x1a3 r_8 eNil=j1 (xh1 call hs u) 0:=by kernel_rfl
noncomputable abbrev x1uw:=VX x3b 43 r_13
noncomputable abbrev x1ws:=VX (R:=Mem) x3b 43 fNil
noncomputable def xot:=x1nn x3b
noncomputable def xou:=nRs 3 xot
noncomputable def x9s:=nR xou
noncomputable def x1a4:=nL x9s
noncomputable def x1a5:=nR x9s
theorem x1a6:x1ws call hs u x1a5 (fun s=>some s.m) eNil=j7 (xb4 call hs u) 1 4 5 6 7 8 9:=by kernel_rfl
theorem x1a7:x1ws call hs u x1a4 (j7 (xb4 call hs u) 1 4 5 6 7 8 9) eNil=j7 (xh2 call hs u) 1 4 5 6 7 17 18:=by kernel_rfl
theorem x1a8:x1uw call hs u x9s r_13 (setE 0 r_13 eNil)=j6 (xb6 call hs u) 1 4 5 6 7 16:=tr (rg (C:=x9s) (c:={f:=x3b,u:=u,nt:=43,hs:=hs}) (f:=(.tmp 16)) (ps:=#[17,18]) (fun u=>x1a6) (fun u=>x1a7))
theorem x1a9:x1uw call hs u xou r_13 eNil=j6 (xb6 call hs u) 1 4 5 6 7 16:=bk x1a8
theorem xz4:x1uw call hs u xot r_13 eNil=j7 (xh3 call hs u) 0 1 2 3 4 5 6:=tr (sqN 3 x1a9)
noncomputable abbrev x1z9:=VX x7a 8 r_0
noncomputable def x1aa:=x1nn x7a
theorem xz5:x1z9 call hs u x1aa r_0 eNil=j3 (xh4 call hs u) 0 1 2:=by kernel_rfl
noncomputable abbrev x1p6:=VX x3c 49 r_8
noncomputable def xov:=x1nn x3c
noncomputable def xdy:=nRs 2 xov
noncomputable def xow:=nL xdy
noncomputable def x1ab:=nR xdy
noncomputable def xox:=nR xow
noncomputable def xoy:=nR xox
noncomputable def xoz:=nR xoy
noncomputable def xdz:=nRs 2 xoz
noncomputable def xp0:=nL xdz
noncomputable def x1ac:=nR xdz
noncomputable def xp1:=nR xp0
noncomputable def xp2:=nR xp1
noncomputable def xe0:=nR xp2
noncomputable def x1ad:=nL xe0
noncomputable def x1ae:=nR xe0
theorem x1af:x1p6 call hs u x1ab r_8 eNil=j0 (xh call hs u):=by kernel_rfl
theorem x1ag{rec0:AV->AV->AV->Mem->Nat->O2}:x1p6 call hs u x1ac (j3 rec0 13 14 15) (setE 0 (j0 (xh call hs u)) eNil)=j3 (xe call hs u rec0) 13 14 15:=by kernel_rfl
theorem x1ah{rec0:AV->AV->AV->Mem->Nat->O2}:x1p6 call hs u x1ae (j3 (xe call hs u rec0) 13 14 15) (setE 2 (j3 (xe call hs u rec0) 13 14 15) (setE 1 (j3 (xe call hs u rec0) 13 14 15) (setE 0 (j0 (xh call hs u)) eNil)))=j6 (x5b call hs u rec0) 3 4 13 14 15 20:=by kernel_rfl
theorem x1ai{rec0:AV->AV->AV->Mem->Nat->O2}:x1p6 call hs u x1ad (j6 (x5b call hs u rec0) 3 4 13 14 15 20) (setE 2 (j3 (xe call hs u rec0) 13 14 15) (setE 1 (j3 (xe call hs u rec0) 13 14 15) (setE 0 (j0 (xh call hs u)) eNil)))=j5 (x5c call hs u rec0) 3 4 13 14 15:=by kernel_rfl
theorem x1aj{rec0:AV->AV->AV->Mem->Nat->O2}:x1p6 call hs u xe0 (j3 (xe call hs u rec0) 13 14 15) (setE 2 (j3 (xe call hs u rec0) 13 14 15) (setE 1 (j3 (xe call hs u rec0) 13 14 15) (setE 0 (j0 (xh call hs u)) eNil)))=j5 (x5c call hs u rec0) 3 4 13 14 15:=sq2 x1ah x1ai
theorem x1ak{rec0:AV->AV->AV->Mem->Nat->O2}:x1p6 call hs u xp2 (j3 (xe call hs u rec0) 13 14 15) (setE 1 (j3 (xe call hs u rec0) 13 14 15) (setE 0 (j0 (xh call hs u)) eNil))=j5 (x5c call hs u rec0) 3 4 13 14 15:=bk x1aj
theorem x1al{rec0:AV->AV->AV->Mem->Nat->O2}:x1p6 call hs u xp1 (j3 (xe call hs u rec0) 13 14 15) (setE 1 (j3 (xe call hs u rec0) 13 14 15) (setE 0 (j0 (xh call hs u)) eNil))=j3 (x5d call hs u rec0) 13 14 15:=tr (sqN 1 x1ak)
theorem x1am{rec0:AV->AV->AV->Mem->Nat->O2}:x1p6 call hs u xp0 (j3 (xe call hs u rec0) 13 14 15) (setE 0 (j0 (xh call hs u)) eNil)=j3 (x5d call hs u rec0) 13 14 15:=bk x1al
theorem x1an{rec0:AV->AV->AV->Mem->Nat->O2}:x1p6 call hs u xdz (j3 rec0 13 14 15) (setE 0 (j0 (xh call hs u)) eNil)=j3 (x5d call hs u rec0) 13 14 15:=sq2 x1ag x1am
theorem x1ao{rec0:AV->AV->AV->Mem->Nat->O2}:x1p6 call hs u xoz (j3 rec0 13 14 15) (setE 0 (j0 (xh call hs u)) eNil)=j3 (x8z call hs u rec0) 13 14 15:=tr (sqN 2 x1an)
theorem x1ap:x1p6 call hs u xoy (j0 (xh call hs u)) (setE 0 (j0 (xh call hs u)) eNil)=j3 (x1t call hs u NN) 13 14 15:=lp (Ln:=fun n=>j3 (x1t call hs u n) 13 14 15) fun n=>tr x1ao
theorem x1aq:x1p6 call hs u xox (j0 (xh call hs u)) eNil=j3 (x1t call hs u NN) 13 14 15:=bk x1ap
theorem x1ar:x1p6 call hs u xow (j0 (xh call hs u)) eNil=j1 (x90 call hs u) 0:=tr (sqN 1 x1aq)
theorem x1as:x1p6 call hs u xdy r_8 eNil=j1 (x90 call hs u) 0:=sq2 x1af x1ar
theorem xz6:x1p6 call hs u xov r_8 eNil=j1 (xb7 call hs u) 0:=tr (sqN 2 x1as)
noncomputable abbrev x1za:=VX x3d 9 r_3
noncomputable def x1at:=x1nn x3d
theorem xz7:x1za call hs u x1at r_3 eNil=j2 (xb8 call hs u) 0 1:=by kernel_rfl
noncomputable abbrev x1zb:=VX xf 9 r_14
noncomputable def x1au:=x1nn xf
theorem xz8:x1zb call hs u x1au r_14 eNil=j2 (xb9 call hs u) 0 1:=by kernel_rfl
noncomputable abbrev x1rm:=VX x7b 66 r_5
noncomputable def xp3:=x1nn x7b
noncomputable def xe1:=nRs 4 xp3
noncomputable def xp4:=nL xe1
noncomputable def x1av:=nR xe1
noncomputable def xp5:=nR xp4
noncomputable def xp6:=nR xp5
noncomputable def x1aw:=nR xp6
theorem x1ax:x1rm call hs u x1av r_5 eNil=j0 (x2p call hs u):=by kernel_rfl
theorem x1ay{rec0:AV->AV->AV->AV->AV->Mem->Nat->O2}:x1rm call hs u x1aw (j5 rec0 1 6 26 27 28) (setE 0 (j0 (x2p call hs u)) eNil)=j5 (xh5 call hs u rec0) 1 6 26 27 28:=by kernel_rfl
theorem x1az:x1rm call hs u xp6 (j0 (x2p call hs u)) (setE 0 (j0 (x2p call hs u)) eNil)=j5 (x5f call hs u NN) 1 6 26 27 28:=lp (Ln:=fun n=>j5 (x5f call hs u n) 1 6 26 27 28) fun n=>tr x1ay
theorem x1b0:x1rm call hs u xp5 (j0 (x2p call hs u)) eNil=j5 (x5f call hs u NN) 1 6 26 27 28:=bk x1az
theorem x1b1:x1rm call hs u xp4 (j0 (x2p call hs u)) eNil=j2 (xba call hs u) 1 6:=tr (sqN 1 x1b0)
theorem x1b2:x1rm call hs u xe1 r_5 eNil=j2 (xba call hs u) 1 6:=sq2 x1ax x1b1
theorem xz9:x1rm call hs u xp3 r_5 eNil=j1 (xh7 call hs u) 0:=tr (sqN 4 x1b2)
noncomputable abbrev x1zc:=VX x3e 41 r_3
noncomputable def x1b3:=x1nn x3e
theorem xza:x1zc call hs u x1b3 r_3 eNil=j2 (xh8 call hs u) 0 1:=by kernel_rfl
noncomputable abbrev x1rn:=VX x46 19 r_3
noncomputable def xp7:=x1nn x46
noncomputable def xe2:=nR xp7
noncomputable def xp8:=nL xe2
noncomputable def x1b4:=nR xe2
noncomputable def xp9:=nR xp8
noncomputable def xpa:=nR xp9
noncomputable def x1b5:=nR xpa
theorem x1b6:x1rn call hs u x1b4 r_3 eNil=j0 (x2q call hs u):=by kernel_rfl
theorem x1b7{rec0:AV->AV->AV->AV->Mem->Nat->O2}:x1rn call hs u x1b5 (j4 rec0 0 1 7 8) (setE 0 (j0 (x2q call hs u)) eNil)=j4 (xh9 call hs u rec0) 0 1 7 8:=by kernel_rfl
theorem x1b8:x1rn call hs u xpa (j0 (x2q call hs u)) (setE 0 (j0 (x2q call hs u)) eNil)=j4 (x5g call hs u NN) 0 1 7 8:=lp (Ln:=fun n=>j4 (x5g call hs u n) 0 1 7 8) fun n=>tr x1b7
theorem x1b9:x1rn call hs u xp9 (j0 (x2q call hs u)) eNil=j4 (x5g call hs u NN) 0 1 7 8:=bk x1b8
theorem x1ba:x1rn call hs u xp8 (j0 (x2q call hs u)) eNil=j2 (xbb call hs u) 0 1:=tr (sqN 1 x1b9)
theorem x1bb:x1rn call hs u xe2 r_3 eNil=j2 (xbb call hs u) 0 1:=sq2 x1b6 x1ba
theorem xy2:x1rn call hs u xp7 r_3 eNil=j2 (xha call hs u) 0 1:=tr (sqN 1 x1bb)
noncomputable abbrev x1ro:=VX x7c 59 r_11
noncomputable def xpb:=x1nn x7c
noncomputable def xe3:=nRs 4 xpb
noncomputable def xpc:=nL xe3
noncomputable def x1bc:=nR xe3
noncomputable def xpd:=nR xpc
noncomputable def xpe:=nR xpd
noncomputable def x1bd:=nR xpe
theorem x1be:x1ro call hs u x1bc r_11 eNil=j2 (x2r call hs u) 2 5:=by kernel_rfl
theorem x1bf{rec0:AV->AV->AV->AV->AV->AV->AV->Mem->Nat->O2}:x1ro call hs u x1bd (j7 rec0 1 2 4 5 25 26 27) (setE 0 (j2 (x2r call hs u) 2 5) eNil)=j7 (xhb call hs u rec0) 1 2 4 5 25 26 27:=by kernel_rfl
theorem x1bg:x1ro call hs u xpe (j2 (x2r call hs u) 2 5) (setE 0 (j2 (x2r call hs u) 2 5) eNil)=j7 (x5h call hs u NN) 1 2 4 5 25 26 27:=lp (Ln:=fun n=>j7 (x5h call hs u n) 1 2 4 5 25 26 27) fun n=>tr x1bf
theorem x1bh:x1ro call hs u xpd (j2 (x2r call hs u) 2 5) eNil=j7 (x5h call hs u NN) 1 2 4 5 25 26 27:=bk x1bg
theorem x1bi:x1ro call hs u xpc (j2 (x2r call hs u) 2 5) eNil=j4 (xbc call hs u) 1 2 4 5:=tr (sqN 1 x1bh)
theorem x1bj:x1ro call hs u xe3 r_11 eNil=j4 (xbc call hs u) 1 2 4 5:=sq2 x1be x1bi
theorem xzb:x1ro call hs u xpb r_11 eNil=j1 (xhc call hs u) 0:=tr (sqN 4 x1bj)
noncomputable abbrev x1zd:=VX x4i 14 r_15
noncomputable def x1bk:=x1nn x4i
theorem xzc:x1zd call hs u x1bk r_15 eNil=j1 (xhd call hs u) 0:=by kernel_rfl
noncomputable abbrev x1rp:=VX x7d 26 r_8
noncomputable def xpf:=x1nn x7d
noncomputable def xe4:=nRs 3 xpf
noncomputable def xpg:=nL xe4
noncomputable def x1bl:=nR xe4
noncomputable def xph:=nR xpg
noncomputable def xpi:=nR xph
noncomputable def x1bm:=nR xpi
theorem x1bn:x1rp call hs u x1bl r_8 eNil=j2 (x2s call hs u) 1 4:=by kernel_rfl
theorem x1bo{rec0:AV->AV->AV->AV->AV->Mem->Nat->O2}:x1rp call hs u x1bm (j5 rec0 1 3 4 10 11) (setE 0 (j2 (x2s call hs u) 1 4) eNil)=j5 (xhe call hs u rec0) 1 3 4 10 11:=by kernel_rfl
theorem x1bp:x1rp call hs u xpi (j2 (x2s call hs u) 1 4) (setE 0 (j2 (x2s call hs u) 1 4) eNil)=j5 (x5i call hs u NN) 1 3 4 10 11:=lp (Ln:=fun n=>j5 (x5i call hs u n) 1 3 4 10 11) fun n=>tr x1bo
theorem x1bq:x1rp call hs u xph (j2 (x2s call hs u) 1 4) eNil=j5 (x5i call hs u NN) 1 3 4 10 11:=bk x1bp
theorem x1br:x1rp call hs u xpg (j2 (x2s call hs u) 1 4) eNil=j3 (xbd call hs u) 1 3 4:=tr (sqN 1 x1bq)
theorem x1bs:x1rp call hs u xe4 r_8 eNil=j3 (xbd call hs u) 1 3 4:=sq2 x1bn x1br
theorem xzd:x1rp call hs u xpf r_8 eNil=j1 (xhf call hs u) 0:=tr (sqN 3 x1bs)
noncomputable abbrev x1op:=VX x4j 64 r_8
noncomputable def xpj:=x1nn x4j
noncomputable def xe5:=nRs 2 xpj
noncomputable def xpk:=nL xe5
noncomputable def xpl:=nR xe5
noncomputable def xe6:=nRs 2 xpl
noncomputable def xpm:=nL xe6
noncomputable def x1bt:=nR xe6
noncomputable def xpn:=nR xpm
noncomputable def xpo:=nR xpn
noncomputable def xpp:=nR xpo
noncomputable def xe7:=nRs 2 xpp
noncomputable def xpq:=nL xe7
noncomputable def x1bu:=nR xe7
noncomputable def xpr:=nR xpq
noncomputable def xe8:=nR xpr
noncomputable def x1bv:=nL xe8
noncomputable def x1bw:=nR xe8
noncomputable def xps:=nR xpk
noncomputable def x1bx:=nR xps
theorem x1by:x1op call hs u x1bt r_8 eNil=j1 (xn call hs u) 3:=by kernel_rfl
theorem x1bz{rec0:AV->AV->AV->AV->AV->Mem->Nat->O2}:x1op call hs u x1bu (j5 rec0 3 6 26 27 28) (setE 2 (j1 (xn call hs u) 3) eNil)=j5 (x1b call hs u rec0) 3 6 26 27 28:=by kernel_rfl
theorem x1c0{rec0:AV->AV->AV->AV->AV->Mem->Nat->O2}:x1op call hs u x1bw (j5 (x1b call hs u rec0) 3 6 26 27 28) (setE 3 (j5 (x1b call hs u rec0) 3 6 26 27 28) (setE 2 (j1 (xn call hs u) 3) eNil))=j7 (x91 call hs u rec0) 3 6 7 8 26 27 28:=by kernel_rfl
theorem x1c1{rec0:AV->AV->AV->AV->AV->Mem->Nat->O2}:x1op call hs u x1bv (j7 (x91 call hs u rec0) 3 6 7 8 26 27 28) (setE 3 (j5 (x1b call hs u rec0) 3 6 26 27 28) (setE 2 (j1 (xn call hs u) 3) eNil))=j7 (xbf call hs u rec0) 3 6 7 8 26 27 28:=by kernel_rfl
theorem x1c2{rec0:AV->AV->AV->AV->AV->Mem->Nat->O2}:x1op call hs u xe8 (j5 (x1b call hs u rec0) 3 6 26 27 28) (setE 3 (j5 (x1b call hs u rec0) 3 6 26 27 28) (setE 2 (j1 (xn call hs u) 3) eNil))=j7 (xbf call hs u rec0) 3 6 7 8 26 27 28:=sq2 x1c0 x1c1
theorem x1c3{rec0:AV->AV->AV->AV->AV->Mem->Nat->O2}:x1op call hs u xpr (j5 (x1b call hs u rec0) 3 6 26 27 28) (setE 3 (j5 (x1b call hs u rec0) 3 6 26 27 28) (setE 2 (j1 (xn call hs u) 3) eNil))=j5 (x92 call hs u rec0) 3 6 26 27 28:=tr (sqN 1 x1c2)
theorem x1c4{rec0:AV->AV->AV->AV->AV->Mem->Nat->O2}:x1op call hs u xpq (j5 (x1b call hs u rec0) 3 6 26 27 28) (setE 2 (j1 (xn call hs u) 3) eNil)=j5 (x92 call hs u rec0) 3 6 26 27 28:=bk x1c3
theorem x1c5{rec0:AV->AV->AV->AV->AV->Mem->Nat->O2}:x1op call hs u xe7 (j5 rec0 3 6 26 27 28) (setE 2 (j1 (xn call hs u) 3) eNil)=j5 (x92 call hs u rec0) 3 6 26 27 28:=sq2 x1bz x1c4
theorem x1c6{rec0:AV->AV->AV->AV->AV->Mem->Nat->O2}:x1op call hs u xpp (j5 rec0 3 6 26 27 28) (setE 2 (j1 (xn call hs u) 3) eNil)=j5 (xhh call hs u rec0) 3 6 26 27 28:=tr (sqN 2 x1c5)
theorem x1c7:x1op call hs u xpo (j1 (xn call hs u) 3) (setE 2 (j1 (xn call hs u) 3) eNil)=j5 (x5j call hs u NN) 3 6 26 27 28:=lp (Ln:=fun n=>j5 (x5j call hs u n) 3 6 26 27 28) fun n=>tr x1c6
theorem x1c8:x1op call hs u xpn (j1 (xn call hs u) 3) eNil=j5 (x5j call hs u NN) 3 6 26 27 28:=bk x1c7
theorem x1c9:x1op call hs u xpm (j1 (xn call hs u) 3) eNil=j3 (xbg call hs u) 3 5 6:=tr (sqN 1 x1c8)
theorem x1ca:x1op call hs u xe6 r_8 eNil=j3 (xbg call hs u) 3 5 6:=sq2 x1by x1c9
theorem x1cb:x1op call hs u xpl r_8 eNil=j2 (x3k call hs u) 1 3:=tr (sqN 2 x1ca)
theorem x1cc{rec1:AV->AV->Mem->Nat->O2}:x1op call hs u x1bx (j2 rec1 1 3) (setE 0 (j2 (x3k call hs u) 1 3) eNil)=j2 (xhi call hs u rec1) 1 3:=by kernel_rfl
theorem x1cd:x1op call hs u xps (j2 (x3k call hs u) 1 3) (setE 0 (j2 (x3k call hs u) 1 3) eNil)=j2 (x3l call hs u NN) 1 3:=lp (Ln:=fun n=>j2 (x3l call hs u n) 1 3) fun n=>tr x1cc
theorem x1ce:x1op call hs u xpk (j2 (x3k call hs u) 1 3) eNil=j2 (x3l call hs u NN) 1 3:=bk x1cd
theorem x1cf:x1op call hs u xe5 r_8 eNil=j2 (x3l call hs u NN) 1 3:=sq2 x1cb x1ce
theorem xze:x1op call hs u xpj r_8 eNil=j1 (xhj call hs u) 0:=tr (sqN 2 x1cf)
noncomputable abbrev x1rq:=VX x7e 27 r_3
noncomputable def xpt:=x1nn x7e
noncomputable def xe9:=nRs 2 xpt
noncomputable def xpu:=nL xe9
noncomputable def x1cg:=nR xe9
noncomputable def xpv:=nR xpu
noncomputable def xpw:=nR xpv
noncomputable def x1ch:=nR xpw
theorem x1ci:x1rq call hs u x1cg r_3 eNil=j1 (x2t call hs u) 5:=by kernel_rfl
theorem x1cj{rec0:AV->AV->AV->AV->AV->Mem->Nat->O2}:x1rq call hs u x1ch (j5 rec0 1 5 10 11 12) (setE 0 (j1 (x2t call hs u) 5) eNil)=j5 (xhk call hs u rec0) 1 5 10 11 12:=by kernel_rfl
theorem x1ck:x1rq call hs u xpw (j1 (x2t call hs u) 5) (setE 0 (j1 (x2t call hs u) 5) eNil)=j5 (x5k call hs u NN) 1 5 10 11 12:=lp (Ln:=fun n=>j5 (x5k call hs u n) 1 5 10 11 12) fun n=>tr x1cj
theorem x1cl:x1rq call hs u xpv (j1 (x2t call hs u) 5) eNil=j5 (x5k call hs u NN) 1 5 10 11 12:=bk x1ck
theorem x1cm:x1rq call hs u xpu (j1 (x2t call hs u) 5) eNil=j3 (xbh call hs u) 1 2 5:=tr (sqN 1 x1cl)
theorem x1cn:x1rq call hs u xe9 r_3 eNil=j3 (xbh call hs u) 1 2 5:=sq2 x1ci x1cm
theorem xzf:x1rq call hs u xpt r_3 eNil=j2 (xhl call hs u) 0 1:=tr (sqN 2 x1cn)
noncomputable abbrev x1ze:=VX x7f 9 r_13
noncomputable def x1co:=x1nn x7f
theorem xzg:x1ze call hs u x1co r_13 eNil=j2 (xhm call hs u) 0 1:=by kernel_rfl
noncomputable abbrev x1zf:=VX x7g 13 r_16
noncomputable def x1cp:=x1nn x7g
theorem xzh:x1zf call hs u x1cp r_16 eNil=j3 (xhn call hs u) 0 1 2:=by kernel_rfl
noncomputable abbrev x1zg:=VX x7h 11 r_13
noncomputable def x1cq:=x1nn x7h
theorem xzi:x1zg call hs u x1cq r_13 eNil=j1 (xho call hs u) 0:=by kernel_rfl
noncomputable abbrev x1pu:=VX x7i 43 r_13
noncomputable def xpx:=x1nn x7i
noncomputable def xpy:=nR xpx
noncomputable def xpz:=nR xpy
noncomputable def xq0:=nR xpz
noncomputable def xea:=nRs 2 xq0
noncomputable def xq1:=nL xea
noncomputable def x1cr:=nR xea
noncomputable def xq2:=nR xq1
noncomputable def xq3:=nRs 2 xq2
noncomputable def xq4:=nR xq3
noncomputable def x1cs:=nR xq4
theorem x1ct{rec0:AV->AV->AV->AV->AV->AV->Mem->Nat->O2}:x1pu call hs u x1cr (j6 rec0 0 2 3 12 13 14) (setE 0 r_13 eNil)=j6 (xu call hs u rec0) 0 2 3 12 13 14:=by kernel_rfl
theorem x1cu{rec0:AV->AV->AV->AV->AV->AV->Mem->Nat->O2}{rec1:AV->AV->AV->AV->AV->AV->AV->AV->AV->Mem->Nat->O2}:x1pu call hs u x1cs (j9 rec1 0 2 3 6 12 13 14 18 19) (setE 2 (j6 (xu call hs u rec0) 0 2 3 12 13 14) (setE 1 (j6 (xu call hs u rec0) 0 2 3 12 13 14) (setE 0 r_13 eNil)))=j9 (xhp call hs u rec0 rec1) 0 2 3 6 12 13 14 18 19:=by kernel_rfl
theorem x1cv{rec0:AV->AV->AV->AV->AV->AV->Mem->Nat->O2}:x1pu call hs u xq4 (j6 (xu call hs u rec0) 0 2 3 12 13 14) (setE 2 (j6 (xu call hs u rec0) 0 2 3 12 13 14) (setE 1 (j6 (xu call hs u rec0) 0 2 3 12 13 14) (setE 0 r_13 eNil)))=j9 (x5l call hs u rec0 NN) 0 2 3 6 12 13 14 18 19:=lp (Ln:=fun n=>j9 (x5l call hs u rec0 n) 0 2 3 6 12 13 14 18 19) fun n=>tr x1cu
theorem x1cw{rec0:AV->AV->AV->AV->AV->AV->Mem->Nat->O2}:x1pu call hs u xq3 (j6 (xu call hs u rec0) 0 2 3 12 13 14) (setE 1 (j6 (xu call hs u rec0) 0 2 3 12 13 14) (setE 0 r_13 eNil))=j9 (x5l call hs u rec0 NN) 0 2 3 6 12 13 14 18 19:=bk x1cv
theorem x1cx{rec0:AV->AV->AV->AV->AV->AV->Mem->Nat->O2}:x1pu call hs u xq2 (j6 (xu call hs u rec0) 0 2 3 12 13 14) (setE 1 (j6 (xu call hs u rec0) 0 2 3 12 13 14) (setE 0 r_13 eNil))=j6 (x93 call hs u rec0) 0 2 3 12 13 14:=tr (sqN 2 x1cw)
theorem x1cy{rec0:AV->AV->AV->AV->AV->AV->Mem->Nat->O2}:x1pu call hs u xq1 (j6 (xu call hs u rec0) 0 2 3 12 13 14) (setE 0 r_13 eNil)=j6 (x93 call hs u rec0) 0 2 3 12 13 14:=bk x1cx
theorem x1cz{rec0:AV->AV->AV->AV->AV->AV->Mem->Nat->O2}:x1pu call hs u xea (j6 rec0 0 2 3 12 13 14) (setE 0 r_13 eNil)=j6 (x93 call hs u rec0) 0 2 3 12 13 14:=sq2 x1ct x1cy
theorem x1d0{rec0:AV->AV->AV->AV->AV->AV->Mem->Nat->O2}:x1pu call hs u xq0 (j6 rec0 0 2 3 12 13 14) (setE 0 r_13 eNil)=j6 (xhr call hs u rec0) 0 2 3 12 13 14:=tr (sqN 2 x1cz)
theorem x1d1:x1pu call hs u xpz r_13 (setE 0 r_13 eNil)=j6 (x5m call hs u NN) 0 2 3 12 13 14:=lp (Ln:=fun n=>j6 (x5m call hs u n) 0 2 3 12 13 14) fun n=>tr x1d0
theorem x1d2:x1pu call hs u xpy r_13 eNil=j6 (x5m call hs u NN) 0 2 3 12 13 14:=bk x1d1
theorem xzj:x1pu call hs u xpx r_13 eNil=j4 (xhs call hs u) 0 1 2 3:=tr (sqN 1 x1d2)
noncomputable abbrev x1rr:=VX x3f 19 r_3
noncomputable def xq5:=x1nn x3f
noncomputable def xeb:=nR xq5
noncomputable def xq6:=nL xeb
noncomputable def x1d3:=nR xeb
noncomputable def xq7:=nR xq6
noncomputable def xq8:=nR xq7
noncomputable def x1d4:=nR xq8
theorem x1d5:x1rr call hs u x1d3 r_3 eNil=j0 (x26 call hs u):=by kernel_rfl
theorem x1d6{rec0:AV->AV->AV->AV->Mem->Nat->O2}:x1rr call hs u x1d4 (j4 rec0 0 1 7 8) (setE 0 (j0 (x26 call hs u)) eNil)=j4 (x94 call hs u rec0) 0 1 7 8:=by kernel_rfl
theorem x1d7:x1rr call hs u xq8 (j0 (x26 call hs u)) (setE 0 (j0 (x26 call hs u)) eNil)=j4 (x27 call hs u NN) 0 1 7 8:=lp (Ln:=fun n=>j4 (x27 call hs u n) 0 1 7 8) fun n=>tr x1d6
theorem x1d8:x1rr call hs u xq7 (j0 (x26 call hs u)) eNil=j4 (x27 call hs u NN) 0 1 7 8:=bk x1d7
theorem x1d9:x1rr call hs u xq6 (j0 (x26 call hs u)) eNil=j2 (x95 call hs u) 0 1:=tr (sqN 1 x1d8)
theorem x1da:x1rr call hs u xeb r_3 eNil=j2 (x95 call hs u) 0 1:=sq2 x1d5 x1d9
theorem xzk:x1rr call hs u xq5 r_3 eNil=j2 (xbi call hs u) 0 1:=tr (sqN 1 x1da)
noncomputable abbrev x1zh:=VX x7j 6 r_8
noncomputable def x1db:=x1nn x7j
theorem xzl:x1zh call hs u x1db r_8 eNil=j1 (xht call hs u) 0:=by kernel_rfl
noncomputable abbrev x1rs:=VX x7k 62 r_5
noncomputable def xq9:=x1nn x7k
noncomputable def xec:=nRs 2 xq9
noncomputable def xqa:=nL xec
noncomputable def x1dc:=nR xec
noncomputable def xqb:=nR xqa
noncomputable def xqc:=nR xqb
noncomputable def x1dd:=nR xqc
theorem x1de:x1rs call hs u x1dc r_5 eNil=j0 (x2u call hs u):=by kernel_rfl
theorem x1df{rec0:AV->AV->AV->AV->Mem->Nat->O2}:x1rs call hs u x1dd (j4 rec0 1 17 18 19) (setE 1 (j0 (x2u call hs u)) eNil)=j4 (xhu call hs u rec0) 1 17 18 19:=by kernel_rfl
theorem x1dg:x1rs call hs u xqc (j0 (x2u call hs u)) (setE 1 (j0 (x2u call hs u)) eNil)=j4 (x5n call hs u NN) 1 17 18 19:=lp (Ln:=fun n=>j4 (x5n call hs u n) 1 17 18 19) fun n=>tr x1df
theorem x1dh:x1rs call hs u xqb (j0 (x2u call hs u)) eNil=j4 (x5n call hs u NN) 1 17 18 19:=bk x1dg
theorem x1di:x1rs call hs u xqa (j0 (x2u call hs u)) eNil=j1 (xbj call hs u) 1:=tr (sqN 1 x1dh)
theorem x1dj:x1rs call hs u xec r_5 eNil=j1 (xbj call hs u) 1:=sq2 x1de x1di
theorem xzm:x1rs call hs u xq9 r_5 eNil=j1 (xhv call hs u) 0:=tr (sqN 2 x1dj)
noncomputable abbrev x1q9:=VX x7l 47 r_3
noncomputable def xqd:=x1nn x7l
noncomputable def xed:=nRs 2 xqd
noncomputable def xqe:=nL xed
noncomputable def x1dk:=nR xed
noncomputable def xqf:=nR xqe
noncomputable def xqg:=nR xqf
noncomputable def xqh:=nR xqg
noncomputable def xee:=nRs 2 xqh
noncomputable def x1dl:=nL xee
noncomputable def x1dm:=nR xee
theorem x1dn:x1q9 call hs u x1dk r_3 eNil=j1 (x1c call hs u) 5:=by kernel_rfl
theorem x1do{rec0:AV->AV->AV->AV->AV->Mem->Nat->O2}:x1q9 call hs u x1dm (j5 rec0 0 1 5 12 13) (setE 0 (j1 (x1c call hs u) 5) eNil)=j5 (x96 call hs u rec0) 0 1 5 12 13:=by kernel_rfl
theorem x1dp{rec0:AV->AV->AV->AV->AV->Mem->Nat->O2}:x1q9 call hs u x1dl (j5 (x96 call hs u rec0) 0 1 5 12 13) (setE 0 (j1 (x1c call hs u) 5) eNil)=j5 (xbk call hs u rec0) 0 1 5 12 13:=by kernel_rfl
theorem x1dq{rec0:AV->AV->AV->AV->AV->Mem->Nat->O2}:x1q9 call hs u xee (j5 rec0 0 1 5 12 13) (setE 0 (j1 (x1c call hs u) 5) eNil)=j5 (xbk call hs u rec0) 0 1 5 12 13:=sq2 x1do x1dp
theorem x1dr{rec0:AV->AV->AV->AV->AV->Mem->Nat->O2}:x1q9 call hs u xqh (j5 rec0 0 1 5 12 13) (setE 0 (j1 (x1c call hs u) 5) eNil)=j5 (xhw call hs u rec0) 0 1 5 12 13:=tr (sqN 2 x1dq)
theorem x1ds:x1q9 call hs u xqg (j1 (x1c call hs u) 5) (setE 0 (j1 (x1c call hs u) 5) eNil)=j5 (x5o call hs u NN) 0 1 5 12 13:=lp (Ln:=fun n=>j5 (x5o call hs u n) 0 1 5 12 13) fun n=>tr x1dr
theorem x1dt:x1q9 call hs u xqf (j1 (x1c call hs u) 5) eNil=j5 (x5o call hs u NN) 0 1 5 12 13:=bk x1ds
theorem x1du:x1q9 call hs u xqe (j1 (x1c call hs u) 5) eNil=j3 (xbl call hs u) 0 1 5:=tr (sqN 1 x1dt)
theorem x1dv:x1q9 call hs u xed r_3 eNil=j3 (xbl call hs u) 0 1 5:=sq2 x1dn x1du
theorem xzn:x1q9 call hs u xqd r_3 eNil=j2 (xhx call hs u) 0 1:=tr (sqN 2 x1dv)
noncomputable abbrev x1p2:=VX x4k 45 r_3
noncomputable def xqi:=x1nn x4k
noncomputable def xef:=nRs 3 xqi
noncomputable def xqj:=nL xef
noncomputable def x1dw:=nR xef
noncomputable def xqk:=nR xqj
noncomputable def xql:=nR xqk
noncomputable def xqm:=nR xql
noncomputable def xeg:=nRs 2 xqm
noncomputable def xqn:=nL xeg
noncomputable def x1dx:=nR xeg
noncomputable def xqo:=nR xqn
noncomputable def xeh:=nRs 4 xqo
noncomputable def xqp:=nL xeh
noncomputable def x1dy:=nR xeh
noncomputable def xqq:=nR xqp
noncomputable def x1dz:=nR xqq
theorem x1e0:x1p2 call hs u x1dw r_3 eNil=j1 (xi call hs u) 5:=by kernel_rfl
theorem x1e1{rec0:AV->AV->AV->AV->AV->Mem->Nat->O2}:x1p2 call hs u x1dx (j5 rec0 1 5 6 14 15) (setE 0 (j1 (xi call hs u) 5) eNil)=j5 (xt call hs u rec0) 1 5 6 14 15:=by kernel_rfl
theorem x1e2{rec0:AV->AV->AV->AV->AV->Mem->Nat->O2}:x1p2 call hs u x1dy (j5 (xt call hs u rec0) 1 5 6 14 15) (setE 1 (j5 (xt call hs u rec0) 1 5 6 14 15) (setE 0 (j1 (xi call hs u) 5) eNil))=j5 (x3m call hs u rec0) 1 5 6 14 15:=by kernel_rfl
theorem x1e3{rec0:AV->AV->AV->AV->AV->Mem->Nat->O2}{rec1:AV->AV->AV->AV->AV->AV->Mem->Nat->O2}:x1p2 call hs u x1dz (j6 rec1 1 5 6 8 14 15) (setE 2 (j5 (x3m call hs u rec0) 1 5 6 14 15) (setE 1 (j5 (xt call hs u rec0) 1 5 6 14 15) (setE 0 (j1 (xi call hs u) 5) eNil)))=j6 (xhy call hs u rec0 rec1) 1 5 6 8 14 15:=by kernel_rfl
theorem x1e4{rec0:AV->AV->AV->AV->AV->Mem->Nat->O2}:x1p2 call hs u xqq (j5 (x3m call hs u rec0) 1 5 6 14 15) (setE 2 (j5 (x3m call hs u rec0) 1 5 6 14 15) (setE 1 (j5 (xt call hs u rec0) 1 5 6 14 15) (setE 0 (j1 (xi call hs u) 5) eNil)))=j6 (x3n call hs u rec0 NN) 1 5 6 8 14 15:=lp (Ln:=fun n=>j6 (x3n call hs u rec0 n) 1 5 6 8 14 15) fun n=>tr x1e3
theorem x1e5{rec0:AV->AV->AV->AV->AV->Mem->Nat->O2}:x1p2 call hs u xqp (j5 (x3m call hs u rec0) 1 5 6 14 15) (setE 1 (j5 (xt call hs u rec0) 1 5 6 14 15) (setE 0 (j1 (xi call hs u) 5) eNil))=j6 (x3n call hs u rec0 NN) 1 5 6 8 14 15:=bk x1e4
theorem x1e6{rec0:AV->AV->AV->AV->AV->Mem->Nat->O2}:x1p2 call hs u xeh (j5 (xt call hs u rec0) 1 5 6 14 15) (setE 1 (j5 (xt call hs u rec0) 1 5 6 14 15) (setE 0 (j1 (xi call hs u) 5) eNil))=j6 (x3n call hs u rec0 NN) 1 5 6 8 14 15:=sq2 x1e2 x1e5
theorem x1e7{rec0:AV->AV->AV->AV->AV->Mem->Nat->O2}:x1p2 call hs u xqo (j5 (xt call hs u rec0) 1 5 6 14 15) (setE 1 (j5 (xt call hs u rec0) 1 5 6 14 15) (setE 0 (j1 (xi call hs u) 5) eNil))=j5 (x97 call hs u rec0) 1 5 6 14 15:=tr (sqN 4 x1e6)
theorem x1e8{rec0:AV->AV->AV->AV->AV->Mem->Nat->O2}:x1p2 call hs u xqn (j5 (xt call hs u rec0) 1 5 6 14 15) (setE 0 (j1 (xi call hs u) 5) eNil)=j5 (x97 call hs u rec0) 1 5 6 14 15:=bk x1e7
theorem x1e9{rec0:AV->AV->AV->AV->AV->Mem->Nat->O2}:x1p2 call hs u xeg (j5 rec0 1 5 6 14 15) (setE 0 (j1 (xi call hs u) 5) eNil)=j5 (x97 call hs u rec0) 1 5 6 14 15:=sq2 x1e1 x1e8
theorem x1ea{rec0:AV->AV->AV->AV->AV->Mem->Nat->O2}:x1p2 call hs u xqm (j5 rec0 1 5 6 14 15) (setE 0 (j1 (xi call hs u) 5) eNil)=j5 (xhz call hs u rec0) 1 5 6 14 15:=tr (sqN 2 x1e9)
theorem x1eb:x1p2 call hs u xql (j1 (xi call hs u) 5) (setE 0 (j1 (xi call hs u) 5) eNil)=j5 (x5q call hs u NN) 1 5 6 14 15:=lp (Ln:=fun n=>j5 (x5q call hs u n) 1 5 6 14 15) fun n=>tr x1ea
theorem x1ec:x1p2 call hs u xqk (j1 (xi call hs u) 5) eNil=j5 (x5q call hs u NN) 1 5 6 14 15:=bk x1eb
theorem x1ed:x1p2 call hs u xqj (j1 (xi call hs u) 5) eNil=j3 (xbm call hs u) 1 5 6:=tr (sqN 1 x1ec)
theorem x1ee:x1p2 call hs u xef r_3 eNil=j3 (xbm call hs u) 1 5 6:=sq2 x1e0 x1ed
theorem xzo:x1p2 call hs u xqi r_3 eNil=j2 (xi0 call hs u) 0 1:=tr (sqN 3 x1ee)
noncomputable abbrev x1rt:=VX x6v 53 r_13
noncomputable def xqr:=x1nn x6v
noncomputable def xqs:=nR xqr
noncomputable def xqt:=nR xqs
noncomputable def xqu:=nR xqt
noncomputable def xei:=nRs 2 xqu
noncomputable def x1ef:=nL xei
noncomputable def x1eg:=nR xei
theorem x1eh{rec0:AV->AV->AV->AV->AV->Mem->Nat->O2}:x1rt call hs u x1eg (j5 rec0 0 1 3 9 10) (setE 0 r_13 eNil)=j5 (x98 call hs u rec0) 0 1 3 9 10:=by kernel_rfl
theorem x1ei{rec0:AV->AV->AV->AV->AV->Mem->Nat->O2}:x1rt call hs u x1ef (j5 (x98 call hs u rec0) 0 1 3 9 10) (setE 0 r_13 eNil)=j5 (xbn call hs u rec0) 0 1 3 9 10:=by kernel_rfl
theorem x1ej{rec0:AV->AV->AV->AV->AV->Mem->Nat->O2}:x1rt call hs u xei (j5 rec0 0 1 3 9 10) (setE 0 r_13 eNil)=j5 (xbn call hs u rec0) 0 1 3 9 10:=sq2 x1eh x1ei
theorem x1ek{rec0:AV->AV->AV->AV->AV->Mem->Nat->O2}:x1rt call hs u xqu (j5 rec0 0 1 3 9 10) (setE 0 r_13 eNil)=j5 (xi1 call hs u rec0) 0 1 3 9 10:=tr (sqN 2 x1ej)
theorem x1el:x1rt call hs u xqt r_13 (setE 0 r_13 eNil)=j5 (x5r call hs u NN) 0 1 3 9 10:=lp (Ln:=fun n=>j5 (x5r call hs u n) 0 1 3 9 10) fun n=>tr x1ek
theorem x1em:x1rt call hs u xqs r_13 eNil=j5 (x5r call hs u NN) 0 1 3 9 10:=bk x1el
theorem xxz:x1rt call hs u xqr r_13 eNil=j4 (xi2 call hs u) 0 1 2 3:=tr (sqN 1 x1em)
noncomputable abbrev x1pa:=VX x7m 132 r_8
noncomputable def xqv:=x1nn x7m
noncomputable def xej:=nRs 2 xqv
noncomputable def xqw:=nL xej
noncomputable def x1en:=nR xej
noncomputable def xqx:=nR xqw
noncomputable def xqy:=nR xqx
noncomputable def xqz:=nR xqy
noncomputable def xek:=nRs 2 xqz
noncomputable def xr0:=nL xek
noncomputable def x1eo:=nR xek
noncomputable def xr1:=nR xr0
noncomputable def xel:=nR xr1
noncomputable def x1ep:=nL xel
noncomputable def x1eq:=nR xel
theorem x1er:x1pa call hs u x1en r_8 eNil=j1 (xo call hs u) 3:=by kernel_rfl
theorem x1es{rec0:AV->AV->AV->AV->Mem->Nat->O2}:x1pa call hs u x1eo (j4 rec0 3 28 29 30) (setE 0 (j1 (xo call hs u) 3) eNil)=j4 (x1d call hs u rec0) 3 28 29 30:=by kernel_rfl
theorem x1et{rec0:AV->AV->AV->AV->Mem->Nat->O2}:x1pa call hs u x1eq (j4 (x1d call hs u rec0) 3 28 29 30) (setE 1 (j4 (x1d call hs u rec0) 3 28 29 30) (setE 0 (j1 (xo call hs u) 3) eNil))=j6 (x5s call hs u rec0) 3 4 5 28 29 30:=by kernel_rfl
theorem x1eu{rec0:AV->AV->AV->AV->Mem->Nat->O2}:x1pa call hs u x1ep (j6 (x5s call hs u rec0) 3 4 5 28 29 30) (setE 1 (j4 (x1d call hs u rec0) 3 28 29 30) (setE 0 (j1 (xo call hs u) 3) eNil))=j6 (xbo call hs u rec0) 3 4 5 28 29 30:=by kernel_rfl
theorem x1ev{rec0:AV->AV->AV->AV->Mem->Nat->O2}:x1pa call hs u xel (j4 (x1d call hs u rec0) 3 28 29 30) (setE 1 (j4 (x1d call hs u rec0) 3 28 29 30) (setE 0 (j1 (xo call hs u) 3) eNil))=j6 (xbo call hs u rec0) 3 4 5 28 29 30:=sq2 x1et x1eu
theorem x1ew{rec0:AV->AV->AV->AV->Mem->Nat->O2}:x1pa call hs u xr1 (j4 (x1d call hs u rec0) 3 28 29 30) (setE 1 (j4 (x1d call hs u rec0) 3 28 29 30) (setE 0 (j1 (xo call hs u) 3) eNil))=j4 (x99 call hs u rec0) 3 28 29 30:=tr (sqN 1 x1ev)
theorem x1ex{rec0:AV->AV->AV->AV->Mem->Nat->O2}:x1pa call hs u xr0 (j4 (x1d call hs u rec0) 3 28 29 30) (setE 0 (j1 (xo call hs u) 3) eNil)=j4 (x99 call hs u rec0) 3 28 29 30:=bk x1ew
theorem x1ey{rec0:AV->AV->AV->AV->Mem->Nat->O2}:x1pa call hs u xek (j4 rec0 3 28 29 30) (setE 0 (j1 (xo call hs u) 3) eNil)=j4 (x99 call hs u rec0) 3 28 29 30:=sq2 x1es x1ex
theorem x1ez{rec0:AV->AV->AV->AV->Mem->Nat->O2}:x1pa call hs u xqz (j4 rec0 3 28 29 30) (setE 0 (j1 (xo call hs u) 3) eNil)=j4 (xi3 call hs u rec0) 3 28 29 30:=tr (sqN 2 x1ey)
theorem x1f0:x1pa call hs u xqy (j1 (xo call hs u) 3) (setE 0 (j1 (xo call hs u) 3) eNil)=j4 (x5t call hs u NN) 3 28 29 30:=lp (Ln:=fun n=>j4 (x5t call hs u n) 3 28 29 30) fun n=>tr x1ez
theorem x1f1:x1pa call hs u xqx (j1 (xo call hs u) 3) eNil=j4 (x5t call hs u NN) 3 28 29 30:=bk x1f0
theorem x1f2:x1pa call hs u xqw (j1 (xo call hs u) 3) eNil=j2 (xbp call hs u) 1 3:=tr (sqN 1 x1f1)
theorem x1f3:x1pa call hs u xej r_8 eNil=j2 (xbp call hs u) 1 3:=sq2 x1er x1f2
theorem xzp:x1pa call hs u xqv r_8 eNil=j1 (xi4 call hs u) 0:=tr (sqN 2 x1f3)
noncomputable abbrev x1zi:=VX x6y 5 r_8
noncomputable def x1f4:=x1nn x6y
theorem xy3:x1zi call hs u x1f4 r_8 eNil=j1 (xi5 call hs u) 0:=by kernel_rfl
noncomputable abbrev x1of:=VX x7n 160 r_13
noncomputable def xr2:=x1nn x7n
noncomputable def xem:=nRs 2 xr2
noncomputable def xr3:=nL xem
noncomputable def xr4:=nR xem
noncomputable def xen:=nR xr4
noncomputable def xr5:=nL xen
noncomputable def xeo:=nR xen
noncomputable def xr6:=nL xeo
noncomputable def xr7:=nR xeo
noncomputable def xr8:=nRs 3 xr7
noncomputable def xr9:=nR xr8
noncomputable def x1f5:=nR xr9
noncomputable def xra:=nR xr6
noncomputable def xrb:=nR xra
noncomputable def x1f6:=nR xrb
noncomputable def xrc:=nR xr5
noncomputable def xrd:=nR xrc
noncomputable def x1f7:=nR xrd
noncomputable def xre:=nR xr3
noncomputable def xrf:=nR xre
noncomputable def xrg:=nR xrf
noncomputable def xep:=nRs 2 xrg
noncomputable def x1f8:=nL xep
noncomputable def x1f9:=nR xep
theorem x1fa{rec0:AV->AV->AV->AV->AV->AV->Mem->Nat->O2}:x1of call hs u x1f5 (j6 rec0 0 4 5 136 137 138) (setE 6 r_13 eNil)=j6 (xi6 call hs u rec0) 0 4 5 136 137 138:=by kernel_rfl
theorem x1fb:x1of call hs u xr9 r_13 (setE 6 r_13 eNil)=j6 (x5u call hs u NN) 0 4 5 136 137 138:=lp (Ln:=fun n=>j6 (x5u call hs u n) 0 4 5 136 137 138) fun n=>tr x1fa
theorem x1fc:x1of call hs u xr8 r_13 eNil=j6 (x5u call hs u NN) 0 4 5 136 137 138:=bk x1fb
theorem x1fd:x1of call hs u xr7 r_13 eNil=j5 (x2v call hs u) 0 1 4 5 8:=tr (sqN 3 x1fc)
theorem x1fe{rec1:AV->AV->AV->AV->AV->AV->Mem->Nat->O2}:x1of call hs u x1f6 (j6 rec1 0 1 4 5 8 10) (setE 4 (j5 (x2v call hs u) 0 1 4 5 8) eNil)=j6 (xi7 call hs u rec1) 0 1 4 5 8 10:=by kernel_rfl
theorem x1ff:x1of call hs u xrb (j5 (x2v call hs u) 0 1 4 5 8) (setE 4 (j5 (x2v call hs u) 0 1 4 5 8) eNil)=j6 (x5v call hs u NN) 0 1 4 5 8 10:=lp (Ln:=fun n=>j6 (x5v call hs u n) 0 1 4 5 8 10) fun n=>tr x1fe
theorem x1fg:x1of call hs u xra (j5 (x2v call hs u) 0 1 4 5 8) eNil=j6 (x5v call hs u NN) 0 1 4 5 8 10:=bk x1ff
theorem x1fh:x1of call hs u xr6 (j5 (x2v call hs u) 0 1 4 5 8) eNil=j5 (x28 call hs u) 0 1 4 5 8:=tr (sqN 1 x1fg)
theorem x1fi:x1of call hs u xeo r_13 eNil=j5 (x28 call hs u) 0 1 4 5 8:=sq2 x1fd x1fh
theorem x1fj{rec2:AV->AV->AV->AV->AV->AV->Mem->Nat->O2}:x1of call hs u x1f7 (j6 rec2 0 1 4 5 8 9) (setE 2 (j5 (x28 call hs u) 0 1 4 5 8) eNil)=j6 (xi8 call hs u rec2) 0 1 4 5 8 9:=by kernel_rfl
theorem x1fk:x1of call hs u xrd (j5 (x28 call hs u) 0 1 4 5 8) (setE 2 (j5 (x28 call hs u) 0 1 4 5 8) eNil)=j6 (x5w call hs u NN) 0 1 4 5 8 9:=lp (Ln:=fun n=>j6 (x5w call hs u n) 0 1 4 5 8 9) fun n=>tr x1fj
theorem x1fl:x1of call hs u xrc (j5 (x28 call hs u) 0 1 4 5 8) eNil=j6 (x5w call hs u NN) 0 1 4 5 8 9:=bk x1fk
theorem x1fm:x1of call hs u xr5 (j5 (x28 call hs u) 0 1 4 5 8) eNil=j5 (xbq call hs u) 0 1 4 5 8:=tr (sqN 1 x1fl)
theorem x1fn:x1of call hs u xen r_13 eNil=j5 (xbq call hs u) 0 1 4 5 8:=sq2 x1fi x1fm
theorem x1fo:x1of call hs u xr4 r_13 eNil=j4 (x1e call hs u) 0 1 4 5:=tr (sqN 1 x1fn)
theorem x1fp{rec3:AV->AV->AV->AV->AV->AV->AV->Mem->Nat->O2}:x1of call hs u x1f9 (j7 rec3 0 1 4 5 17 18 19) (setE 0 (j4 (x1e call hs u) 0 1 4 5) eNil)=j7 (x9a call hs u rec3) 0 1 4 5 17 18 19:=by kernel_rfl
theorem x1fq{rec3:AV->AV->AV->AV->AV->AV->AV->Mem->Nat->O2}:x1of call hs u x1f8 (j7 (x9a call hs u rec3) 0 1 4 5 17 18 19) (setE 0 (j4 (x1e call hs u) 0 1 4 5) eNil)=j7 (xbr call hs u rec3) 0 1 4 5 17 18 19:=by kernel_rfl
theorem x1fr{rec3:AV->AV->AV->AV->AV->AV->AV->Mem->Nat->O2}:x1of call hs u xep (j7 rec3 0 1 4 5 17 18 19) (setE 0 (j4 (x1e call hs u) 0 1 4 5) eNil)=j7 (xbr call hs u rec3) 0 1 4 5 17 18 19:=sq2 x1fp x1fq
theorem x1fs{rec3:AV->AV->AV->AV->AV->AV->AV->Mem->Nat->O2}:x1of call hs u xrg (j7 rec3 0 1 4 5 17 18 19) (setE 0 (j4 (x1e call hs u) 0 1 4 5) eNil)=j7 (xi9 call hs u rec3) 0 1 4 5 17 18 19:=tr (sqN 2 x1fr)
theorem x1ft:x1of call hs u xrf (j4 (x1e call hs u) 0 1 4 5) (setE 0 (j4 (x1e call hs u) 0 1 4 5) eNil)=j7 (x5x call hs u NN) 0 1 4 5 17 18 19:=lp (Ln:=fun n=>j7 (x5x call hs u n) 0 1 4 5 17 18 19) fun n=>tr x1fs
theorem x1fu:x1of call hs u xre (j4 (x1e call hs u) 0 1 4 5) eNil=j7 (x5x call hs u NN) 0 1 4 5 17 18 19:=bk x1ft
theorem x1fv:x1of call hs u xr3 (j4 (x1e call hs u) 0 1 4 5) eNil=j4 (xbs call hs u) 0 1 4 5:=tr (sqN 1 x1fu)
theorem x1fw:x1of call hs u xem r_13 eNil=j4 (xbs call hs u) 0 1 4 5:=sq2 x1fo x1fv
theorem xzq:x1of call hs u xr2 r_13 eNil=j2 (xia call hs u) 0 1:=tr (sqN 2 x1fw)
noncomputable abbrev x1qa:=VX x7o 53 r_8
noncomputable def xrh:=x1nn x7o
noncomputable def xeq:=nRs 2 xrh
noncomputable def xri:=nL xeq
noncomputable def x1fx:=nR xeq
noncomputable def xrj:=nR xri
noncomputable def xrk:=nR xrj
noncomputable def xrl:=nR xrk
noncomputable def xer:=nRs 2 xrl
noncomputable def x1fy:=nL xer
noncomputable def x1fz:=nR xer
theorem x1g0:x1qa call hs u x1fx r_8 eNil=j2 (x1f call hs u) 1 3:=by kernel_rfl
theorem x1g1{rec0:AV->AV->AV->AV->AV->Mem->Nat->O2}:x1qa call hs u x1fz (j5 rec0 1 3 12 13 14) (setE 0 (j2 (x1f call hs u) 1 3) eNil)=j5 (x9b call hs u rec0) 1 3 12 13 14:=by kernel_rfl
theorem x1g2{rec0:AV->AV->AV->AV->AV->Mem->Nat->O2}:x1qa call hs u x1fy (j5 (x9b call hs u rec0) 1 3 12 13 14) (setE 0 (j2 (x1f call hs u) 1 3) eNil)=j5 (xbt call hs u rec0) 1 3 12 13 14:=by kernel_rfl
theorem x1g3{rec0:AV->AV->AV->AV->AV->Mem->Nat->O2}:x1qa call hs u xer (j5 rec0 1 3 12 13 14) (setE 0 (j2 (x1f call hs u) 1 3) eNil)=j5 (xbt call hs u rec0) 1 3 12 13 14:=sq2 x1g1 x1g2
theorem x1g4{rec0:AV->AV->AV->AV->AV->Mem->Nat->O2}:x1qa call hs u xrl (j5 rec0 1 3 12 13 14) (setE 0 (j2 (x1f call hs u) 1 3) eNil)=j5 (xib call hs u rec0) 1 3 12 13 14:=tr (sqN 2 x1g3)
theorem x1g5:x1qa call hs u xrk (j2 (x1f call hs u) 1 3) (setE 0 (j2 (x1f call hs u) 1 3) eNil)=j5 (x5y call hs u NN) 1 3 12 13 14:=lp (Ln:=fun n=>j5 (x5y call hs u n) 1 3 12 13 14) fun n=>tr x1g4
theorem x1g6:x1qa call hs u xrj (j2 (x1f call hs u) 1 3) eNil=j5 (x5y call hs u NN) 1 3 12 13 14:=bk x1g5
theorem x1g7:x1qa call hs u xri (j2 (x1f call hs u) 1 3) eNil=j2 (xbu call hs u) 1 3:=tr (sqN 1 x1g6)
theorem x1g8:x1qa call hs u xeq r_8 eNil=j2 (xbu call hs u) 1 3:=sq2 x1g0 x1g7
theorem xzr:x1qa call hs u xrh r_8 eNil=j1 (xic call hs u) 0:=tr (sqN 2 x1g8)
noncomputable abbrev x1zj:=VX x6x 7 r_8
noncomputable def x1g9:=x1nn x6x
theorem xy1:x1zj call hs u x1g9 r_8 eNil=j1 (xid call hs u) 0:=by kernel_rfl
noncomputable abbrev x1zk:=VX x6w 19 r_3
noncomputable def x1ga:=x1nn x6w
theorem xy0:x1zk call hs u x1ga r_3 eNil=j2 (xie call hs u) 0 1:=by kernel_rfl
noncomputable abbrev x1os:=VX x7p 63 r_13
noncomputable def xrm:=x1nn x7p
noncomputable def xes:=nRs 2 xrm
noncomputable def xrn:=nL xes
noncomputable def xro:=nR xes
noncomputable def xrp:=nR xro
noncomputable def xrq:=nR xrp
noncomputable def xrr:=nR xrq
noncomputable def xrs:=nR xrr
noncomputable def xrt:=nR xrs
noncomputable def xet:=nR xrt
noncomputable def xru:=nL xet
noncomputable def xeu:=nR xet
noncomputable def x1gb:=nL xeu
noncomputable def x1gc:=nR xeu
noncomputable def xrv:=nR xru
noncomputable def x1gd:=nR xrv
noncomputable def xrw:=nR xrn
noncomputable def x1ge:=nR xrw
theorem x1gf{rec0:AV->AV->AV->AV->Mem->Nat->O2}:x1os call hs u x1gc (j4 rec0 0 1 2 6) (setE 3 (j4 rec0 0 1 2 6) (setE 2 r_13 eNil))=j4 (x9c call hs u rec0) 0 1 2 6:=by kernel_rfl
theorem x1gg{rec0:AV->AV->AV->AV->Mem->Nat->O2}:x1os call hs u x1gb (j4 (x9c call hs u rec0) 0 1 2 6) (setE 3 (j4 rec0 0 1 2 6) (setE 2 r_13 eNil))=j5 (x2w call hs u rec0) 0 1 2 6 7:=by kernel_rfl
theorem x1gh{rec0:AV->AV->AV->AV->Mem->Nat->O2}:x1os call hs u xeu (j4 rec0 0 1 2 6) (setE 3 (j4 rec0 0 1 2 6) (setE 2 r_13 eNil))=j5 (x2w call hs u rec0) 0 1 2 6 7:=sq2 x1gf x1gg
theorem x1gi{rec0:AV->AV->AV->AV->Mem->Nat->O2}{rec1:AV->AV->AV->AV->AV->AV->Mem->Nat->O2}:x1os call hs u x1gd (j6 rec1 0 1 2 6 7 8) (setE 4 (j5 (x2w call hs u rec0) 0 1 2 6 7) (setE 3 (j4 rec0 0 1 2 6) (setE 2 r_13 eNil)))=j6 (xif call hs u rec0 rec1) 0 1 2 6 7 8:=by kernel_rfl
theorem x1gj{rec0:AV->AV->AV->AV->Mem->Nat->O2}:x1os call hs u xrv (j5 (x2w call hs u rec0) 0 1 2 6 7) (setE 4 (j5 (x2w call hs u rec0) 0 1 2 6 7) (setE 3 (j4 rec0 0 1 2 6) (setE 2 r_13 eNil)))=j6 (x3o call hs u rec0 NN) 0 1 2 6 7 8:=lp (Ln:=fun n=>j6 (x3o call hs u rec0 n) 0 1 2 6 7 8) fun n=>tr x1gi
theorem x1gk{rec0:AV->AV->AV->AV->Mem->Nat->O2}:x1os call hs u xru (j5 (x2w call hs u rec0) 0 1 2 6 7) (setE 3 (j4 rec0 0 1 2 6) (setE 2 r_13 eNil))=j6 (x3o call hs u rec0 NN) 0 1 2 6 7 8:=bk x1gj
theorem x1gl{rec0:AV->AV->AV->AV->Mem->Nat->O2}:x1os call hs u xet (j4 rec0 0 1 2 6) (setE 3 (j4 rec0 0 1 2 6) (setE 2 r_13 eNil))=j6 (x3o call hs u rec0 NN) 0 1 2 6 7 8:=sq2 x1gh x1gk
theorem x1gm{rec0:AV->AV->AV->AV->Mem->Nat->O2}:x1os call hs u xrt (j4 rec0 0 1 2 6) (setE 3 (j4 rec0 0 1 2 6) (setE 2 r_13 eNil))=j4 (xbv call hs u rec0) 0 1 2 6:=tr (sqN 1 x1gl)
theorem x1gn{rec0:AV->AV->AV->AV->Mem->Nat->O2}:x1os call hs u xrs (j4 rec0 0 1 2 6) (setE 2 r_13 eNil)=j4 (xbv call hs u rec0) 0 1 2 6:=bk x1gm
theorem x1go{rec0:AV->AV->AV->AV->Mem->Nat->O2}:x1os call hs u xrr (j4 rec0 0 1 2 6) (setE 2 r_13 eNil)=j4 (xig call hs u rec0) 0 1 2 6:=tr (sqN 1 x1gn)
theorem x1gp:x1os call hs u xrq r_13 (setE 2 r_13 eNil)=j4 (x5z call hs u NN) 0 1 2 6:=lp (Ln:=fun n=>j4 (x5z call hs u n) 0 1 2 6) fun n=>tr x1go
theorem x1gq:x1os call hs u xrp r_13 eNil=j4 (x5z call hs u NN) 0 1 2 6:=bk x1gp
theorem x1gr:x1os call hs u xro r_13 eNil=j5 (x3p call hs u) 0 1 2 6 7:=tr (sqN 1 x1gq)
theorem x1gs{rec2:AV->AV->AV->AV->AV->AV->Mem->Nat->O2}:x1os call hs u x1ge (j6 rec2 0 1 2 6 7 8) (setE 0 (j5 (x3p call hs u) 0 1 2 6 7) eNil)=j6 (xih call hs u rec2) 0 1 2 6 7 8:=by kernel_rfl
theorem x1gt:x1os call hs u xrw (j5 (x3p call hs u) 0 1 2 6 7) (setE 0 (j5 (x3p call hs u) 0 1 2 6 7) eNil)=j6 (x3q call hs u NN) 0 1 2 6 7 8:=lp (Ln:=fun n=>j6 (x3q call hs u n) 0 1 2 6 7 8) fun n=>tr x1gs
theorem x1gu:x1os call hs u xrn (j5 (x3p call hs u) 0 1 2 6 7) eNil=j6 (x3q call hs u NN) 0 1 2 6 7 8:=bk x1gt
theorem x1gv:x1os call hs u xes r_13 eNil=j6 (x3q call hs u NN) 0 1 2 6 7 8:=sq2 x1gr x1gu
theorem xzs:x1os call hs u xrm r_13 eNil=j3 (xii call hs u) 0 1 2:=tr (sqN 2 x1gv)
noncomputable abbrev x1pe:=VX x3g 134 r_13
noncomputable def xrx:=x1nn x3g
noncomputable def xry:=nRs 2 xrx
noncomputable def xrz:=nR xry
noncomputable def xs0:=nR xrz
noncomputable def xs1:=nR xs0
noncomputable def xev:=nRs 3 xs1
noncomputable def x1gw:=nL xev
noncomputable def xs2:=nR xev
noncomputable def xew:=nR xs2
noncomputable def x1gx:=nL xew
noncomputable def xex:=nR xew
noncomputable def x1gy:=nL xex
noncomputable def x1gz:=nR xex
theorem x1h0{rec0:AV->AV->AV->AV->AV->AV->Mem->Nat->O2}:x1pe call hs u x1gz (j6 rec0 0 1 2 3 8 9) (setE 1 (j6 rec0 0 1 2 3 8 9) (setE 0 r_13 eNil))=j8 (x9d call hs u rec0) 0 1 2 3 8 9 10 11:=by kernel_rfl
theorem x1h1{rec0:AV->AV->AV->AV->AV->AV->Mem->Nat->O2}:x1pe call hs u x1gy (j8 (x9d call hs u rec0) 0 1 2 3 8 9 10 11) (setE 1 (j6 rec0 0 1 2 3 8 9) (setE 0 r_13 eNil))=j9 (x60 call hs u rec0) 0 1 2 3 8 9 10 11 12:=by kernel_rfl
theorem x1h2{rec0:AV->AV->AV->AV->AV->AV->Mem->Nat->O2}:x1pe call hs u xex (j6 rec0 0 1 2 3 8 9) (setE 1 (j6 rec0 0 1 2 3 8 9) (setE 0 r_13 eNil))=j9 (x60 call hs u rec0) 0 1 2 3 8 9 10 11 12:=sq2 x1h0 x1h1
theorem x1h3{rec0:AV->AV->AV->AV->AV->AV->Mem->Nat->O2}:x1pe call hs u x1gx (j9 (x60 call hs u rec0) 0 1 2 3 8 9 10 11 12) (setE 1 (j6 rec0 0 1 2 3 8 9) (setE 0 r_13 eNil))=j9 (xbw call hs u rec0) 0 1 2 3 8 9 10 11 12:=by kernel_rfl
theorem x1h4{rec0:AV->AV->AV->AV->AV->AV->Mem->Nat->O2}:x1pe call hs u xew (j6 rec0 0 1 2 3 8 9) (setE 1 (j6 rec0 0 1 2 3 8 9) (setE 0 r_13 eNil))=j9 (xbw call hs u rec0) 0 1 2 3 8 9 10 11 12:=sq2 x1h2 x1h3
theorem x1h5{rec0:AV->AV->AV->AV->AV->AV->Mem->Nat->O2}:x1pe call hs u xs2 (j6 rec0 0 1 2 3 8 9) (setE 1 (j6 rec0 0 1 2 3 8 9) (setE 0 r_13 eNil))=j7 (x9e call hs u rec0) 0 1 2 3 8 9 10:=tr (sqN 1 x1h4)
theorem x1h6{rec0:AV->AV->AV->AV->AV->AV->Mem->Nat->O2}:x1pe call hs u x1gw (j7 (x9e call hs u rec0) 0 1 2 3 8 9 10) (setE 1 (j6 rec0 0 1 2 3 8 9) (setE 0 r_13 eNil))=j7 (xbx call hs u rec0) 0 1 2 3 8 9 10:=by kernel_rfl
theorem x1h7{rec0:AV->AV->AV->AV->AV->AV->Mem->Nat->O2}:x1pe call hs u xev (j6 rec0 0 1 2 3 8 9) (setE 1 (j6 rec0 0 1 2 3 8 9) (setE 0 r_13 eNil))=j7 (xbx call hs u rec0) 0 1 2 3 8 9 10:=sq2 x1h5 x1h6
theorem x1h8{rec0:AV->AV->AV->AV->AV->AV->Mem->Nat->O2}:x1pe call hs u xs1 (j6 rec0 0 1 2 3 8 9) (setE 1 (j6 rec0 0 1 2 3 8 9) (setE 0 r_13 eNil))=j6 (xby call hs u rec0) 0 1 2 3 8 9:=tr (sqN 3 x1h7)
theorem x1h9{rec0:AV->AV->AV->AV->AV->AV->Mem->Nat->O2}:x1pe call hs u xs0 (j6 rec0 0 1 2 3 8 9) (setE 0 r_13 eNil)=j6 (xby call hs u rec0) 0 1 2 3 8 9:=bk x1h8
theorem x1ha:x1pe call hs u xrz r_13 (setE 0 r_13 eNil)=j6 (x61 call hs u NN) 0 1 2 3 8 9:=lp (Ln:=fun n=>j6 (x61 call hs u n) 0 1 2 3 8 9) fun n=>tr x1h9
theorem x1hb:x1pe call hs u xry r_13 eNil=j6 (x61 call hs u NN) 0 1 2 3 8 9:=bk x1ha
theorem xzt:x1pe call hs u xrx r_13 eNil=j4 (xij call hs u) 0 1 2 3:=tr (sqN 2 x1hb)
noncomputable abbrev x1zl:=VX x4l 8 r_8
noncomputable def x1hc:=x1nn x4l
theorem xzu:x1zl call hs u x1hc r_8 eNil=j1 (xik call hs u) 0:=by kernel_rfl
noncomputable abbrev x1zm:=VX x1v 15 r_0
noncomputable def x1hd:=x1nn x1v
theorem xxt:x1zm call hs u x1hd r_0 eNil=j3 (xil call hs u) 0 1 2:=by kernel_rfl
noncomputable abbrev x1zn:=VX x7q 5 r_8
noncomputable def x1he:=x1nn x7q
theorem xzv:x1zn call hs u x1he r_8 eNil=j1 (xim call hs u) 0:=by kernel_rfl
noncomputable abbrev x1p3:=VX x2d 139 r_17
noncomputable abbrev x1wt:=VX (R:=Mem) x2d 139 fNil
noncomputable def xs3:=x1nn x2d
noncomputable def xs4:=nRs 4 xs3
noncomputable def xs5:=nR xs4
noncomputable def xs6:=nR xs5
noncomputable def xs7:=nR xs6
noncomputable def xey:=nR xs7
noncomputable def xs8:=nL xey
noncomputable def xs9:=nR xey
noncomputable def xsa:=nRs 3 xs9
noncomputable def x9t:=nR xsa
noncomputable def x1hf:=nL x9t
noncomputable def x1hg:=nR x9t
noncomputable def xsb:=nR xs8
noncomputable def xsc:=nR xsb
noncomputable def xsd:=nR xsc
noncomputable def xez:=nRs 2 xsd
noncomputable def x1hh:=nL xez
noncomputable def x1hi:=nR xez
theorem x1hj:x1wt call hs u x1hg (fun s=>some s.m) eNil=j4 (xbz call hs u) 2 5 7 10:=by kernel_rfl
theorem x1hk:x1wt call hs u x1hf (j4 (xbz call hs u) 2 5 7 10) eNil=j4 (xin call hs u) 2 5 7 87:=by kernel_rfl
theorem x1hl{rec0:AV->AV->AV->AV->Mem->Nat->O2}:x1p3 call hs u x9t (j4 rec0 2 4 5 6) (setE 4 (j4 rec0 2 4 5 6) (setE 1 (j4 rec0 2 4 5 6) (setE 0 r_17 eNil)))=j6 (xc0 call hs u rec0) 2 4 5 6 7 86:=tr (rg (C:=x9t) (c:={f:=x2d,u:=u,nt:=139,hs:=hs}) (f:=(.tmp 86)) (ps:=#[87]) (fun u=>x1hj) (fun u=>x1hk))
theorem x1hm{rec0:AV->AV->AV->AV->Mem->Nat->O2}:x1p3 call hs u xsa (j4 rec0 2 4 5 6) (setE 1 (j4 rec0 2 4 5 6) (setE 0 r_17 eNil))=j6 (xc0 call hs u rec0) 2 4 5 6 7 86:=bk x1hl
theorem x1hn{rec0:AV->AV->AV->AV->Mem->Nat->O2}:x1p3 call hs u xs9 (j4 rec0 2 4 5 6) (setE 1 (j4 rec0 2 4 5 6) (setE 0 r_17 eNil))=j5 (x1g call hs u rec0) 2 4 5 6 7:=tr (sqN 3 x1hm)
theorem x1ho{rec0:AV->AV->AV->AV->Mem->Nat->O2}{rec1:AV->AV->AV->AV->AV->AV->AV->AV->Mem->Nat->O2}:x1p3 call hs u x1hi (j8 rec1 2 4 5 6 7 47 48 49) (setE 2 (j5 (x1g call hs u rec0) 2 4 5 6 7) (setE 1 (j4 rec0 2 4 5 6) (setE 0 r_17 eNil)))=j8 (x9f call hs u rec0 rec1) 2 4 5 6 7 47 48 49:=by kernel_rfl
theorem x1hp{rec0:AV->AV->AV->AV->Mem->Nat->O2}{rec1:AV->AV->AV->AV->AV->AV->AV->AV->Mem->Nat->O2}:x1p3 call hs u x1hh (j8 (x9f call hs u rec0 rec1) 2 4 5 6 7 47 48 49) (setE 2 (j5 (x1g call hs u rec0) 2 4 5 6 7) (setE 1 (j4 rec0 2 4 5 6) (setE 0 r_17 eNil)))=j8 (xc1 call hs u rec0 rec1) 2 4 5 6 7 47 48 49:=by kernel_rfl
theorem x1hq{rec0:AV->AV->AV->AV->Mem->Nat->O2}{rec1:AV->AV->AV->AV->AV->AV->AV->AV->Mem->Nat->O2}:x1p3 call hs u xez (j8 rec1 2 4 5 6 7 47 48 49) (setE 2 (j5 (x1g call hs u rec0) 2 4 5 6 7) (setE 1 (j4 rec0 2 4 5 6) (setE 0 r_17 eNil)))=j8 (xc1 call hs u rec0 rec1) 2 4 5 6 7 47 48 49:=sq2 x1ho x1hp
theorem x1hr{rec0:AV->AV->AV->AV->Mem->Nat->O2}{rec1:AV->AV->AV->AV->AV->AV->AV->AV->Mem->Nat->O2}:x1p3 call hs u xsd (j8 rec1 2 4 5 6 7 47 48 49) (setE 2 (j5 (x1g call hs u rec0) 2 4 5 6 7) (setE 1 (j4 rec0 2 4 5 6) (setE 0 r_17 eNil)))=j8 (xio call hs u rec0 rec1) 2 4 5 6 7 47 48 49:=tr (sqN 2 x1hq)
theorem x1hs{rec0:AV->AV->AV->AV->Mem->Nat->O2}:x1p3 call hs u xsc (j5 (x1g call hs u rec0) 2 4 5 6 7) (setE 2 (j5 (x1g call hs u rec0) 2 4 5 6 7) (setE 1 (j4 rec0 2 4 5 6) (setE 0 r_17 eNil)))=j8 (x63 call hs u rec0 NN) 2 4 5 6 7 47 48 49:=lp (Ln:=fun n=>j8 (x63 call hs u rec0 n) 2 4 5 6 7 47 48 49) fun n=>tr x1hr
theorem x1ht{rec0:AV->AV->AV->AV->Mem->Nat->O2}:x1p3 call hs u xsb (j5 (x1g call hs u rec0) 2 4 5 6 7) (setE 1 (j4 rec0 2 4 5 6) (setE 0 r_17 eNil))=j8 (x63 call hs u rec0 NN) 2 4 5 6 7 47 48 49:=bk x1hs
theorem x1hu{rec0:AV->AV->AV->AV->Mem->Nat->O2}:x1p3 call hs u xs8 (j5 (x1g call hs u rec0) 2 4 5 6 7) (setE 1 (j4 rec0 2 4 5 6) (setE 0 r_17 eNil))=j5 (xc2 call hs u rec0) 2 4 5 6 7:=tr (sqN 1 x1ht)
theorem x1hv{rec0:AV->AV->AV->AV->Mem->Nat->O2}:x1p3 call hs u xey (j4 rec0 2 4 5 6) (setE 1 (j4 rec0 2 4 5 6) (setE 0 r_17 eNil))=j5 (xc2 call hs u rec0) 2 4 5 6 7:=sq2 x1hn x1hu
theorem x1hw{rec0:AV->AV->AV->AV->Mem->Nat->O2}:x1p3 call hs u xs7 (j4 rec0 2 4 5 6) (setE 1 (j4 rec0 2 4 5 6) (setE 0 r_17 eNil))=j4 (xc3 call hs u rec0) 2 4 5 6:=tr (sqN 1 x1hv)
theorem x1hx{rec0:AV->AV->AV->AV->Mem->Nat->O2}:x1p3 call hs u xs6 (j4 rec0 2 4 5 6) (setE 0 r_17 eNil)=j4 (xc3 call hs u rec0) 2 4 5 6:=bk x1hw
theorem x1hy:x1p3 call hs u xs5 r_17 (setE 0 r_17 eNil)=j4 (x64 call hs u NN) 2 4 5 6:=lp (Ln:=fun n=>j4 (x64 call hs u n) 2 4 5 6) fun n=>tr x1hx
theorem x1hz:x1p3 call hs u xs4 r_17 eNil=j4 (x64 call hs u NN) 2 4 5 6:=bk x1hy
theorem xxv:x1p3 call hs u xs3 r_17 eNil=j2 (xip call hs u) 0 1:=tr (sqN 4 x1hz)
noncomputable abbrev x1pl:=VX x4m 48 r_3
noncomputable def xse:=x1nn x4m
noncomputable def xf0:=nR xse
noncomputable def x1i0:=nL xf0
noncomputable def xsf:=nR xf0
noncomputable def xf1:=nR xsf
noncomputable def x1i1:=nL xf1
noncomputable def xsg:=nR xf1
noncomputable def xf2:=nRs 2 xsg
noncomputable def xsh:=nL xf2
noncomputable def x1i2:=nR xf2
noncomputable def xsi:=nR xsh
noncomputable def x1i3:=nR xsi
theorem x1i4:x1pl call hs u x1i2 r_3 eNil=j1 (x3r call hs u) 7:=by kernel_rfl
theorem x1i5{rec0:AV->AV->Mem->Nat->O2}:x1pl call hs u x1i3 (j2 rec0 7 8) (setE 0 (j1 (x3r call hs u) 7) eNil)=j2 (xiq call hs u rec0) 7 8:=by kernel_rfl
theorem x1i6:x1pl call hs u xsi (j1 (x3r call hs u) 7) (setE 0 (j1 (x3r call hs u) 7) eNil)=j2 (x3s call hs u NN) 7 8:=lp (Ln:=fun n=>j2 (x3s call hs u n) 7 8) fun n=>tr x1i5
theorem x1i7:x1pl call hs u xsh (j1 (x3r call hs u) 7) eNil=j2 (x3s call hs u NN) 7 8:=bk x1i6
theorem x1i8:x1pl call hs u xf2 r_3 eNil=j2 (x3s call hs u NN) 7 8:=sq2 x1i4 x1i7
theorem x1i9:x1pl call hs u xsg r_3 eNil=j2 (xc4 call hs u) 0 6:=tr (sqN 2 x1i8)
theorem x1ia:x1pl call hs u x1i1 (j2 (xc4 call hs u) 0 6) eNil=j3 (xc5 call hs u) 0 5 6:=by kernel_rfl
theorem x1ib:x1pl call hs u xf1 r_3 eNil=j3 (xc5 call hs u) 0 5 6:=sq2 x1i9 x1ia
theorem x1ic:x1pl call hs u xsf r_3 eNil=j2 (xc6 call hs u) 0 1:=tr (sqN 1 x1ib)
theorem x1id:x1pl call hs u x1i0 (j2 (xc6 call hs u) 0 1) eNil=j2 (xc7 call hs u) 0 1:=by kernel_rfl
theorem x1ie:x1pl call hs u xf0 r_3 eNil=j2 (xc7 call hs u) 0 1:=sq2 x1ic x1id
theorem xzw:x1pl call hs u xse r_3 eNil=j2 (xir call hs u) 0 1:=tr (sqN 1 x1ie)
noncomputable abbrev x1zo:=VX x6r 18 r_13
noncomputable def x1if:=x1nn x6r
theorem xxu:x1zo call hs u x1if r_13 eNil=j4 (xis call hs u) 0 1 2 3:=by kernel_rfl
noncomputable abbrev x1tq:=VX x6t 20 r_13
noncomputable def xsj:=x1nn x6t
noncomputable def xsk:=nR xsj
noncomputable def xsl:=nR xsk
noncomputable def x1ig:=nR xsl
theorem x1ih{rec0:AV->AV->AV->AV->Mem->Nat->O2}:x1tq call hs u x1ig (j4 rec0 1 10 11 12) (setE 0 r_13 eNil)=j4 (xit call hs u rec0) 1 10 11 12:=by kernel_rfl
theorem x1ii:x1tq call hs u xsl r_13 (setE 0 r_13 eNil)=j4 (x65 call hs u NN) 1 10 11 12:=lp (Ln:=fun n=>j4 (x65 call hs u n) 1 10 11 12) fun n=>tr x1ih
theorem x1ij:x1tq call hs u xsk r_13 eNil=j4 (x65 call hs u NN) 1 10 11 12:=bk x1ii
theorem xxx:x1tq call hs u xsj r_13 eNil=j3 (xiu call hs u) 0 1 2:=tr (sqN 1 x1ij)
noncomputable abbrev x1pv:=VX x4n 53 r_13
noncomputable def xsm:=x1nn x4n
noncomputable def xsn:=nR xsm
noncomputable def xso:=nR xsn
noncomputable def xsp:=nR xso
noncomputable def xf3:=nR xsp
noncomputable def xsq:=nL xf3
noncomputable def x1ik:=nR xf3
noncomputable def xsr:=nR xsq
noncomputable def xss:=nR xsr
noncomputable def xst:=nR xss
noncomputable def x1il:=nR xst
theorem x1im{rec0:AV->AV->AV->AV->AV->Mem->Nat->O2}:x1pv call hs u x1ik (j5 rec0 0 1 2 3 8) (setE 0 r_13 eNil)=j5 (xv call hs u rec0) 0 1 2 3 8:=by kernel_rfl
theorem x1in{rec0:AV->AV->AV->AV->AV->Mem->Nat->O2}{rec1:AV->AV->AV->AV->AV->AV->Mem->Nat->O2}:x1pv call hs u x1il (j6 rec1 0 1 2 3 8 9) (setE 2 (j5 (xv call hs u rec0) 0 1 2 3 8) (setE 1 (j5 (xv call hs u rec0) 0 1 2 3 8) (setE 0 r_13 eNil)))=j6 (xiv call hs u rec0 rec1) 0 1 2 3 8 9:=by kernel_rfl
theorem x1io{rec0:AV->AV->AV->AV->AV->Mem->Nat->O2}:x1pv call hs u xst (j5 (xv call hs u rec0) 0 1 2 3 8) (setE 2 (j5 (xv call hs u rec0) 0 1 2 3 8) (setE 1 (j5 (xv call hs u rec0) 0 1 2 3 8) (setE 0 r_13 eNil)))=j6 (x66 call hs u rec0 NN) 0 1 2 3 8 9:=lp (Ln:=fun n=>j6 (x66 call hs u rec0 n) 0 1 2 3 8 9) fun n=>tr x1in
theorem x1ip{rec0:AV->AV->AV->AV->AV->Mem->Nat->O2}:x1pv call hs u xss (j5 (xv call hs u rec0) 0 1 2 3 8) (setE 1 (j5 (xv call hs u rec0) 0 1 2 3 8) (setE 0 r_13 eNil))=j6 (x66 call hs u rec0 NN) 0 1 2 3 8 9:=bk x1io
theorem x1iq{rec0:AV->AV->AV->AV->AV->Mem->Nat->O2}:x1pv call hs u xsr (j5 (xv call hs u rec0) 0 1 2 3 8) (setE 1 (j5 (xv call hs u rec0) 0 1 2 3 8) (setE 0 r_13 eNil))=j5 (x9g call hs u rec0) 0 1 2 3 8:=tr (sqN 1 x1ip)
theorem x1ir{rec0:AV->AV->AV->AV->AV->Mem->Nat->O2}:x1pv call hs u xsq (j5 (xv call hs u rec0) 0 1 2 3 8) (setE 0 r_13 eNil)=j5 (x9g call hs u rec0) 0 1 2 3 8:=bk x1iq
theorem x1is{rec0:AV->AV->AV->AV->AV->Mem->Nat->O2}:x1pv call hs u xf3 (j5 rec0 0 1 2 3 8) (setE 0 r_13 eNil)=j5 (x9g call hs u rec0) 0 1 2 3 8:=sq2 x1im x1ir
theorem x1it{rec0:AV->AV->AV->AV->AV->Mem->Nat->O2}:x1pv call hs u xsp (j5 rec0 0 1 2 3 8) (setE 0 r_13 eNil)=j5 (xiw call hs u rec0) 0 1 2 3 8:=tr (sqN 1 x1is)
theorem x1iu:x1pv call hs u xso r_13 (setE 0 r_13 eNil)=j5 (x67 call hs u NN) 0 1 2 3 8:=lp (Ln:=fun n=>j5 (x67 call hs u n) 0 1 2 3 8) fun n=>tr x1it
theorem x1iv:x1pv call hs u xsn r_13 eNil=j5 (x67 call hs u NN) 0 1 2 3 8:=bk x1iu
theorem xzx:x1pv call hs u xsm r_13 eNil=j4 (xix call hs u) 0 1 2 3:=tr (sqN 1 x1iv)
noncomputable abbrev x1nu:=VX x2h 220 r_13
noncomputable def xf4:=x1nn x2h
noncomputable def xsu:=nL xf4
noncomputable def xf5:=nR xf4
noncomputable def xsv:=nL xf5
noncomputable def xsw:=nR xf5
noncomputable def xf6:=nRs 3 xsw
noncomputable def x1iw:=nL xf6
noncomputable def xsx:=nR xf6
noncomputable def xf7:=nR xsx
noncomputable def xsy:=nL xf7
noncomputable def xsz:=nR xf7
noncomputable def xf8:=nR xsz
noncomputable def x1ix:=nL xf8
noncomputable def xf9:=nR xf8
noncomputable def x1iy:=nL xf9
noncomputable def x1iz:=nR xf9
noncomputable def xt0:=nR xsy
noncomputable def x1j0:=nR xt0
noncomputable def xfa:=nR xsv
noncomputable def xt1:=nL xfa
noncomputable def x1j1:=nR xfa
noncomputable def xfb:=nRs 2 xt1
noncomputable def xt2:=nL xfb
noncomputable def xfc:=nR xfb
noncomputable def xt3:=nL xfc
noncomputable def x1j2:=nR xfc
noncomputable def xt4:=nR xt3
noncomputable def xt5:=nR xt4
noncomputable def x1j3:=nR xt5
noncomputable def xt6:=nR xt2
noncomputable def x1j4:=nR xt6
noncomputable def xfd:=nR xsu
noncomputable def xt7:=nL xfd
noncomputable def x1j5:=nR xfd
noncomputable def xfe:=nRs 2 xt7
noncomputable def xt8:=nL xfe
noncomputable def xff:=nR xfe
noncomputable def xt9:=nL xff
noncomputable def x1j6:=nR xff
noncomputable def xta:=nR xt9
noncomputable def xtb:=nR xta
noncomputable def x1j7:=nR xtb
noncomputable def xtc:=nR xt8
noncomputable def x1j8:=nR xtc
theorem x1j9:x1nu call hs u x1iz r_13 eNil=j5 (x9h call hs u) 0 3 4 18 24:=by kernel_rfl
theorem x1ja:x1nu call hs u x1iy (j5 (x9h call hs u) 0 3 4 18 24) eNil=j7 (x68 call hs u) 0 1 3 4 18 20 24:=by kernel_rfl
theorem x1jb:x1nu call hs u xf9 r_13 eNil=j7 (x68 call hs u) 0 1 3 4 18 20 24:=sq2 x1j9 x1ja
theorem x1jc:x1nu call hs u x1ix (j7 (x68 call hs u) 0 1 3 4 18 20 24) eNil=j8 (xc8 call hs u) 0 1 2 3 4 18 20 24:=by kernel_rfl
theorem x1jd:x1nu call hs u xf8 r_13 eNil=j8 (xc8 call hs u) 0 1 2 3 4 18 20 24:=sq2 x1jb x1jc
theorem x1je:x1nu call hs u xsz r_13 eNil=j8 (x3t call hs u) 0 1 2 3 4 18 19 20:=tr (sqN 1 x1jd)
theorem x1jf{rec0:AV->AV->AV->AV->AV->AV->AV->AV->AV->AV->Mem->Nat->O2}:x1nu call hs u x1j0 (j10 rec0 0 1 2 3 4 18 19 20 21 22) (setE 8 (j8 (x3t call hs u) 0 1 2 3 4 18 19 20) eNil)=j10 (xiy call hs u rec0) 0 1 2 3 4 18 19 20 21 22:=by kernel_rfl
theorem x1jg:x1nu call hs u xt0 (j8 (x3t call hs u) 0 1 2 3 4 18 19 20) (setE 8 (j8 (x3t call hs u) 0 1 2 3 4 18 19 20) eNil)=j10 (x3u call hs u NN) 0 1 2 3 4 18 19 20 21 22:=lp (Ln:=fun n=>j10 (x3u call hs u n) 0 1 2 3 4 18 19 20 21 22) fun n=>tr x1jf
theorem x1jh:x1nu call hs u xsy (j8 (x3t call hs u) 0 1 2 3 4 18 19 20) eNil=j10 (x3u call hs u NN) 0 1 2 3 4 18 19 20 21 22:=bk x1jg
theorem x1ji:x1nu call hs u xf7 r_13 eNil=j10 (x3u call hs u NN) 0 1 2 3 4 18 19 20 21 22:=sq2 x1je x1jh
theorem x1jj:x1nu call hs u xsx r_13 eNil=j9 (x9i call hs u) 0 1 2 3 4 18 19 20 21:=tr (sqN 1 x1ji)
theorem x1jk:x1nu call hs u x1iw (j9 (x9i call hs u) 0 1 2 3 4 18 19 20 21) eNil=j7 (xc9 call hs u) 0 1 2 3 4 18 19:=by kernel_rfl
theorem x1jl:x1nu call hs u xf6 r_13 eNil=j7 (xc9 call hs u) 0 1 2 3 4 18 19:=sq2 x1jj x1jk
theorem x1jm:x1nu call hs u xsw r_13 eNil=j5 (x1u call hs u) 0 1 2 3 4:=tr (sqN 3 x1jl)
theorem x1jn:x1nu call hs u x1j2 (j5 (x1u call hs u) 0 1 2 3 4) eNil=j0 (x2x call hs u):=by kernel_rfl
theorem x1jo{rec1:AV->AV->AV->Mem->Nat->O2}:x1nu call hs u x1j3 (j3 rec1 0 14 17) (setE 6 (j0 (x2x call hs u)) eNil)=j3 (xiz call hs u rec1) 0 14 17:=by kernel_rfl
theorem x1jp:x1nu call hs u xt5 (j0 (x2x call hs u)) (setE 6 (j0 (x2x call hs u)) eNil)=j3 (x69 call hs u NN) 0 14 17:=lp (Ln:=fun n=>j3 (x69 call hs u n) 0 14 17) fun n=>tr x1jo
theorem x1jq:x1nu call hs u xt4 (j0 (x2x call hs u)) eNil=j3 (x69 call hs u NN) 0 14 17:=bk x1jp
theorem x1jr:x1nu call hs u xt3 (j0 (x2x call hs u)) eNil=j3 (x2y call hs u) 0 2 14:=tr (sqN 1 x1jq)
theorem x1js:x1nu call hs u xfc (j5 (x1u call hs u) 0 1 2 3 4) eNil=j3 (x2y call hs u) 0 2 14:=sq2 x1jn x1jr
theorem x1jt{rec2:AV->AV->AV->AV->AV->Mem->Nat->O2}:x1nu call hs u x1j4 (j5 rec2 0 2 4 14 15) (setE 4 (j3 (x2y call hs u) 0 2 14) eNil)=j5 (xj0 call hs u rec2) 0 2 4 14 15:=by kernel_rfl
theorem x1ju:x1nu call hs u xt6 (j3 (x2y call hs u) 0 2 14) (setE 4 (j3 (x2y call hs u) 0 2 14) eNil)=j5 (x3v call hs u NN) 0 2 4 14 15:=lp (Ln:=fun n=>j5 (x3v call hs u n) 0 2 4 14 15) fun n=>tr x1jt
theorem x1jv:x1nu call hs u xt2 (j3 (x2y call hs u) 0 2 14) eNil=j5 (x3v call hs u NN) 0 2 4 14 15:=bk x1ju
theorem x1jw:x1nu call hs u xfb (j5 (x1u call hs u) 0 1 2 3 4) eNil=j5 (x3v call hs u NN) 0 2 4 14 15:=sq2 x1js x1jv
theorem x1jx:x1nu call hs u xt1 (j5 (x1u call hs u) 0 1 2 3 4) eNil=j4 (xj1 call hs u) 0 1 2 4:=tr (sqN 2 x1jw)
theorem x1jy:x1nu call hs u x1j1 (j5 (x1u call hs u) 0 1 2 3 4) eNil=j5 (xj2 call hs u) 0 1 2 3 4:=by kernel_rfl
theorem x1jz:x1nu call hs u xfa (j5 (x1u call hs u) 0 1 2 3 4) eNil=j6 (xj3 call hs u) 0 1 2 3 4 80:=tr (cd x1jx x1jy)
theorem x1k0:x1nu call hs u xsv (j5 (x1u call hs u) 0 1 2 3 4) eNil=j5 (x1h call hs u) 0 1 2 3 4:=tr (sqN 1 x1jz)
theorem x1k1:x1nu call hs u xf5 r_13 eNil=j5 (x1h call hs u) 0 1 2 3 4:=sq2 x1jm x1k0
theorem x1k2:x1nu call hs u x1j6 (j5 (x1h call hs u) 0 1 2 3 4) eNil=j0 (x2z call hs u):=by kernel_rfl
theorem x1k3{rec3:AV->AV->AV->Mem->Nat->O2}:x1nu call hs u x1j7 (j3 rec3 0 10 13) (setE 2 (j0 (x2z call hs u)) eNil)=j3 (xj4 call hs u rec3) 0 10 13:=by kernel_rfl
theorem x1k4:x1nu call hs u xtb (j0 (x2z call hs u)) (setE 2 (j0 (x2z call hs u)) eNil)=j3 (x6a call hs u NN) 0 10 13:=lp (Ln:=fun n=>j3 (x6a call hs u n) 0 10 13) fun n=>tr x1k3
theorem x1k5:x1nu call hs u xta (j0 (x2z call hs u)) eNil=j3 (x6a call hs u NN) 0 10 13:=bk x1k4
theorem x1k6:x1nu call hs u xt9 (j0 (x2z call hs u)) eNil=j3 (x30 call hs u) 0 1 10:=tr (sqN 1 x1k5)
theorem x1k7:x1nu call hs u xff (j5 (x1h call hs u) 0 1 2 3 4) eNil=j3 (x30 call hs u) 0 1 10:=sq2 x1k2 x1k6
theorem x1k8{rec4:AV->AV->AV->AV->AV->Mem->Nat->O2}:x1nu call hs u x1j8 (j5 rec4 0 1 4 10 11) (setE 0 (j3 (x30 call hs u) 0 1 10) eNil)=j5 (xj5 call hs u rec4) 0 1 4 10 11:=by kernel_rfl
theorem x1k9:x1nu call hs u xtc (j3 (x30 call hs u) 0 1 10) (setE 0 (j3 (x30 call hs u) 0 1 10) eNil)=j5 (x3w call hs u NN) 0 1 4 10 11:=lp (Ln:=fun n=>j5 (x3w call hs u n) 0 1 4 10 11) fun n=>tr x1k8
theorem x1ka:x1nu call hs u xt8 (j3 (x30 call hs u) 0 1 10) eNil=j5 (x3w call hs u NN) 0 1 4 10 11:=bk x1k9
theorem x1kb:x1nu call hs u xfe (j5 (x1h call hs u) 0 1 2 3 4) eNil=j5 (x3w call hs u NN) 0 1 4 10 11:=sq2 x1k7 x1ka
theorem x1kc:x1nu call hs u xt7 (j5 (x1h call hs u) 0 1 2 3 4) eNil=j5 (xj6 call hs u) 0 1 2 3 4:=tr (sqN 2 x1kb)
theorem x1kd:x1nu call hs u x1j5 (j5 (x1h call hs u) 0 1 2 3 4) eNil=j5 (xj7 call hs u) 0 1 2 3 4:=by kernel_rfl
theorem x1ke:x1nu call hs u xfd (j5 (x1h call hs u) 0 1 2 3 4) eNil=j6 (xj8 call hs u) 0 1 2 3 4 28:=tr (cd x1kc x1kd)
theorem x1kf:x1nu call hs u xsu (j5 (x1h call hs u) 0 1 2 3 4) eNil=j5 (xca call hs u) 0 1 2 3 4:=tr (sqN 1 x1ke)
theorem xzy:x1nu call hs u xf4 r_13 eNil=j5 (xca call hs u) 0 1 2 3 4:=sq2 x1k1 x1kf
noncomputable abbrev x1pw:=VX x7r 49 r_13
noncomputable def xtd:=x1nn x7r
noncomputable def xte:=nR xtd
noncomputable def xtf:=nR xte
noncomputable def xtg:=nR xtf
noncomputable def xfg:=nR xtg
noncomputable def xth:=nL xfg
noncomputable def x1kg:=nR xfg
noncomputable def xti:=nR xth
noncomputable def xtj:=nR xti
noncomputable def xtk:=nR xtj
noncomputable def x1kh:=nR xtk
theorem x1ki{rec0:AV->AV->AV->AV->Mem->Nat->O2}:x1pw call hs u x1kg (j4 rec0 0 1 2 6) (setE 0 r_13 eNil)=j4 (xw call hs u rec0) 0 1 2 6:=by kernel_rfl
theorem x1kj{rec0:AV->AV->AV->AV->Mem->Nat->O2}{rec1:AV->AV->AV->AV->AV->Mem->Nat->O2}:x1pw call hs u x1kh (j5 rec1 0 1 2 6 7) (setE 2 (j4 (xw call hs u rec0) 0 1 2 6) (setE 1 (j4 (xw call hs u rec0) 0 1 2 6) (setE 0 r_13 eNil)))=j5 (xj9 call hs u rec0 rec1) 0 1 2 6 7:=by kernel_rfl
theorem x1kk{rec0:AV->AV->AV->AV->Mem->Nat->O2}:x1pw call hs u xtk (j4 (xw call hs u rec0) 0 1 2 6) (setE 2 (j4 (xw call hs u rec0) 0 1 2 6) (setE 1 (j4 (xw call hs u rec0) 0 1 2 6) (setE 0 r_13 eNil)))=j5 (x6b call hs u rec0 NN) 0 1 2 6 7:=lp (Ln:=fun n=>j5 (x6b call hs u rec0 n) 0 1 2 6 7) fun n=>tr x1kj
theorem x1kl{rec0:AV->AV->AV->AV->Mem->Nat->O2}:x1pw call hs u xtj (j4 (xw call hs u rec0) 0 1 2 6) (setE 1 (j4 (xw call hs u rec0) 0 1 2 6) (setE 0 r_13 eNil))=j5 (x6b call hs u rec0 NN) 0 1 2 6 7:=bk x1kk
theorem x1km{rec0:AV->AV->AV->AV->Mem->Nat->O2}:x1pw call hs u xti (j4 (xw call hs u rec0) 0 1 2 6) (setE 1 (j4 (xw call hs u rec0) 0 1 2 6) (setE 0 r_13 eNil))=j4 (x9j call hs u rec0) 0 1 2 6:=tr (sqN 1 x1kl)
theorem x1kn{rec0:AV->AV->AV->AV->Mem->Nat->O2}:x1pw call hs u xth (j4 (xw call hs u rec0) 0 1 2 6) (setE 0 r_13 eNil)=j4 (x9j call hs u rec0) 0 1 2 6:=bk x1km
theorem x1ko{rec0:AV->AV->AV->AV->Mem->Nat->O2}:x1pw call hs u xfg (j4 rec0 0 1 2 6) (setE 0 r_13 eNil)=j4 (x9j call hs u rec0) 0 1 2 6:=sq2 x1ki x1kn
theorem x1kp{rec0:AV->AV->AV->AV->Mem->Nat->O2}:x1pw call hs u xtg (j4 rec0 0 1 2 6) (setE 0 r_13 eNil)=j4 (xja call hs u rec0) 0 1 2 6:=tr (sqN 1 x1ko)
theorem x1kq:x1pw call hs u xtf r_13 (setE 0 r_13 eNil)=j4 (x6c call hs u NN) 0 1 2 6:=lp (Ln:=fun n=>j4 (x6c call hs u n) 0 1 2 6) fun n=>tr x1kp
theorem x1kr:x1pw call hs u xte r_13 eNil=j4 (x6c call hs u NN) 0 1 2 6:=bk x1kq
theorem xzz:x1pw call hs u xtd r_13 eNil=j3 (xjb call hs u) 0 1 2:=tr (sqN 1 x1kr)
noncomputable abbrev x1qb:=VX x7s 56 r_13
noncomputable def xtl:=x1nn x7s
noncomputable def xfh:=nRs 3 xtl
noncomputable def xtm:=nL xfh
noncomputable def xtn:=nR xfh
noncomputable def xto:=nR xtn
noncomputable def xtp:=nR xto
noncomputable def x1ks:=nR xtp
noncomputable def xtq:=nR xtm
noncomputable def xtr:=nR xtq
noncomputable def x1kt:=nR xtr
theorem x1ku{rec0:AV->AV->AV->AV->Mem->Nat->O2}:x1qb call hs u x1ks (j4 rec0 0 6 7 10) (setE 2 r_13 eNil)=j4 (xjc call hs u rec0) 0 6 7 10:=by kernel_rfl
theorem x1kv:x1qb call hs u xtp r_13 (setE 2 r_13 eNil)=j4 (x6d call hs u NN) 0 6 7 10:=lp (Ln:=fun n=>j4 (x6d call hs u n) 0 6 7 10) fun n=>tr x1ku
theorem x1kw:x1qb call hs u xto r_13 eNil=j4 (x6d call hs u NN) 0 6 7 10:=bk x1kv
theorem x1kx:x1qb call hs u xtn r_13 eNil=j4 (x31 call hs u) 0 6 7 8:=tr (sqN 1 x1kw)
theorem x1ky{rec1:AV->AV->AV->AV->AV->Mem->Nat->O2}:x1qb call hs u x1kt (j5 rec1 0 6 7 8 9) (setE 0 (j4 (x31 call hs u) 0 6 7 8) eNil)=j5 (xjd call hs u rec1) 0 6 7 8 9:=by kernel_rfl
theorem x1kz:x1qb call hs u xtr (j4 (x31 call hs u) 0 6 7 8) (setE 0 (j4 (x31 call hs u) 0 6 7 8) eNil)=j5 (x6e call hs u NN) 0 6 7 8 9:=lp (Ln:=fun n=>j5 (x6e call hs u n) 0 6 7 8 9) fun n=>tr x1ky
theorem x1l0:x1qb call hs u xtq (j4 (x31 call hs u) 0 6 7 8) eNil=j5 (x6e call hs u NN) 0 6 7 8 9:=bk x1kz
theorem x1l1:x1qb call hs u xtm (j4 (x31 call hs u) 0 6 7 8) eNil=j4 (xcb call hs u) 0 6 7 8:=tr (sqN 1 x1l0)
theorem x1l2:x1qb call hs u xfh r_13 eNil=j4 (xcb call hs u) 0 6 7 8:=sq2 x1kx x1l1
theorem x100:x1qb call hs u xtl r_13 eNil=j3 (xje call hs u) 0 1 2:=tr (sqN 3 x1l2)
noncomputable abbrev x1pb:=VX x7t 65 r_13
noncomputable def xts:=x1nn x7t
noncomputable def xfi:=nRs 2 xts
noncomputable def xtt:=nL xfi
noncomputable def x1l3:=nR xfi
noncomputable def xtu:=nRs 3 xtt
noncomputable def xtv:=nR xtu
noncomputable def xtw:=nR xtv
noncomputable def xfj:=nR xtw
noncomputable def xtx:=nL xfj
noncomputable def x1l4:=nR xfj
noncomputable def xty:=nR xtx
noncomputable def xfk:=nR xty
noncomputable def x1l5:=nL xfk
noncomputable def x1l6:=nR xfk
theorem x1l7{rec0:AV->AV->AV->AV->AV->AV->Mem->Nat->O2}:x1pb call hs u x1l4 (j6 rec0 0 1 6 7 8 9) (setE 0 r_13 eNil)=j6 (x1i call hs u rec0) 0 1 6 7 8 9:=by kernel_rfl
theorem x1l8{rec0:AV->AV->AV->AV->AV->AV->Mem->Nat->O2}:x1pb call hs u x1l6 (j6 (x1i call hs u rec0) 0 1 6 7 8 9) (setE 1 (j6 (x1i call hs u rec0) 0 1 6 7 8 9) (setE 0 r_13 eNil))=j7 (x9k call hs u rec0) 0 1 6 7 8 9 10:=by kernel_rfl
theorem x1l9{rec0:AV->AV->AV->AV->AV->AV->Mem->Nat->O2}:x1pb call hs u x1l5 (j7 (x9k call hs u rec0) 0 1 6 7 8 9 10) (setE 1 (j6 (x1i call hs u rec0) 0 1 6 7 8 9) (setE 0 r_13 eNil))=j7 (xcc call hs u rec0) 0 1 6 7 8 9 10:=by kernel_rfl
theorem x1la{rec0:AV->AV->AV->AV->AV->AV->Mem->Nat->O2}:x1pb call hs u xfk (j6 (x1i call hs u rec0) 0 1 6 7 8 9) (setE 1 (j6 (x1i call hs u rec0) 0 1 6 7 8 9) (setE 0 r_13 eNil))=j7 (xcc call hs u rec0) 0 1 6 7 8 9 10:=sq2 x1l8 x1l9
theorem x1lb{rec0:AV->AV->AV->AV->AV->AV->Mem->Nat->O2}:x1pb call hs u xty (j6 (x1i call hs u rec0) 0 1 6 7 8 9) (setE 1 (j6 (x1i call hs u rec0) 0 1 6 7 8 9) (setE 0 r_13 eNil))=j6 (x9l call hs u rec0) 0 1 6 7 8 9:=tr (sqN 1 x1la)
theorem x1lc{rec0:AV->AV->AV->AV->AV->AV->Mem->Nat->O2}:x1pb call hs u xtx (j6 (x1i call hs u rec0) 0 1 6 7 8 9) (setE 0 r_13 eNil)=j6 (x9l call hs u rec0) 0 1 6 7 8 9:=bk x1lb
theorem x1ld{rec0:AV->AV->AV->AV->AV->AV->Mem->Nat->O2}:x1pb call hs u xfj (j6 rec0 0 1 6 7 8 9) (setE 0 r_13 eNil)=j6 (x9l call hs u rec0) 0 1 6 7 8 9:=sq2 x1l7 x1lc
theorem x1le{rec0:AV->AV->AV->AV->AV->AV->Mem->Nat->O2}:x1pb call hs u xtw (j6 rec0 0 1 6 7 8 9) (setE 0 r_13 eNil)=j6 (xjf call hs u rec0) 0 1 6 7 8 9:=tr (sqN 1 x1ld)
theorem x1lf:x1pb call hs u xtv r_13 (setE 0 r_13 eNil)=j6 (x6f call hs u NN) 0 1 6 7 8 9:=lp (Ln:=fun n=>j6 (x6f call hs u n) 0 1 6 7 8 9) fun n=>tr x1le
theorem x1lg:x1pb call hs u xtu r_13 eNil=j6 (x6f call hs u NN) 0 1 6 7 8 9:=bk x1lf
theorem x1lh:x1pb call hs u xtt r_13 eNil=j3 (xjg call hs u) 0 1 6:=tr (sqN 3 x1lg)
theorem x1li:x1pb call hs u x1l3 r_13 eNil=j0 (xjh call hs u):=by kernel_rfl
theorem x1lj:x1pb call hs u xfi r_13 eNil=j4 (xji call hs u) 0 1 6 15:=tr (cd x1lh x1li)
theorem x101:x1pb call hs u xts r_13 eNil=j3 (xjj call hs u) 0 1 2:=tr (sqN 2 x1lj)
noncomputable abbrev x1qn:=VX x7u 57 r_4
noncomputable def xtz:=x1nn x7u
noncomputable def xfl:=nRs 6 xtz
noncomputable def xu0:=nL xfl
noncomputable def x1lk:=nR xfl
noncomputable def xfm:=nR xu0
noncomputable def xfn:=nL xfm
noncomputable def x1ll:=nR xfm
noncomputable def x1lm:=nL xfn
noncomputable def x1ln:=nR xfn
theorem x1lo:x1qn call hs u x1lk r_4 eNil=j2 (x2a call hs u) 9 11:=by kernel_rfl
theorem x1lp:x1qn call hs u x1ln (j2 (x2a call hs u) 9 11) eNil=j5 (x9m call hs u) 0 9 10 11 12:=by kernel_rfl
theorem x1lq:x1qn call hs u x1lm (j5 (x9m call hs u) 0 9 10 11 12) eNil=j6 (xcd call hs u) 0 8 9 10 11 12:=by kernel_rfl
theorem x1lr:x1qn call hs u xfn (j2 (x2a call hs u) 9 11) eNil=j6 (xcd call hs u) 0 8 9 10 11 12:=sq2 x1lp x1lq
theorem x1ls:x1qn call hs u x1ll (j2 (x2a call hs u) 9 11) eNil=j2 (xjk call hs u) 9 11:=by kernel_rfl
theorem x1lt:x1qn call hs u xfm (j2 (x2a call hs u) 9 11) eNil=j7 (xjl call hs u) 0 8 9 10 11 12 32:=tr (cd x1lr x1ls)
theorem x1lu:x1qn call hs u xu0 (j2 (x2a call hs u) 9 11) eNil=j6 (xce call hs u) 0 8 9 10 11 12:=tr (sqN 1 x1lt)
theorem x1lv:x1qn call hs u xfl r_4 eNil=j6 (xce call hs u) 0 8 9 10 11 12:=sq2 x1lo x1lu
theorem x102:x1qn call hs u xtz r_4 eNil=j3 (xjm call hs u) 0 1 2:=tr (sqN 6 x1lv)
noncomputable abbrev x1tr:=VX x7v 32 r_13
noncomputable def xu1:=x1nn x7v
noncomputable def xu2:=nRs 2 xu1
noncomputable def xu3:=nR xu2
noncomputable def x1lw:=nR xu3
theorem x1lx{rec0:AV->AV->AV->Mem->Nat->O2}:x1tr call hs u x1lw (j3 rec0 0 6 7) (setE 0 r_13 eNil)=j3 (xjn call hs u rec0) 0 6 7:=by kernel_rfl
theorem x1ly:x1tr call hs u xu3 r_13 (setE 0 r_13 eNil)=j3 (x6g call hs u NN) 0 6 7:=lp (Ln:=fun n=>j3 (x6g call hs u n) 0 6 7) fun n=>tr x1lx
theorem x1lz:x1tr call hs u xu2 r_13 eNil=j3 (x6g call hs u NN) 0 6 7:=bk x1ly
theorem x103:x1tr call hs u xu1 r_13 eNil=j3 (xjo call hs u) 0 1 2:=tr (sqN 2 x1lz)
noncomputable abbrev x1o6:=VX x7w 133 r_0
noncomputable def xu4:=x1nn x7w
noncomputable def xfo:=nRs 2 xu4
noncomputable def xu5:=nL xfo
noncomputable def x1m0:=nR xfo
noncomputable def xu6:=nR xu5
noncomputable def xu7:=nR xu6
noncomputable def xu8:=nR xu7
noncomputable def xfp:=nR xu8
noncomputable def xu9:=nL xfp
noncomputable def x1m1:=nR xfp
noncomputable def xfq:=nR xu9
noncomputable def xua:=nL xfq
noncomputable def xub:=nR xfq
noncomputable def xfr:=nRs 3 xub
noncomputable def xuc:=nL xfr
noncomputable def xud:=nR xfr
noncomputable def xfs:=nR xud
noncomputable def xue:=nL xfs
noncomputable def x1m2:=nR xfs
noncomputable def xuf:=nR xue
noncomputable def xug:=nR xuf
noncomputable def x1m3:=nR xug
noncomputable def xft:=nR xuc
noncomputable def xuh:=nL xft
noncomputable def x1m4:=nR xft
noncomputable def xui:=nR xuh
noncomputable def xuj:=nR xui
noncomputable def x1m5:=nR xuj
noncomputable def xuk:=nR xua
noncomputable def x1m6:=nR xuk
theorem x1m7:x1o6 call hs u x1m0 r_0 eNil=j0 (x2 call hs u):=by kernel_rfl
theorem x1m8{rec0:AV->AV->AV->AV->AV->Mem->Nat->O2}:x1o6 call hs u x1m1 (j5 rec0 0 1 2 7 8) (setE 0 (j0 (x2 call hs u)) eNil)=j5 (x0 call hs u rec0) 0 1 2 7 8:=by kernel_rfl
theorem x1m9{rec0:AV->AV->AV->AV->AV->Mem->Nat->O2}{rec1:AV->AV->AV->AV->AV->AV->Mem->Nat->O2}:x1o6 call hs u x1m3 (j6 rec1 0 1 2 7 8 10) (setE 6 (j5 (x0 call hs u rec0) 0 1 2 7 8) (setE 1 (j5 (x0 call hs u rec0) 0 1 2 7 8) (setE 0 (j0 (x2 call hs u)) eNil)))=j6 (xjp call hs u rec0 rec1) 0 1 2 7 8 10:=by kernel_rfl
theorem x1ma{rec0:AV->AV->AV->AV->AV->Mem->Nat->O2}:x1o6 call hs u xug (j5 (x0 call hs u rec0) 0 1 2 7 8) (setE 6 (j5 (x0 call hs u rec0) 0 1 2 7 8) (setE 1 (j5 (x0 call hs u rec0) 0 1 2 7 8) (setE 0 (j0 (x2 call hs u)) eNil)))=j6 (x6h call hs u rec0 NN) 0 1 2 7 8 10:=lp (Ln:=fun n=>j6 (x6h call hs u rec0 n) 0 1 2 7 8 10) fun n=>tr x1m9
theorem x1mb{rec0:AV->AV->AV->AV->AV->Mem->Nat->O2}:x1o6 call hs u xuf (j5 (x0 call hs u rec0) 0 1 2 7 8) (setE 1 (j5 (x0 call hs u rec0) 0 1 2 7 8) (setE 0 (j0 (x2 call hs u)) eNil))=j6 (x6h call hs u rec0 NN) 0 1 2 7 8 10:=bk x1ma
theorem x1mc{rec0:AV->AV->AV->AV->AV->Mem->Nat->O2}:x1o6 call hs u xue (j5 (x0 call hs u rec0) 0 1 2 7 8) (setE 1 (j5 (x0 call hs u rec0) 0 1 2 7 8) (setE 0 (j0 (x2 call hs u)) eNil))=j5 (xjq call hs u rec0) 0 1 2 7 8:=tr (sqN 1 x1mb)
theorem x1md{rec0:AV->AV->AV->AV->AV->Mem->Nat->O2}:x1o6 call hs u x1m2 (j5 (x0 call hs u rec0) 0 1 2 7 8) (setE 1 (j5 (x0 call hs u rec0) 0 1 2 7 8) (setE 0 (j0 (x2 call hs u)) eNil))=j5 (xjr call hs u rec0) 0 1 2 7 8:=by kernel_rfl
theorem x1me{rec0:AV->AV->AV->AV->AV->Mem->Nat->O2}:x1o6 call hs u xfs (j5 (x0 call hs u rec0) 0 1 2 7 8) (setE 1 (j5 (x0 call hs u rec0) 0 1 2 7 8) (setE 0 (j0 (x2 call hs u)) eNil))=j6 (xjs call hs u rec0) 0 1 2 7 8 98:=tr (cd x1mc x1md)
theorem x1mf{rec0:AV->AV->AV->AV->AV->Mem->Nat->O2}:x1o6 call hs u xud (j5 (x0 call hs u rec0) 0 1 2 7 8) (setE 1 (j5 (x0 call hs u rec0) 0 1 2 7 8) (setE 0 (j0 (x2 call hs u)) eNil))=j5 (xx call hs u rec0) 0 1 2 7 8:=tr (sqN 1 x1me)
theorem x1mg{rec0:AV->AV->AV->AV->AV->Mem->Nat->O2}{rec2:AV->AV->AV->AV->AV->AV->Mem->Nat->O2}:x1o6 call hs u x1m5 (j6 rec2 0 1 2 7 8 9) (setE 4 (j5 (xx call hs u rec0) 0 1 2 7 8) (setE 1 (j5 (x0 call hs u rec0) 0 1 2 7 8) (setE 0 (j0 (x2 call hs u)) eNil)))=j6 (xjt call hs u rec0 rec2) 0 1 2 7 8 9:=by kernel_rfl
theorem x1mh{rec0:AV->AV->AV->AV->AV->Mem->Nat->O2}:x1o6 call hs u xuj (j5 (xx call hs u rec0) 0 1 2 7 8) (setE 4 (j5 (xx call hs u rec0) 0 1 2 7 8) (setE 1 (j5 (x0 call hs u rec0) 0 1 2 7 8) (setE 0 (j0 (x2 call hs u)) eNil)))=j6 (x6i call hs u rec0 NN) 0 1 2 7 8 9:=lp (Ln:=fun n=>j6 (x6i call hs u rec0 n) 0 1 2 7 8 9) fun n=>tr x1mg
theorem x1mi{rec0:AV->AV->AV->AV->AV->Mem->Nat->O2}:x1o6 call hs u xui (j5 (xx call hs u rec0) 0 1 2 7 8) (setE 1 (j5 (x0 call hs u rec0) 0 1 2 7 8) (setE 0 (j0 (x2 call hs u)) eNil))=j6 (x6i call hs u rec0 NN) 0 1 2 7 8 9:=bk x1mh
theorem x1mj{rec0:AV->AV->AV->AV->AV->Mem->Nat->O2}:x1o6 call hs u xuh (j5 (xx call hs u rec0) 0 1 2 7 8) (setE 1 (j5 (x0 call hs u rec0) 0 1 2 7 8) (setE 0 (j0 (x2 call hs u)) eNil))=j5 (xju call hs u rec0) 0 1 2 7 8:=tr (sqN 1 x1mi)
theorem x1mk{rec0:AV->AV->AV->AV->AV->Mem->Nat->O2}:x1o6 call hs u x1m4 (j5 (xx call hs u rec0) 0 1 2 7 8) (setE 1 (j5 (x0 call hs u rec0) 0 1 2 7 8) (setE 0 (j0 (x2 call hs u)) eNil))=j5 (xjv call hs u rec0) 0 1 2 7 8:=by kernel_rfl
theorem x1ml{rec0:AV->AV->AV->AV->AV->Mem->Nat->O2}:x1o6 call hs u xft (j5 (xx call hs u rec0) 0 1 2 7 8) (setE 1 (j5 (x0 call hs u rec0) 0 1 2 7 8) (setE 0 (j0 (x2 call hs u)) eNil))=j6 (xjw call hs u rec0) 0 1 2 7 8 61:=tr (cd x1mj x1mk)
theorem x1mm{rec0:AV->AV->AV->AV->AV->Mem->Nat->O2}:x1o6 call hs u xuc (j5 (xx call hs u rec0) 0 1 2 7 8) (setE 1 (j5 (x0 call hs u rec0) 0 1 2 7 8) (setE 0 (j0 (x2 call hs u)) eNil))=j5 (xcf call hs u rec0) 0 1 2 7 8:=tr (sqN 1 x1ml)
theorem x1mn{rec0:AV->AV->AV->AV->AV->Mem->Nat->O2}:x1o6 call hs u xfr (j5 (x0 call hs u rec0) 0 1 2 7 8) (setE 1 (j5 (x0 call hs u rec0) 0 1 2 7 8) (setE 0 (j0 (x2 call hs u)) eNil))=j5 (xcf call hs u rec0) 0 1 2 7 8:=sq2 x1mf x1mm
theorem x1mo{rec0:AV->AV->AV->AV->AV->Mem->Nat->O2}:x1o6 call hs u xub (j5 (x0 call hs u rec0) 0 1 2 7 8) (setE 1 (j5 (x0 call hs u rec0) 0 1 2 7 8) (setE 0 (j0 (x2 call hs u)) eNil))=j5 (x3x call hs u rec0) 0 1 2 7 8:=tr (sqN 3 x1mn)
theorem x1mp{rec0:AV->AV->AV->AV->AV->Mem->Nat->O2}{rec3:AV->AV->AV->AV->AV->Mem->Nat->O2}:x1o6 call hs u x1m6 (j5 rec3 0 1 2 7 8) (setE 2 (j5 (x3x call hs u rec0) 0 1 2 7 8) (setE 1 (j5 (x0 call hs u rec0) 0 1 2 7 8) (setE 0 (j0 (x2 call hs u)) eNil)))=j5 (xjx call hs u rec0 rec3) 0 1 2 7 8:=by kernel_rfl
theorem x1mq{rec0:AV->AV->AV->AV->AV->Mem->Nat->O2}:x1o6 call hs u xuk (j5 (x3x call hs u rec0) 0 1 2 7 8) (setE 2 (j5 (x3x call hs u rec0) 0 1 2 7 8) (setE 1 (j5 (x0 call hs u rec0) 0 1 2 7 8) (setE 0 (j0 (x2 call hs u)) eNil)))=j5 (x2b call hs u rec0 NN) 0 1 2 7 8:=lp (Ln:=fun n=>j5 (x2b call hs u rec0 n) 0 1 2 7 8) fun n=>tr x1mp
theorem x1mr{rec0:AV->AV->AV->AV->AV->Mem->Nat->O2}:x1o6 call hs u xua (j5 (x3x call hs u rec0) 0 1 2 7 8) (setE 1 (j5 (x0 call hs u rec0) 0 1 2 7 8) (setE 0 (j0 (x2 call hs u)) eNil))=j5 (x2b call hs u rec0 NN) 0 1 2 7 8:=bk x1mq
theorem x1ms{rec0:AV->AV->AV->AV->AV->Mem->Nat->O2}:x1o6 call hs u xfq (j5 (x0 call hs u rec0) 0 1 2 7 8) (setE 1 (j5 (x0 call hs u rec0) 0 1 2 7 8) (setE 0 (j0 (x2 call hs u)) eNil))=j5 (x2b call hs u rec0 NN) 0 1 2 7 8:=sq2 x1mo x1mr
theorem x1mt{rec0:AV->AV->AV->AV->AV->Mem->Nat->O2}:x1o6 call hs u xu9 (j5 (x0 call hs u rec0) 0 1 2 7 8) (setE 0 (j0 (x2 call hs u)) eNil)=j5 (x2b call hs u rec0 NN) 0 1 2 7 8:=bk x1ms
theorem x1mu{rec0:AV->AV->AV->AV->AV->Mem->Nat->O2}:x1o6 call hs u xfp (j5 rec0 0 1 2 7 8) (setE 0 (j0 (x2 call hs u)) eNil)=j5 (x2b call hs u rec0 NN) 0 1 2 7 8:=sq2 x1m8 x1mt
theorem x1mv{rec0:AV->AV->AV->AV->AV->Mem->Nat->O2}:x1o6 call hs u xu8 (j5 rec0 0 1 2 7 8) (setE 0 (j0 (x2 call hs u)) eNil)=j5 (xjy call hs u rec0) 0 1 2 7 8:=tr (sqN 1 x1mu)
theorem x1mw:x1o6 call hs u xu7 (j0 (x2 call hs u)) (setE 0 (j0 (x2 call hs u)) eNil)=j5 (x6j call hs u NN) 0 1 2 7 8:=lp (Ln:=fun n=>j5 (x6j call hs u n) 0 1 2 7 8) fun n=>tr x1mv
theorem x1mx:x1o6 call hs u xu6 (j0 (x2 call hs u)) eNil=j5 (x6j call hs u NN) 0 1 2 7 8:=bk x1mw
theorem x1my:x1o6 call hs u xu5 (j0 (x2 call hs u)) eNil=j4 (xcg call hs u) 0 1 2 7:=tr (sqN 1 x1mx)
theorem x1mz:x1o6 call hs u xfo r_0 eNil=j4 (xcg call hs u) 0 1 2 7:=sq2 x1m7 x1my
theorem x104:x1o6 call hs u xu4 r_0 eNil=j3 (xjz call hs u) 0 1 2:=tr (sqN 2 x1mz)
noncomputable abbrev x1zp:=VX xd 17 r_3
noncomputable def x1n0:=x1nn xd
theorem x105:x1zp call hs u x1n0 r_3 eNil=j2 (xk0 call hs u) 0 1:=by kernel_rfl
noncomputable abbrev x1p7:=VX x7x 84 r_18
noncomputable def xul:=x1nn x7x
noncomputable def xfu:=nRs 3 xul
noncomputable def xum:=nL xfu
noncomputable def x1n1:=nR xfu
noncomputable def xun:=nR xum
noncomputable def xuo:=nR xun
noncomputable def xfv:=nR xuo
noncomputable def xup:=nL xfv
noncomputable def xfw:=nR xfv
noncomputable def xuq:=nL xfw
noncomputable def x1n2:=nR xfw
noncomputable def xur:=nR xuq
noncomputable def x1n3:=nR xur
noncomputable def xus:=nR xup
noncomputable def x1n4:=nR xus
theorem x1n5:x1p7 call hs u x1n1 r_18 eNil=j1 (xk call hs u) 9:=by kernel_rfl
theorem x1n6{rec0:AV->AV->AV->AV->Mem->Nat->O2}:x1p7 call hs u x1n2 (j4 rec0 0 1 9 10) (setE 1 (j4 rec0 0 1 9 10) (setE 0 (j1 (xk call hs u) 9) eNil))=j4 (x3y call hs u rec0) 0 1 9 10:=by kernel_rfl
theorem x1n7{rec0:AV->AV->AV->AV->Mem->Nat->O2}{rec1:AV->AV->AV->AV->Mem->Nat->O2}:x1p7 call hs u x1n3 (j4 rec1 0 1 9 10) (setE 4 (j4 (x3y call hs u rec0) 0 1 9 10) (setE 1 (j4 rec0 0 1 9 10) (setE 0 (j1 (xk call hs u) 9) eNil)))=j4 (xk1 call hs u rec0 rec1) 0 1 9 10:=by kernel_rfl
theorem x1n8{rec0:AV->AV->AV->AV->Mem->Nat->O2}:x1p7 call hs u xur (j4 (x3y call hs u rec0) 0 1 9 10) (setE 4 (j4 (x3y call hs u rec0) 0 1 9 10) (setE 1 (j4 rec0 0 1 9 10) (setE 0 (j1 (xk call hs u) 9) eNil)))=j4 (x1j call hs u rec0 NN) 0 1 9 10:=lp (Ln:=fun n=>j4 (x1j call hs u rec0 n) 0 1 9 10) fun n=>tr x1n7
theorem x1n9{rec0:AV->AV->AV->AV->Mem->Nat->O2}:x1p7 call hs u xuq (j4 (x3y call hs u rec0) 0 1 9 10) (setE 1 (j4 rec0 0 1 9 10) (setE 0 (j1 (xk call hs u) 9) eNil))=j4 (x1j call hs u rec0 NN) 0 1 9 10:=bk x1n8
theorem x1na{rec0:AV->AV->AV->AV->Mem->Nat->O2}:x1p7 call hs u xfw (j4 rec0 0 1 9 10) (setE 1 (j4 rec0 0 1 9 10) (setE 0 (j1 (xk call hs u) 9) eNil))=j4 (x1j call hs u rec0 NN) 0 1 9 10:=sq2 x1n6 x1n9
theorem x1nb{rec0:AV->AV->AV->AV->Mem->Nat->O2}{rec2:AV->AV->AV->AV->Mem->Nat->O2}:x1p7 call hs u x1n4 (j4 rec2 0 1 9 10) (setE 2 (j4 (x1j call hs u rec0 NN) 0 1 9 10) (setE 1 (j4 rec0 0 1 9 10) (setE 0 (j1 (xk call hs u) 9) eNil)))=j4 (xk2 call hs u rec0 rec2) 0 1 9 10:=by kernel_rfl
theorem x1nc{rec0:AV->AV->AV->AV->Mem->Nat->O2}:x1p7 call hs u xus (j4 (x1j call hs u rec0 NN) 0 1 9 10) (setE 2 (j4 (x1j call hs u rec0 NN) 0 1 9 10) (setE 1 (j4 rec0 0 1 9 10) (setE 0 (j1 (xk call hs u) 9) eNil)))=j4 (x32 call hs u rec0 NN) 0 1 9 10:=lp (Ln:=fun n=>j4 (x32 call hs u rec0 n) 0 1 9 10) fun n=>tr x1nb
theorem x1nd{rec0:AV->AV->AV->AV->Mem->Nat->O2}:x1p7 call hs u xup (j4 (x1j call hs u rec0 NN) 0 1 9 10) (setE 1 (j4 rec0 0 1 9 10) (setE 0 (j1 (xk call hs u) 9) eNil))=j4 (x32 call hs u rec0 NN) 0 1 9 10:=bk x1nc
theorem x1ne{rec0:AV->AV->AV->AV->Mem->Nat->O2}:x1p7 call hs u xfv (j4 rec0 0 1 9 10) (setE 1 (j4 rec0 0 1 9 10) (setE 0 (j1 (xk call hs u) 9) eNil))=j4 (x32 call hs u rec0 NN) 0 1 9 10:=sq2 x1na x1nd
theorem x1nf{rec0:AV->AV->AV->AV->Mem->Nat->O2}:x1p7 call hs u xuo (j4 rec0 0 1 9 10) (setE 0 (j1 (xk call hs u) 9) eNil)=j4 (x32 call hs u rec0 NN) 0 1 9 10:=bk x1ne
theorem x1ng:x1p7 call hs u xun (j1 (xk call hs u) 9) (setE 0 (j1 (xk call hs u) 9) eNil)=j4 (x3z call hs u NN) 0 1 9 10:=lp (Ln:=fun n=>j4 (x3z call hs u n) 0 1 9 10) fun n=>tr x1nf
theorem x1nh:x1p7 call hs u xum (j1 (xk call hs u) 9) eNil=j4 (x3z call hs u NN) 0 1 9 10:=bk x1ng
theorem x1ni:x1p7 call hs u xfu r_18 eNil=j4 (x3z call hs u NN) 0 1 9 10:=sq2 x1n5 x1nh
theorem x106:x1p7 call hs u xul r_18 eNil=j4 (xk3 call hs u) 0 1 2 3:=tr (sqN 3 x1ni)
end Go.Ix
