import Derived.Test.YtpeakdjfagbpcaaGreatFxText0
import Derived.Test.YtpeakdjfagbpcaaGreatFxText1
import Derived.Test.YtpeakdjfagbpcaaGreatFxEnt
import Derived.Test.YtpeakdjfagbpcaaGreatFxRules
import Derived.Test.YtpeakdjfagbpcaaGreatFxProj
import Derived.ProofKit
set_option linter.unusedVariables false
namespace Go.Ix
open Go.Proofs
variable{call:x1wy}{hs:FHs}{u:Nat}
noncomputable abbrev x1yo:=VX x96 65 r_15
noncomputable def xob:=x1x2 x96
noncomputable def xey:=nRs 2 xob
noncomputable def xoc:=nL xey
noncomputable def x16o:=nR xey
noncomputable def xod:=nRs 3 xoc
noncomputable def xoe:=nR xod
noncomputable def xof:=nR xoe
noncomputable def xez:=nR xof
noncomputable def xog:=nL xez
noncomputable def x16p:=nR xez
noncomputable def xoh:=nR xog
noncomputable def xf0:=nR xoh
noncomputable def x16q:=nL xf0
noncomputable def x16r:=nR xf0
theorem x16s{rec0:AV->AV->AV->AV->AV->AV->Mem->Nat->O2}:x1yo call hs u x16p (j6 rec0 0 1 6 7 8 9) (setE 0 r_15 eNil)=j6 (x1q call hs u rec0) 0 1 6 7 8 9:=by kernel_rfl
theorem x16t{rec0:AV->AV->AV->AV->AV->AV->Mem->Nat->O2}:x1yo call hs u x16r (j6 (x1q call hs u rec0) 0 1 6 7 8 9) (setE 1 (j6 (x1q call hs u rec0) 0 1 6 7 8 9) (setE 0 r_15 eNil))=j7 (xb1 call hs u rec0) 0 1 6 7 8 9 10:=by kernel_rfl
theorem x16u{rec0:AV->AV->AV->AV->AV->AV->Mem->Nat->O2}:x1yo call hs u x16q (j7 (xb1 call hs u rec0) 0 1 6 7 8 9 10) (setE 1 (j6 (x1q call hs u rec0) 0 1 6 7 8 9) (setE 0 r_15 eNil))=j7 (xeo call hs u rec0) 0 1 6 7 8 9 10:=by kernel_rfl
theorem x16v{rec0:AV->AV->AV->AV->AV->AV->Mem->Nat->O2}:x1yo call hs u xf0 (j6 (x1q call hs u rec0) 0 1 6 7 8 9) (setE 1 (j6 (x1q call hs u rec0) 0 1 6 7 8 9) (setE 0 r_15 eNil))=j7 (xeo call hs u rec0) 0 1 6 7 8 9 10:=sq2 x16t x16u
theorem x16w{rec0:AV->AV->AV->AV->AV->AV->Mem->Nat->O2}:x1yo call hs u xoh (j6 (x1q call hs u rec0) 0 1 6 7 8 9) (setE 1 (j6 (x1q call hs u rec0) 0 1 6 7 8 9) (setE 0 r_15 eNil))=j6 (xb2 call hs u rec0) 0 1 6 7 8 9:=tr (sqN 1 x16v)
theorem x16x{rec0:AV->AV->AV->AV->AV->AV->Mem->Nat->O2}:x1yo call hs u xog (j6 (x1q call hs u rec0) 0 1 6 7 8 9) (setE 0 r_15 eNil)=j6 (xb2 call hs u rec0) 0 1 6 7 8 9:=bk x16w
theorem x16y{rec0:AV->AV->AV->AV->AV->AV->Mem->Nat->O2}:x1yo call hs u xez (j6 rec0 0 1 6 7 8 9) (setE 0 r_15 eNil)=j6 (xb2 call hs u rec0) 0 1 6 7 8 9:=sq2 x16s x16x
theorem x16z{rec0:AV->AV->AV->AV->AV->AV->Mem->Nat->O2}:x1yo call hs u xof (j6 rec0 0 1 6 7 8 9) (setE 0 r_15 eNil)=j6 (xmu call hs u rec0) 0 1 6 7 8 9:=tr (sqN 1 x16y)
theorem x170:x1yo call hs u xoe r_15 (setE 0 r_15 eNil)=j6 (x7n call hs u NN) 0 1 6 7 8 9:=lp (Ln:=fun n=>j6 (x7n call hs u n) 0 1 6 7 8 9) fun n=>tr x16z
theorem x171:x1yo call hs u xod r_15 eNil=j6 (x7n call hs u NN) 0 1 6 7 8 9:=bk x170
theorem x172:x1yo call hs u xoc r_15 eNil=j3 (xmv call hs u) 0 1 6:=tr (sqN 3 x171)
theorem x173:x1yo call hs u x16o r_15 eNil=j0 (xmw call hs u):=by kernel_rfl
theorem x174:x1yo call hs u xey r_15 eNil=j4 (xmx call hs u) 0 1 6 15:=tr (cd x172 x173)
theorem x15x:x1yo call hs u xob r_15 eNil=j3 (xmy call hs u) 0 1 2:=tr (sqN 2 x174)
noncomputable abbrev x20e:=VX x97 57 r_4
noncomputable def xoi:=x1x2 x97
noncomputable def xf1:=nRs 6 xoi
noncomputable def xoj:=nL xf1
noncomputable def x175:=nR xf1
noncomputable def xf2:=nR xoj
noncomputable def xf3:=nL xf2
noncomputable def x176:=nR xf2
noncomputable def x177:=nL xf3
noncomputable def x178:=nR xf3
theorem x179:x20e call hs u x175 r_4 eNil=j2 (x2o call hs u) 9 11:=by kernel_rfl
theorem x17a:x20e call hs u x178 (j2 (x2o call hs u) 9 11) eNil=j5 (xb3 call hs u) 0 9 10 11 12:=by kernel_rfl
theorem x17b:x20e call hs u x177 (j5 (xb3 call hs u) 0 9 10 11 12) eNil=j6 (xep call hs u) 0 8 9 10 11 12:=by kernel_rfl
theorem x17c:x20e call hs u xf3 (j2 (x2o call hs u) 9 11) eNil=j6 (xep call hs u) 0 8 9 10 11 12:=sq2 x17a x17b
theorem x17d:x20e call hs u x176 (j2 (x2o call hs u) 9 11) eNil=j2 (xmz call hs u) 9 11:=by kernel_rfl
theorem x17e:x20e call hs u xf2 (j2 (x2o call hs u) 9 11) eNil=j7 (xn0 call hs u) 0 8 9 10 11 12 32:=tr (cd x17c x17d)
theorem x17f:x20e call hs u xoj (j2 (x2o call hs u) 9 11) eNil=j6 (xeq call hs u) 0 8 9 10 11 12:=tr (sqN 1 x17e)
theorem x17g:x20e call hs u xf1 r_4 eNil=j6 (xeq call hs u) 0 8 9 10 11 12:=sq2 x179 x17f
theorem x15y:x20e call hs u xoi r_4 eNil=j3 (xn1 call hs u) 0 1 2:=tr (sqN 6 x17g)
noncomputable abbrev x23r:=VX x98 32 r_15
noncomputable def xok:=x1x2 x98
noncomputable def xol:=nRs 2 xok
noncomputable def xom:=nR xol
noncomputable def x17h:=nR xom
theorem x17i{rec0:AV->AV->AV->Mem->Nat->O2}:x23r call hs u x17h (j3 rec0 0 6 7) (setE 0 r_15 eNil)=j3 (xn2 call hs u rec0) 0 6 7:=by kernel_rfl
theorem x17j:x23r call hs u xom r_15 (setE 0 r_15 eNil)=j3 (x7o call hs u NN) 0 6 7:=lp (Ln:=fun n=>j3 (x7o call hs u n) 0 6 7) fun n=>tr x17i
theorem x17k:x23r call hs u xol r_15 eNil=j3 (x7o call hs u NN) 0 6 7:=bk x17j
theorem x15z:x23r call hs u xok r_15 eNil=j3 (xn3 call hs u) 0 1 2:=tr (sqN 2 x17k)
noncomputable abbrev x1xm:=VX x99 133 r_0
noncomputable def xon:=x1x2 x99
noncomputable def xf4:=nRs 2 xon
noncomputable def xoo:=nL xf4
noncomputable def x17l:=nR xf4
noncomputable def xop:=nR xoo
noncomputable def xoq:=nR xop
noncomputable def xos:=nR xoq
noncomputable def xf5:=nR xos
noncomputable def xot:=nL xf5
noncomputable def x17m:=nR xf5
noncomputable def xf6:=nR xot
noncomputable def xou:=nL xf6
noncomputable def xov:=nR xf6
noncomputable def xf7:=nRs 3 xov
noncomputable def xow:=nL xf7
noncomputable def xox:=nR xf7
noncomputable def xf8:=nR xox
noncomputable def xoy:=nL xf8
noncomputable def x17n:=nR xf8
noncomputable def xoz:=nR xoy
noncomputable def xp0:=nR xoz
noncomputable def x17o:=nR xp0
noncomputable def xf9:=nR xow
noncomputable def xp1:=nL xf9
noncomputable def x17p:=nR xf9
noncomputable def xp2:=nR xp1
noncomputable def xp3:=nR xp2
noncomputable def x17q:=nR xp3
noncomputable def xp4:=nR xou
noncomputable def x17r:=nR xp4
theorem x17s:x1xm call hs u x17l r_0 eNil=j0 (x4 call hs u):=by kernel_rfl
theorem x17t{rec0:AV->AV->AV->AV->AV->Mem->Nat->O2}:x1xm call hs u x17m (j5 rec0 0 1 2 7 8) (setE 0 (j0 (x4 call hs u)) eNil)=j5 (x0 call hs u rec0) 0 1 2 7 8:=by kernel_rfl
theorem x17u{rec0:AV->AV->AV->AV->AV->Mem->Nat->O2}{rec1:AV->AV->AV->AV->AV->AV->Mem->Nat->O2}:x1xm call hs u x17o (j6 rec1 0 1 2 7 8 10) (setE 6 (j5 (x0 call hs u rec0) 0 1 2 7 8) (setE 1 (j5 (x0 call hs u rec0) 0 1 2 7 8) (setE 0 (j0 (x4 call hs u)) eNil)))=j6 (xn4 call hs u rec0 rec1) 0 1 2 7 8 10:=by kernel_rfl
theorem x17v{rec0:AV->AV->AV->AV->AV->Mem->Nat->O2}:x1xm call hs u xp0 (j5 (x0 call hs u rec0) 0 1 2 7 8) (setE 6 (j5 (x0 call hs u rec0) 0 1 2 7 8) (setE 1 (j5 (x0 call hs u rec0) 0 1 2 7 8) (setE 0 (j0 (x4 call hs u)) eNil)))=j6 (x7p call hs u rec0 NN) 0 1 2 7 8 10:=lp (Ln:=fun n=>j6 (x7p call hs u rec0 n) 0 1 2 7 8 10) fun n=>tr x17u
theorem x17w{rec0:AV->AV->AV->AV->AV->Mem->Nat->O2}:x1xm call hs u xoz (j5 (x0 call hs u rec0) 0 1 2 7 8) (setE 1 (j5 (x0 call hs u rec0) 0 1 2 7 8) (setE 0 (j0 (x4 call hs u)) eNil))=j6 (x7p call hs u rec0 NN) 0 1 2 7 8 10:=bk x17v
theorem x17x{rec0:AV->AV->AV->AV->AV->Mem->Nat->O2}:x1xm call hs u xoy (j5 (x0 call hs u rec0) 0 1 2 7 8) (setE 1 (j5 (x0 call hs u rec0) 0 1 2 7 8) (setE 0 (j0 (x4 call hs u)) eNil))=j5 (xn5 call hs u rec0) 0 1 2 7 8:=tr (sqN 1 x17w)
theorem x17y{rec0:AV->AV->AV->AV->AV->Mem->Nat->O2}:x1xm call hs u x17n (j5 (x0 call hs u rec0) 0 1 2 7 8) (setE 1 (j5 (x0 call hs u rec0) 0 1 2 7 8) (setE 0 (j0 (x4 call hs u)) eNil))=j5 (xn6 call hs u rec0) 0 1 2 7 8:=by kernel_rfl
theorem x17z{rec0:AV->AV->AV->AV->AV->Mem->Nat->O2}:x1xm call hs u xf8 (j5 (x0 call hs u rec0) 0 1 2 7 8) (setE 1 (j5 (x0 call hs u rec0) 0 1 2 7 8) (setE 0 (j0 (x4 call hs u)) eNil))=j6 (xn7 call hs u rec0) 0 1 2 7 8 98:=tr (cd x17x x17y)
theorem x180{rec0:AV->AV->AV->AV->AV->Mem->Nat->O2}:x1xm call hs u xox (j5 (x0 call hs u rec0) 0 1 2 7 8) (setE 1 (j5 (x0 call hs u rec0) 0 1 2 7 8) (setE 0 (j0 (x4 call hs u)) eNil))=j5 (x16 call hs u rec0) 0 1 2 7 8:=tr (sqN 1 x17z)
theorem x181{rec0:AV->AV->AV->AV->AV->Mem->Nat->O2}{rec2:AV->AV->AV->AV->AV->AV->Mem->Nat->O2}:x1xm call hs u x17q (j6 rec2 0 1 2 7 8 9) (setE 4 (j5 (x16 call hs u rec0) 0 1 2 7 8) (setE 1 (j5 (x0 call hs u rec0) 0 1 2 7 8) (setE 0 (j0 (x4 call hs u)) eNil)))=j6 (xn8 call hs u rec0 rec2) 0 1 2 7 8 9:=by kernel_rfl
theorem x182{rec0:AV->AV->AV->AV->AV->Mem->Nat->O2}:x1xm call hs u xp3 (j5 (x16 call hs u rec0) 0 1 2 7 8) (setE 4 (j5 (x16 call hs u rec0) 0 1 2 7 8) (setE 1 (j5 (x0 call hs u rec0) 0 1 2 7 8) (setE 0 (j0 (x4 call hs u)) eNil)))=j6 (x7q call hs u rec0 NN) 0 1 2 7 8 9:=lp (Ln:=fun n=>j6 (x7q call hs u rec0 n) 0 1 2 7 8 9) fun n=>tr x181
theorem x183{rec0:AV->AV->AV->AV->AV->Mem->Nat->O2}:x1xm call hs u xp2 (j5 (x16 call hs u rec0) 0 1 2 7 8) (setE 1 (j5 (x0 call hs u rec0) 0 1 2 7 8) (setE 0 (j0 (x4 call hs u)) eNil))=j6 (x7q call hs u rec0 NN) 0 1 2 7 8 9:=bk x182
theorem x184{rec0:AV->AV->AV->AV->AV->Mem->Nat->O2}:x1xm call hs u xp1 (j5 (x16 call hs u rec0) 0 1 2 7 8) (setE 1 (j5 (x0 call hs u rec0) 0 1 2 7 8) (setE 0 (j0 (x4 call hs u)) eNil))=j5 (xn9 call hs u rec0) 0 1 2 7 8:=tr (sqN 1 x183)
theorem x185{rec0:AV->AV->AV->AV->AV->Mem->Nat->O2}:x1xm call hs u x17p (j5 (x16 call hs u rec0) 0 1 2 7 8) (setE 1 (j5 (x0 call hs u rec0) 0 1 2 7 8) (setE 0 (j0 (x4 call hs u)) eNil))=j5 (xna call hs u rec0) 0 1 2 7 8:=by kernel_rfl
theorem x186{rec0:AV->AV->AV->AV->AV->Mem->Nat->O2}:x1xm call hs u xf9 (j5 (x16 call hs u rec0) 0 1 2 7 8) (setE 1 (j5 (x0 call hs u rec0) 0 1 2 7 8) (setE 0 (j0 (x4 call hs u)) eNil))=j6 (xnb call hs u rec0) 0 1 2 7 8 61:=tr (cd x184 x185)
theorem x187{rec0:AV->AV->AV->AV->AV->Mem->Nat->O2}:x1xm call hs u xow (j5 (x16 call hs u rec0) 0 1 2 7 8) (setE 1 (j5 (x0 call hs u rec0) 0 1 2 7 8) (setE 0 (j0 (x4 call hs u)) eNil))=j5 (xer call hs u rec0) 0 1 2 7 8:=tr (sqN 1 x186)
theorem x188{rec0:AV->AV->AV->AV->AV->Mem->Nat->O2}:x1xm call hs u xf7 (j5 (x0 call hs u rec0) 0 1 2 7 8) (setE 1 (j5 (x0 call hs u rec0) 0 1 2 7 8) (setE 0 (j0 (x4 call hs u)) eNil))=j5 (xer call hs u rec0) 0 1 2 7 8:=sq2 x180 x187
theorem x189{rec0:AV->AV->AV->AV->AV->Mem->Nat->O2}:x1xm call hs u xov (j5 (x0 call hs u rec0) 0 1 2 7 8) (setE 1 (j5 (x0 call hs u rec0) 0 1 2 7 8) (setE 0 (j0 (x4 call hs u)) eNil))=j5 (x4q call hs u rec0) 0 1 2 7 8:=tr (sqN 3 x188)
theorem x18a{rec0:AV->AV->AV->AV->AV->Mem->Nat->O2}{rec3:AV->AV->AV->AV->AV->Mem->Nat->O2}:x1xm call hs u x17r (j5 rec3 0 1 2 7 8) (setE 2 (j5 (x4q call hs u rec0) 0 1 2 7 8) (setE 1 (j5 (x0 call hs u rec0) 0 1 2 7 8) (setE 0 (j0 (x4 call hs u)) eNil)))=j5 (xnc call hs u rec0 rec3) 0 1 2 7 8:=by kernel_rfl
theorem x18b{rec0:AV->AV->AV->AV->AV->Mem->Nat->O2}:x1xm call hs u xp4 (j5 (x4q call hs u rec0) 0 1 2 7 8) (setE 2 (j5 (x4q call hs u rec0) 0 1 2 7 8) (setE 1 (j5 (x0 call hs u rec0) 0 1 2 7 8) (setE 0 (j0 (x4 call hs u)) eNil)))=j5 (x2p call hs u rec0 NN) 0 1 2 7 8:=lp (Ln:=fun n=>j5 (x2p call hs u rec0 n) 0 1 2 7 8) fun n=>tr x18a
theorem x18c{rec0:AV->AV->AV->AV->AV->Mem->Nat->O2}:x1xm call hs u xou (j5 (x4q call hs u rec0) 0 1 2 7 8) (setE 1 (j5 (x0 call hs u rec0) 0 1 2 7 8) (setE 0 (j0 (x4 call hs u)) eNil))=j5 (x2p call hs u rec0 NN) 0 1 2 7 8:=bk x18b
theorem x18d{rec0:AV->AV->AV->AV->AV->Mem->Nat->O2}:x1xm call hs u xf6 (j5 (x0 call hs u rec0) 0 1 2 7 8) (setE 1 (j5 (x0 call hs u rec0) 0 1 2 7 8) (setE 0 (j0 (x4 call hs u)) eNil))=j5 (x2p call hs u rec0 NN) 0 1 2 7 8:=sq2 x189 x18c
theorem x18e{rec0:AV->AV->AV->AV->AV->Mem->Nat->O2}:x1xm call hs u xot (j5 (x0 call hs u rec0) 0 1 2 7 8) (setE 0 (j0 (x4 call hs u)) eNil)=j5 (x2p call hs u rec0 NN) 0 1 2 7 8:=bk x18d
theorem x18f{rec0:AV->AV->AV->AV->AV->Mem->Nat->O2}:x1xm call hs u xf5 (j5 rec0 0 1 2 7 8) (setE 0 (j0 (x4 call hs u)) eNil)=j5 (x2p call hs u rec0 NN) 0 1 2 7 8:=sq2 x17t x18e
theorem x18g{rec0:AV->AV->AV->AV->AV->Mem->Nat->O2}:x1xm call hs u xos (j5 rec0 0 1 2 7 8) (setE 0 (j0 (x4 call hs u)) eNil)=j5 (xnd call hs u rec0) 0 1 2 7 8:=tr (sqN 1 x18f)
theorem x18h:x1xm call hs u xoq (j0 (x4 call hs u)) (setE 0 (j0 (x4 call hs u)) eNil)=j5 (x7r call hs u NN) 0 1 2 7 8:=lp (Ln:=fun n=>j5 (x7r call hs u n) 0 1 2 7 8) fun n=>tr x18g
theorem x18i:x1xm call hs u xop (j0 (x4 call hs u)) eNil=j5 (x7r call hs u NN) 0 1 2 7 8:=bk x18h
theorem x18j:x1xm call hs u xoo (j0 (x4 call hs u)) eNil=j4 (xes call hs u) 0 1 2 7:=tr (sqN 1 x18i)
theorem x18k:x1xm call hs u xf4 r_0 eNil=j4 (xes call hs u) 0 1 2 7:=sq2 x17s x18j
theorem x160:x1xm call hs u xon r_0 eNil=j3 (xne call hs u) 0 1 2:=tr (sqN 2 x18k)
noncomputable abbrev x299:=VX xf 17 r_1
noncomputable def x18l:=x1x2 xf
theorem x161:x299 call hs u x18l r_1 eNil=j2 (xnf call hs u) 0 1:=by kernel_rfl
noncomputable abbrev x1yk:=VX x9a 84 r_19
noncomputable def xp5:=x1x2 x9a
noncomputable def xfa:=nRs 3 xp5
noncomputable def xp6:=nL xfa
noncomputable def x18m:=nR xfa
noncomputable def xp7:=nR xp6
noncomputable def xp8:=nR xp7
noncomputable def xfb:=nR xp8
noncomputable def xp9:=nL xfb
noncomputable def xfc:=nR xfb
noncomputable def xpa:=nL xfc
noncomputable def x18n:=nR xfc
noncomputable def xpb:=nR xpa
noncomputable def x18o:=nR xpb
noncomputable def xpc:=nR xp9
noncomputable def x18p:=nR xpc
theorem x18q:x1yk call hs u x18m r_19 eNil=j1 (xt call hs u) 9:=by kernel_rfl
theorem x18r{rec0:AV->AV->AV->AV->Mem->Nat->O2}:x1yk call hs u x18n (j4 rec0 0 1 9 10) (setE 1 (j4 rec0 0 1 9 10) (setE 0 (j1 (xt call hs u) 9) eNil))=j4 (x4r call hs u rec0) 0 1 9 10:=by kernel_rfl
theorem x18s{rec0:AV->AV->AV->AV->Mem->Nat->O2}{rec1:AV->AV->AV->AV->Mem->Nat->O2}:x1yk call hs u x18o (j4 rec1 0 1 9 10) (setE 4 (j4 (x4r call hs u rec0) 0 1 9 10) (setE 1 (j4 rec0 0 1 9 10) (setE 0 (j1 (xt call hs u) 9) eNil)))=j4 (xng call hs u rec0 rec1) 0 1 9 10:=by kernel_rfl
theorem x18t{rec0:AV->AV->AV->AV->Mem->Nat->O2}:x1yk call hs u xpb (j4 (x4r call hs u rec0) 0 1 9 10) (setE 4 (j4 (x4r call hs u rec0) 0 1 9 10) (setE 1 (j4 rec0 0 1 9 10) (setE 0 (j1 (xt call hs u) 9) eNil)))=j4 (x1r call hs u rec0 NN) 0 1 9 10:=lp (Ln:=fun n=>j4 (x1r call hs u rec0 n) 0 1 9 10) fun n=>tr x18s
theorem x18u{rec0:AV->AV->AV->AV->Mem->Nat->O2}:x1yk call hs u xpa (j4 (x4r call hs u rec0) 0 1 9 10) (setE 1 (j4 rec0 0 1 9 10) (setE 0 (j1 (xt call hs u) 9) eNil))=j4 (x1r call hs u rec0 NN) 0 1 9 10:=bk x18t
theorem x18v{rec0:AV->AV->AV->AV->Mem->Nat->O2}:x1yk call hs u xfc (j4 rec0 0 1 9 10) (setE 1 (j4 rec0 0 1 9 10) (setE 0 (j1 (xt call hs u) 9) eNil))=j4 (x1r call hs u rec0 NN) 0 1 9 10:=sq2 x18r x18u
theorem x18w{rec0:AV->AV->AV->AV->Mem->Nat->O2}{rec2:AV->AV->AV->AV->Mem->Nat->O2}:x1yk call hs u x18p (j4 rec2 0 1 9 10) (setE 2 (j4 (x1r call hs u rec0 NN) 0 1 9 10) (setE 1 (j4 rec0 0 1 9 10) (setE 0 (j1 (xt call hs u) 9) eNil)))=j4 (xnh call hs u rec0 rec2) 0 1 9 10:=by kernel_rfl
theorem x18x{rec0:AV->AV->AV->AV->Mem->Nat->O2}:x1yk call hs u xpc (j4 (x1r call hs u rec0 NN) 0 1 9 10) (setE 2 (j4 (x1r call hs u rec0 NN) 0 1 9 10) (setE 1 (j4 rec0 0 1 9 10) (setE 0 (j1 (xt call hs u) 9) eNil)))=j4 (x3q call hs u rec0 NN) 0 1 9 10:=lp (Ln:=fun n=>j4 (x3q call hs u rec0 n) 0 1 9 10) fun n=>tr x18w
theorem x18y{rec0:AV->AV->AV->AV->Mem->Nat->O2}:x1yk call hs u xp9 (j4 (x1r call hs u rec0 NN) 0 1 9 10) (setE 1 (j4 rec0 0 1 9 10) (setE 0 (j1 (xt call hs u) 9) eNil))=j4 (x3q call hs u rec0 NN) 0 1 9 10:=bk x18x
theorem x18z{rec0:AV->AV->AV->AV->Mem->Nat->O2}:x1yk call hs u xfb (j4 rec0 0 1 9 10) (setE 1 (j4 rec0 0 1 9 10) (setE 0 (j1 (xt call hs u) 9) eNil))=j4 (x3q call hs u rec0 NN) 0 1 9 10:=sq2 x18v x18y
theorem x190{rec0:AV->AV->AV->AV->Mem->Nat->O2}:x1yk call hs u xp8 (j4 rec0 0 1 9 10) (setE 0 (j1 (xt call hs u) 9) eNil)=j4 (x3q call hs u rec0 NN) 0 1 9 10:=bk x18z
theorem x191:x1yk call hs u xp7 (j1 (xt call hs u) 9) (setE 0 (j1 (xt call hs u) 9) eNil)=j4 (x4s call hs u NN) 0 1 9 10:=lp (Ln:=fun n=>j4 (x4s call hs u n) 0 1 9 10) fun n=>tr x190
theorem x192:x1yk call hs u xp6 (j1 (xt call hs u) 9) eNil=j4 (x4s call hs u NN) 0 1 9 10:=bk x191
theorem x193:x1yk call hs u xfa r_19 eNil=j4 (x4s call hs u NN) 0 1 9 10:=sq2 x18q x192
theorem x162:x1yk call hs u xp5 r_19 eNil=j4 (xni call hs u) 0 1 2 3:=tr (sqN 3 x193)
noncomputable abbrev x1xs:=VX x9b 168 r_20
noncomputable def xpd:=x1x2 x9b
noncomputable def xfd:=nRs 3 xpd
noncomputable def xpe:=nL xfd
noncomputable def xfe:=nR xfd
noncomputable def xpf:=nL xfe
noncomputable def xpg:=nR xfe
noncomputable def xff:=nRs 4 xpg
noncomputable def xph:=nL xff
noncomputable def x194:=nR xff
noncomputable def xpi:=nR xph
noncomputable def xpj:=nR xpi
noncomputable def xfg:=nR xpj
noncomputable def xpk:=nL xfg
noncomputable def xfh:=nR xfg
noncomputable def xpl:=nL xfh
noncomputable def x195:=nR xfh
noncomputable def xpm:=nR xpl
noncomputable def x196:=nR xpm
noncomputable def xpn:=nR xpk
noncomputable def x197:=nR xpn
noncomputable def xpo:=nR xpf
noncomputable def x198:=nR xpo
noncomputable def xpp:=nR xpe
noncomputable def x199:=nR xpp
theorem x19a:x1xs call hs u x194 r_20 eNil=j3 (xu call hs u) 0 1 11:=by kernel_rfl
theorem x19b{rec0:AV->AV->AV->AV->Mem->Nat->O2}:x1xs call hs u x195 (j4 rec0 0 1 10 11) (setE 5 (j4 rec0 0 1 10 11) (setE 4 (j3 (xu call hs u) 0 1 11) eNil))=j4 (x4t call hs u rec0) 0 1 10 11:=by kernel_rfl
theorem x19c{rec0:AV->AV->AV->AV->Mem->Nat->O2}{rec1:AV->AV->AV->AV->Mem->Nat->O2}:x1xs call hs u x196 (j4 rec1 0 1 10 11) (setE 8 (j4 (x4t call hs u rec0) 0 1 10 11) (setE 5 (j4 rec0 0 1 10 11) (setE 4 (j3 (xu call hs u) 0 1 11) eNil)))=j4 (xnj call hs u rec0 rec1) 0 1 10 11:=by kernel_rfl
theorem x19d{rec0:AV->AV->AV->AV->Mem->Nat->O2}:x1xs call hs u xpm (j4 (x4t call hs u rec0) 0 1 10 11) (setE 8 (j4 (x4t call hs u rec0) 0 1 10 11) (setE 5 (j4 rec0 0 1 10 11) (setE 4 (j3 (xu call hs u) 0 1 11) eNil)))=j4 (x1s call hs u rec0 NN) 0 1 10 11:=lp (Ln:=fun n=>j4 (x1s call hs u rec0 n) 0 1 10 11) fun n=>tr x19c
theorem x19e{rec0:AV->AV->AV->AV->Mem->Nat->O2}:x1xs call hs u xpl (j4 (x4t call hs u rec0) 0 1 10 11) (setE 5 (j4 rec0 0 1 10 11) (setE 4 (j3 (xu call hs u) 0 1 11) eNil))=j4 (x1s call hs u rec0 NN) 0 1 10 11:=bk x19d
theorem x19f{rec0:AV->AV->AV->AV->Mem->Nat->O2}:x1xs call hs u xfh (j4 rec0 0 1 10 11) (setE 5 (j4 rec0 0 1 10 11) (setE 4 (j3 (xu call hs u) 0 1 11) eNil))=j4 (x1s call hs u rec0 NN) 0 1 10 11:=sq2 x19b x19e
theorem x19g{rec0:AV->AV->AV->AV->Mem->Nat->O2}{rec2:AV->AV->AV->AV->Mem->Nat->O2}:x1xs call hs u x197 (j4 rec2 0 1 10 11) (setE 6 (j4 (x1s call hs u rec0 NN) 0 1 10 11) (setE 5 (j4 rec0 0 1 10 11) (setE 4 (j3 (xu call hs u) 0 1 11) eNil)))=j4 (xnk call hs u rec0 rec2) 0 1 10 11:=by kernel_rfl
theorem x19h{rec0:AV->AV->AV->AV->Mem->Nat->O2}:x1xs call hs u xpn (j4 (x1s call hs u rec0 NN) 0 1 10 11) (setE 6 (j4 (x1s call hs u rec0 NN) 0 1 10 11) (setE 5 (j4 rec0 0 1 10 11) (setE 4 (j3 (xu call hs u) 0 1 11) eNil)))=j4 (x3r call hs u rec0 NN) 0 1 10 11:=lp (Ln:=fun n=>j4 (x3r call hs u rec0 n) 0 1 10 11) fun n=>tr x19g
theorem x19i{rec0:AV->AV->AV->AV->Mem->Nat->O2}:x1xs call hs u xpk (j4 (x1s call hs u rec0 NN) 0 1 10 11) (setE 5 (j4 rec0 0 1 10 11) (setE 4 (j3 (xu call hs u) 0 1 11) eNil))=j4 (x3r call hs u rec0 NN) 0 1 10 11:=bk x19h
theorem x19j{rec0:AV->AV->AV->AV->Mem->Nat->O2}:x1xs call hs u xfg (j4 rec0 0 1 10 11) (setE 5 (j4 rec0 0 1 10 11) (setE 4 (j3 (xu call hs u) 0 1 11) eNil))=j4 (x3r call hs u rec0 NN) 0 1 10 11:=sq2 x19f x19i
theorem x19k{rec0:AV->AV->AV->AV->Mem->Nat->O2}:x1xs call hs u xpj (j4 rec0 0 1 10 11) (setE 4 (j3 (xu call hs u) 0 1 11) eNil)=j4 (x3r call hs u rec0 NN) 0 1 10 11:=bk x19j
theorem x19l:x1xs call hs u xpi (j3 (xu call hs u) 0 1 11) (setE 4 (j3 (xu call hs u) 0 1 11) eNil)=j4 (x4u call hs u NN) 0 1 10 11:=lp (Ln:=fun n=>j4 (x4u call hs u n) 0 1 10 11) fun n=>tr x19k
theorem x19m:x1xs call hs u xph (j3 (xu call hs u) 0 1 11) eNil=j4 (x4u call hs u NN) 0 1 10 11:=bk x19l
theorem x19n:x1xs call hs u xff r_20 eNil=j4 (x4u call hs u NN) 0 1 10 11:=sq2 x19a x19m
theorem x19o:x1xs call hs u xpg r_20 eNil=j4 (x4v call hs u) 0 1 10 11:=tr (sqN 4 x19n)
theorem x19p{rec3:AV->AV->AV->AV->Mem->Nat->O2}:x1xs call hs u x198 (j4 rec3 0 1 10 11) (setE 2 (j4 (x4v call hs u) 0 1 10 11) eNil)=j4 (xnl call hs u rec3) 0 1 10 11:=by kernel_rfl
theorem x19q:x1xs call hs u xpo (j4 (x4v call hs u) 0 1 10 11) (setE 2 (j4 (x4v call hs u) 0 1 10 11) eNil)=j4 (x1t call hs u NN) 0 1 10 11:=lp (Ln:=fun n=>j4 (x1t call hs u n) 0 1 10 11) fun n=>tr x19p
theorem x19r:x1xs call hs u xpf (j4 (x4v call hs u) 0 1 10 11) eNil=j4 (x1t call hs u NN) 0 1 10 11:=bk x19q
theorem x19s:x1xs call hs u xfe r_20 eNil=j4 (x1t call hs u NN) 0 1 10 11:=sq2 x19o x19r
theorem x19t{rec4:AV->AV->AV->AV->Mem->Nat->O2}:x1xs call hs u x199 (j4 rec4 0 1 10 11) (setE 0 (j4 (x1t call hs u NN) 0 1 10 11) eNil)=j4 (xnm call hs u rec4) 0 1 10 11:=by kernel_rfl
theorem x19u:x1xs call hs u xpp (j4 (x1t call hs u NN) 0 1 10 11) (setE 0 (j4 (x1t call hs u NN) 0 1 10 11) eNil)=j4 (x4w call hs u NN) 0 1 10 11:=lp (Ln:=fun n=>j4 (x4w call hs u n) 0 1 10 11) fun n=>tr x19t
theorem x19v:x1xs call hs u xpe (j4 (x1t call hs u NN) 0 1 10 11) eNil=j4 (x4w call hs u NN) 0 1 10 11:=bk x19u
theorem x19w:x1xs call hs u xfd r_20 eNil=j4 (x4w call hs u NN) 0 1 10 11:=sq2 x19s x19v
theorem x163:x1xs call hs u xpd r_20 eNil=j4 (xnn call hs u) 0 1 2 3:=tr (sqN 3 x19w)
noncomputable abbrev x225:=VX x9c 19 r_6
noncomputable def xpq:=x1x2 x9c
noncomputable def xfi:=nR xpq
noncomputable def x19x:=nL xfi
noncomputable def xfj:=nR xfi
noncomputable def x19y:=nL xfj
noncomputable def x19z:=nR xfj
theorem x1a0:x225 call hs u x19z r_6 eNil=j2 (xb4 call hs u) 0 2:=by kernel_rfl
theorem x1a1:x225 call hs u x19y (j2 (xb4 call hs u) 0 2) eNil=j2 (x7s call hs u) 0 2:=by kernel_rfl
theorem x1a2:x225 call hs u xfj r_6 eNil=j2 (x7s call hs u) 0 2:=sq2 x1a0 x1a1
theorem x1a3:x225 call hs u x19x (j2 (x7s call hs u) 0 2) eNil=j2 (xet call hs u) 0 2:=by kernel_rfl
theorem x1a4:x225 call hs u xfi r_6 eNil=j2 (xet call hs u) 0 2:=sq2 x1a2 x1a3
theorem x164:x225 call hs u xpq r_6 eNil=j1 (xno call hs u) 0:=tr (sqN 1 x1a4)
noncomputable abbrev x20q:=VX x9d 25 r_6
noncomputable def xpr:=x1x2 x9d
noncomputable def xfk:=nR xpr
noncomputable def x1a5:=nL xfk
noncomputable def xfl:=nR xfk
noncomputable def x1a6:=nL xfl
noncomputable def xfm:=nR xfl
noncomputable def x1a7:=nL xfm
noncomputable def x1a8:=nR xfm
theorem x1a9:x20q call hs u x1a8 r_6 eNil=j2 (xb5 call hs u) 0 2:=by kernel_rfl
theorem x1aa:x20q call hs u x1a7 (j2 (xb5 call hs u) 0 2) eNil=j2 (x7t call hs u) 0 2:=by kernel_rfl
theorem x1ab:x20q call hs u xfm r_6 eNil=j2 (x7t call hs u) 0 2:=sq2 x1a9 x1aa
theorem x1ac:x20q call hs u x1a6 (j2 (x7t call hs u) 0 2) eNil=j2 (x7u call hs u) 0 2:=by kernel_rfl
theorem x1ad:x20q call hs u xfl r_6 eNil=j2 (x7u call hs u) 0 2:=sq2 x1ab x1ac
theorem x1ae:x20q call hs u x1a5 (j2 (x7u call hs u) 0 2) eNil=j2 (xeu call hs u) 0 2:=by kernel_rfl
theorem x1af:x20q call hs u xfk r_6 eNil=j2 (xeu call hs u) 0 2:=sq2 x1ad x1ae
theorem x165:x20q call hs u xpr r_6 eNil=j1 (xnp call hs u) 0:=tr (sqN 1 x1af)
noncomputable abbrev x29a:=VX x81 6 r_1
noncomputable def x1ag:=x1x2 x81
theorem x13b:x29a call hs u x1ag r_1 eNil=j2 (xnq call hs u) 0 1:=by kernel_rfl
noncomputable abbrev x29b:=VX x9e 30 r_7
noncomputable def x1ah:=x1x2 x9e
theorem x166:x29b call hs u x1ah r_7 eNil=j2 (xnr call hs u) 0 1:=by kernel_rfl
noncomputable abbrev x226:=VX x9f 58 r_15
noncomputable def xps:=x1x2 x9f
noncomputable def xfn:=nRs 2 xps
noncomputable def xpt:=nL xfn
noncomputable def x1ai:=nR xfn
noncomputable def xpu:=nR xpt
noncomputable def x1aj:=nR xpu
theorem x1ak:x226 call hs u x1ai r_15 eNil=j4 (x4x call hs u) 0 2 4 10:=by kernel_rfl
theorem x1al{rec0:AV->AV->AV->AV->AV->Mem->Nat->O2}:x226 call hs u x1aj (j5 rec0 0 2 4 10 11) (setE 0 (j4 (x4x call hs u) 0 2 4 10) eNil)=j5 (xns call hs u rec0) 0 2 4 10 11:=by kernel_rfl
theorem x1am:x226 call hs u xpu (j4 (x4x call hs u) 0 2 4 10) (setE 0 (j4 (x4x call hs u) 0 2 4 10) eNil)=j5 (x4y call hs u NN) 0 2 4 10 11:=lp (Ln:=fun n=>j5 (x4y call hs u n) 0 2 4 10 11) fun n=>tr x1al
theorem x1an:x226 call hs u xpt (j4 (x4x call hs u) 0 2 4 10) eNil=j5 (x4y call hs u NN) 0 2 4 10 11:=bk x1am
theorem x1ao:x226 call hs u xfn r_15 eNil=j5 (x4y call hs u NN) 0 2 4 10 11:=sq2 x1ak x1an
theorem x167:x226 call hs u xps r_15 eNil=j5 (xnt call hs u) 0 1 2 3 4:=tr (sqN 2 x1ao)
noncomputable abbrev x20r:=VX x5g 76 r_15
noncomputable def xpv:=x1x2 x5g
noncomputable def xpw:=nR xpv
noncomputable def xpx:=nR xpw
noncomputable def xpy:=nR xpx
noncomputable def xpz:=nR xpy
noncomputable def xfo:=nRs 2 xpz
noncomputable def x1ap:=nL xfo
noncomputable def x1aq:=nR xfo
theorem x1ar{rec0:AV->AV->AV->AV->Mem->Nat->O2}:x20r call hs u x1aq (j4 rec0 0 2 3 8) (setE 1 (j4 rec0 0 2 3 8) (setE 0 r_15 eNil))=j5 (xb6 call hs u rec0) 0 2 3 8 9:=by kernel_rfl
theorem x1as{rec0:AV->AV->AV->AV->Mem->Nat->O2}:x20r call hs u x1ap (j5 (xb6 call hs u rec0) 0 2 3 8 9) (setE 1 (j4 rec0 0 2 3 8) (setE 0 r_15 eNil))=j5 (xev call hs u rec0) 0 2 3 8 9:=by kernel_rfl
theorem x1at{rec0:AV->AV->AV->AV->Mem->Nat->O2}:x20r call hs u xfo (j4 rec0 0 2 3 8) (setE 1 (j4 rec0 0 2 3 8) (setE 0 r_15 eNil))=j5 (xev call hs u rec0) 0 2 3 8 9:=sq2 x1ar x1as
theorem x1au{rec0:AV->AV->AV->AV->Mem->Nat->O2}:x20r call hs u xpz (j4 rec0 0 2 3 8) (setE 1 (j4 rec0 0 2 3 8) (setE 0 r_15 eNil))=j4 (xew call hs u rec0) 0 2 3 8:=tr (sqN 2 x1at)
theorem x1av{rec0:AV->AV->AV->AV->Mem->Nat->O2}:x20r call hs u xpy (j4 rec0 0 2 3 8) (setE 0 r_15 eNil)=j4 (xew call hs u rec0) 0 2 3 8:=bk x1au
theorem x1aw:x20r call hs u xpx r_15 (setE 0 r_15 eNil)=j4 (x7v call hs u NN) 0 2 3 8:=lp (Ln:=fun n=>j4 (x7v call hs u n) 0 2 3 8) fun n=>tr x1av
theorem x1ax:x20r call hs u xpw r_15 eNil=j4 (x7v call hs u NN) 0 2 3 8:=bk x1aw
theorem x168:x20r call hs u xpv r_15 eNil=j4 (xnu call hs u) 0 1 2 3:=tr (sqN 1 x1ax)
noncomputable abbrev x29c:=VX x9g 7 r_6
noncomputable def x1ay:=x1x2 x9g
theorem x169:x29c call hs u x1ay r_6 eNil=j1 (xnv call hs u) 0:=by kernel_rfl
noncomputable abbrev x29d:=VX x9h 33 r_6
noncomputable def x1az:=x1x2 x9h
theorem x16a:x29d call hs u x1az r_6 eNil=j1 (xnw call hs u) 0:=by kernel_rfl
noncomputable abbrev x29e:=VX x49 15 r_0
noncomputable def x1b0:=x1x2 x49
theorem x16b:x29e call hs u x1b0 r_0 eNil=j3 (xnx call hs u) 0 1 2:=by kernel_rfl
noncomputable abbrev x29f:=VX x5h 36 r_21
noncomputable def x1b1:=x1x2 x5h
theorem x16c:x29f call hs u x1b1 r_21 eNil=j5 (xny call hs u) 0 1 2 3 4:=by kernel_rfl
noncomputable abbrev x29g:=VX x5i 6 r_6
noncomputable def x1b2:=x1x2 x5i
theorem x16d:x29g call hs u x1b2 r_6 eNil=j1 (xnz call hs u) 0:=by kernel_rfl
noncomputable abbrev x1zd:=VX x7z 76 r_15
noncomputable def xq0:=x1x2 x7z
noncomputable def xq1:=nR xq0
noncomputable def xq2:=nR xq1
noncomputable def xq3:=nR xq2
noncomputable def xfp:=nRs 2 xq3
noncomputable def xq4:=nL xfp
noncomputable def x1b3:=nR xfp
noncomputable def xq5:=nR xq4
noncomputable def xfq:=nRs 3 xq5
noncomputable def x1b4:=nL xfq
noncomputable def x1b5:=nR xfq
theorem x1b6{rec0:AV->AV->AV->AV->AV->AV->Mem->Nat->O2}:x1zd call hs u x1b3 (j6 rec0 0 1 2 14 15 16) (setE 0 r_15 eNil)=j6 (x1u call hs u rec0) 0 1 2 14 15 16:=by kernel_rfl
theorem x1b7{rec0:AV->AV->AV->AV->AV->AV->Mem->Nat->O2}:x1zd call hs u x1b5 (j6 (x1u call hs u rec0) 0 1 2 14 15 16) (setE 1 (j6 (x1u call hs u rec0) 0 1 2 14 15 16) (setE 0 r_15 eNil))=j7 (xb7 call hs u rec0) 0 1 2 7 14 15 16:=by kernel_rfl
theorem x1b8{rec0:AV->AV->AV->AV->AV->AV->Mem->Nat->O2}:x1zd call hs u x1b4 (j7 (xb7 call hs u rec0) 0 1 2 7 14 15 16) (setE 1 (j6 (x1u call hs u rec0) 0 1 2 14 15 16) (setE 0 r_15 eNil))=j9 (xex call hs u rec0) 0 1 2 5 6 7 14 15 16:=by kernel_rfl
theorem x1b9{rec0:AV->AV->AV->AV->AV->AV->Mem->Nat->O2}:x1zd call hs u xfq (j6 (x1u call hs u rec0) 0 1 2 14 15 16) (setE 1 (j6 (x1u call hs u rec0) 0 1 2 14 15 16) (setE 0 r_15 eNil))=j9 (xex call hs u rec0) 0 1 2 5 6 7 14 15 16:=sq2 x1b7 x1b8
theorem x1ba{rec0:AV->AV->AV->AV->AV->AV->Mem->Nat->O2}:x1zd call hs u xq5 (j6 (x1u call hs u rec0) 0 1 2 14 15 16) (setE 1 (j6 (x1u call hs u rec0) 0 1 2 14 15 16) (setE 0 r_15 eNil))=j6 (xb8 call hs u rec0) 0 1 2 14 15 16:=tr (sqN 3 x1b9)
theorem x1bb{rec0:AV->AV->AV->AV->AV->AV->Mem->Nat->O2}:x1zd call hs u xq4 (j6 (x1u call hs u rec0) 0 1 2 14 15 16) (setE 0 r_15 eNil)=j6 (xb8 call hs u rec0) 0 1 2 14 15 16:=bk x1ba
theorem x1bc{rec0:AV->AV->AV->AV->AV->AV->Mem->Nat->O2}:x1zd call hs u xfp (j6 rec0 0 1 2 14 15 16) (setE 0 r_15 eNil)=j6 (xb8 call hs u rec0) 0 1 2 14 15 16:=sq2 x1b6 x1bb
theorem x1bd{rec0:AV->AV->AV->AV->AV->AV->Mem->Nat->O2}:x1zd call hs u xq3 (j6 rec0 0 1 2 14 15 16) (setE 0 r_15 eNil)=j6 (xo0 call hs u rec0) 0 1 2 14 15 16:=tr (sqN 2 x1bc)
theorem x1be:x1zd call hs u xq2 r_15 (setE 0 r_15 eNil)=j6 (x7w call hs u NN) 0 1 2 14 15 16:=lp (Ln:=fun n=>j6 (x7w call hs u n) 0 1 2 14 15 16) fun n=>tr x1bd
theorem x1bf:x1zd call hs u xq1 r_15 eNil=j6 (x7w call hs u NN) 0 1 2 14 15 16:=bk x1be
theorem x137:x1zd call hs u xq0 r_15 eNil=j3 (xo1 call hs u) 0 1 2:=tr (sqN 1 x1bf)
noncomputable abbrev x29h:=VX x9i 17 r_7
noncomputable def x1bg:=x1x2 x9i
theorem x16e:x29h call hs u x1bg r_7 eNil=j2 (xo2 call hs u) 0 1:=by kernel_rfl
noncomputable abbrev x29i:=VX x83 51 r_7
noncomputable def x1bh:=x1x2 x83
theorem x13d:x29i call hs u x1bh r_7 eNil=j2 (xo3 call hs u) 0 1:=by kernel_rfl
noncomputable abbrev x23s:=VX x4a 38 r_15
noncomputable def xq6:=x1x2 x4a
noncomputable def xq7:=nR xq6
noncomputable def xq8:=nR xq7
noncomputable def x1bi:=nR xq8
theorem x1bj{rec0:AV->AV->AV->AV->AV->Mem->Nat->O2}:x23s call hs u x1bi (j5 rec0 0 1 2 3 10) (setE 0 r_15 eNil)=j5 (xo4 call hs u rec0) 0 1 2 3 10:=by kernel_rfl
theorem x1bk:x23s call hs u xq8 r_15 (setE 0 r_15 eNil)=j5 (x7x call hs u NN) 0 1 2 3 10:=lp (Ln:=fun n=>j5 (x7x call hs u n) 0 1 2 3 10) fun n=>tr x1bj
theorem x1bl:x23s call hs u xq7 r_15 eNil=j5 (x7x call hs u NN) 0 1 2 3 10:=bk x1bk
theorem x16f:x23s call hs u xq6 r_15 eNil=j4 (xo5 call hs u) 0 1 2 3:=tr (sqN 1 x1bl)
noncomputable abbrev x29j:=VX x4b 28 r_20
noncomputable def x1bm:=x1x2 x4b
theorem x16g:x29j call hs u x1bm r_20 eNil=j4 (xo6 call hs u) 0 1 2 3:=by kernel_rfl
end Go.Ix
