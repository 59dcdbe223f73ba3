import Derived.Test.YtpeakdjfagbpcaaGreatFxText0
import Derived.Test.YtpeakdjfagbpcaaGreatFxText1
import Derived.Test.YtpeakdjfagbpcaaGreatFxEnt
import Derived.Test.YtpeakdjfagbpcaaGreatFxRules
import Derived.Test.YtpeakdjfagbpcaaGreatFxProj
import Derived.ProofKit
set_option linter.unusedVariables false
namespace Go.Ix
open Go.Proofs
variable{call:x2f5}{hs:FHs}{u:Nat}
noncomputable abbrev x2ge:=VX xbm 160 r_17
noncomputable def xvc:=x2fa xbm
noncomputable def xla:=nRs 2 xvc
noncomputable def xvd:=nL xla
noncomputable def xve:=nR xla
noncomputable def xlb:=nR xve
noncomputable def xvf:=nL xlb
noncomputable def xlc:=nR xlb
noncomputable def xvg:=nL xlc
noncomputable def xvh:=nR xlc
noncomputable def xvi:=nRs 3 xvh
noncomputable def xvj:=nR xvi
noncomputable def x1i4:=nR xvj
noncomputable def xvk:=nR xvg
noncomputable def xvl:=nR xvk
noncomputable def x1i5:=nR xvl
noncomputable def xvm:=nR xvf
noncomputable def xvn:=nR xvm
noncomputable def x1i6:=nR xvn
noncomputable def xvo:=nR xvd
noncomputable def xvp:=nR xvo
noncomputable def xvq:=nR xvp
noncomputable def xld:=nRs 2 xvq
noncomputable def x1i7:=nL xld
noncomputable def x1i8:=nR xld
theorem x1i9{rec0:AV->AV->AV->AV->AV->AV->Mem->Nat->O2}:x2ge call hs u x1i4 (j6 rec0 0 4 5 136 137 138) (setE 6 r_17 eNil)=j6 (xsz call hs u rec0) 0 4 5 136 137 138:=by kernel_rfl
theorem x1ia:x2ge call hs u xvj r_17 (setE 6 r_17 eNil)=j6 (x9q call hs u NN) 0 4 5 136 137 138:=lp (Ln:=fun n=>j6 (x9q call hs u n) 0 4 5 136 137 138) fun n=>tr x1i9
theorem x1ib:x2ge call hs u xvi r_17 eNil=j6 (x9q call hs u NN) 0 4 5 136 137 138:=bk x1ia
theorem x1ic:x2ge call hs u xvh r_17 eNil=j5 (x5u call hs u) 0 1 4 5 8:=tr (sqN 3 x1ib)
theorem x1id{rec1:AV->AV->AV->AV->AV->AV->Mem->Nat->O2}:x2ge call hs u x1i5 (j6 rec1 0 1 4 5 8 10) (setE 4 (j5 (x5u call hs u) 0 1 4 5 8) eNil)=j6 (xt0 call hs u rec1) 0 1 4 5 8 10:=by kernel_rfl
theorem x1ie:x2ge call hs u xvl (j5 (x5u call hs u) 0 1 4 5 8) (setE 4 (j5 (x5u call hs u) 0 1 4 5 8) eNil)=j6 (x9r call hs u NN) 0 1 4 5 8 10:=lp (Ln:=fun n=>j6 (x9r call hs u n) 0 1 4 5 8 10) fun n=>tr x1id
theorem x1if:x2ge call hs u xvk (j5 (x5u call hs u) 0 1 4 5 8) eNil=j6 (x9r call hs u NN) 0 1 4 5 8 10:=bk x1ie
theorem x1ig:x2ge call hs u xvg (j5 (x5u call hs u) 0 1 4 5 8) eNil=j5 (x4g call hs u) 0 1 4 5 8:=tr (sqN 1 x1if)
theorem x1ih:x2ge call hs u xlc r_17 eNil=j5 (x4g call hs u) 0 1 4 5 8:=sq2 x1ic x1ig
theorem x1ii{rec2:AV->AV->AV->AV->AV->AV->Mem->Nat->O2}:x2ge call hs u x1i6 (j6 rec2 0 1 4 5 8 9) (setE 2 (j5 (x4g call hs u) 0 1 4 5 8) eNil)=j6 (xt1 call hs u rec2) 0 1 4 5 8 9:=by kernel_rfl
theorem x1ij:x2ge call hs u xvn (j5 (x4g call hs u) 0 1 4 5 8) (setE 2 (j5 (x4g call hs u) 0 1 4 5 8) eNil)=j6 (x9s call hs u NN) 0 1 4 5 8 9:=lp (Ln:=fun n=>j6 (x9s call hs u n) 0 1 4 5 8 9) fun n=>tr x1ii
theorem x1ik:x2ge call hs u xvm (j5 (x4g call hs u) 0 1 4 5 8) eNil=j6 (x9s call hs u NN) 0 1 4 5 8 9:=bk x1ij
theorem x1il:x2ge call hs u xvf (j5 (x4g call hs u) 0 1 4 5 8) eNil=j5 (xk6 call hs u) 0 1 4 5 8:=tr (sqN 1 x1ik)
theorem x1im:x2ge call hs u xlb r_17 eNil=j5 (xk6 call hs u) 0 1 4 5 8:=sq2 x1ih x1il
theorem x1in:x2ge call hs u xve r_17 eNil=j4 (x29 call hs u) 0 1 4 5:=tr (sqN 1 x1im)
theorem x1io{rec3:AV->AV->AV->AV->AV->AV->AV->Mem->Nat->O2}:x2ge call hs u x1i8 (j7 rec3 0 1 4 5 17 18 19) (setE 0 (j4 (x29 call hs u) 0 1 4 5) eNil)=j7 (xem call hs u rec3) 0 1 4 5 17 18 19:=by kernel_rfl
theorem x1ip{rec3:AV->AV->AV->AV->AV->AV->AV->Mem->Nat->O2}:x2ge call hs u x1i7 (j7 (xem call hs u rec3) 0 1 4 5 17 18 19) (setE 0 (j4 (x29 call hs u) 0 1 4 5) eNil)=j7 (xk7 call hs u rec3) 0 1 4 5 17 18 19:=by kernel_rfl
theorem x1iq{rec3:AV->AV->AV->AV->AV->AV->AV->Mem->Nat->O2}:x2ge call hs u xld (j7 rec3 0 1 4 5 17 18 19) (setE 0 (j4 (x29 call hs u) 0 1 4 5) eNil)=j7 (xk7 call hs u rec3) 0 1 4 5 17 18 19:=sq2 x1io x1ip
theorem x1ir{rec3:AV->AV->AV->AV->AV->AV->AV->Mem->Nat->O2}:x2ge call hs u xvq (j7 rec3 0 1 4 5 17 18 19) (setE 0 (j4 (x29 call hs u) 0 1 4 5) eNil)=j7 (xt2 call hs u rec3) 0 1 4 5 17 18 19:=tr (sqN 2 x1iq)
theorem x1is:x2ge call hs u xvp (j4 (x29 call hs u) 0 1 4 5) (setE 0 (j4 (x29 call hs u) 0 1 4 5) eNil)=j7 (x9t call hs u NN) 0 1 4 5 17 18 19:=lp (Ln:=fun n=>j7 (x9t call hs u n) 0 1 4 5 17 18 19) fun n=>tr x1ir
theorem x1it:x2ge call hs u xvo (j4 (x29 call hs u) 0 1 4 5) eNil=j7 (x9t call hs u NN) 0 1 4 5 17 18 19:=bk x1is
theorem x1iu:x2ge call hs u xvd (j4 (x29 call hs u) 0 1 4 5) eNil=j4 (xk8 call hs u) 0 1 4 5:=tr (sqN 1 x1it)
theorem x1iv:x2ge call hs u xla r_17 eNil=j4 (xk8 call hs u) 0 1 4 5:=sq2 x1in x1iu
theorem x1h1:x2ge call hs u xvc r_17 eNil=j2 (xt3 call hs u) 0 1:=tr (sqN 2 x1iv)
noncomputable abbrev x2ix:=VX xbn 53 r_3
noncomputable def xvr:=x2fa xbn
noncomputable def xle:=nRs 2 xvr
noncomputable def xvs:=nL xle
noncomputable def x1iw:=nR xle
noncomputable def xvt:=nR xvs
noncomputable def xvu:=nR xvt
noncomputable def xvv:=nR xvu
noncomputable def xlf:=nRs 2 xvv
noncomputable def x1ix:=nL xlf
noncomputable def x1iy:=nR xlf
theorem x1iz:x2ix call hs u x1iw r_3 eNil=j2 (x2a call hs u) 1 3:=by kernel_rfl
theorem x1j0{rec0:AV->AV->AV->AV->AV->Mem->Nat->O2}:x2ix call hs u x1iy (j5 rec0 1 3 12 13 14) (setE 0 (j2 (x2a call hs u) 1 3) eNil)=j5 (xen call hs u rec0) 1 3 12 13 14:=by kernel_rfl
theorem x1j1{rec0:AV->AV->AV->AV->AV->Mem->Nat->O2}:x2ix call hs u x1ix (j5 (xen call hs u rec0) 1 3 12 13 14) (setE 0 (j2 (x2a call hs u) 1 3) eNil)=j5 (xk9 call hs u rec0) 1 3 12 13 14:=by kernel_rfl
theorem x1j2{rec0:AV->AV->AV->AV->AV->Mem->Nat->O2}:x2ix call hs u xlf (j5 rec0 1 3 12 13 14) (setE 0 (j2 (x2a call hs u) 1 3) eNil)=j5 (xk9 call hs u rec0) 1 3 12 13 14:=sq2 x1j0 x1j1
theorem x1j3{rec0:AV->AV->AV->AV->AV->Mem->Nat->O2}:x2ix call hs u xvv (j5 rec0 1 3 12 13 14) (setE 0 (j2 (x2a call hs u) 1 3) eNil)=j5 (xt4 call hs u rec0) 1 3 12 13 14:=tr (sqN 2 x1j2)
theorem x1j4:x2ix call hs u xvu (j2 (x2a call hs u) 1 3) (setE 0 (j2 (x2a call hs u) 1 3) eNil)=j5 (x9u call hs u NN) 1 3 12 13 14:=lp (Ln:=fun n=>j5 (x9u call hs u n) 1 3 12 13 14) fun n=>tr x1j3
theorem x1j5:x2ix call hs u xvt (j2 (x2a call hs u) 1 3) eNil=j5 (x9u call hs u NN) 1 3 12 13 14:=bk x1j4
theorem x1j6:x2ix call hs u xvs (j2 (x2a call hs u) 1 3) eNil=j2 (xka call hs u) 1 3:=tr (sqN 1 x1j5)
theorem x1j7:x2ix call hs u xle r_3 eNil=j2 (xka call hs u) 1 3:=sq2 x1iz x1j6
theorem x1h2:x2ix call hs u xvr r_3 eNil=j1 (xt5 call hs u) 0:=tr (sqN 2 x1j7)
noncomputable abbrev x2v7:=VX xas 7 r_3
noncomputable def x1j8:=x2fa xas
theorem x1e5:x2v7 call hs u x1j8 r_3 eNil=j1 (xt6 call hs u) 0:=by kernel_rfl
noncomputable abbrev x2v8:=VX xar 19 r_0
noncomputable def x1j9:=x2fa xar
theorem x1e4:x2v8 call hs u x1j9 r_0 eNil=j2 (xt7 call hs u) 0 1:=by kernel_rfl
noncomputable abbrev x2gz:=VX x7s 63 r_17
noncomputable def xvw:=x2fa x7s
noncomputable def xlg:=nRs 2 xvw
noncomputable def xvx:=nL xlg
noncomputable def xvy:=nR xlg
noncomputable def xvz:=nR xvy
noncomputable def xw0:=nR xvz
noncomputable def xw1:=nR xw0
noncomputable def xw2:=nR xw1
noncomputable def xw3:=nR xw2
noncomputable def xlh:=nR xw3
noncomputable def xw4:=nL xlh
noncomputable def xli:=nR xlh
noncomputable def x1ja:=nL xli
noncomputable def x1jb:=nR xli
noncomputable def xw5:=nR xw4
noncomputable def x1jc:=nR xw5
noncomputable def xw6:=nR xvx
noncomputable def x1jd:=nR xw6
theorem x1je{rec0:AV->AV->AV->AV->Mem->Nat->O2}:x2gz call hs u x1jb (j4 rec0 0 1 2 6) (setE 3 (j4 rec0 0 1 2 6) (setE 2 r_17 eNil))=j4 (xeo call hs u rec0) 0 1 2 6:=by kernel_rfl
theorem x1jf{rec0:AV->AV->AV->AV->Mem->Nat->O2}:x2gz call hs u x1ja (j4 (xeo call hs u rec0) 0 1 2 6) (setE 3 (j4 rec0 0 1 2 6) (setE 2 r_17 eNil))=j5 (x5v call hs u rec0) 0 1 2 6 7:=by kernel_rfl
theorem x1jg{rec0:AV->AV->AV->AV->Mem->Nat->O2}:x2gz call hs u xli (j4 rec0 0 1 2 6) (setE 3 (j4 rec0 0 1 2 6) (setE 2 r_17 eNil))=j5 (x5v call hs u rec0) 0 1 2 6 7:=sq2 x1je x1jf
theorem x1jh{rec0:AV->AV->AV->AV->Mem->Nat->O2}{rec1:AV->AV->AV->AV->AV->AV->Mem->Nat->O2}:x2gz call hs u x1jc (j6 rec1 0 1 2 6 7 8) (setE 4 (j5 (x5v call hs u rec0) 0 1 2 6 7) (setE 3 (j4 rec0 0 1 2 6) (setE 2 r_17 eNil)))=j6 (xt8 call hs u rec0 rec1) 0 1 2 6 7 8:=by kernel_rfl
theorem x1ji{rec0:AV->AV->AV->AV->Mem->Nat->O2}:x2gz call hs u xw5 (j5 (x5v call hs u rec0) 0 1 2 6 7) (setE 4 (j5 (x5v call hs u rec0) 0 1 2 6 7) (setE 3 (j4 rec0 0 1 2 6) (setE 2 r_17 eNil)))=j6 (x6z call hs u rec0 NN) 0 1 2 6 7 8:=lp (Ln:=fun n=>j6 (x6z call hs u rec0 n) 0 1 2 6 7 8) fun n=>tr x1jh
theorem x1jj{rec0:AV->AV->AV->AV->Mem->Nat->O2}:x2gz call hs u xw4 (j5 (x5v call hs u rec0) 0 1 2 6 7) (setE 3 (j4 rec0 0 1 2 6) (setE 2 r_17 eNil))=j6 (x6z call hs u rec0 NN) 0 1 2 6 7 8:=bk x1ji
theorem x1jk{rec0:AV->AV->AV->AV->Mem->Nat->O2}:x2gz call hs u xlh (j4 rec0 0 1 2 6) (setE 3 (j4 rec0 0 1 2 6) (setE 2 r_17 eNil))=j6 (x6z call hs u rec0 NN) 0 1 2 6 7 8:=sq2 x1jg x1jj
theorem x1jl{rec0:AV->AV->AV->AV->Mem->Nat->O2}:x2gz call hs u xw3 (j4 rec0 0 1 2 6) (setE 3 (j4 rec0 0 1 2 6) (setE 2 r_17 eNil))=j4 (xkb call hs u rec0) 0 1 2 6:=tr (sqN 1 x1jk)
theorem x1jm{rec0:AV->AV->AV->AV->Mem->Nat->O2}:x2gz call hs u xw2 (j4 rec0 0 1 2 6) (setE 2 r_17 eNil)=j4 (xkb call hs u rec0) 0 1 2 6:=bk x1jl
theorem x1jn{rec0:AV->AV->AV->AV->Mem->Nat->O2}:x2gz call hs u xw1 (j4 rec0 0 1 2 6) (setE 2 r_17 eNil)=j4 (xkc call hs u rec0) 0 1 2 6:=tr (sqN 1 x1jm)
theorem x1jo:x2gz call hs u xw0 r_17 (setE 2 r_17 eNil)=j4 (x70 call hs u NN) 0 1 2 6:=lp (Ln:=fun n=>j4 (x70 call hs u n) 0 1 2 6) fun n=>tr x1jn
theorem x1jp:x2gz call hs u xvz r_17 eNil=j4 (x70 call hs u NN) 0 1 2 6:=bk x1jo
theorem x1jq:x2gz call hs u xvy r_17 eNil=j5 (x5w call hs u) 0 1 2 6 7:=tr (sqN 1 x1jp)
theorem x1jr{rec2:AV->AV->AV->AV->AV->AV->Mem->Nat->O2}:x2gz call hs u x1jd (j6 rec2 0 1 2 6 7 8) (setE 0 (j5 (x5w call hs u) 0 1 2 6 7) eNil)=j6 (xkd call hs u rec2) 0 1 2 6 7 8:=by kernel_rfl
theorem x1js:x2gz call hs u xw6 (j5 (x5w call hs u) 0 1 2 6 7) (setE 0 (j5 (x5w call hs u) 0 1 2 6 7) eNil)=j6 (x5x call hs u NN) 0 1 2 6 7 8:=lp (Ln:=fun n=>j6 (x5x call hs u n) 0 1 2 6 7 8) fun n=>tr x1jr
theorem x1jt:x2gz call hs u xvx (j5 (x5w call hs u) 0 1 2 6 7) eNil=j6 (x5x call hs u NN) 0 1 2 6 7 8:=bk x1js
theorem x1ju:x2gz call hs u xlg r_17 eNil=j6 (x5x call hs u NN) 0 1 2 6 7 8:=sq2 x1jq x1jt
theorem x1h3:x2gz call hs u xvw r_17 eNil=j3 (xke call hs u) 0 1 2:=tr (sqN 2 x1ju)
noncomputable abbrev x2hv:=VX x54 134 r_17
noncomputable def xw7:=x2fa x54
noncomputable def xw8:=nRs 2 xw7
noncomputable def xw9:=nR xw8
noncomputable def xwa:=nR xw9
noncomputable def xwb:=nR xwa
noncomputable def xlj:=nRs 3 xwb
noncomputable def x1jv:=nL xlj
noncomputable def xwc:=nR xlj
noncomputable def xlk:=nR xwc
noncomputable def x1jw:=nL xlk
noncomputable def xll:=nR xlk
noncomputable def x1jx:=nL xll
noncomputable def x1jy:=nR xll
theorem x1jz{rec0:AV->AV->AV->AV->AV->AV->Mem->Nat->O2}:x2hv call hs u x1jy (j6 rec0 0 1 2 3 8 9) (setE 1 (j6 rec0 0 1 2 3 8 9) (setE 0 r_17 eNil))=j8 (xep call hs u rec0) 0 1 2 3 8 9 10 11:=by kernel_rfl
theorem x1k0{rec0:AV->AV->AV->AV->AV->AV->Mem->Nat->O2}:x2hv call hs u x1jx (j8 (xep call hs u rec0) 0 1 2 3 8 9 10 11) (setE 1 (j6 rec0 0 1 2 3 8 9) (setE 0 r_17 eNil))=j9 (x9v call hs u rec0) 0 1 2 3 8 9 10 11 12:=by kernel_rfl
theorem x1k1{rec0:AV->AV->AV->AV->AV->AV->Mem->Nat->O2}:x2hv call hs u xll (j6 rec0 0 1 2 3 8 9) (setE 1 (j6 rec0 0 1 2 3 8 9) (setE 0 r_17 eNil))=j9 (x9v call hs u rec0) 0 1 2 3 8 9 10 11 12:=sq2 x1jz x1k0
theorem x1k2{rec0:AV->AV->AV->AV->AV->AV->Mem->Nat->O2}:x2hv call hs u x1jw (j9 (x9v call hs u rec0) 0 1 2 3 8 9 10 11 12) (setE 1 (j6 rec0 0 1 2 3 8 9) (setE 0 r_17 eNil))=j9 (xkf call hs u rec0) 0 1 2 3 8 9 10 11 12:=by kernel_rfl
theorem x1k3{rec0:AV->AV->AV->AV->AV->AV->Mem->Nat->O2}:x2hv call hs u xlk (j6 rec0 0 1 2 3 8 9) (setE 1 (j6 rec0 0 1 2 3 8 9) (setE 0 r_17 eNil))=j9 (xkf call hs u rec0) 0 1 2 3 8 9 10 11 12:=sq2 x1k1 x1k2
theorem x1k4{rec0:AV->AV->AV->AV->AV->AV->Mem->Nat->O2}:x2hv call hs u xwc (j6 rec0 0 1 2 3 8 9) (setE 1 (j6 rec0 0 1 2 3 8 9) (setE 0 r_17 eNil))=j7 (xeq call hs u rec0) 0 1 2 3 8 9 10:=tr (sqN 1 x1k3)
theorem x1k5{rec0:AV->AV->AV->AV->AV->AV->Mem->Nat->O2}:x2hv call hs u x1jv (j7 (xeq call hs u rec0) 0 1 2 3 8 9 10) (setE 1 (j6 rec0 0 1 2 3 8 9) (setE 0 r_17 eNil))=j7 (xkg call hs u rec0) 0 1 2 3 8 9 10:=by kernel_rfl
theorem x1k6{rec0:AV->AV->AV->AV->AV->AV->Mem->Nat->O2}:x2hv call hs u xlj (j6 rec0 0 1 2 3 8 9) (setE 1 (j6 rec0 0 1 2 3 8 9) (setE 0 r_17 eNil))=j7 (xkg call hs u rec0) 0 1 2 3 8 9 10:=sq2 x1k4 x1k5
theorem x1k7{rec0:AV->AV->AV->AV->AV->AV->Mem->Nat->O2}:x2hv call hs u xwb (j6 rec0 0 1 2 3 8 9) (setE 1 (j6 rec0 0 1 2 3 8 9) (setE 0 r_17 eNil))=j6 (xer call hs u rec0) 0 1 2 3 8 9:=tr (sqN 3 x1k6)
theorem x1k8{rec0:AV->AV->AV->AV->AV->AV->Mem->Nat->O2}:x2hv call hs u xwa (j6 rec0 0 1 2 3 8 9) (setE 0 r_17 eNil)=j6 (xer call hs u rec0) 0 1 2 3 8 9:=bk x1k7
theorem x1k9:x2hv call hs u xw9 r_17 (setE 0 r_17 eNil)=j6 (x71 call hs u NN) 0 1 2 3 8 9:=lp (Ln:=fun n=>j6 (x71 call hs u n) 0 1 2 3 8 9) fun n=>tr x1k8
theorem x1ka:x2hv call hs u xw8 r_17 eNil=j6 (x71 call hs u NN) 0 1 2 3 8 9:=bk x1k9
theorem x1h4:x2hv call hs u xw7 r_17 eNil=j4 (xkh call hs u) 0 1 2 3:=tr (sqN 2 x1ka)
noncomputable abbrev x2v9:=VX x55 8 r_3
noncomputable def x1kb:=x2fa x55
theorem x1h5:x2v9 call hs u x1kb r_3 eNil=j1 (xki call hs u) 0:=by kernel_rfl
noncomputable abbrev x2va:=VX x2k 15 r_1
noncomputable def x1kc:=x2fa x2k
theorem x1dx:x2va call hs u x1kc r_1 eNil=j3 (xt9 call hs u) 0 1 2:=by kernel_rfl
noncomputable abbrev x2vb:=VX xbo 5 r_3
noncomputable def x1kd:=x2fa xbo
theorem x1h6:x2vb call hs u x1kd r_3 eNil=j1 (xta call hs u) 0:=by kernel_rfl
noncomputable abbrev x2vc:=VX xbp 5 r_3
noncomputable def x1ke:=x2fa xbp
theorem x1h7:x2vc call hs u x1ke r_3 eNil=j1 (xtb call hs u) 0:=by kernel_rfl
noncomputable abbrev x2h7:=VX x4n 139 r_20
noncomputable abbrev x2sy:=VX (R:=Mem) x4n 139 fNil
noncomputable def xwd:=x2fa x4n
noncomputable def xwe:=nRs 4 xwd
noncomputable def xwf:=nR xwe
noncomputable def xwg:=nR xwf
noncomputable def xwh:=nR xwg
noncomputable def xlm:=nR xwh
noncomputable def xwi:=nL xlm
noncomputable def xwj:=nR xlm
noncomputable def xwk:=nRs 3 xwj
noncomputable def xf5:=nR xwk
noncomputable def x1kf:=nL xf5
noncomputable def x1kg:=nR xf5
noncomputable def xwl:=nR xwi
noncomputable def xwm:=nR xwl
noncomputable def xwn:=nR xwm
noncomputable def xln:=nRs 2 xwn
noncomputable def x1kh:=nL xln
noncomputable def x1ki:=nR xln
theorem x1kj:x2sy call hs u x1kg (fun s=>some s.m) eNil=j4 (xkj call hs u) 2 5 7 10:=by kernel_rfl
theorem x1kk:x2sy call hs u x1kf (j4 (xkj call hs u) 2 5 7 10) eNil=j4 (xtc call hs u) 2 5 7 87:=by kernel_rfl
theorem x1kl{rec0:AV->AV->AV->AV->Mem->Nat->O2}:x2h7 call hs u xf5 (j4 rec0 2 4 5 6) (setE 4 (j4 rec0 2 4 5 6) (setE 1 (j4 rec0 2 4 5 6) (setE 0 r_20 eNil)))=j6 (xkk call hs u rec0) 2 4 5 6 7 86:=tr (rg (C:=xf5) (c:={f:=x4n,u:=u,nt:=139,hs:=hs}) (f:=(.tmp 86)) (ps:=#[87]) (fun u=>x1kj) (fun u=>x1kk))
theorem x1km{rec0:AV->AV->AV->AV->Mem->Nat->O2}:x2h7 call hs u xwk (j4 rec0 2 4 5 6) (setE 1 (j4 rec0 2 4 5 6) (setE 0 r_20 eNil))=j6 (xkk call hs u rec0) 2 4 5 6 7 86:=bk x1kl
theorem x1kn{rec0:AV->AV->AV->AV->Mem->Nat->O2}:x2h7 call hs u xwj (j4 rec0 2 4 5 6) (setE 1 (j4 rec0 2 4 5 6) (setE 0 r_20 eNil))=j5 (x2b call hs u rec0) 2 4 5 6 7:=tr (sqN 3 x1km)
theorem x1ko{rec0:AV->AV->AV->AV->Mem->Nat->O2}{rec1:AV->AV->AV->AV->AV->AV->AV->AV->Mem->Nat->O2}:x2h7 call hs u x1ki (j8 rec1 2 4 5 6 7 47 48 49) (setE 2 (j5 (x2b call hs u rec0) 2 4 5 6 7) (setE 1 (j4 rec0 2 4 5 6) (setE 0 r_20 eNil)))=j8 (xes call hs u rec0 rec1) 2 4 5 6 7 47 48 49:=by kernel_rfl
theorem x1kp{rec0:AV->AV->AV->AV->Mem->Nat->O2}{rec1:AV->AV->AV->AV->AV->AV->AV->AV->Mem->Nat->O2}:x2h7 call hs u x1kh (j8 (xes call hs u rec0 rec1) 2 4 5 6 7 47 48 49) (setE 2 (j5 (x2b call hs u rec0) 2 4 5 6 7) (setE 1 (j4 rec0 2 4 5 6) (setE 0 r_20 eNil)))=j8 (xkl call hs u rec0 rec1) 2 4 5 6 7 47 48 49:=by kernel_rfl
theorem x1kq{rec0:AV->AV->AV->AV->Mem->Nat->O2}{rec1:AV->AV->AV->AV->AV->AV->AV->AV->Mem->Nat->O2}:x2h7 call hs u xln (j8 rec1 2 4 5 6 7 47 48 49) (setE 2 (j5 (x2b call hs u rec0) 2 4 5 6 7) (setE 1 (j4 rec0 2 4 5 6) (setE 0 r_20 eNil)))=j8 (xkl call hs u rec0 rec1) 2 4 5 6 7 47 48 49:=sq2 x1ko x1kp
theorem x1kr{rec0:AV->AV->AV->AV->Mem->Nat->O2}{rec1:AV->AV->AV->AV->AV->AV->AV->AV->Mem->Nat->O2}:x2h7 call hs u xwn (j8 rec1 2 4 5 6 7 47 48 49) (setE 2 (j5 (x2b call hs u rec0) 2 4 5 6 7) (setE 1 (j4 rec0 2 4 5 6) (setE 0 r_20 eNil)))=j8 (xtd call hs u rec0 rec1) 2 4 5 6 7 47 48 49:=tr (sqN 2 x1kq)
theorem x1ks{rec0:AV->AV->AV->AV->Mem->Nat->O2}:x2h7 call hs u xwm (j5 (x2b call hs u rec0) 2 4 5 6 7) (setE 2 (j5 (x2b call hs u rec0) 2 4 5 6 7) (setE 1 (j4 rec0 2 4 5 6) (setE 0 r_20 eNil)))=j8 (x9x call hs u rec0 NN) 2 4 5 6 7 47 48 49:=lp (Ln:=fun n=>j8 (x9x call hs u rec0 n) 2 4 5 6 7 47 48 49) fun n=>tr x1kr
theorem x1kt{rec0:AV->AV->AV->AV->Mem->Nat->O2}:x2h7 call hs u xwl (j5 (x2b call hs u rec0) 2 4 5 6 7) (setE 1 (j4 rec0 2 4 5 6) (setE 0 r_20 eNil))=j8 (x9x call hs u rec0 NN) 2 4 5 6 7 47 48 49:=bk x1ks
theorem x1ku{rec0:AV->AV->AV->AV->Mem->Nat->O2}:x2h7 call hs u xwi (j5 (x2b call hs u rec0) 2 4 5 6 7) (setE 1 (j4 rec0 2 4 5 6) (setE 0 r_20 eNil))=j5 (xkm call hs u rec0) 2 4 5 6 7:=tr (sqN 1 x1kt)
theorem x1kv{rec0:AV->AV->AV->AV->Mem->Nat->O2}:x2h7 call hs u xlm (j4 rec0 2 4 5 6) (setE 1 (j4 rec0 2 4 5 6) (setE 0 r_20 eNil))=j5 (xkm call hs u rec0) 2 4 5 6 7:=sq2 x1kn x1ku
theorem x1kw{rec0:AV->AV->AV->AV->Mem->Nat->O2}:x2h7 call hs u xwh (j4 rec0 2 4 5 6) (setE 1 (j4 rec0 2 4 5 6) (setE 0 r_20 eNil))=j4 (xkn call hs u rec0) 2 4 5 6:=tr (sqN 1 x1kv)
theorem x1kx{rec0:AV->AV->AV->AV->Mem->Nat->O2}:x2h7 call hs u xwg (j4 rec0 2 4 5 6) (setE 0 r_20 eNil)=j4 (xkn call hs u rec0) 2 4 5 6:=bk x1kw
theorem x1ky:x2h7 call hs u xwf r_20 (setE 0 r_20 eNil)=j4 (x9y call hs u NN) 2 4 5 6:=lp (Ln:=fun n=>j4 (x9y call hs u n) 2 4 5 6) fun n=>tr x1kx
theorem x1kz:x2h7 call hs u xwe r_20 eNil=j4 (x9y call hs u NN) 2 4 5 6:=bk x1ky
theorem x1dz:x2h7 call hs u xwd r_20 eNil=j2 (xte call hs u) 0 1:=tr (sqN 4 x1kz)
noncomputable abbrev x2i4:=VX x7t 48 r_0
noncomputable def xwo:=x2fa x7t
noncomputable def xlo:=nR xwo
noncomputable def x1l0:=nL xlo
noncomputable def xwp:=nR xlo
noncomputable def xlp:=nR xwp
noncomputable def x1l1:=nL xlp
noncomputable def xwq:=nR xlp
noncomputable def xlq:=nRs 2 xwq
noncomputable def xwr:=nL xlq
noncomputable def x1l2:=nR xlq
noncomputable def xws:=nR xwr
noncomputable def x1l3:=nR xws
theorem x1l4:x2i4 call hs u x1l2 r_0 eNil=j1 (x72 call hs u) 7:=by kernel_rfl
theorem x1l5{rec0:AV->AV->Mem->Nat->O2}:x2i4 call hs u x1l3 (j2 rec0 7 8) (setE 0 (j1 (x72 call hs u) 7) eNil)=j2 (xtf call hs u rec0) 7 8:=by kernel_rfl
theorem x1l6:x2i4 call hs u xws (j1 (x72 call hs u) 7) (setE 0 (j1 (x72 call hs u) 7) eNil)=j2 (x73 call hs u NN) 7 8:=lp (Ln:=fun n=>j2 (x73 call hs u n) 7 8) fun n=>tr x1l5
theorem x1l7:x2i4 call hs u xwr (j1 (x72 call hs u) 7) eNil=j2 (x73 call hs u NN) 7 8:=bk x1l6
theorem x1l8:x2i4 call hs u xlq r_0 eNil=j2 (x73 call hs u NN) 7 8:=sq2 x1l4 x1l7
theorem x1l9:x2i4 call hs u xwq r_0 eNil=j2 (xko call hs u) 0 6:=tr (sqN 2 x1l8)
theorem x1la:x2i4 call hs u x1l1 (j2 (xko call hs u) 0 6) eNil=j3 (xkp call hs u) 0 5 6:=by kernel_rfl
theorem x1lb:x2i4 call hs u xlp r_0 eNil=j3 (xkp call hs u) 0 5 6:=sq2 x1l9 x1la
theorem x1lc:x2i4 call hs u xwp r_0 eNil=j2 (xkq call hs u) 0 1:=tr (sqN 1 x1lb)
theorem x1ld:x2i4 call hs u x1l0 (j2 (xkq call hs u) 0 1) eNil=j2 (xkr call hs u) 0 1:=by kernel_rfl
theorem x1le:x2i4 call hs u xlo r_0 eNil=j2 (xkr call hs u) 0 1:=sq2 x1lc x1ld
theorem x1h8:x2i4 call hs u xwo r_0 eNil=j2 (xtg call hs u) 0 1:=tr (sqN 1 x1le)
noncomputable abbrev x2vd:=VX xam 18 r_17
noncomputable def x1lf:=x2fa xam
theorem x1dy:x2vd call hs u x1lf r_17 eNil=j4 (xth call hs u) 0 1 2 3:=by kernel_rfl
noncomputable abbrev x2o1:=VX xao 20 r_17
noncomputable def xwt:=x2fa xao
noncomputable def xwu:=nR xwt
noncomputable def xwv:=nR xwu
noncomputable def x1lg:=nR xwv
theorem x1lh{rec0:AV->AV->AV->AV->Mem->Nat->O2}:x2o1 call hs u x1lg (j4 rec0 1 10 11 12) (setE 0 r_17 eNil)=j4 (xti call hs u rec0) 1 10 11 12:=by kernel_rfl
theorem x1li:x2o1 call hs u xwv r_17 (setE 0 r_17 eNil)=j4 (x9z call hs u NN) 1 10 11 12:=lp (Ln:=fun n=>j4 (x9z call hs u n) 1 10 11 12) fun n=>tr x1lh
theorem x1lj:x2o1 call hs u xwu r_17 eNil=j4 (x9z call hs u NN) 1 10 11 12:=bk x1li
theorem x1e1:x2o1 call hs u xwt r_17 eNil=j3 (xtj call hs u) 0 1 2:=tr (sqN 1 x1lj)
noncomputable abbrev x2ig:=VX x56 53 r_17
noncomputable def xww:=x2fa x56
noncomputable def xwx:=nR xww
noncomputable def xwy:=nR xwx
noncomputable def xwz:=nR xwy
noncomputable def xlr:=nR xwz
noncomputable def xx0:=nL xlr
noncomputable def x1lk:=nR xlr
noncomputable def xx1:=nR xx0
noncomputable def xx2:=nR xx1
noncomputable def xx3:=nR xx2
noncomputable def x1ll:=nR xx3
theorem x1lm{rec0:AV->AV->AV->AV->AV->Mem->Nat->O2}:x2ig call hs u x1lk (j5 rec0 0 1 2 3 8) (setE 0 r_17 eNil)=j5 (x18 call hs u rec0) 0 1 2 3 8:=by kernel_rfl
theorem x1ln{rec0:AV->AV->AV->AV->AV->Mem->Nat->O2}{rec1:AV->AV->AV->AV->AV->AV->Mem->Nat->O2}:x2ig call hs u x1ll (j6 rec1 0 1 2 3 8 9) (setE 2 (j5 (x18 call hs u rec0) 0 1 2 3 8) (setE 1 (j5 (x18 call hs u rec0) 0 1 2 3 8) (setE 0 r_17 eNil)))=j6 (xet call hs u rec0 rec1) 0 1 2 3 8 9:=by kernel_rfl
theorem x1lo{rec0:AV->AV->AV->AV->AV->Mem->Nat->O2}:x2ig call hs u xx3 (j5 (x18 call hs u rec0) 0 1 2 3 8) (setE 2 (j5 (x18 call hs u rec0) 0 1 2 3 8) (setE 1 (j5 (x18 call hs u rec0) 0 1 2 3 8) (setE 0 r_17 eNil)))=j6 (x4h call hs u rec0 NN) 0 1 2 3 8 9:=lp (Ln:=fun n=>j6 (x4h call hs u rec0 n) 0 1 2 3 8 9) fun n=>tr x1ln
theorem x1lp{rec0:AV->AV->AV->AV->AV->Mem->Nat->O2}:x2ig call hs u xx2 (j5 (x18 call hs u rec0) 0 1 2 3 8) (setE 1 (j5 (x18 call hs u rec0) 0 1 2 3 8) (setE 0 r_17 eNil))=j6 (x4h call hs u rec0 NN) 0 1 2 3 8 9:=bk x1lo
theorem x1lq{rec0:AV->AV->AV->AV->AV->Mem->Nat->O2}:x2ig call hs u xx1 (j5 (x18 call hs u rec0) 0 1 2 3 8) (setE 1 (j5 (x18 call hs u rec0) 0 1 2 3 8) (setE 0 r_17 eNil))=j5 (xa0 call hs u rec0) 0 1 2 3 8:=tr (sqN 1 x1lp)
theorem x1lr{rec0:AV->AV->AV->AV->AV->Mem->Nat->O2}:x2ig call hs u xx0 (j5 (x18 call hs u rec0) 0 1 2 3 8) (setE 0 r_17 eNil)=j5 (xa0 call hs u rec0) 0 1 2 3 8:=bk x1lq
theorem x1ls{rec0:AV->AV->AV->AV->AV->Mem->Nat->O2}:x2ig call hs u xlr (j5 rec0 0 1 2 3 8) (setE 0 r_17 eNil)=j5 (xa0 call hs u rec0) 0 1 2 3 8:=sq2 x1lm x1lr
theorem x1lt{rec0:AV->AV->AV->AV->AV->Mem->Nat->O2}:x2ig call hs u xwz (j5 rec0 0 1 2 3 8) (setE 0 r_17 eNil)=j5 (xa1 call hs u rec0) 0 1 2 3 8:=tr (sqN 1 x1ls)
theorem x1lu:x2ig call hs u xwy r_17 (setE 0 r_17 eNil)=j5 (x2c call hs u NN) 0 1 2 3 8:=lp (Ln:=fun n=>j5 (x2c call hs u n) 0 1 2 3 8) fun n=>tr x1lt
theorem x1lv:x2ig call hs u xwx r_17 eNil=j5 (x2c call hs u NN) 0 1 2 3 8:=bk x1lu
theorem x1h9:x2ig call hs u xww r_17 eNil=j4 (xks call hs u) 0 1 2 3:=tr (sqN 1 x1lv)
noncomputable abbrev x2fo:=VX x57 220 r_17
noncomputable def xls:=x2fa x57
noncomputable def xx4:=nL xls
noncomputable def xlt:=nR xls
noncomputable def xx5:=nL xlt
noncomputable def xx6:=nR xlt
noncomputable def xlu:=nRs 3 xx6
noncomputable def x1lw:=nL xlu
noncomputable def xx7:=nR xlu
noncomputable def xlv:=nR xx7
noncomputable def xx8:=nL xlv
noncomputable def xx9:=nR xlv
noncomputable def xlw:=nR xx9
noncomputable def x1lx:=nL xlw
noncomputable def xlx:=nR xlw
noncomputable def x1ly:=nL xlx
noncomputable def x1lz:=nR xlx
noncomputable def xxa:=nR xx8
noncomputable def x1m0:=nR xxa
noncomputable def xly:=nR xx5
noncomputable def xxb:=nL xly
noncomputable def x1m1:=nR xly
noncomputable def xlz:=nRs 2 xxb
noncomputable def xxc:=nL xlz
noncomputable def xm0:=nR xlz
noncomputable def xxd:=nL xm0
noncomputable def x1m2:=nR xm0
noncomputable def xxe:=nR xxd
noncomputable def xxf:=nR xxe
noncomputable def x1m3:=nR xxf
noncomputable def xxg:=nR xxc
noncomputable def x1m4:=nR xxg
noncomputable def xm1:=nR xx4
noncomputable def xxh:=nL xm1
noncomputable def x1m5:=nR xm1
noncomputable def xm2:=nRs 2 xxh
noncomputable def xxi:=nL xm2
noncomputable def xm3:=nR xm2
noncomputable def xxj:=nL xm3
noncomputable def x1m6:=nR xm3
noncomputable def xxk:=nR xxj
noncomputable def xxl:=nR xxk
noncomputable def x1m7:=nR xxl
noncomputable def xxm:=nR xxi
noncomputable def x1m8:=nR xxm
theorem x1m9:x2fo call hs u x1lz r_17 eNil=j5 (xeu call hs u) 0 3 4 18 24:=by kernel_rfl
theorem x1ma:x2fo call hs u x1ly (j5 (xeu call hs u) 0 3 4 18 24) eNil=j7 (xa2 call hs u) 0 1 3 4 18 20 24:=by kernel_rfl
theorem x1mb:x2fo call hs u xlx r_17 eNil=j7 (xa2 call hs u) 0 1 3 4 18 20 24:=sq2 x1m9 x1ma
theorem x1mc:x2fo call hs u x1lx (j7 (xa2 call hs u) 0 1 3 4 18 20 24) eNil=j8 (xkt call hs u) 0 1 2 3 4 18 20 24:=by kernel_rfl
theorem x1md:x2fo call hs u xlw r_17 eNil=j8 (xkt call hs u) 0 1 2 3 4 18 20 24:=sq2 x1mb x1mc
theorem x1me:x2fo call hs u xx9 r_17 eNil=j8 (x74 call hs u) 0 1 2 3 4 18 19 20:=tr (sqN 1 x1md)
theorem x1mf{rec0:AV->AV->AV->AV->AV->AV->AV->AV->AV->AV->Mem->Nat->O2}:x2fo call hs u x1m0 (j10 rec0 0 1 2 3 4 18 19 20 21 22) (setE 8 (j8 (x74 call hs u) 0 1 2 3 4 18 19 20) eNil)=j10 (xtk call hs u rec0) 0 1 2 3 4 18 19 20 21 22:=by kernel_rfl
theorem x1mg:x2fo call hs u xxa (j8 (x74 call hs u) 0 1 2 3 4 18 19 20) (setE 8 (j8 (x74 call hs u) 0 1 2 3 4 18 19 20) eNil)=j10 (x75 call hs u NN) 0 1 2 3 4 18 19 20 21 22:=lp (Ln:=fun n=>j10 (x75 call hs u n) 0 1 2 3 4 18 19 20 21 22) fun n=>tr x1mf
theorem x1mh:x2fo call hs u xx8 (j8 (x74 call hs u) 0 1 2 3 4 18 19 20) eNil=j10 (x75 call hs u NN) 0 1 2 3 4 18 19 20 21 22:=bk x1mg
theorem x1mi:x2fo call hs u xlv r_17 eNil=j10 (x75 call hs u NN) 0 1 2 3 4 18 19 20 21 22:=sq2 x1me x1mh
theorem x1mj:x2fo call hs u xx7 r_17 eNil=j9 (xev call hs u) 0 1 2 3 4 18 19 20 21:=tr (sqN 1 x1mi)
theorem x1mk:x2fo call hs u x1lw (j9 (xev call hs u) 0 1 2 3 4 18 19 20 21) eNil=j7 (xku call hs u) 0 1 2 3 4 18 19:=by kernel_rfl
theorem x1ml:x2fo call hs u xlu r_17 eNil=j7 (xku call hs u) 0 1 2 3 4 18 19:=sq2 x1mj x1mk
theorem x1mm:x2fo call hs u xx6 r_17 eNil=j5 (x33 call hs u) 0 1 2 3 4:=tr (sqN 3 x1ml)
theorem x1mn:x2fo call hs u x1m2 (j5 (x33 call hs u) 0 1 2 3 4) eNil=j0 (x5y call hs u):=by kernel_rfl
theorem x1mo{rec1:AV->AV->AV->Mem->Nat->O2}:x2fo call hs u x1m3 (j3 rec1 0 14 17) (setE 6 (j0 (x5y call hs u)) eNil)=j3 (xtl call hs u rec1) 0 14 17:=by kernel_rfl
theorem x1mp:x2fo call hs u xxf (j0 (x5y call hs u)) (setE 6 (j0 (x5y call hs u)) eNil)=j3 (xa3 call hs u NN) 0 14 17:=lp (Ln:=fun n=>j3 (xa3 call hs u n) 0 14 17) fun n=>tr x1mo
theorem x1mq:x2fo call hs u xxe (j0 (x5y call hs u)) eNil=j3 (xa3 call hs u NN) 0 14 17:=bk x1mp
theorem x1mr:x2fo call hs u xxd (j0 (x5y call hs u)) eNil=j3 (x5z call hs u) 0 2 14:=tr (sqN 1 x1mq)
theorem x1ms:x2fo call hs u xm0 (j5 (x33 call hs u) 0 1 2 3 4) eNil=j3 (x5z call hs u) 0 2 14:=sq2 x1mn x1mr
theorem x1mt{rec2:AV->AV->AV->AV->AV->Mem->Nat->O2}:x2fo call hs u x1m4 (j5 rec2 0 2 4 14 15) (setE 4 (j3 (x5z call hs u) 0 2 14) eNil)=j5 (xtm call hs u rec2) 0 2 4 14 15:=by kernel_rfl
theorem x1mu:x2fo call hs u xxg (j3 (x5z call hs u) 0 2 14) (setE 4 (j3 (x5z call hs u) 0 2 14) eNil)=j5 (x76 call hs u NN) 0 2 4 14 15:=lp (Ln:=fun n=>j5 (x76 call hs u n) 0 2 4 14 15) fun n=>tr x1mt
theorem x1mv:x2fo call hs u xxc (j3 (x5z call hs u) 0 2 14) eNil=j5 (x76 call hs u NN) 0 2 4 14 15:=bk x1mu
theorem x1mw:x2fo call hs u xlz (j5 (x33 call hs u) 0 1 2 3 4) eNil=j5 (x76 call hs u NN) 0 2 4 14 15:=sq2 x1ms x1mv
theorem x1mx:x2fo call hs u xxb (j5 (x33 call hs u) 0 1 2 3 4) eNil=j4 (xtn call hs u) 0 1 2 4:=tr (sqN 2 x1mw)
theorem x1my:x2fo call hs u x1m1 (j5 (x33 call hs u) 0 1 2 3 4) eNil=j5 (xto call hs u) 0 1 2 3 4:=by kernel_rfl
theorem x1mz:x2fo call hs u xly (j5 (x33 call hs u) 0 1 2 3 4) eNil=j6 (xtp call hs u) 0 1 2 3 4 80:=tr (cd x1mx x1my)
theorem x1n0:x2fo call hs u xx5 (j5 (x33 call hs u) 0 1 2 3 4) eNil=j5 (x2d call hs u) 0 1 2 3 4:=tr (sqN 1 x1mz)
theorem x1n1:x2fo call hs u xlt r_17 eNil=j5 (x2d call hs u) 0 1 2 3 4:=sq2 x1mm x1n0
theorem x1n2:x2fo call hs u x1m6 (j5 (x2d call hs u) 0 1 2 3 4) eNil=j0 (x60 call hs u):=by kernel_rfl
theorem x1n3{rec3:AV->AV->AV->Mem->Nat->O2}:x2fo call hs u x1m7 (j3 rec3 0 10 13) (setE 2 (j0 (x60 call hs u)) eNil)=j3 (xtq call hs u rec3) 0 10 13:=by kernel_rfl
theorem x1n4:x2fo call hs u xxl (j0 (x60 call hs u)) (setE 2 (j0 (x60 call hs u)) eNil)=j3 (xa4 call hs u NN) 0 10 13:=lp (Ln:=fun n=>j3 (xa4 call hs u n) 0 10 13) fun n=>tr x1n3
theorem x1n5:x2fo call hs u xxk (j0 (x60 call hs u)) eNil=j3 (xa4 call hs u NN) 0 10 13:=bk x1n4
theorem x1n6:x2fo call hs u xxj (j0 (x60 call hs u)) eNil=j3 (x61 call hs u) 0 1 10:=tr (sqN 1 x1n5)
theorem x1n7:x2fo call hs u xm3 (j5 (x2d call hs u) 0 1 2 3 4) eNil=j3 (x61 call hs u) 0 1 10:=sq2 x1n2 x1n6
theorem x1n8{rec4:AV->AV->AV->AV->AV->Mem->Nat->O2}:x2fo call hs u x1m8 (j5 rec4 0 1 4 10 11) (setE 0 (j3 (x61 call hs u) 0 1 10) eNil)=j5 (xtr call hs u rec4) 0 1 4 10 11:=by kernel_rfl
theorem x1n9:x2fo call hs u xxm (j3 (x61 call hs u) 0 1 10) (setE 0 (j3 (x61 call hs u) 0 1 10) eNil)=j5 (x77 call hs u NN) 0 1 4 10 11:=lp (Ln:=fun n=>j5 (x77 call hs u n) 0 1 4 10 11) fun n=>tr x1n8
theorem x1na:x2fo call hs u xxi (j3 (x61 call hs u) 0 1 10) eNil=j5 (x77 call hs u NN) 0 1 4 10 11:=bk x1n9
theorem x1nb:x2fo call hs u xm2 (j5 (x2d call hs u) 0 1 2 3 4) eNil=j5 (x77 call hs u NN) 0 1 4 10 11:=sq2 x1n7 x1na
theorem x1nc:x2fo call hs u xxh (j5 (x2d call hs u) 0 1 2 3 4) eNil=j5 (xts call hs u) 0 1 2 3 4:=tr (sqN 2 x1nb)
theorem x1nd:x2fo call hs u x1m5 (j5 (x2d call hs u) 0 1 2 3 4) eNil=j5 (xtt call hs u) 0 1 2 3 4:=by kernel_rfl
theorem x1ne:x2fo call hs u xm1 (j5 (x2d call hs u) 0 1 2 3 4) eNil=j6 (xtu call hs u) 0 1 2 3 4 28:=tr (cd x1nc x1nd)
theorem x1nf:x2fo call hs u xx4 (j5 (x2d call hs u) 0 1 2 3 4) eNil=j5 (xkv call hs u) 0 1 2 3 4:=tr (sqN 1 x1ne)
theorem x1ha:x2fo call hs u xls r_17 eNil=j5 (xkv call hs u) 0 1 2 3 4:=sq2 x1n1 x1nf
noncomputable abbrev x2ih:=VX x6k 49 r_17
noncomputable def xxn:=x2fa x6k
noncomputable def xxo:=nR xxn
noncomputable def xxp:=nR xxo
noncomputable def xxq:=nR xxp
noncomputable def xm4:=nR xxq
noncomputable def xxr:=nL xm4
noncomputable def x1ng:=nR xm4
noncomputable def xxs:=nR xxr
noncomputable def xxt:=nR xxs
noncomputable def xxu:=nR xxt
noncomputable def x1nh:=nR xxu
theorem x1ni{rec0:AV->AV->AV->AV->Mem->Nat->O2}:x2ih call hs u x1ng (j4 rec0 0 1 2 6) (setE 0 r_17 eNil)=j4 (x19 call hs u rec0) 0 1 2 6:=by kernel_rfl
theorem x1nj{rec0:AV->AV->AV->AV->Mem->Nat->O2}{rec1:AV->AV->AV->AV->AV->Mem->Nat->O2}:x2ih call hs u x1nh (j5 rec1 0 1 2 6 7) (setE 2 (j4 (x19 call hs u rec0) 0 1 2 6) (setE 1 (j4 (x19 call hs u rec0) 0 1 2 6) (setE 0 r_17 eNil)))=j5 (xew call hs u rec0 rec1) 0 1 2 6 7:=by kernel_rfl
theorem x1nk{rec0:AV->AV->AV->AV->Mem->Nat->O2}:x2ih call hs u xxu (j4 (x19 call hs u rec0) 0 1 2 6) (setE 2 (j4 (x19 call hs u rec0) 0 1 2 6) (setE 1 (j4 (x19 call hs u rec0) 0 1 2 6) (setE 0 r_17 eNil)))=j5 (x4i call hs u rec0 NN) 0 1 2 6 7:=lp (Ln:=fun n=>j5 (x4i call hs u rec0 n) 0 1 2 6 7) fun n=>tr x1nj
theorem x1nl{rec0:AV->AV->AV->AV->Mem->Nat->O2}:x2ih call hs u xxt (j4 (x19 call hs u rec0) 0 1 2 6) (setE 1 (j4 (x19 call hs u rec0) 0 1 2 6) (setE 0 r_17 eNil))=j5 (x4i call hs u rec0 NN) 0 1 2 6 7:=bk x1nk
theorem x1nm{rec0:AV->AV->AV->AV->Mem->Nat->O2}:x2ih call hs u xxs (j4 (x19 call hs u rec0) 0 1 2 6) (setE 1 (j4 (x19 call hs u rec0) 0 1 2 6) (setE 0 r_17 eNil))=j4 (xa5 call hs u rec0) 0 1 2 6:=tr (sqN 1 x1nl)
theorem x1nn{rec0:AV->AV->AV->AV->Mem->Nat->O2}:x2ih call hs u xxr (j4 (x19 call hs u rec0) 0 1 2 6) (setE 0 r_17 eNil)=j4 (xa5 call hs u rec0) 0 1 2 6:=bk x1nm
theorem x1no{rec0:AV->AV->AV->AV->Mem->Nat->O2}:x2ih call hs u xm4 (j4 rec0 0 1 2 6) (setE 0 r_17 eNil)=j4 (xa5 call hs u rec0) 0 1 2 6:=sq2 x1ni x1nn
theorem x1np{rec0:AV->AV->AV->AV->Mem->Nat->O2}:x2ih call hs u xxq (j4 rec0 0 1 2 6) (setE 0 r_17 eNil)=j4 (xa6 call hs u rec0) 0 1 2 6:=tr (sqN 1 x1no)
theorem x1nq:x2ih call hs u xxp r_17 (setE 0 r_17 eNil)=j4 (x2e call hs u NN) 0 1 2 6:=lp (Ln:=fun n=>j4 (x2e call hs u n) 0 1 2 6) fun n=>tr x1np
theorem x1nr:x2ih call hs u xxo r_17 eNil=j4 (x2e call hs u NN) 0 1 2 6:=bk x1nq
theorem x1hb:x2ih call hs u xxn r_17 eNil=j3 (xkw call hs u) 0 1 2:=tr (sqN 1 x1nr)
noncomputable abbrev x2iy:=VX xbq 56 r_17
noncomputable def xxv:=x2fa xbq
noncomputable def xm5:=nRs 3 xxv
noncomputable def xxw:=nL xm5
noncomputable def xxx:=nR xm5
noncomputable def xxy:=nR xxx
noncomputable def xxz:=nR xxy
noncomputable def x1ns:=nR xxz
noncomputable def xy0:=nR xxw
noncomputable def xy1:=nR xy0
noncomputable def x1nt:=nR xy1
theorem x1nu{rec0:AV->AV->AV->AV->Mem->Nat->O2}:x2iy call hs u x1ns (j4 rec0 0 6 7 10) (setE 2 r_17 eNil)=j4 (xtv call hs u rec0) 0 6 7 10:=by kernel_rfl
theorem x1nv:x2iy call hs u xxz r_17 (setE 2 r_17 eNil)=j4 (xa7 call hs u NN) 0 6 7 10:=lp (Ln:=fun n=>j4 (xa7 call hs u n) 0 6 7 10) fun n=>tr x1nu
theorem x1nw:x2iy call hs u xxy r_17 eNil=j4 (xa7 call hs u NN) 0 6 7 10:=bk x1nv
theorem x1nx:x2iy call hs u xxx r_17 eNil=j4 (x62 call hs u) 0 6 7 8:=tr (sqN 1 x1nw)
theorem x1ny{rec1:AV->AV->AV->AV->AV->Mem->Nat->O2}:x2iy call hs u x1nt (j5 rec1 0 6 7 8 9) (setE 0 (j4 (x62 call hs u) 0 6 7 8) eNil)=j5 (xtw call hs u rec1) 0 6 7 8 9:=by kernel_rfl
theorem x1nz:x2iy call hs u xy1 (j4 (x62 call hs u) 0 6 7 8) (setE 0 (j4 (x62 call hs u) 0 6 7 8) eNil)=j5 (xa8 call hs u NN) 0 6 7 8 9:=lp (Ln:=fun n=>j5 (xa8 call hs u n) 0 6 7 8 9) fun n=>tr x1ny
theorem x1o0:x2iy call hs u xy0 (j4 (x62 call hs u) 0 6 7 8) eNil=j5 (xa8 call hs u NN) 0 6 7 8 9:=bk x1nz
theorem x1o1:x2iy call hs u xxw (j4 (x62 call hs u) 0 6 7 8) eNil=j4 (xkx call hs u) 0 6 7 8:=tr (sqN 1 x1o0)
theorem x1o2:x2iy call hs u xm5 r_17 eNil=j4 (xkx call hs u) 0 6 7 8:=sq2 x1nx x1o1
theorem x1hc:x2iy call hs u xxv r_17 eNil=j3 (xtx call hs u) 0 1 2:=tr (sqN 3 x1o2)
noncomputable abbrev x2hm:=VX xbr 65 r_17
noncomputable def xy2:=x2fa xbr
noncomputable def xm6:=nRs 2 xy2
noncomputable def xy3:=nL xm6
noncomputable def x1o3:=nR xm6
noncomputable def xy4:=nRs 3 xy3
noncomputable def xy5:=nR xy4
noncomputable def xy6:=nR xy5
noncomputable def xm7:=nR xy6
noncomputable def xy7:=nL xm7
noncomputable def x1o4:=nR xm7
noncomputable def xy8:=nR xy7
noncomputable def xm8:=nR xy8
noncomputable def x1o5:=nL xm8
noncomputable def x1o6:=nR xm8
theorem x1o7{rec0:AV->AV->AV->AV->AV->AV->Mem->Nat->O2}:x2hm call hs u x1o4 (j6 rec0 0 1 6 7 8 9) (setE 0 r_17 eNil)=j6 (x2f call hs u rec0) 0 1 6 7 8 9:=by kernel_rfl
theorem x1o8{rec0:AV->AV->AV->AV->AV->AV->Mem->Nat->O2}:x2hm call hs u x1o6 (j6 (x2f call hs u rec0) 0 1 6 7 8 9) (setE 1 (j6 (x2f call hs u rec0) 0 1 6 7 8 9) (setE 0 r_17 eNil))=j7 (xex call hs u rec0) 0 1 6 7 8 9 10:=by kernel_rfl
theorem x1o9{rec0:AV->AV->AV->AV->AV->AV->Mem->Nat->O2}:x2hm call hs u x1o5 (j7 (xex call hs u rec0) 0 1 6 7 8 9 10) (setE 1 (j6 (x2f call hs u rec0) 0 1 6 7 8 9) (setE 0 r_17 eNil))=j7 (xky call hs u rec0) 0 1 6 7 8 9 10:=by kernel_rfl
theorem x1oa{rec0:AV->AV->AV->AV->AV->AV->Mem->Nat->O2}:x2hm call hs u xm8 (j6 (x2f call hs u rec0) 0 1 6 7 8 9) (setE 1 (j6 (x2f call hs u rec0) 0 1 6 7 8 9) (setE 0 r_17 eNil))=j7 (xky call hs u rec0) 0 1 6 7 8 9 10:=sq2 x1o8 x1o9
theorem x1ob{rec0:AV->AV->AV->AV->AV->AV->Mem->Nat->O2}:x2hm call hs u xy8 (j6 (x2f call hs u rec0) 0 1 6 7 8 9) (setE 1 (j6 (x2f call hs u rec0) 0 1 6 7 8 9) (setE 0 r_17 eNil))=j6 (xey call hs u rec0) 0 1 6 7 8 9:=tr (sqN 1 x1oa)
theorem x1oc{rec0:AV->AV->AV->AV->AV->AV->Mem->Nat->O2}:x2hm call hs u xy7 (j6 (x2f call hs u rec0) 0 1 6 7 8 9) (setE 0 r_17 eNil)=j6 (xey call hs u rec0) 0 1 6 7 8 9:=bk x1ob
theorem x1od{rec0:AV->AV->AV->AV->AV->AV->Mem->Nat->O2}:x2hm call hs u xm7 (j6 rec0 0 1 6 7 8 9) (setE 0 r_17 eNil)=j6 (xey call hs u rec0) 0 1 6 7 8 9:=sq2 x1o7 x1oc
theorem x1oe{rec0:AV->AV->AV->AV->AV->AV->Mem->Nat->O2}:x2hm call hs u xy6 (j6 rec0 0 1 6 7 8 9) (setE 0 r_17 eNil)=j6 (xty call hs u rec0) 0 1 6 7 8 9:=tr (sqN 1 x1od)
theorem x1of:x2hm call hs u xy5 r_17 (setE 0 r_17 eNil)=j6 (xa9 call hs u NN) 0 1 6 7 8 9:=lp (Ln:=fun n=>j6 (xa9 call hs u n) 0 1 6 7 8 9) fun n=>tr x1oe
theorem x1og:x2hm call hs u xy4 r_17 eNil=j6 (xa9 call hs u NN) 0 1 6 7 8 9:=bk x1of
theorem x1oh:x2hm call hs u xy3 r_17 eNil=j3 (xtz call hs u) 0 1 6:=tr (sqN 3 x1og)
theorem x1oi:x2hm call hs u x1o3 r_17 eNil=j0 (xu0 call hs u):=by kernel_rfl
theorem x1oj:x2hm call hs u xm6 r_17 eNil=j4 (xu1 call hs u) 0 1 6 15:=tr (cd x1oh x1oi)
theorem x1hd:x2hm call hs u xy2 r_17 eNil=j3 (xu2 call hs u) 0 1 2:=tr (sqN 2 x1oj)
noncomputable abbrev x2jl:=VX xbs 57 r_7
noncomputable def xy9:=x2fa xbs
noncomputable def xm9:=nRs 6 xy9
noncomputable def xya:=nL xm9
noncomputable def x1ok:=nR xm9
noncomputable def xma:=nR xya
noncomputable def xmb:=nL xma
noncomputable def x1ol:=nR xma
noncomputable def x1om:=nL xmb
noncomputable def x1on:=nR xmb
theorem x1oo:x2jl call hs u x1ok r_7 eNil=j2 (x4k call hs u) 9 11:=by kernel_rfl
theorem x1op:x2jl call hs u x1on (j2 (x4k call hs u) 9 11) eNil=j5 (xez call hs u) 0 9 10 11 12:=by kernel_rfl
theorem x1oq:x2jl call hs u x1om (j5 (xez call hs u) 0 9 10 11 12) eNil=j6 (xkz call hs u) 0 8 9 10 11 12:=by kernel_rfl
theorem x1or:x2jl call hs u xmb (j2 (x4k call hs u) 9 11) eNil=j6 (xkz call hs u) 0 8 9 10 11 12:=sq2 x1op x1oq
theorem x1os:x2jl call hs u x1ol (j2 (x4k call hs u) 9 11) eNil=j2 (xu3 call hs u) 9 11:=by kernel_rfl
theorem x1ot:x2jl call hs u xma (j2 (x4k call hs u) 9 11) eNil=j7 (xu4 call hs u) 0 8 9 10 11 12 32:=tr (cd x1or x1os)
theorem x1ou:x2jl call hs u xya (j2 (x4k call hs u) 9 11) eNil=j6 (xl0 call hs u) 0 8 9 10 11 12:=tr (sqN 1 x1ot)
theorem x1ov:x2jl call hs u xm9 r_7 eNil=j6 (xl0 call hs u) 0 8 9 10 11 12:=sq2 x1oo x1ou
theorem x1he:x2jl call hs u xy9 r_7 eNil=j3 (xu5 call hs u) 0 1 2:=tr (sqN 6 x1ov)
noncomputable abbrev x2o2:=VX xbt 32 r_17
noncomputable def xyb:=x2fa xbt
noncomputable def xyc:=nRs 2 xyb
noncomputable def xyd:=nR xyc
noncomputable def x1ow:=nR xyd
theorem x1ox{rec0:AV->AV->AV->Mem->Nat->O2}:x2o2 call hs u x1ow (j3 rec0 0 6 7) (setE 0 r_17 eNil)=j3 (xu6 call hs u rec0) 0 6 7:=by kernel_rfl
theorem x1oy:x2o2 call hs u xyd r_17 (setE 0 r_17 eNil)=j3 (xaa call hs u NN) 0 6 7:=lp (Ln:=fun n=>j3 (xaa call hs u n) 0 6 7) fun n=>tr x1ox
theorem x1oz:x2o2 call hs u xyc r_17 eNil=j3 (xaa call hs u NN) 0 6 7:=bk x1oy
theorem x1hf:x2o2 call hs u xyb r_17 eNil=j3 (xu7 call hs u) 0 1 2:=tr (sqN 2 x1oz)
noncomputable abbrev x2fz:=VX xbu 133 r_1
noncomputable def xye:=x2fa xbu
noncomputable def xmc:=nRs 2 xye
noncomputable def xyf:=nL xmc
noncomputable def x1p0:=nR xmc
noncomputable def xyg:=nR xyf
noncomputable def xyh:=nR xyg
noncomputable def xyi:=nR xyh
noncomputable def xmd:=nR xyi
noncomputable def xyj:=nL xmd
noncomputable def x1p1:=nR xmd
noncomputable def xme:=nR xyj
noncomputable def xyk:=nL xme
noncomputable def xyl:=nR xme
noncomputable def xmf:=nRs 3 xyl
noncomputable def xym:=nL xmf
noncomputable def xyn:=nR xmf
noncomputable def xmg:=nR xyn
noncomputable def xyo:=nL xmg
noncomputable def x1p2:=nR xmg
noncomputable def xyp:=nR xyo
noncomputable def xyq:=nR xyp
noncomputable def x1p3:=nR xyq
noncomputable def xmh:=nR xym
noncomputable def xyr:=nL xmh
noncomputable def x1p4:=nR xmh
noncomputable def xys:=nR xyr
noncomputable def xyt:=nR xys
noncomputable def x1p5:=nR xyt
noncomputable def xyu:=nR xyk
noncomputable def x1p6:=nR xyu
theorem x1p7:x2fz call hs u x1p0 r_1 eNil=j0 (x7 call hs u):=by kernel_rfl
theorem x1p8{rec0:AV->AV->AV->AV->AV->Mem->Nat->O2}:x2fz call hs u x1p1 (j5 rec0 0 1 2 7 8) (setE 0 (j0 (x7 call hs u)) eNil)=j5 (x5 call hs u rec0) 0 1 2 7 8:=by kernel_rfl
theorem x1p9{rec0:AV->AV->AV->AV->AV->Mem->Nat->O2}{rec1:AV->AV->AV->AV->AV->AV->Mem->Nat->O2}:x2fz call hs u x1p3 (j6 rec1 0 1 2 7 8 10) (setE 6 (j5 (x5 call hs u rec0) 0 1 2 7 8) (setE 1 (j5 (x5 call hs u rec0) 0 1 2 7 8) (setE 0 (j0 (x7 call hs u)) eNil)))=j6 (xu8 call hs u rec0 rec1) 0 1 2 7 8 10:=by kernel_rfl
theorem x1pa{rec0:AV->AV->AV->AV->AV->Mem->Nat->O2}:x2fz call hs u xyq (j5 (x5 call hs u rec0) 0 1 2 7 8) (setE 6 (j5 (x5 call hs u rec0) 0 1 2 7 8) (setE 1 (j5 (x5 call hs u rec0) 0 1 2 7 8) (setE 0 (j0 (x7 call hs u)) eNil)))=j6 (xab call hs u rec0 NN) 0 1 2 7 8 10:=lp (Ln:=fun n=>j6 (xab call hs u rec0 n) 0 1 2 7 8 10) fun n=>tr x1p9
theorem x1pb{rec0:AV->AV->AV->AV->AV->Mem->Nat->O2}:x2fz call hs u xyp (j5 (x5 call hs u rec0) 0 1 2 7 8) (setE 1 (j5 (x5 call hs u rec0) 0 1 2 7 8) (setE 0 (j0 (x7 call hs u)) eNil))=j6 (xab call hs u rec0 NN) 0 1 2 7 8 10:=bk x1pa
theorem x1pc{rec0:AV->AV->AV->AV->AV->Mem->Nat->O2}:x2fz call hs u xyo (j5 (x5 call hs u rec0) 0 1 2 7 8) (setE 1 (j5 (x5 call hs u rec0) 0 1 2 7 8) (setE 0 (j0 (x7 call hs u)) eNil))=j5 (xu9 call hs u rec0) 0 1 2 7 8:=tr (sqN 1 x1pb)
theorem x1pd{rec0:AV->AV->AV->AV->AV->Mem->Nat->O2}:x2fz call hs u x1p2 (j5 (x5 call hs u rec0) 0 1 2 7 8) (setE 1 (j5 (x5 call hs u rec0) 0 1 2 7 8) (setE 0 (j0 (x7 call hs u)) eNil))=j5 (xua call hs u rec0) 0 1 2 7 8:=by kernel_rfl
theorem x1pe{rec0:AV->AV->AV->AV->AV->Mem->Nat->O2}:x2fz call hs u xmg (j5 (x5 call hs u rec0) 0 1 2 7 8) (setE 1 (j5 (x5 call hs u rec0) 0 1 2 7 8) (setE 0 (j0 (x7 call hs u)) eNil))=j6 (xub call hs u rec0) 0 1 2 7 8 98:=tr (cd x1pc x1pd)
theorem x1pf{rec0:AV->AV->AV->AV->AV->Mem->Nat->O2}:x2fz call hs u xyn (j5 (x5 call hs u rec0) 0 1 2 7 8) (setE 1 (j5 (x5 call hs u rec0) 0 1 2 7 8) (setE 0 (j0 (x7 call hs u)) eNil))=j5 (x1h call hs u rec0) 0 1 2 7 8:=tr (sqN 1 x1pe)
theorem x1pg{rec0:AV->AV->AV->AV->AV->Mem->Nat->O2}{rec2:AV->AV->AV->AV->AV->AV->Mem->Nat->O2}:x2fz call hs u x1p5 (j6 rec2 0 1 2 7 8 9) (setE 4 (j5 (x1h call hs u rec0) 0 1 2 7 8) (setE 1 (j5 (x5 call hs u rec0) 0 1 2 7 8) (setE 0 (j0 (x7 call hs u)) eNil)))=j6 (xuc call hs u rec0 rec2) 0 1 2 7 8 9:=by kernel_rfl
theorem x1ph{rec0:AV->AV->AV->AV->AV->Mem->Nat->O2}:x2fz call hs u xyt (j5 (x1h call hs u rec0) 0 1 2 7 8) (setE 4 (j5 (x1h call hs u rec0) 0 1 2 7 8) (setE 1 (j5 (x5 call hs u rec0) 0 1 2 7 8) (setE 0 (j0 (x7 call hs u)) eNil)))=j6 (xac call hs u rec0 NN) 0 1 2 7 8 9:=lp (Ln:=fun n=>j6 (xac call hs u rec0 n) 0 1 2 7 8 9) fun n=>tr x1pg
theorem x1pi{rec0:AV->AV->AV->AV->AV->Mem->Nat->O2}:x2fz call hs u xys (j5 (x1h call hs u rec0) 0 1 2 7 8) (setE 1 (j5 (x5 call hs u rec0) 0 1 2 7 8) (setE 0 (j0 (x7 call hs u)) eNil))=j6 (xac call hs u rec0 NN) 0 1 2 7 8 9:=bk x1ph
theorem x1pj{rec0:AV->AV->AV->AV->AV->Mem->Nat->O2}:x2fz call hs u xyr (j5 (x1h call hs u rec0) 0 1 2 7 8) (setE 1 (j5 (x5 call hs u rec0) 0 1 2 7 8) (setE 0 (j0 (x7 call hs u)) eNil))=j5 (xud call hs u rec0) 0 1 2 7 8:=tr (sqN 1 x1pi)
theorem x1pk{rec0:AV->AV->AV->AV->AV->Mem->Nat->O2}:x2fz call hs u x1p4 (j5 (x1h call hs u rec0) 0 1 2 7 8) (setE 1 (j5 (x5 call hs u rec0) 0 1 2 7 8) (setE 0 (j0 (x7 call hs u)) eNil))=j5 (xue call hs u rec0) 0 1 2 7 8:=by kernel_rfl
theorem x1pl{rec0:AV->AV->AV->AV->AV->Mem->Nat->O2}:x2fz call hs u xmh (j5 (x1h call hs u rec0) 0 1 2 7 8) (setE 1 (j5 (x5 call hs u rec0) 0 1 2 7 8) (setE 0 (j0 (x7 call hs u)) eNil))=j6 (xuf call hs u rec0) 0 1 2 7 8 61:=tr (cd x1pj x1pk)
theorem x1pm{rec0:AV->AV->AV->AV->AV->Mem->Nat->O2}:x2fz call hs u xym (j5 (x1h call hs u rec0) 0 1 2 7 8) (setE 1 (j5 (x5 call hs u rec0) 0 1 2 7 8) (setE 0 (j0 (x7 call hs u)) eNil))=j5 (xl1 call hs u rec0) 0 1 2 7 8:=tr (sqN 1 x1pl)
theorem x1pn{rec0:AV->AV->AV->AV->AV->Mem->Nat->O2}:x2fz call hs u xmf (j5 (x5 call hs u rec0) 0 1 2 7 8) (setE 1 (j5 (x5 call hs u rec0) 0 1 2 7 8) (setE 0 (j0 (x7 call hs u)) eNil))=j5 (xl1 call hs u rec0) 0 1 2 7 8:=sq2 x1pf x1pm
theorem x1po{rec0:AV->AV->AV->AV->AV->Mem->Nat->O2}:x2fz call hs u xyl (j5 (x5 call hs u rec0) 0 1 2 7 8) (setE 1 (j5 (x5 call hs u rec0) 0 1 2 7 8) (setE 0 (j0 (x7 call hs u)) eNil))=j5 (x78 call hs u rec0) 0 1 2 7 8:=tr (sqN 3 x1pn)
theorem x1pp{rec0:AV->AV->AV->AV->AV->Mem->Nat->O2}{rec3:AV->AV->AV->AV->AV->Mem->Nat->O2}:x2fz call hs u x1p6 (j5 rec3 0 1 2 7 8) (setE 2 (j5 (x78 call hs u rec0) 0 1 2 7 8) (setE 1 (j5 (x5 call hs u rec0) 0 1 2 7 8) (setE 0 (j0 (x7 call hs u)) eNil)))=j5 (xug call hs u rec0 rec3) 0 1 2 7 8:=by kernel_rfl
theorem x1pq{rec0:AV->AV->AV->AV->AV->Mem->Nat->O2}:x2fz call hs u xyu (j5 (x78 call hs u rec0) 0 1 2 7 8) (setE 2 (j5 (x78 call hs u rec0) 0 1 2 7 8) (setE 1 (j5 (x5 call hs u rec0) 0 1 2 7 8) (setE 0 (j0 (x7 call hs u)) eNil)))=j5 (x4l call hs u rec0 NN) 0 1 2 7 8:=lp (Ln:=fun n=>j5 (x4l call hs u rec0 n) 0 1 2 7 8) fun n=>tr x1pp
theorem x1pr{rec0:AV->AV->AV->AV->AV->Mem->Nat->O2}:x2fz call hs u xyk (j5 (x78 call hs u rec0) 0 1 2 7 8) (setE 1 (j5 (x5 call hs u rec0) 0 1 2 7 8) (setE 0 (j0 (x7 call hs u)) eNil))=j5 (x4l call hs u rec0 NN) 0 1 2 7 8:=bk x1pq
theorem x1ps{rec0:AV->AV->AV->AV->AV->Mem->Nat->O2}:x2fz call hs u xme (j5 (x5 call hs u rec0) 0 1 2 7 8) (setE 1 (j5 (x5 call hs u rec0) 0 1 2 7 8) (setE 0 (j0 (x7 call hs u)) eNil))=j5 (x4l call hs u rec0 NN) 0 1 2 7 8:=sq2 x1po x1pr
theorem x1pt{rec0:AV->AV->AV->AV->AV->Mem->Nat->O2}:x2fz call hs u xyj (j5 (x5 call hs u rec0) 0 1 2 7 8) (setE 0 (j0 (x7 call hs u)) eNil)=j5 (x4l call hs u rec0 NN) 0 1 2 7 8:=bk x1ps
theorem x1pu{rec0:AV->AV->AV->AV->AV->Mem->Nat->O2}:x2fz call hs u xmd (j5 rec0 0 1 2 7 8) (setE 0 (j0 (x7 call hs u)) eNil)=j5 (x4l call hs u rec0 NN) 0 1 2 7 8:=sq2 x1p8 x1pt
theorem x1pv{rec0:AV->AV->AV->AV->AV->Mem->Nat->O2}:x2fz call hs u xyi (j5 rec0 0 1 2 7 8) (setE 0 (j0 (x7 call hs u)) eNil)=j5 (xuh call hs u rec0) 0 1 2 7 8:=tr (sqN 1 x1pu)
theorem x1pw:x2fz call hs u xyh (j0 (x7 call hs u)) (setE 0 (j0 (x7 call hs u)) eNil)=j5 (xad call hs u NN) 0 1 2 7 8:=lp (Ln:=fun n=>j5 (xad call hs u n) 0 1 2 7 8) fun n=>tr x1pv
theorem x1px:x2fz call hs u xyg (j0 (x7 call hs u)) eNil=j5 (xad call hs u NN) 0 1 2 7 8:=bk x1pw
theorem x1py:x2fz call hs u xyf (j0 (x7 call hs u)) eNil=j4 (xl2 call hs u) 0 1 2 7:=tr (sqN 1 x1px)
theorem x1pz:x2fz call hs u xmc r_1 eNil=j4 (xl2 call hs u) 0 1 2 7:=sq2 x1p7 x1py
theorem x1hg:x2fz call hs u xye r_1 eNil=j3 (xui call hs u) 0 1 2:=tr (sqN 2 x1pz)
noncomputable abbrev x2ve:=VX xf 17 r_0
noncomputable def x1q0:=x2fa xf
theorem x1hh:x2ve call hs u x1q0 r_0 eNil=j2 (xl3 call hs u) 0 1:=by kernel_rfl
noncomputable abbrev x2hf:=VX xbv 84 r_16
noncomputable def xyv:=x2fa xbv
noncomputable def xmi:=nRs 3 xyv
noncomputable def xyw:=nL xmi
noncomputable def x1q1:=nR xmi
noncomputable def xyx:=nR xyw
noncomputable def xyy:=nR xyx
noncomputable def xmj:=nR xyy
noncomputable def xyz:=nL xmj
noncomputable def xmk:=nR xmj
noncomputable def xz0:=nL xmk
noncomputable def x1q2:=nR xmk
noncomputable def xz1:=nR xz0
noncomputable def x1q3:=nR xz1
noncomputable def xz2:=nR xyz
noncomputable def x1q4:=nR xz2
theorem x1q5:x2hf call hs u x1q1 r_16 eNil=j1 (x11 call hs u) 9:=by kernel_rfl
theorem x1q6{rec0:AV->AV->AV->AV->Mem->Nat->O2}:x2hf call hs u x1q2 (j4 rec0 0 1 9 10) (setE 1 (j4 rec0 0 1 9 10) (setE 0 (j1 (x11 call hs u) 9) eNil))=j4 (x79 call hs u rec0) 0 1 9 10:=by kernel_rfl
theorem x1q7{rec0:AV->AV->AV->AV->Mem->Nat->O2}{rec1:AV->AV->AV->AV->Mem->Nat->O2}:x2hf call hs u x1q3 (j4 rec1 0 1 9 10) (setE 4 (j4 (x79 call hs u rec0) 0 1 9 10) (setE 1 (j4 rec0 0 1 9 10) (setE 0 (j1 (x11 call hs u) 9) eNil)))=j4 (xuj call hs u rec0 rec1) 0 1 9 10:=by kernel_rfl
theorem x1q8{rec0:AV->AV->AV->AV->Mem->Nat->O2}:x2hf call hs u xz1 (j4 (x79 call hs u rec0) 0 1 9 10) (setE 4 (j4 (x79 call hs u rec0) 0 1 9 10) (setE 1 (j4 rec0 0 1 9 10) (setE 0 (j1 (x11 call hs u) 9) eNil)))=j4 (x2g call hs u rec0 NN) 0 1 9 10:=lp (Ln:=fun n=>j4 (x2g call hs u rec0 n) 0 1 9 10) fun n=>tr x1q7
theorem x1q9{rec0:AV->AV->AV->AV->Mem->Nat->O2}:x2hf call hs u xz0 (j4 (x79 call hs u rec0) 0 1 9 10) (setE 1 (j4 rec0 0 1 9 10) (setE 0 (j1 (x11 call hs u) 9) eNil))=j4 (x2g call hs u rec0 NN) 0 1 9 10:=bk x1q8
theorem x1qa{rec0:AV->AV->AV->AV->Mem->Nat->O2}:x2hf call hs u xmk (j4 rec0 0 1 9 10) (setE 1 (j4 rec0 0 1 9 10) (setE 0 (j1 (x11 call hs u) 9) eNil))=j4 (x2g call hs u rec0 NN) 0 1 9 10:=sq2 x1q6 x1q9
theorem x1qb{rec0:AV->AV->AV->AV->Mem->Nat->O2}{rec2:AV->AV->AV->AV->Mem->Nat->O2}:x2hf call hs u x1q4 (j4 rec2 0 1 9 10) (setE 2 (j4 (x2g call hs u rec0 NN) 0 1 9 10) (setE 1 (j4 rec0 0 1 9 10) (setE 0 (j1 (x11 call hs u) 9) eNil)))=j4 (xuk call hs u rec0 rec2) 0 1 9 10:=by kernel_rfl
theorem x1qc{rec0:AV->AV->AV->AV->Mem->Nat->O2}:x2hf call hs u xz2 (j4 (x2g call hs u rec0 NN) 0 1 9 10) (setE 2 (j4 (x2g call hs u rec0 NN) 0 1 9 10) (setE 1 (j4 rec0 0 1 9 10) (setE 0 (j1 (x11 call hs u) 9) eNil)))=j4 (x63 call hs u rec0 NN) 0 1 9 10:=lp (Ln:=fun n=>j4 (x63 call hs u rec0 n) 0 1 9 10) fun n=>tr x1qb
theorem x1qd{rec0:AV->AV->AV->AV->Mem->Nat->O2}:x2hf call hs u xyz (j4 (x2g call hs u rec0 NN) 0 1 9 10) (setE 1 (j4 rec0 0 1 9 10) (setE 0 (j1 (x11 call hs u) 9) eNil))=j4 (x63 call hs u rec0 NN) 0 1 9 10:=bk x1qc
theorem x1qe{rec0:AV->AV->AV->AV->Mem->Nat->O2}:x2hf call hs u xmj (j4 rec0 0 1 9 10) (setE 1 (j4 rec0 0 1 9 10) (setE 0 (j1 (x11 call hs u) 9) eNil))=j4 (x63 call hs u rec0 NN) 0 1 9 10:=sq2 x1qa x1qd
theorem x1qf{rec0:AV->AV->AV->AV->Mem->Nat->O2}:x2hf call hs u xyy (j4 rec0 0 1 9 10) (setE 0 (j1 (x11 call hs u) 9) eNil)=j4 (x63 call hs u rec0 NN) 0 1 9 10:=bk x1qe
theorem x1qg:x2hf call hs u xyx (j1 (x11 call hs u) 9) (setE 0 (j1 (x11 call hs u) 9) eNil)=j4 (x7a call hs u NN) 0 1 9 10:=lp (Ln:=fun n=>j4 (x7a call hs u n) 0 1 9 10) fun n=>tr x1qf
theorem x1qh:x2hf call hs u xyw (j1 (x11 call hs u) 9) eNil=j4 (x7a call hs u NN) 0 1 9 10:=bk x1qg
theorem x1qi:x2hf call hs u xmi r_16 eNil=j4 (x7a call hs u NN) 0 1 9 10:=sq2 x1q5 x1qh
theorem x1hi:x2hf call hs u xyv r_16 eNil=j4 (xul call hs u) 0 1 2 3:=tr (sqN 3 x1qi)
noncomputable abbrev x2gf:=VX xbw 168 r_21
noncomputable def xz3:=x2fa xbw
noncomputable def xml:=nRs 3 xz3
noncomputable def xz4:=nL xml
noncomputable def xmm:=nR xml
noncomputable def xz5:=nL xmm
noncomputable def xz6:=nR xmm
noncomputable def xmn:=nRs 4 xz6
noncomputable def xz7:=nL xmn
noncomputable def x1qj:=nR xmn
noncomputable def xz8:=nR xz7
noncomputable def xz9:=nR xz8
noncomputable def xmo:=nR xz9
noncomputable def xza:=nL xmo
noncomputable def xmp:=nR xmo
noncomputable def xzb:=nL xmp
noncomputable def x1qk:=nR xmp
noncomputable def xzc:=nR xzb
noncomputable def x1ql:=nR xzc
noncomputable def xzd:=nR xza
noncomputable def x1qm:=nR xzd
noncomputable def xze:=nR xz5
noncomputable def x1qn:=nR xze
noncomputable def xzf:=nR xz4
noncomputable def x1qo:=nR xzf
theorem x1qp:x2gf call hs u x1qj r_21 eNil=j3 (x12 call hs u) 0 1 11:=by kernel_rfl
theorem x1qq{rec0:AV->AV->AV->AV->Mem->Nat->O2}:x2gf call hs u x1qk (j4 rec0 0 1 10 11) (setE 5 (j4 rec0 0 1 10 11) (setE 4 (j3 (x12 call hs u) 0 1 11) eNil))=j4 (x7b call hs u rec0) 0 1 10 11:=by kernel_rfl
theorem x1qr{rec0:AV->AV->AV->AV->Mem->Nat->O2}{rec1:AV->AV->AV->AV->Mem->Nat->O2}:x2gf call hs u x1ql (j4 rec1 0 1 10 11) (setE 8 (j4 (x7b call hs u rec0) 0 1 10 11) (setE 5 (j4 rec0 0 1 10 11) (setE 4 (j3 (x12 call hs u) 0 1 11) eNil)))=j4 (xum call hs u rec0 rec1) 0 1 10 11:=by kernel_rfl
theorem x1qs{rec0:AV->AV->AV->AV->Mem->Nat->O2}:x2gf call hs u xzc (j4 (x7b call hs u rec0) 0 1 10 11) (setE 8 (j4 (x7b call hs u rec0) 0 1 10 11) (setE 5 (j4 rec0 0 1 10 11) (setE 4 (j3 (x12 call hs u) 0 1 11) eNil)))=j4 (x2h call hs u rec0 NN) 0 1 10 11:=lp (Ln:=fun n=>j4 (x2h call hs u rec0 n) 0 1 10 11) fun n=>tr x1qr
theorem x1qt{rec0:AV->AV->AV->AV->Mem->Nat->O2}:x2gf call hs u xzb (j4 (x7b call hs u rec0) 0 1 10 11) (setE 5 (j4 rec0 0 1 10 11) (setE 4 (j3 (x12 call hs u) 0 1 11) eNil))=j4 (x2h call hs u rec0 NN) 0 1 10 11:=bk x1qs
theorem x1qu{rec0:AV->AV->AV->AV->Mem->Nat->O2}:x2gf call hs u xmp (j4 rec0 0 1 10 11) (setE 5 (j4 rec0 0 1 10 11) (setE 4 (j3 (x12 call hs u) 0 1 11) eNil))=j4 (x2h call hs u rec0 NN) 0 1 10 11:=sq2 x1qq x1qt
theorem x1qv{rec0:AV->AV->AV->AV->Mem->Nat->O2}{rec2:AV->AV->AV->AV->Mem->Nat->O2}:x2gf call hs u x1qm (j4 rec2 0 1 10 11) (setE 6 (j4 (x2h call hs u rec0 NN) 0 1 10 11) (setE 5 (j4 rec0 0 1 10 11) (setE 4 (j3 (x12 call hs u) 0 1 11) eNil)))=j4 (xun call hs u rec0 rec2) 0 1 10 11:=by kernel_rfl
theorem x1qw{rec0:AV->AV->AV->AV->Mem->Nat->O2}:x2gf call hs u xzd (j4 (x2h call hs u rec0 NN) 0 1 10 11) (setE 6 (j4 (x2h call hs u rec0 NN) 0 1 10 11) (setE 5 (j4 rec0 0 1 10 11) (setE 4 (j3 (x12 call hs u) 0 1 11) eNil)))=j4 (x64 call hs u rec0 NN) 0 1 10 11:=lp (Ln:=fun n=>j4 (x64 call hs u rec0 n) 0 1 10 11) fun n=>tr x1qv
theorem x1qx{rec0:AV->AV->AV->AV->Mem->Nat->O2}:x2gf call hs u xza (j4 (x2h call hs u rec0 NN) 0 1 10 11) (setE 5 (j4 rec0 0 1 10 11) (setE 4 (j3 (x12 call hs u) 0 1 11) eNil))=j4 (x64 call hs u rec0 NN) 0 1 10 11:=bk x1qw
theorem x1qy{rec0:AV->AV->AV->AV->Mem->Nat->O2}:x2gf call hs u xmo (j4 rec0 0 1 10 11) (setE 5 (j4 rec0 0 1 10 11) (setE 4 (j3 (x12 call hs u) 0 1 11) eNil))=j4 (x64 call hs u rec0 NN) 0 1 10 11:=sq2 x1qu x1qx
theorem x1qz{rec0:AV->AV->AV->AV->Mem->Nat->O2}:x2gf call hs u xz9 (j4 rec0 0 1 10 11) (setE 4 (j3 (x12 call hs u) 0 1 11) eNil)=j4 (x64 call hs u rec0 NN) 0 1 10 11:=bk x1qy
theorem x1r0:x2gf call hs u xz8 (j3 (x12 call hs u) 0 1 11) (setE 4 (j3 (x12 call hs u) 0 1 11) eNil)=j4 (x7c call hs u NN) 0 1 10 11:=lp (Ln:=fun n=>j4 (x7c call hs u n) 0 1 10 11) fun n=>tr x1qz
theorem x1r1:x2gf call hs u xz7 (j3 (x12 call hs u) 0 1 11) eNil=j4 (x7c call hs u NN) 0 1 10 11:=bk x1r0
theorem x1r2:x2gf call hs u xmn r_21 eNil=j4 (x7c call hs u NN) 0 1 10 11:=sq2 x1qp x1r1
theorem x1r3:x2gf call hs u xz6 r_21 eNil=j4 (x7d call hs u) 0 1 10 11:=tr (sqN 4 x1r2)
theorem x1r4{rec3:AV->AV->AV->AV->Mem->Nat->O2}:x2gf call hs u x1qn (j4 rec3 0 1 10 11) (setE 2 (j4 (x7d call hs u) 0 1 10 11) eNil)=j4 (xuo call hs u rec3) 0 1 10 11:=by kernel_rfl
theorem x1r5:x2gf call hs u xze (j4 (x7d call hs u) 0 1 10 11) (setE 2 (j4 (x7d call hs u) 0 1 10 11) eNil)=j4 (x2i call hs u NN) 0 1 10 11:=lp (Ln:=fun n=>j4 (x2i call hs u n) 0 1 10 11) fun n=>tr x1r4
theorem x1r6:x2gf call hs u xz5 (j4 (x7d call hs u) 0 1 10 11) eNil=j4 (x2i call hs u NN) 0 1 10 11:=bk x1r5
theorem x1r7:x2gf call hs u xmm r_21 eNil=j4 (x2i call hs u NN) 0 1 10 11:=sq2 x1r3 x1r6
theorem x1r8{rec4:AV->AV->AV->AV->Mem->Nat->O2}:x2gf call hs u x1qo (j4 rec4 0 1 10 11) (setE 0 (j4 (x2i call hs u NN) 0 1 10 11) eNil)=j4 (xup call hs u rec4) 0 1 10 11:=by kernel_rfl
theorem x1r9:x2gf call hs u xzf (j4 (x2i call hs u NN) 0 1 10 11) (setE 0 (j4 (x2i call hs u NN) 0 1 10 11) eNil)=j4 (x7e call hs u NN) 0 1 10 11:=lp (Ln:=fun n=>j4 (x7e call hs u n) 0 1 10 11) fun n=>tr x1r8
theorem x1ra:x2gf call hs u xz4 (j4 (x2i call hs u NN) 0 1 10 11) eNil=j4 (x7e call hs u NN) 0 1 10 11:=bk x1r9
theorem x1rb:x2gf call hs u xml r_21 eNil=j4 (x7e call hs u NN) 0 1 10 11:=sq2 x1r7 x1ra
theorem x1hj:x2gf call hs u xz3 r_21 eNil=j4 (xuq call hs u) 0 1 2 3:=tr (sqN 3 x1rb)
noncomputable abbrev x2m5:=VX xbx 19 r_3
noncomputable def xzg:=x2fa xbx
noncomputable def xmq:=nR xzg
noncomputable def x1rc:=nL xmq
noncomputable def xmr:=nR xmq
noncomputable def x1rd:=nL xmr
noncomputable def x1re:=nR xmr
theorem x1rf:x2m5 call hs u x1re r_3 eNil=j2 (xf0 call hs u) 0 2:=by kernel_rfl
theorem x1rg:x2m5 call hs u x1rd (j2 (xf0 call hs u) 0 2) eNil=j2 (xae call hs u) 0 2:=by kernel_rfl
theorem x1rh:x2m5 call hs u xmr r_3 eNil=j2 (xae call hs u) 0 2:=sq2 x1rf x1rg
theorem x1ri:x2m5 call hs u x1rc (j2 (xae call hs u) 0 2) eNil=j2 (xl4 call hs u) 0 2:=by kernel_rfl
theorem x1rj:x2m5 call hs u xmq r_3 eNil=j2 (xl4 call hs u) 0 2:=sq2 x1rh x1ri
theorem x1hk:x2m5 call hs u xzg r_3 eNil=j1 (xur call hs u) 0:=tr (sqN 1 x1rj)
noncomputable abbrev x2k3:=VX x6l 25 r_3
noncomputable def xzh:=x2fa x6l
noncomputable def xms:=nR xzh
noncomputable def x1rk:=nL xms
noncomputable def xmt:=nR xms
noncomputable def x1rl:=nL xmt
noncomputable def xmu:=nR xmt
noncomputable def x1rm:=nL xmu
noncomputable def x1rn:=nR xmu
theorem x1ro:x2k3 call hs u x1rn r_3 eNil=j2 (xf1 call hs u) 0 2:=by kernel_rfl
theorem x1rp:x2k3 call hs u x1rm (j2 (xf1 call hs u) 0 2) eNil=j2 (xaf call hs u) 0 2:=by kernel_rfl
theorem x1rq:x2k3 call hs u xmu r_3 eNil=j2 (xaf call hs u) 0 2:=sq2 x1ro x1rp
theorem x1rr:x2k3 call hs u x1rl (j2 (xaf call hs u) 0 2) eNil=j2 (xag call hs u) 0 2:=by kernel_rfl
theorem x1rs:x2k3 call hs u xmt r_3 eNil=j2 (xag call hs u) 0 2:=sq2 x1rq x1rr
theorem x1rt:x2k3 call hs u x1rk (j2 (xag call hs u) 0 2) eNil=j2 (xl5 call hs u) 0 2:=by kernel_rfl
theorem x1ru:x2k3 call hs u xms r_3 eNil=j2 (xl5 call hs u) 0 2:=sq2 x1rs x1rt
theorem x1hl:x2k3 call hs u xzh r_3 eNil=j1 (xus call hs u) 0:=tr (sqN 1 x1ru)
noncomputable abbrev x2vf:=VX xan 6 r_0
noncomputable def x1rv:=x2fa xan
theorem x1e0:x2vf call hs u x1rv r_0 eNil=j2 (xut call hs u) 0 1:=by kernel_rfl
noncomputable abbrev x2vg:=VX xby 30 r_6
noncomputable def x1rw:=x2fa xby
theorem x1hm:x2vg call hs u x1rw r_6 eNil=j2 (xuu call hs u) 0 1:=by kernel_rfl
noncomputable abbrev x2m6:=VX xbz 58 r_17
noncomputable def xzi:=x2fa xbz
noncomputable def xmv:=nRs 2 xzi
noncomputable def xzj:=nL xmv
noncomputable def x1rx:=nR xmv
noncomputable def xzk:=nR xzj
noncomputable def x1ry:=nR xzk
theorem x1rz:x2m6 call hs u x1rx r_17 eNil=j4 (x7f call hs u) 0 2 4 10:=by kernel_rfl
theorem x1s0{rec0:AV->AV->AV->AV->AV->Mem->Nat->O2}:x2m6 call hs u x1ry (j5 rec0 0 2 4 10 11) (setE 0 (j4 (x7f call hs u) 0 2 4 10) eNil)=j5 (xuv call hs u rec0) 0 2 4 10 11:=by kernel_rfl
theorem x1s1:x2m6 call hs u xzk (j4 (x7f call hs u) 0 2 4 10) (setE 0 (j4 (x7f call hs u) 0 2 4 10) eNil)=j5 (x7g call hs u NN) 0 2 4 10 11:=lp (Ln:=fun n=>j5 (x7g call hs u n) 0 2 4 10 11) fun n=>tr x1s0
theorem x1s2:x2m6 call hs u xzj (j4 (x7f call hs u) 0 2 4 10) eNil=j5 (x7g call hs u NN) 0 2 4 10 11:=bk x1s1
theorem x1s3:x2m6 call hs u xmv r_17 eNil=j5 (x7g call hs u NN) 0 2 4 10 11:=sq2 x1rz x1s2
theorem x1hn:x2m6 call hs u xzi r_17 eNil=j5 (xuw call hs u) 0 1 2 3 4:=tr (sqN 2 x1s3)
noncomputable abbrev x2k4:=VX x7u 76 r_17
noncomputable def xzl:=x2fa x7u
noncomputable def xzm:=nR xzl
noncomputable def xzn:=nR xzm
noncomputable def xzo:=nR xzn
noncomputable def xzp:=nR xzo
noncomputable def xmw:=nRs 2 xzp
noncomputable def x1s4:=nL xmw
noncomputable def x1s5:=nR xmw
theorem x1s6{rec0:AV->AV->AV->AV->Mem->Nat->O2}:x2k4 call hs u x1s5 (j4 rec0 0 2 3 8) (setE 1 (j4 rec0 0 2 3 8) (setE 0 r_17 eNil))=j5 (xf2 call hs u rec0) 0 2 3 8 9:=by kernel_rfl
theorem x1s7{rec0:AV->AV->AV->AV->Mem->Nat->O2}:x2k4 call hs u x1s4 (j5 (xf2 call hs u rec0) 0 2 3 8 9) (setE 1 (j4 rec0 0 2 3 8) (setE 0 r_17 eNil))=j5 (xl6 call hs u rec0) 0 2 3 8 9:=by kernel_rfl
theorem x1s8{rec0:AV->AV->AV->AV->Mem->Nat->O2}:x2k4 call hs u xmw (j4 rec0 0 2 3 8) (setE 1 (j4 rec0 0 2 3 8) (setE 0 r_17 eNil))=j5 (xl6 call hs u rec0) 0 2 3 8 9:=sq2 x1s6 x1s7
theorem x1s9{rec0:AV->AV->AV->AV->Mem->Nat->O2}:x2k4 call hs u xzp (j4 rec0 0 2 3 8) (setE 1 (j4 rec0 0 2 3 8) (setE 0 r_17 eNil))=j4 (xl7 call hs u rec0) 0 2 3 8:=tr (sqN 2 x1s8)
theorem x1sa{rec0:AV->AV->AV->AV->Mem->Nat->O2}:x2k4 call hs u xzo (j4 rec0 0 2 3 8) (setE 0 r_17 eNil)=j4 (xl7 call hs u rec0) 0 2 3 8:=bk x1s9
theorem x1sb:x2k4 call hs u xzn r_17 (setE 0 r_17 eNil)=j4 (xah call hs u NN) 0 2 3 8:=lp (Ln:=fun n=>j4 (xah call hs u n) 0 2 3 8) fun n=>tr x1sa
theorem x1sc:x2k4 call hs u xzm r_17 eNil=j4 (xah call hs u NN) 0 2 3 8:=bk x1sb
theorem x1ho:x2k4 call hs u xzl r_17 eNil=j4 (xux call hs u) 0 1 2 3:=tr (sqN 1 x1sc)
noncomputable abbrev x2vh:=VX xc0 7 r_3
noncomputable def x1sd:=x2fa xc0
theorem x1hp:x2vh call hs u x1sd r_3 eNil=j1 (xuy call hs u) 0:=by kernel_rfl
noncomputable abbrev x2vi:=VX xc1 33 r_3
noncomputable def x1se:=x2fa xc1
theorem x1hq:x2vi call hs u x1se r_3 eNil=j1 (xuz call hs u) 0:=by kernel_rfl
noncomputable abbrev x2vj:=VX x6m 15 r_1
noncomputable def x1sf:=x2fa x6m
theorem x1hr:x2vj call hs u x1sf r_1 eNil=j3 (xv0 call hs u) 0 1 2:=by kernel_rfl
noncomputable abbrev x2vk:=VX x7v 36 r_22
noncomputable def x1sg:=x2fa x7v
theorem x1hs:x2vk call hs u x1sg r_22 eNil=j5 (xv1 call hs u) 0 1 2 3 4:=by kernel_rfl
noncomputable abbrev x2vl:=VX x58 6 r_3
noncomputable def x1sh:=x2fa x58
theorem x1ht:x2vl call hs u x1sh r_3 eNil=j1 (xl8 call hs u) 0:=by kernel_rfl
noncomputable abbrev x2ii:=VX xal 76 r_17
noncomputable def xzq:=x2fa xal
noncomputable def xzr:=nR xzq
noncomputable def xzs:=nR xzr
noncomputable def xzt:=nR xzs
noncomputable def xmx:=nRs 2 xzt
noncomputable def xzu:=nL xmx
noncomputable def x1si:=nR xmx
noncomputable def xzv:=nR xzu
noncomputable def xmy:=nRs 3 xzv
noncomputable def x1sj:=nL xmy
noncomputable def x1sk:=nR xmy
theorem x1sl{rec0:AV->AV->AV->AV->AV->AV->Mem->Nat->O2}:x2ii call hs u x1si (j6 rec0 0 1 2 14 15 16) (setE 0 r_17 eNil)=j6 (x2j call hs u rec0) 0 1 2 14 15 16:=by kernel_rfl
theorem x1sm{rec0:AV->AV->AV->AV->AV->AV->Mem->Nat->O2}:x2ii call hs u x1sk (j6 (x2j call hs u rec0) 0 1 2 14 15 16) (setE 1 (j6 (x2j call hs u rec0) 0 1 2 14 15 16) (setE 0 r_17 eNil))=j7 (xf3 call hs u rec0) 0 1 2 7 14 15 16:=by kernel_rfl
theorem x1sn{rec0:AV->AV->AV->AV->AV->AV->Mem->Nat->O2}:x2ii call hs u x1sj (j7 (xf3 call hs u rec0) 0 1 2 7 14 15 16) (setE 1 (j6 (x2j call hs u rec0) 0 1 2 14 15 16) (setE 0 r_17 eNil))=j9 (xl9 call hs u rec0) 0 1 2 5 6 7 14 15 16:=by kernel_rfl
theorem x1so{rec0:AV->AV->AV->AV->AV->AV->Mem->Nat->O2}:x2ii call hs u xmy (j6 (x2j call hs u rec0) 0 1 2 14 15 16) (setE 1 (j6 (x2j call hs u rec0) 0 1 2 14 15 16) (setE 0 r_17 eNil))=j9 (xl9 call hs u rec0) 0 1 2 5 6 7 14 15 16:=sq2 x1sm x1sn
theorem x1sp{rec0:AV->AV->AV->AV->AV->AV->Mem->Nat->O2}:x2ii call hs u xzv (j6 (x2j call hs u rec0) 0 1 2 14 15 16) (setE 1 (j6 (x2j call hs u rec0) 0 1 2 14 15 16) (setE 0 r_17 eNil))=j6 (xf4 call hs u rec0) 0 1 2 14 15 16:=tr (sqN 3 x1so)
theorem x1sq{rec0:AV->AV->AV->AV->AV->AV->Mem->Nat->O2}:x2ii call hs u xzu (j6 (x2j call hs u rec0) 0 1 2 14 15 16) (setE 0 r_17 eNil)=j6 (xf4 call hs u rec0) 0 1 2 14 15 16:=bk x1sp
theorem x1sr{rec0:AV->AV->AV->AV->AV->AV->Mem->Nat->O2}:x2ii call hs u xmx (j6 rec0 0 1 2 14 15 16) (setE 0 r_17 eNil)=j6 (xf4 call hs u rec0) 0 1 2 14 15 16:=sq2 x1sl x1sq
theorem x1ss{rec0:AV->AV->AV->AV->AV->AV->Mem->Nat->O2}:x2ii call hs u xzt (j6 rec0 0 1 2 14 15 16) (setE 0 r_17 eNil)=j6 (xv2 call hs u rec0) 0 1 2 14 15 16:=tr (sqN 2 x1sr)
theorem x1st:x2ii call hs u xzs r_17 (setE 0 r_17 eNil)=j6 (xai call hs u NN) 0 1 2 14 15 16:=lp (Ln:=fun n=>j6 (xai call hs u n) 0 1 2 14 15 16) fun n=>tr x1ss
theorem x1su:x2ii call hs u xzr r_17 eNil=j6 (xai call hs u NN) 0 1 2 14 15 16:=bk x1st
theorem x1dw:x2ii call hs u xzq r_17 eNil=j3 (xv3 call hs u) 0 1 2:=tr (sqN 1 x1su)
noncomputable abbrev x2vm:=VX xc2 17 r_6
noncomputable def x1sv:=x2fa xc2
theorem x1hu:x2vm call hs u x1sv r_6 eNil=j2 (xv4 call hs u) 0 1:=by kernel_rfl
noncomputable abbrev x2vn:=VX xap 51 r_6
noncomputable def x1sw:=x2fa xap
theorem x1e2:x2vn call hs u x1sw r_6 eNil=j2 (xv5 call hs u) 0 1:=by kernel_rfl
noncomputable abbrev x2o3:=VX x6n 38 r_17
noncomputable def xzw:=x2fa x6n
noncomputable def xzx:=nR xzw
noncomputable def xzy:=nR xzx
noncomputable def x1sx:=nR xzy
theorem x1sy{rec0:AV->AV->AV->AV->AV->Mem->Nat->O2}:x2o3 call hs u x1sx (j5 rec0 0 1 2 3 10) (setE 0 r_17 eNil)=j5 (xv6 call hs u rec0) 0 1 2 3 10:=by kernel_rfl
theorem x1sz:x2o3 call hs u xzy r_17 (setE 0 r_17 eNil)=j5 (xaj call hs u NN) 0 1 2 3 10:=lp (Ln:=fun n=>j5 (xaj call hs u n) 0 1 2 3 10) fun n=>tr x1sy
theorem x1t0:x2o3 call hs u xzx r_17 eNil=j5 (xaj call hs u NN) 0 1 2 3 10:=bk x1sz
theorem x1hv:x2o3 call hs u xzw r_17 eNil=j4 (xv7 call hs u) 0 1 2 3:=tr (sqN 1 x1t0)
noncomputable abbrev x2vo:=VX x6o 28 r_21
noncomputable def x1t1:=x2fa x6o
theorem x1hw:x2vo call hs u x1t1 r_21 eNil=j4 (xv8 call hs u) 0 1 2 3:=by kernel_rfl
end Go.Ix
