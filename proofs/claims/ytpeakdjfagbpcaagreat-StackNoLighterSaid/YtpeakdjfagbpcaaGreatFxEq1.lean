import Derived.Test.YtpeakdjfagbpcaaGreatFxText0
import Derived.Test.YtpeakdjfagbpcaaGreatFxText1
import Derived.Test.YtpeakdjfagbpcaaGreatFxEnt
import Derived.Test.YtpeakdjfagbpcaaGreatFxRules
import Derived.Test.YtpeakdjfagbpcaaGreatFxProj
import Derived.ProofKit
set_option linter.unusedVariables false
namespace Go.Ix
open Go.Proofs
variable{call:x2g1}{hs:FHs}{u:Nat}
noncomputable abbrev x2h4:=VX xbb 160 r_17
noncomputable def xv8:=x2g6 xbb
noncomputable def xka:=nRs 2 xv8
noncomputable def xv9:=nL xka
noncomputable def xva:=nR xka
noncomputable def xkb:=nR xva
noncomputable def xvb:=nL xkb
noncomputable def xkc:=nR xkb
noncomputable def xvc:=nL xkc
noncomputable def xvd:=nR xkc
noncomputable def xve:=nRs 3 xvd
noncomputable def xvf:=nR xve
noncomputable def x1ia:=nR xvf
noncomputable def xvg:=nR xvc
noncomputable def xvh:=nR xvg
noncomputable def x1ib:=nR xvh
noncomputable def xvi:=nR xvb
noncomputable def xvj:=nR xvi
noncomputable def x1ic:=nR xvj
noncomputable def xvk:=nR xv9
noncomputable def xvl:=nR xvk
noncomputable def xvm:=nR xvl
noncomputable def xkd:=nRs 2 xvm
noncomputable def x1id:=nL xkd
noncomputable def x1ie:=nR xkd
theorem x1if{rec0:AV->AV->AV->AV->AV->AV->Mem->Nat->O2}:x2h4 call hs u x1ia (j6 rec0 0 4 5 136 137 138) (setE 6 r_17 eNil)=j6 (xsv call hs u rec0) 0 4 5 136 137 138:=by kernel_rfl
theorem x1ig:x2h4 call hs u xvf r_17 (setE 6 r_17 eNil)=j6 (x9e call hs u NN) 0 4 5 136 137 138:=lp (Ln:=fun n=>j6 (x9e call hs u n) 0 4 5 136 137 138) fun n=>tr x1if
theorem x1ih:x2h4 call hs u xve r_17 eNil=j6 (x9e call hs u NN) 0 4 5 136 137 138:=bk x1ig
theorem x1ii:x2h4 call hs u xvd r_17 eNil=j5 (x5d call hs u) 0 1 4 5 8:=tr (sqN 3 x1ih)
theorem x1ij{rec1:AV->AV->AV->AV->AV->AV->Mem->Nat->O2}:x2h4 call hs u x1ib (j6 rec1 0 1 4 5 8 10) (setE 4 (j5 (x5d call hs u) 0 1 4 5 8) eNil)=j6 (xsw call hs u rec1) 0 1 4 5 8 10:=by kernel_rfl
theorem x1ik:x2h4 call hs u xvh (j5 (x5d call hs u) 0 1 4 5 8) (setE 4 (j5 (x5d call hs u) 0 1 4 5 8) eNil)=j6 (x9f call hs u NN) 0 1 4 5 8 10:=lp (Ln:=fun n=>j6 (x9f call hs u n) 0 1 4 5 8 10) fun n=>tr x1ij
theorem x1il:x2h4 call hs u xvg (j5 (x5d call hs u) 0 1 4 5 8) eNil=j6 (x9f call hs u NN) 0 1 4 5 8 10:=bk x1ik
theorem x1im:x2h4 call hs u xvc (j5 (x5d call hs u) 0 1 4 5 8) eNil=j5 (x44 call hs u) 0 1 4 5 8:=tr (sqN 1 x1il)
theorem x1in:x2h4 call hs u xkc r_17 eNil=j5 (x44 call hs u) 0 1 4 5 8:=sq2 x1ii x1im
theorem x1io{rec2:AV->AV->AV->AV->AV->AV->Mem->Nat->O2}:x2h4 call hs u x1ic (j6 rec2 0 1 4 5 8 9) (setE 2 (j5 (x44 call hs u) 0 1 4 5 8) eNil)=j6 (xsx call hs u rec2) 0 1 4 5 8 9:=by kernel_rfl
theorem x1ip:x2h4 call hs u xvj (j5 (x44 call hs u) 0 1 4 5 8) (setE 2 (j5 (x44 call hs u) 0 1 4 5 8) eNil)=j6 (x9g call hs u NN) 0 1 4 5 8 9:=lp (Ln:=fun n=>j6 (x9g call hs u n) 0 1 4 5 8 9) fun n=>tr x1io
theorem x1iq:x2h4 call hs u xvi (j5 (x44 call hs u) 0 1 4 5 8) eNil=j6 (x9g call hs u NN) 0 1 4 5 8 9:=bk x1ip
theorem x1ir:x2h4 call hs u xvb (j5 (x44 call hs u) 0 1 4 5 8) eNil=j5 (xj5 call hs u) 0 1 4 5 8:=tr (sqN 1 x1iq)
theorem x1is:x2h4 call hs u xkb r_17 eNil=j5 (xj5 call hs u) 0 1 4 5 8:=sq2 x1in x1ir
theorem x1it:x2h4 call hs u xva r_17 eNil=j4 (x2b call hs u) 0 1 4 5:=tr (sqN 1 x1is)
theorem x1iu{rec3:AV->AV->AV->AV->AV->AV->AV->Mem->Nat->O2}:x2h4 call hs u x1ie (j7 rec3 0 1 4 5 17 18 19) (setE 0 (j4 (x2b call hs u) 0 1 4 5) eNil)=j7 (xe4 call hs u rec3) 0 1 4 5 17 18 19:=by kernel_rfl
theorem x1iv{rec3:AV->AV->AV->AV->AV->AV->AV->Mem->Nat->O2}:x2h4 call hs u x1id (j7 (xe4 call hs u rec3) 0 1 4 5 17 18 19) (setE 0 (j4 (x2b call hs u) 0 1 4 5) eNil)=j7 (xj6 call hs u rec3) 0 1 4 5 17 18 19:=by kernel_rfl
theorem x1iw{rec3:AV->AV->AV->AV->AV->AV->AV->Mem->Nat->O2}:x2h4 call hs u xkd (j7 rec3 0 1 4 5 17 18 19) (setE 0 (j4 (x2b call hs u) 0 1 4 5) eNil)=j7 (xj6 call hs u rec3) 0 1 4 5 17 18 19:=sq2 x1iu x1iv
theorem x1ix{rec3:AV->AV->AV->AV->AV->AV->AV->Mem->Nat->O2}:x2h4 call hs u xvm (j7 rec3 0 1 4 5 17 18 19) (setE 0 (j4 (x2b call hs u) 0 1 4 5) eNil)=j7 (xsy call hs u rec3) 0 1 4 5 17 18 19:=tr (sqN 2 x1iw)
theorem x1iy:x2h4 call hs u xvl (j4 (x2b call hs u) 0 1 4 5) (setE 0 (j4 (x2b call hs u) 0 1 4 5) eNil)=j7 (x9h call hs u NN) 0 1 4 5 17 18 19:=lp (Ln:=fun n=>j7 (x9h call hs u n) 0 1 4 5 17 18 19) fun n=>tr x1ix
theorem x1iz:x2h4 call hs u xvk (j4 (x2b call hs u) 0 1 4 5) eNil=j7 (x9h call hs u NN) 0 1 4 5 17 18 19:=bk x1iy
theorem x1j0:x2h4 call hs u xv9 (j4 (x2b call hs u) 0 1 4 5) eNil=j4 (xj7 call hs u) 0 1 4 5:=tr (sqN 1 x1iz)
theorem x1j1:x2h4 call hs u xka r_17 eNil=j4 (xj7 call hs u) 0 1 4 5:=sq2 x1it x1j0
theorem x1h6:x2h4 call hs u xv8 r_17 eNil=j2 (xsz call hs u) 0 1:=tr (sqN 2 x1j1)
noncomputable abbrev x2jj:=VX xbc 53 r_2
noncomputable def xvn:=x2g6 xbc
noncomputable def xke:=nRs 2 xvn
noncomputable def xvo:=nL xke
noncomputable def x1j2:=nR xke
noncomputable def xvp:=nR xvo
noncomputable def xvq:=nR xvp
noncomputable def xvr:=nR xvq
noncomputable def xkf:=nRs 2 xvr
noncomputable def x1j3:=nL xkf
noncomputable def x1j4:=nR xkf
theorem x1j5:x2jj call hs u x1j2 r_2 eNil=j2 (x2c call hs u) 1 3:=by kernel_rfl
theorem x1j6{rec0:AV->AV->AV->AV->AV->Mem->Nat->O2}:x2jj call hs u x1j4 (j5 rec0 1 3 12 13 14) (setE 0 (j2 (x2c call hs u) 1 3) eNil)=j5 (xe5 call hs u rec0) 1 3 12 13 14:=by kernel_rfl
theorem x1j7{rec0:AV->AV->AV->AV->AV->Mem->Nat->O2}:x2jj call hs u x1j3 (j5 (xe5 call hs u rec0) 1 3 12 13 14) (setE 0 (j2 (x2c call hs u) 1 3) eNil)=j5 (xj8 call hs u rec0) 1 3 12 13 14:=by kernel_rfl
theorem x1j8{rec0:AV->AV->AV->AV->AV->Mem->Nat->O2}:x2jj call hs u xkf (j5 rec0 1 3 12 13 14) (setE 0 (j2 (x2c call hs u) 1 3) eNil)=j5 (xj8 call hs u rec0) 1 3 12 13 14:=sq2 x1j6 x1j7
theorem x1j9{rec0:AV->AV->AV->AV->AV->Mem->Nat->O2}:x2jj call hs u xvr (j5 rec0 1 3 12 13 14) (setE 0 (j2 (x2c call hs u) 1 3) eNil)=j5 (xt0 call hs u rec0) 1 3 12 13 14:=tr (sqN 2 x1j8)
theorem x1ja:x2jj call hs u xvq (j2 (x2c call hs u) 1 3) (setE 0 (j2 (x2c call hs u) 1 3) eNil)=j5 (x9i call hs u NN) 1 3 12 13 14:=lp (Ln:=fun n=>j5 (x9i call hs u n) 1 3 12 13 14) fun n=>tr x1j9
theorem x1jb:x2jj call hs u xvp (j2 (x2c call hs u) 1 3) eNil=j5 (x9i call hs u NN) 1 3 12 13 14:=bk x1ja
theorem x1jc:x2jj call hs u xvo (j2 (x2c call hs u) 1 3) eNil=j2 (xj9 call hs u) 1 3:=tr (sqN 1 x1jb)
theorem x1jd:x2jj call hs u xke r_2 eNil=j2 (xj9 call hs u) 1 3:=sq2 x1j5 x1jc
theorem x1h7:x2jj call hs u xvn r_2 eNil=j1 (xt1 call hs u) 0:=tr (sqN 2 x1jd)
noncomputable abbrev x2v4:=VX xaf 7 r_2
noncomputable def x1je:=x2g6 xaf
theorem x1ec:x2v4 call hs u x1je r_2 eNil=j1 (xt2 call hs u) 0:=by kernel_rfl
noncomputable abbrev x2v5:=VX xae 19 r_0
noncomputable def x1jf:=x2g6 xae
theorem x1eb:x2v5 call hs u x1jf r_0 eNil=j2 (xt3 call hs u) 0 1:=by kernel_rfl
noncomputable abbrev x2hn:=VX x7c 63 r_17
noncomputable def xvs:=x2g6 x7c
noncomputable def xkg:=nRs 2 xvs
noncomputable def xvt:=nL xkg
noncomputable def xvu:=nR xkg
noncomputable def xvv:=nR xvu
noncomputable def xvw:=nR xvv
noncomputable def xvx:=nR xvw
noncomputable def xvy:=nR xvx
noncomputable def xvz:=nR xvy
noncomputable def xkh:=nR xvz
noncomputable def xw0:=nL xkh
noncomputable def xki:=nR xkh
noncomputable def x1jg:=nL xki
noncomputable def x1jh:=nR xki
noncomputable def xw1:=nR xw0
noncomputable def x1ji:=nR xw1
noncomputable def xw2:=nR xvt
noncomputable def x1jj:=nR xw2
theorem x1jk{rec0:AV->AV->AV->AV->Mem->Nat->O2}:x2hn call hs u x1jh (j4 rec0 0 1 2 6) (setE 3 (j4 rec0 0 1 2 6) (setE 2 r_17 eNil))=j4 (xe6 call hs u rec0) 0 1 2 6:=by kernel_rfl
theorem x1jl{rec0:AV->AV->AV->AV->Mem->Nat->O2}:x2hn call hs u x1jg (j4 (xe6 call hs u rec0) 0 1 2 6) (setE 3 (j4 rec0 0 1 2 6) (setE 2 r_17 eNil))=j5 (x5e call hs u rec0) 0 1 2 6 7:=by kernel_rfl
theorem x1jm{rec0:AV->AV->AV->AV->Mem->Nat->O2}:x2hn call hs u xki (j4 rec0 0 1 2 6) (setE 3 (j4 rec0 0 1 2 6) (setE 2 r_17 eNil))=j5 (x5e call hs u rec0) 0 1 2 6 7:=sq2 x1jk x1jl
theorem x1jn{rec0:AV->AV->AV->AV->Mem->Nat->O2}{rec1:AV->AV->AV->AV->AV->AV->Mem->Nat->O2}:x2hn call hs u x1ji (j6 rec1 0 1 2 6 7 8) (setE 4 (j5 (x5e call hs u rec0) 0 1 2 6 7) (setE 3 (j4 rec0 0 1 2 6) (setE 2 r_17 eNil)))=j6 (xt4 call hs u rec0 rec1) 0 1 2 6 7 8:=by kernel_rfl
theorem x1jo{rec0:AV->AV->AV->AV->Mem->Nat->O2}:x2hn call hs u xw1 (j5 (x5e call hs u rec0) 0 1 2 6 7) (setE 4 (j5 (x5e call hs u rec0) 0 1 2 6 7) (setE 3 (j4 rec0 0 1 2 6) (setE 2 r_17 eNil)))=j6 (x6f call hs u rec0 NN) 0 1 2 6 7 8:=lp (Ln:=fun n=>j6 (x6f call hs u rec0 n) 0 1 2 6 7 8) fun n=>tr x1jn
theorem x1jp{rec0:AV->AV->AV->AV->Mem->Nat->O2}:x2hn call hs u xw0 (j5 (x5e call hs u rec0) 0 1 2 6 7) (setE 3 (j4 rec0 0 1 2 6) (setE 2 r_17 eNil))=j6 (x6f call hs u rec0 NN) 0 1 2 6 7 8:=bk x1jo
theorem x1jq{rec0:AV->AV->AV->AV->Mem->Nat->O2}:x2hn call hs u xkh (j4 rec0 0 1 2 6) (setE 3 (j4 rec0 0 1 2 6) (setE 2 r_17 eNil))=j6 (x6f call hs u rec0 NN) 0 1 2 6 7 8:=sq2 x1jm x1jp
theorem x1jr{rec0:AV->AV->AV->AV->Mem->Nat->O2}:x2hn call hs u xvz (j4 rec0 0 1 2 6) (setE 3 (j4 rec0 0 1 2 6) (setE 2 r_17 eNil))=j4 (xja call hs u rec0) 0 1 2 6:=tr (sqN 1 x1jq)
theorem x1js{rec0:AV->AV->AV->AV->Mem->Nat->O2}:x2hn call hs u xvy (j4 rec0 0 1 2 6) (setE 2 r_17 eNil)=j4 (xja call hs u rec0) 0 1 2 6:=bk x1jr
theorem x1jt{rec0:AV->AV->AV->AV->Mem->Nat->O2}:x2hn call hs u xvx (j4 rec0 0 1 2 6) (setE 2 r_17 eNil)=j4 (xjb call hs u rec0) 0 1 2 6:=tr (sqN 1 x1js)
theorem x1ju:x2hn call hs u xvw r_17 (setE 2 r_17 eNil)=j4 (x6g call hs u NN) 0 1 2 6:=lp (Ln:=fun n=>j4 (x6g call hs u n) 0 1 2 6) fun n=>tr x1jt
theorem x1jv:x2hn call hs u xvv r_17 eNil=j4 (x6g call hs u NN) 0 1 2 6:=bk x1ju
theorem x1jw:x2hn call hs u xvu r_17 eNil=j5 (x5f call hs u) 0 1 2 6 7:=tr (sqN 1 x1jv)
theorem x1jx{rec2:AV->AV->AV->AV->AV->AV->Mem->Nat->O2}:x2hn call hs u x1jj (j6 rec2 0 1 2 6 7 8) (setE 0 (j5 (x5f call hs u) 0 1 2 6 7) eNil)=j6 (xjc call hs u rec2) 0 1 2 6 7 8:=by kernel_rfl
theorem x1jy:x2hn call hs u xw2 (j5 (x5f call hs u) 0 1 2 6 7) (setE 0 (j5 (x5f call hs u) 0 1 2 6 7) eNil)=j6 (x5g call hs u NN) 0 1 2 6 7 8:=lp (Ln:=fun n=>j6 (x5g call hs u n) 0 1 2 6 7 8) fun n=>tr x1jx
theorem x1jz:x2hn call hs u xvt (j5 (x5f call hs u) 0 1 2 6 7) eNil=j6 (x5g call hs u NN) 0 1 2 6 7 8:=bk x1jy
theorem x1k0:x2hn call hs u xkg r_17 eNil=j6 (x5g call hs u NN) 0 1 2 6 7 8:=sq2 x1jw x1jz
theorem x1h8:x2hn call hs u xvs r_17 eNil=j3 (xjd call hs u) 0 1 2:=tr (sqN 2 x1k0)
noncomputable abbrev x2ik:=VX x4l 134 r_17
noncomputable def xw3:=x2g6 x4l
noncomputable def xw4:=nRs 2 xw3
noncomputable def xw5:=nR xw4
noncomputable def xw6:=nR xw5
noncomputable def xw7:=nR xw6
noncomputable def xkj:=nRs 3 xw7
noncomputable def x1k1:=nL xkj
noncomputable def xw8:=nR xkj
noncomputable def xkk:=nR xw8
noncomputable def x1k2:=nL xkk
noncomputable def xkl:=nR xkk
noncomputable def x1k3:=nL xkl
noncomputable def x1k4:=nR xkl
theorem x1k5{rec0:AV->AV->AV->AV->AV->AV->Mem->Nat->O2}:x2ik call hs u x1k4 (j6 rec0 0 1 2 3 8 9) (setE 1 (j6 rec0 0 1 2 3 8 9) (setE 0 r_17 eNil))=j8 (xe7 call hs u rec0) 0 1 2 3 8 9 10 11:=by kernel_rfl
theorem x1k6{rec0:AV->AV->AV->AV->AV->AV->Mem->Nat->O2}:x2ik call hs u x1k3 (j8 (xe7 call hs u rec0) 0 1 2 3 8 9 10 11) (setE 1 (j6 rec0 0 1 2 3 8 9) (setE 0 r_17 eNil))=j9 (x9j call hs u rec0) 0 1 2 3 8 9 10 11 12:=by kernel_rfl
theorem x1k7{rec0:AV->AV->AV->AV->AV->AV->Mem->Nat->O2}:x2ik call hs u xkl (j6 rec0 0 1 2 3 8 9) (setE 1 (j6 rec0 0 1 2 3 8 9) (setE 0 r_17 eNil))=j9 (x9j call hs u rec0) 0 1 2 3 8 9 10 11 12:=sq2 x1k5 x1k6
theorem x1k8{rec0:AV->AV->AV->AV->AV->AV->Mem->Nat->O2}:x2ik call hs u x1k2 (j9 (x9j call hs u rec0) 0 1 2 3 8 9 10 11 12) (setE 1 (j6 rec0 0 1 2 3 8 9) (setE 0 r_17 eNil))=j9 (xje call hs u rec0) 0 1 2 3 8 9 10 11 12:=by kernel_rfl
theorem x1k9{rec0:AV->AV->AV->AV->AV->AV->Mem->Nat->O2}:x2ik call hs u xkk (j6 rec0 0 1 2 3 8 9) (setE 1 (j6 rec0 0 1 2 3 8 9) (setE 0 r_17 eNil))=j9 (xje call hs u rec0) 0 1 2 3 8 9 10 11 12:=sq2 x1k7 x1k8
theorem x1ka{rec0:AV->AV->AV->AV->AV->AV->Mem->Nat->O2}:x2ik call hs u xw8 (j6 rec0 0 1 2 3 8 9) (setE 1 (j6 rec0 0 1 2 3 8 9) (setE 0 r_17 eNil))=j7 (xe8 call hs u rec0) 0 1 2 3 8 9 10:=tr (sqN 1 x1k9)
theorem x1kb{rec0:AV->AV->AV->AV->AV->AV->Mem->Nat->O2}:x2ik call hs u x1k1 (j7 (xe8 call hs u rec0) 0 1 2 3 8 9 10) (setE 1 (j6 rec0 0 1 2 3 8 9) (setE 0 r_17 eNil))=j7 (xjf call hs u rec0) 0 1 2 3 8 9 10:=by kernel_rfl
theorem x1kc{rec0:AV->AV->AV->AV->AV->AV->Mem->Nat->O2}:x2ik call hs u xkj (j6 rec0 0 1 2 3 8 9) (setE 1 (j6 rec0 0 1 2 3 8 9) (setE 0 r_17 eNil))=j7 (xjf call hs u rec0) 0 1 2 3 8 9 10:=sq2 x1ka x1kb
theorem x1kd{rec0:AV->AV->AV->AV->AV->AV->Mem->Nat->O2}:x2ik call hs u xw7 (j6 rec0 0 1 2 3 8 9) (setE 1 (j6 rec0 0 1 2 3 8 9) (setE 0 r_17 eNil))=j6 (xe9 call hs u rec0) 0 1 2 3 8 9:=tr (sqN 3 x1kc)
theorem x1ke{rec0:AV->AV->AV->AV->AV->AV->Mem->Nat->O2}:x2ik call hs u xw6 (j6 rec0 0 1 2 3 8 9) (setE 0 r_17 eNil)=j6 (xe9 call hs u rec0) 0 1 2 3 8 9:=bk x1kd
theorem x1kf:x2ik call hs u xw5 r_17 (setE 0 r_17 eNil)=j6 (x6h call hs u NN) 0 1 2 3 8 9:=lp (Ln:=fun n=>j6 (x6h call hs u n) 0 1 2 3 8 9) fun n=>tr x1ke
theorem x1kg:x2ik call hs u xw4 r_17 eNil=j6 (x6h call hs u NN) 0 1 2 3 8 9:=bk x1kf
theorem x1h9:x2ik call hs u xw3 r_17 eNil=j4 (xjg call hs u) 0 1 2 3:=tr (sqN 2 x1kg)
noncomputable abbrev x2v6:=VX x4m 8 r_2
noncomputable def x1kh:=x2g6 x4m
theorem x1ha:x2v6 call hs u x1kh r_2 eNil=j1 (xjh call hs u) 0:=by kernel_rfl
noncomputable abbrev x2v7:=VX x2m 15 r_1
noncomputable def x1ki:=x2g6 x2m
theorem x1e4:x2v7 call hs u x1ki r_1 eNil=j3 (xt5 call hs u) 0 1 2:=by kernel_rfl
noncomputable abbrev x2v8:=VX xbd 5 r_2
noncomputable def x1kj:=x2g6 xbd
theorem x1hb:x2v8 call hs u x1kj r_2 eNil=j1 (xt6 call hs u) 0:=by kernel_rfl
noncomputable abbrev x2v9:=VX xbe 5 r_2
noncomputable def x1kk:=x2g6 xbe
theorem x1hc:x2v9 call hs u x1kk r_2 eNil=j1 (xt7 call hs u) 0:=by kernel_rfl
noncomputable abbrev x2hy:=VX x4b 139 r_20
noncomputable abbrev x2t2:=VX (R:=Mem) x4b 139 fNil
noncomputable def xw9:=x2g6 x4b
noncomputable def xwa:=nRs 4 xw9
noncomputable def xwb:=nR xwa
noncomputable def xwc:=nR xwb
noncomputable def xwd:=nR xwc
noncomputable def xkm:=nR xwd
noncomputable def xwe:=nL xkm
noncomputable def xwf:=nR xkm
noncomputable def xwg:=nRs 3 xwf
noncomputable def xen:=nR xwg
noncomputable def x1kl:=nL xen
noncomputable def x1km:=nR xen
noncomputable def xwh:=nR xwe
noncomputable def xwi:=nR xwh
noncomputable def xwj:=nR xwi
noncomputable def xkn:=nRs 2 xwj
noncomputable def x1kn:=nL xkn
noncomputable def x1ko:=nR xkn
theorem x1kp:x2t2 call hs u x1km (fun s=>some s.m) eNil=j4 (xji call hs u) 2 5 7 10:=by kernel_rfl
theorem x1kq:x2t2 call hs u x1kl (j4 (xji call hs u) 2 5 7 10) eNil=j4 (xt8 call hs u) 2 5 7 87:=by kernel_rfl
theorem x1kr{rec0:AV->AV->AV->AV->Mem->Nat->O2}:x2hy call hs u xen (j4 rec0 2 4 5 6) (setE 4 (j4 rec0 2 4 5 6) (setE 1 (j4 rec0 2 4 5 6) (setE 0 r_20 eNil)))=j6 (xjj call hs u rec0) 2 4 5 6 7 86:=tr (rg (C:=xen) (c:={f:=x4b,u:=u,nt:=139,hs:=hs}) (f:=(.tmp 86)) (ps:=#[87]) (fun u=>x1kp) (fun u=>x1kq))
theorem x1ks{rec0:AV->AV->AV->AV->Mem->Nat->O2}:x2hy call hs u xwg (j4 rec0 2 4 5 6) (setE 1 (j4 rec0 2 4 5 6) (setE 0 r_20 eNil))=j6 (xjj call hs u rec0) 2 4 5 6 7 86:=bk x1kr
theorem x1kt{rec0:AV->AV->AV->AV->Mem->Nat->O2}:x2hy call hs u xwf (j4 rec0 2 4 5 6) (setE 1 (j4 rec0 2 4 5 6) (setE 0 r_20 eNil))=j5 (x2d call hs u rec0) 2 4 5 6 7:=tr (sqN 3 x1ks)
theorem x1ku{rec0:AV->AV->AV->AV->Mem->Nat->O2}{rec1:AV->AV->AV->AV->AV->AV->AV->AV->Mem->Nat->O2}:x2hy call hs u x1ko (j8 rec1 2 4 5 6 7 47 48 49) (setE 2 (j5 (x2d call hs u rec0) 2 4 5 6 7) (setE 1 (j4 rec0 2 4 5 6) (setE 0 r_20 eNil)))=j8 (xea call hs u rec0 rec1) 2 4 5 6 7 47 48 49:=by kernel_rfl
theorem x1kv{rec0:AV->AV->AV->AV->Mem->Nat->O2}{rec1:AV->AV->AV->AV->AV->AV->AV->AV->Mem->Nat->O2}:x2hy call hs u x1kn (j8 (xea call hs u rec0 rec1) 2 4 5 6 7 47 48 49) (setE 2 (j5 (x2d call hs u rec0) 2 4 5 6 7) (setE 1 (j4 rec0 2 4 5 6) (setE 0 r_20 eNil)))=j8 (xjk call hs u rec0 rec1) 2 4 5 6 7 47 48 49:=by kernel_rfl
theorem x1kw{rec0:AV->AV->AV->AV->Mem->Nat->O2}{rec1:AV->AV->AV->AV->AV->AV->AV->AV->Mem->Nat->O2}:x2hy call hs u xkn (j8 rec1 2 4 5 6 7 47 48 49) (setE 2 (j5 (x2d call hs u rec0) 2 4 5 6 7) (setE 1 (j4 rec0 2 4 5 6) (setE 0 r_20 eNil)))=j8 (xjk call hs u rec0 rec1) 2 4 5 6 7 47 48 49:=sq2 x1ku x1kv
theorem x1kx{rec0:AV->AV->AV->AV->Mem->Nat->O2}{rec1:AV->AV->AV->AV->AV->AV->AV->AV->Mem->Nat->O2}:x2hy call hs u xwj (j8 rec1 2 4 5 6 7 47 48 49) (setE 2 (j5 (x2d call hs u rec0) 2 4 5 6 7) (setE 1 (j4 rec0 2 4 5 6) (setE 0 r_20 eNil)))=j8 (xt9 call hs u rec0 rec1) 2 4 5 6 7 47 48 49:=tr (sqN 2 x1kw)
theorem x1ky{rec0:AV->AV->AV->AV->Mem->Nat->O2}:x2hy call hs u xwi (j5 (x2d call hs u rec0) 2 4 5 6 7) (setE 2 (j5 (x2d call hs u rec0) 2 4 5 6 7) (setE 1 (j4 rec0 2 4 5 6) (setE 0 r_20 eNil)))=j8 (x9l call hs u rec0 NN) 2 4 5 6 7 47 48 49:=lp (Ln:=fun n=>j8 (x9l call hs u rec0 n) 2 4 5 6 7 47 48 49) fun n=>tr x1kx
theorem x1kz{rec0:AV->AV->AV->AV->Mem->Nat->O2}:x2hy call hs u xwh (j5 (x2d call hs u rec0) 2 4 5 6 7) (setE 1 (j4 rec0 2 4 5 6) (setE 0 r_20 eNil))=j8 (x9l call hs u rec0 NN) 2 4 5 6 7 47 48 49:=bk x1ky
theorem x1l0{rec0:AV->AV->AV->AV->Mem->Nat->O2}:x2hy call hs u xwe (j5 (x2d call hs u rec0) 2 4 5 6 7) (setE 1 (j4 rec0 2 4 5 6) (setE 0 r_20 eNil))=j5 (xjl call hs u rec0) 2 4 5 6 7:=tr (sqN 1 x1kz)
theorem x1l1{rec0:AV->AV->AV->AV->Mem->Nat->O2}:x2hy call hs u xkm (j4 rec0 2 4 5 6) (setE 1 (j4 rec0 2 4 5 6) (setE 0 r_20 eNil))=j5 (xjl call hs u rec0) 2 4 5 6 7:=sq2 x1kt x1l0
theorem x1l2{rec0:AV->AV->AV->AV->Mem->Nat->O2}:x2hy call hs u xwd (j4 rec0 2 4 5 6) (setE 1 (j4 rec0 2 4 5 6) (setE 0 r_20 eNil))=j4 (xjm call hs u rec0) 2 4 5 6:=tr (sqN 1 x1l1)
theorem x1l3{rec0:AV->AV->AV->AV->Mem->Nat->O2}:x2hy call hs u xwc (j4 rec0 2 4 5 6) (setE 0 r_20 eNil)=j4 (xjm call hs u rec0) 2 4 5 6:=bk x1l2
theorem x1l4:x2hy call hs u xwb r_20 (setE 0 r_20 eNil)=j4 (x9m call hs u NN) 2 4 5 6:=lp (Ln:=fun n=>j4 (x9m call hs u n) 2 4 5 6) fun n=>tr x1l3
theorem x1l5:x2hy call hs u xwa r_20 eNil=j4 (x9m call hs u NN) 2 4 5 6:=bk x1l4
theorem x1e6:x2hy call hs u xw9 r_20 eNil=j2 (xta call hs u) 0 1:=tr (sqN 4 x1l5)
noncomputable abbrev x2iu:=VX x7d 48 r_0
noncomputable def xwk:=x2g6 x7d
noncomputable def xko:=nR xwk
noncomputable def x1l6:=nL xko
noncomputable def xwl:=nR xko
noncomputable def xkp:=nR xwl
noncomputable def x1l7:=nL xkp
noncomputable def xwm:=nR xkp
noncomputable def xkq:=nRs 2 xwm
noncomputable def xwn:=nL xkq
noncomputable def x1l8:=nR xkq
noncomputable def xwo:=nR xwn
noncomputable def x1l9:=nR xwo
theorem x1la:x2iu call hs u x1l8 r_0 eNil=j1 (x6i call hs u) 7:=by kernel_rfl
theorem x1lb{rec0:AV->AV->Mem->Nat->O2}:x2iu call hs u x1l9 (j2 rec0 7 8) (setE 0 (j1 (x6i call hs u) 7) eNil)=j2 (xtb call hs u rec0) 7 8:=by kernel_rfl
theorem x1lc:x2iu call hs u xwo (j1 (x6i call hs u) 7) (setE 0 (j1 (x6i call hs u) 7) eNil)=j2 (x6j call hs u NN) 7 8:=lp (Ln:=fun n=>j2 (x6j call hs u n) 7 8) fun n=>tr x1lb
theorem x1ld:x2iu call hs u xwn (j1 (x6i call hs u) 7) eNil=j2 (x6j call hs u NN) 7 8:=bk x1lc
theorem x1le:x2iu call hs u xkq r_0 eNil=j2 (x6j call hs u NN) 7 8:=sq2 x1la x1ld
theorem x1lf:x2iu call hs u xwm r_0 eNil=j2 (xjn call hs u) 0 6:=tr (sqN 2 x1le)
theorem x1lg:x2iu call hs u x1l7 (j2 (xjn call hs u) 0 6) eNil=j3 (xjo call hs u) 0 5 6:=by kernel_rfl
theorem x1lh:x2iu call hs u xkp r_0 eNil=j3 (xjo call hs u) 0 5 6:=sq2 x1lf x1lg
theorem x1li:x2iu call hs u xwl r_0 eNil=j2 (xjp call hs u) 0 1:=tr (sqN 1 x1lh)
theorem x1lj:x2iu call hs u x1l6 (j2 (xjp call hs u) 0 1) eNil=j2 (xjq call hs u) 0 1:=by kernel_rfl
theorem x1lk:x2iu call hs u xko r_0 eNil=j2 (xjq call hs u) 0 1:=sq2 x1li x1lj
theorem x1hd:x2iu call hs u xwk r_0 eNil=j2 (xtc call hs u) 0 1:=tr (sqN 1 x1lk)
noncomputable abbrev x2va:=VX xa9 18 r_17
noncomputable def x1ll:=x2g6 xa9
theorem x1e5:x2va call hs u x1ll r_17 eNil=j4 (xtd call hs u) 0 1 2 3:=by kernel_rfl
noncomputable abbrev x2of:=VX xab 20 r_17
noncomputable def xwp:=x2g6 xab
noncomputable def xwq:=nR xwp
noncomputable def xwr:=nR xwq
noncomputable def x1lm:=nR xwr
theorem x1ln{rec0:AV->AV->AV->AV->Mem->Nat->O2}:x2of call hs u x1lm (j4 rec0 1 10 11 12) (setE 0 r_17 eNil)=j4 (xte call hs u rec0) 1 10 11 12:=by kernel_rfl
theorem x1lo:x2of call hs u xwr r_17 (setE 0 r_17 eNil)=j4 (x9n call hs u NN) 1 10 11 12:=lp (Ln:=fun n=>j4 (x9n call hs u n) 1 10 11 12) fun n=>tr x1ln
theorem x1lp:x2of call hs u xwq r_17 eNil=j4 (x9n call hs u NN) 1 10 11 12:=bk x1lo
theorem x1e8:x2of call hs u xwp r_17 eNil=j3 (xtf call hs u) 0 1 2:=tr (sqN 1 x1lp)
noncomputable abbrev x2j3:=VX x4n 53 r_17
noncomputable def xws:=x2g6 x4n
noncomputable def xwt:=nR xws
noncomputable def xwu:=nR xwt
noncomputable def xwv:=nR xwu
noncomputable def xkr:=nR xwv
noncomputable def xww:=nL xkr
noncomputable def x1lq:=nR xkr
noncomputable def xwx:=nR xww
noncomputable def xwy:=nR xwx
noncomputable def xwz:=nR xwy
noncomputable def x1lr:=nR xwz
theorem x1ls{rec0:AV->AV->AV->AV->AV->Mem->Nat->O2}:x2j3 call hs u x1lq (j5 rec0 0 1 2 3 8) (setE 0 r_17 eNil)=j5 (x19 call hs u rec0) 0 1 2 3 8:=by kernel_rfl
theorem x1lt{rec0:AV->AV->AV->AV->AV->Mem->Nat->O2}{rec1:AV->AV->AV->AV->AV->AV->Mem->Nat->O2}:x2j3 call hs u x1lr (j6 rec1 0 1 2 3 8 9) (setE 2 (j5 (x19 call hs u rec0) 0 1 2 3 8) (setE 1 (j5 (x19 call hs u rec0) 0 1 2 3 8) (setE 0 r_17 eNil)))=j6 (xeb call hs u rec0 rec1) 0 1 2 3 8 9:=by kernel_rfl
theorem x1lu{rec0:AV->AV->AV->AV->AV->Mem->Nat->O2}:x2j3 call hs u xwz (j5 (x19 call hs u rec0) 0 1 2 3 8) (setE 2 (j5 (x19 call hs u rec0) 0 1 2 3 8) (setE 1 (j5 (x19 call hs u rec0) 0 1 2 3 8) (setE 0 r_17 eNil)))=j6 (x45 call hs u rec0 NN) 0 1 2 3 8 9:=lp (Ln:=fun n=>j6 (x45 call hs u rec0 n) 0 1 2 3 8 9) fun n=>tr x1lt
theorem x1lv{rec0:AV->AV->AV->AV->AV->Mem->Nat->O2}:x2j3 call hs u xwy (j5 (x19 call hs u rec0) 0 1 2 3 8) (setE 1 (j5 (x19 call hs u rec0) 0 1 2 3 8) (setE 0 r_17 eNil))=j6 (x45 call hs u rec0 NN) 0 1 2 3 8 9:=bk x1lu
theorem x1lw{rec0:AV->AV->AV->AV->AV->Mem->Nat->O2}:x2j3 call hs u xwx (j5 (x19 call hs u rec0) 0 1 2 3 8) (setE 1 (j5 (x19 call hs u rec0) 0 1 2 3 8) (setE 0 r_17 eNil))=j5 (x9o call hs u rec0) 0 1 2 3 8:=tr (sqN 1 x1lv)
theorem x1lx{rec0:AV->AV->AV->AV->AV->Mem->Nat->O2}:x2j3 call hs u xww (j5 (x19 call hs u rec0) 0 1 2 3 8) (setE 0 r_17 eNil)=j5 (x9o call hs u rec0) 0 1 2 3 8:=bk x1lw
theorem x1ly{rec0:AV->AV->AV->AV->AV->Mem->Nat->O2}:x2j3 call hs u xkr (j5 rec0 0 1 2 3 8) (setE 0 r_17 eNil)=j5 (x9o call hs u rec0) 0 1 2 3 8:=sq2 x1ls x1lx
theorem x1lz{rec0:AV->AV->AV->AV->AV->Mem->Nat->O2}:x2j3 call hs u xwv (j5 rec0 0 1 2 3 8) (setE 0 r_17 eNil)=j5 (x9p call hs u rec0) 0 1 2 3 8:=tr (sqN 1 x1ly)
theorem x1m0:x2j3 call hs u xwu r_17 (setE 0 r_17 eNil)=j5 (x2e call hs u NN) 0 1 2 3 8:=lp (Ln:=fun n=>j5 (x2e call hs u n) 0 1 2 3 8) fun n=>tr x1lz
theorem x1m1:x2j3 call hs u xwt r_17 eNil=j5 (x2e call hs u NN) 0 1 2 3 8:=bk x1m0
theorem x1he:x2j3 call hs u xws r_17 eNil=j4 (xjr call hs u) 0 1 2 3:=tr (sqN 1 x1m1)
noncomputable abbrev x2gj:=VX x4o 220 r_17
noncomputable def xks:=x2g6 x4o
noncomputable def xx0:=nL xks
noncomputable def xkt:=nR xks
noncomputable def xx1:=nL xkt
noncomputable def xx2:=nR xkt
noncomputable def xku:=nRs 3 xx2
noncomputable def x1m2:=nL xku
noncomputable def xx3:=nR xku
noncomputable def xkv:=nR xx3
noncomputable def xx4:=nL xkv
noncomputable def xx5:=nR xkv
noncomputable def xkw:=nR xx5
noncomputable def x1m3:=nL xkw
noncomputable def xkx:=nR xkw
noncomputable def x1m4:=nL xkx
noncomputable def x1m5:=nR xkx
noncomputable def xx6:=nR xx4
noncomputable def x1m6:=nR xx6
noncomputable def xky:=nR xx1
noncomputable def xx7:=nL xky
noncomputable def x1m7:=nR xky
noncomputable def xkz:=nRs 2 xx7
noncomputable def xx8:=nL xkz
noncomputable def xl0:=nR xkz
noncomputable def xx9:=nL xl0
noncomputable def x1m8:=nR xl0
noncomputable def xxa:=nR xx9
noncomputable def xxb:=nR xxa
noncomputable def x1m9:=nR xxb
noncomputable def xxc:=nR xx8
noncomputable def x1ma:=nR xxc
noncomputable def xl1:=nR xx0
noncomputable def xxd:=nL xl1
noncomputable def x1mb:=nR xl1
noncomputable def xl2:=nRs 2 xxd
noncomputable def xxe:=nL xl2
noncomputable def xl3:=nR xl2
noncomputable def xxf:=nL xl3
noncomputable def x1mc:=nR xl3
noncomputable def xxg:=nR xxf
noncomputable def xxh:=nR xxg
noncomputable def x1md:=nR xxh
noncomputable def xxi:=nR xxe
noncomputable def x1me:=nR xxi
theorem x1mf:x2gj call hs u x1m5 r_17 eNil=j5 (xec call hs u) 0 3 4 18 24:=by kernel_rfl
theorem x1mg:x2gj call hs u x1m4 (j5 (xec call hs u) 0 3 4 18 24) eNil=j7 (x9q call hs u) 0 1 3 4 18 20 24:=by kernel_rfl
theorem x1mh:x2gj call hs u xkx r_17 eNil=j7 (x9q call hs u) 0 1 3 4 18 20 24:=sq2 x1mf x1mg
theorem x1mi:x2gj call hs u x1m3 (j7 (x9q call hs u) 0 1 3 4 18 20 24) eNil=j8 (xjs call hs u) 0 1 2 3 4 18 20 24:=by kernel_rfl
theorem x1mj:x2gj call hs u xkw r_17 eNil=j8 (xjs call hs u) 0 1 2 3 4 18 20 24:=sq2 x1mh x1mi
theorem x1mk:x2gj call hs u xx5 r_17 eNil=j8 (x6k call hs u) 0 1 2 3 4 18 19 20:=tr (sqN 1 x1mj)
theorem x1ml{rec0:AV->AV->AV->AV->AV->AV->AV->AV->AV->AV->Mem->Nat->O2}:x2gj call hs u x1m6 (j10 rec0 0 1 2 3 4 18 19 20 21 22) (setE 8 (j8 (x6k call hs u) 0 1 2 3 4 18 19 20) eNil)=j10 (xtg call hs u rec0) 0 1 2 3 4 18 19 20 21 22:=by kernel_rfl
theorem x1mm:x2gj call hs u xx6 (j8 (x6k call hs u) 0 1 2 3 4 18 19 20) (setE 8 (j8 (x6k call hs u) 0 1 2 3 4 18 19 20) eNil)=j10 (x6l call hs u NN) 0 1 2 3 4 18 19 20 21 22:=lp (Ln:=fun n=>j10 (x6l call hs u n) 0 1 2 3 4 18 19 20 21 22) fun n=>tr x1ml
theorem x1mn:x2gj call hs u xx4 (j8 (x6k call hs u) 0 1 2 3 4 18 19 20) eNil=j10 (x6l call hs u NN) 0 1 2 3 4 18 19 20 21 22:=bk x1mm
theorem x1mo:x2gj call hs u xkv r_17 eNil=j10 (x6l call hs u NN) 0 1 2 3 4 18 19 20 21 22:=sq2 x1mk x1mn
theorem x1mp:x2gj call hs u xx3 r_17 eNil=j9 (xed call hs u) 0 1 2 3 4 18 19 20 21:=tr (sqN 1 x1mo)
theorem x1mq:x2gj call hs u x1m2 (j9 (xed call hs u) 0 1 2 3 4 18 19 20 21) eNil=j7 (xjt call hs u) 0 1 2 3 4 18 19:=by kernel_rfl
theorem x1mr:x2gj call hs u xku r_17 eNil=j7 (xjt call hs u) 0 1 2 3 4 18 19:=sq2 x1mp x1mq
theorem x1ms:x2gj call hs u xx2 r_17 eNil=j5 (x33 call hs u) 0 1 2 3 4:=tr (sqN 3 x1mr)
theorem x1mt:x2gj call hs u x1m8 (j5 (x33 call hs u) 0 1 2 3 4) eNil=j0 (x5h call hs u):=by kernel_rfl
theorem x1mu{rec1:AV->AV->AV->Mem->Nat->O2}:x2gj call hs u x1m9 (j3 rec1 0 14 17) (setE 6 (j0 (x5h call hs u)) eNil)=j3 (xth call hs u rec1) 0 14 17:=by kernel_rfl
theorem x1mv:x2gj call hs u xxb (j0 (x5h call hs u)) (setE 6 (j0 (x5h call hs u)) eNil)=j3 (x9r call hs u NN) 0 14 17:=lp (Ln:=fun n=>j3 (x9r call hs u n) 0 14 17) fun n=>tr x1mu
theorem x1mw:x2gj call hs u xxa (j0 (x5h call hs u)) eNil=j3 (x9r call hs u NN) 0 14 17:=bk x1mv
theorem x1mx:x2gj call hs u xx9 (j0 (x5h call hs u)) eNil=j3 (x5i call hs u) 0 2 14:=tr (sqN 1 x1mw)
theorem x1my:x2gj call hs u xl0 (j5 (x33 call hs u) 0 1 2 3 4) eNil=j3 (x5i call hs u) 0 2 14:=sq2 x1mt x1mx
theorem x1mz{rec2:AV->AV->AV->AV->AV->Mem->Nat->O2}:x2gj call hs u x1ma (j5 rec2 0 2 4 14 15) (setE 4 (j3 (x5i call hs u) 0 2 14) eNil)=j5 (xti call hs u rec2) 0 2 4 14 15:=by kernel_rfl
theorem x1n0:x2gj call hs u xxc (j3 (x5i call hs u) 0 2 14) (setE 4 (j3 (x5i call hs u) 0 2 14) eNil)=j5 (x6m call hs u NN) 0 2 4 14 15:=lp (Ln:=fun n=>j5 (x6m call hs u n) 0 2 4 14 15) fun n=>tr x1mz
theorem x1n1:x2gj call hs u xx8 (j3 (x5i call hs u) 0 2 14) eNil=j5 (x6m call hs u NN) 0 2 4 14 15:=bk x1n0
theorem x1n2:x2gj call hs u xkz (j5 (x33 call hs u) 0 1 2 3 4) eNil=j5 (x6m call hs u NN) 0 2 4 14 15:=sq2 x1my x1n1
theorem x1n3:x2gj call hs u xx7 (j5 (x33 call hs u) 0 1 2 3 4) eNil=j4 (xtj call hs u) 0 1 2 4:=tr (sqN 2 x1n2)
theorem x1n4:x2gj call hs u x1m7 (j5 (x33 call hs u) 0 1 2 3 4) eNil=j5 (xtk call hs u) 0 1 2 3 4:=by kernel_rfl
theorem x1n5:x2gj call hs u xky (j5 (x33 call hs u) 0 1 2 3 4) eNil=j6 (xtl call hs u) 0 1 2 3 4 80:=tr (cd x1n3 x1n4)
theorem x1n6:x2gj call hs u xx1 (j5 (x33 call hs u) 0 1 2 3 4) eNil=j5 (x2f call hs u) 0 1 2 3 4:=tr (sqN 1 x1n5)
theorem x1n7:x2gj call hs u xkt r_17 eNil=j5 (x2f call hs u) 0 1 2 3 4:=sq2 x1ms x1n6
theorem x1n8:x2gj call hs u x1mc (j5 (x2f call hs u) 0 1 2 3 4) eNil=j0 (x5j call hs u):=by kernel_rfl
theorem x1n9{rec3:AV->AV->AV->Mem->Nat->O2}:x2gj call hs u x1md (j3 rec3 0 10 13) (setE 2 (j0 (x5j call hs u)) eNil)=j3 (xtm call hs u rec3) 0 10 13:=by kernel_rfl
theorem x1na:x2gj call hs u xxh (j0 (x5j call hs u)) (setE 2 (j0 (x5j call hs u)) eNil)=j3 (x9s call hs u NN) 0 10 13:=lp (Ln:=fun n=>j3 (x9s call hs u n) 0 10 13) fun n=>tr x1n9
theorem x1nb:x2gj call hs u xxg (j0 (x5j call hs u)) eNil=j3 (x9s call hs u NN) 0 10 13:=bk x1na
theorem x1nc:x2gj call hs u xxf (j0 (x5j call hs u)) eNil=j3 (x5k call hs u) 0 1 10:=tr (sqN 1 x1nb)
theorem x1nd:x2gj call hs u xl3 (j5 (x2f call hs u) 0 1 2 3 4) eNil=j3 (x5k call hs u) 0 1 10:=sq2 x1n8 x1nc
theorem x1ne{rec4:AV->AV->AV->AV->AV->Mem->Nat->O2}:x2gj call hs u x1me (j5 rec4 0 1 4 10 11) (setE 0 (j3 (x5k call hs u) 0 1 10) eNil)=j5 (xtn call hs u rec4) 0 1 4 10 11:=by kernel_rfl
theorem x1nf:x2gj call hs u xxi (j3 (x5k call hs u) 0 1 10) (setE 0 (j3 (x5k call hs u) 0 1 10) eNil)=j5 (x6n call hs u NN) 0 1 4 10 11:=lp (Ln:=fun n=>j5 (x6n call hs u n) 0 1 4 10 11) fun n=>tr x1ne
theorem x1ng:x2gj call hs u xxe (j3 (x5k call hs u) 0 1 10) eNil=j5 (x6n call hs u NN) 0 1 4 10 11:=bk x1nf
theorem x1nh:x2gj call hs u xl2 (j5 (x2f call hs u) 0 1 2 3 4) eNil=j5 (x6n call hs u NN) 0 1 4 10 11:=sq2 x1nd x1ng
theorem x1ni:x2gj call hs u xxd (j5 (x2f call hs u) 0 1 2 3 4) eNil=j5 (xto call hs u) 0 1 2 3 4:=tr (sqN 2 x1nh)
theorem x1nj:x2gj call hs u x1mb (j5 (x2f call hs u) 0 1 2 3 4) eNil=j5 (xtp call hs u) 0 1 2 3 4:=by kernel_rfl
theorem x1nk:x2gj call hs u xl1 (j5 (x2f call hs u) 0 1 2 3 4) eNil=j6 (xtq call hs u) 0 1 2 3 4 28:=tr (cd x1ni x1nj)
theorem x1nl:x2gj call hs u xx0 (j5 (x2f call hs u) 0 1 2 3 4) eNil=j5 (xju call hs u) 0 1 2 3 4:=tr (sqN 1 x1nk)
theorem x1hf:x2gj call hs u xks r_17 eNil=j5 (xju call hs u) 0 1 2 3 4:=sq2 x1n7 x1nl
noncomputable abbrev x2j4:=VX x62 49 r_17
noncomputable def xxj:=x2g6 x62
noncomputable def xxk:=nR xxj
noncomputable def xxl:=nR xxk
noncomputable def xxm:=nR xxl
noncomputable def xl4:=nR xxm
noncomputable def xxn:=nL xl4
noncomputable def x1nm:=nR xl4
noncomputable def xxo:=nR xxn
noncomputable def xxp:=nR xxo
noncomputable def xxq:=nR xxp
noncomputable def x1nn:=nR xxq
theorem x1no{rec0:AV->AV->AV->AV->Mem->Nat->O2}:x2j4 call hs u x1nm (j4 rec0 0 1 2 6) (setE 0 r_17 eNil)=j4 (x1a call hs u rec0) 0 1 2 6:=by kernel_rfl
theorem x1np{rec0:AV->AV->AV->AV->Mem->Nat->O2}{rec1:AV->AV->AV->AV->AV->Mem->Nat->O2}:x2j4 call hs u x1nn (j5 rec1 0 1 2 6 7) (setE 2 (j4 (x1a call hs u rec0) 0 1 2 6) (setE 1 (j4 (x1a call hs u rec0) 0 1 2 6) (setE 0 r_17 eNil)))=j5 (xee call hs u rec0 rec1) 0 1 2 6 7:=by kernel_rfl
theorem x1nq{rec0:AV->AV->AV->AV->Mem->Nat->O2}:x2j4 call hs u xxq (j4 (x1a call hs u rec0) 0 1 2 6) (setE 2 (j4 (x1a call hs u rec0) 0 1 2 6) (setE 1 (j4 (x1a call hs u rec0) 0 1 2 6) (setE 0 r_17 eNil)))=j5 (x46 call hs u rec0 NN) 0 1 2 6 7:=lp (Ln:=fun n=>j5 (x46 call hs u rec0 n) 0 1 2 6 7) fun n=>tr x1np
theorem x1nr{rec0:AV->AV->AV->AV->Mem->Nat->O2}:x2j4 call hs u xxp (j4 (x1a call hs u rec0) 0 1 2 6) (setE 1 (j4 (x1a call hs u rec0) 0 1 2 6) (setE 0 r_17 eNil))=j5 (x46 call hs u rec0 NN) 0 1 2 6 7:=bk x1nq
theorem x1ns{rec0:AV->AV->AV->AV->Mem->Nat->O2}:x2j4 call hs u xxo (j4 (x1a call hs u rec0) 0 1 2 6) (setE 1 (j4 (x1a call hs u rec0) 0 1 2 6) (setE 0 r_17 eNil))=j4 (x9t call hs u rec0) 0 1 2 6:=tr (sqN 1 x1nr)
theorem x1nt{rec0:AV->AV->AV->AV->Mem->Nat->O2}:x2j4 call hs u xxn (j4 (x1a call hs u rec0) 0 1 2 6) (setE 0 r_17 eNil)=j4 (x9t call hs u rec0) 0 1 2 6:=bk x1ns
theorem x1nu{rec0:AV->AV->AV->AV->Mem->Nat->O2}:x2j4 call hs u xl4 (j4 rec0 0 1 2 6) (setE 0 r_17 eNil)=j4 (x9t call hs u rec0) 0 1 2 6:=sq2 x1no x1nt
theorem x1nv{rec0:AV->AV->AV->AV->Mem->Nat->O2}:x2j4 call hs u xxm (j4 rec0 0 1 2 6) (setE 0 r_17 eNil)=j4 (x9u call hs u rec0) 0 1 2 6:=tr (sqN 1 x1nu)
theorem x1nw:x2j4 call hs u xxl r_17 (setE 0 r_17 eNil)=j4 (x2g call hs u NN) 0 1 2 6:=lp (Ln:=fun n=>j4 (x2g call hs u n) 0 1 2 6) fun n=>tr x1nv
theorem x1nx:x2j4 call hs u xxk r_17 eNil=j4 (x2g call hs u NN) 0 1 2 6:=bk x1nw
theorem x1hg:x2j4 call hs u xxj r_17 eNil=j3 (xjv call hs u) 0 1 2:=tr (sqN 1 x1nx)
noncomputable abbrev x2jk:=VX xbf 56 r_17
noncomputable def xxr:=x2g6 xbf
noncomputable def xl5:=nRs 3 xxr
noncomputable def xxs:=nL xl5
noncomputable def xxt:=nR xl5
noncomputable def xxu:=nR xxt
noncomputable def xxv:=nR xxu
noncomputable def x1ny:=nR xxv
noncomputable def xxw:=nR xxs
noncomputable def xxx:=nR xxw
noncomputable def x1nz:=nR xxx
theorem x1o0{rec0:AV->AV->AV->AV->Mem->Nat->O2}:x2jk call hs u x1ny (j4 rec0 0 6 7 10) (setE 2 r_17 eNil)=j4 (xtr call hs u rec0) 0 6 7 10:=by kernel_rfl
theorem x1o1:x2jk call hs u xxv r_17 (setE 2 r_17 eNil)=j4 (x9v call hs u NN) 0 6 7 10:=lp (Ln:=fun n=>j4 (x9v call hs u n) 0 6 7 10) fun n=>tr x1o0
theorem x1o2:x2jk call hs u xxu r_17 eNil=j4 (x9v call hs u NN) 0 6 7 10:=bk x1o1
theorem x1o3:x2jk call hs u xxt r_17 eNil=j4 (x5l call hs u) 0 6 7 8:=tr (sqN 1 x1o2)
theorem x1o4{rec1:AV->AV->AV->AV->AV->Mem->Nat->O2}:x2jk call hs u x1nz (j5 rec1 0 6 7 8 9) (setE 0 (j4 (x5l call hs u) 0 6 7 8) eNil)=j5 (xts call hs u rec1) 0 6 7 8 9:=by kernel_rfl
theorem x1o5:x2jk call hs u xxx (j4 (x5l call hs u) 0 6 7 8) (setE 0 (j4 (x5l call hs u) 0 6 7 8) eNil)=j5 (x9w call hs u NN) 0 6 7 8 9:=lp (Ln:=fun n=>j5 (x9w call hs u n) 0 6 7 8 9) fun n=>tr x1o4
theorem x1o6:x2jk call hs u xxw (j4 (x5l call hs u) 0 6 7 8) eNil=j5 (x9w call hs u NN) 0 6 7 8 9:=bk x1o5
theorem x1o7:x2jk call hs u xxs (j4 (x5l call hs u) 0 6 7 8) eNil=j4 (xjw call hs u) 0 6 7 8:=tr (sqN 1 x1o6)
theorem x1o8:x2jk call hs u xl5 r_17 eNil=j4 (xjw call hs u) 0 6 7 8:=sq2 x1o3 x1o7
theorem x1hh:x2jk call hs u xxr r_17 eNil=j3 (xtt call hs u) 0 1 2:=tr (sqN 3 x1o8)
noncomputable abbrev x2ia:=VX xbg 65 r_17
noncomputable def xxy:=x2g6 xbg
noncomputable def xl6:=nRs 2 xxy
noncomputable def xxz:=nL xl6
noncomputable def x1o9:=nR xl6
noncomputable def xy0:=nRs 3 xxz
noncomputable def xy1:=nR xy0
noncomputable def xy2:=nR xy1
noncomputable def xl7:=nR xy2
noncomputable def xy3:=nL xl7
noncomputable def x1oa:=nR xl7
noncomputable def xy4:=nR xy3
noncomputable def xl8:=nR xy4
noncomputable def x1ob:=nL xl8
noncomputable def x1oc:=nR xl8
theorem x1od{rec0:AV->AV->AV->AV->AV->AV->Mem->Nat->O2}:x2ia call hs u x1oa (j6 rec0 0 1 6 7 8 9) (setE 0 r_17 eNil)=j6 (x2h call hs u rec0) 0 1 6 7 8 9:=by kernel_rfl
theorem x1oe{rec0:AV->AV->AV->AV->AV->AV->Mem->Nat->O2}:x2ia call hs u x1oc (j6 (x2h call hs u rec0) 0 1 6 7 8 9) (setE 1 (j6 (x2h call hs u rec0) 0 1 6 7 8 9) (setE 0 r_17 eNil))=j7 (xef call hs u rec0) 0 1 6 7 8 9 10:=by kernel_rfl
theorem x1of{rec0:AV->AV->AV->AV->AV->AV->Mem->Nat->O2}:x2ia call hs u x1ob (j7 (xef call hs u rec0) 0 1 6 7 8 9 10) (setE 1 (j6 (x2h call hs u rec0) 0 1 6 7 8 9) (setE 0 r_17 eNil))=j7 (xjx call hs u rec0) 0 1 6 7 8 9 10:=by kernel_rfl
theorem x1og{rec0:AV->AV->AV->AV->AV->AV->Mem->Nat->O2}:x2ia call hs u xl8 (j6 (x2h call hs u rec0) 0 1 6 7 8 9) (setE 1 (j6 (x2h call hs u rec0) 0 1 6 7 8 9) (setE 0 r_17 eNil))=j7 (xjx call hs u rec0) 0 1 6 7 8 9 10:=sq2 x1oe x1of
theorem x1oh{rec0:AV->AV->AV->AV->AV->AV->Mem->Nat->O2}:x2ia call hs u xy4 (j6 (x2h call hs u rec0) 0 1 6 7 8 9) (setE 1 (j6 (x2h call hs u rec0) 0 1 6 7 8 9) (setE 0 r_17 eNil))=j6 (xeg call hs u rec0) 0 1 6 7 8 9:=tr (sqN 1 x1og)
theorem x1oi{rec0:AV->AV->AV->AV->AV->AV->Mem->Nat->O2}:x2ia call hs u xy3 (j6 (x2h call hs u rec0) 0 1 6 7 8 9) (setE 0 r_17 eNil)=j6 (xeg call hs u rec0) 0 1 6 7 8 9:=bk x1oh
theorem x1oj{rec0:AV->AV->AV->AV->AV->AV->Mem->Nat->O2}:x2ia call hs u xl7 (j6 rec0 0 1 6 7 8 9) (setE 0 r_17 eNil)=j6 (xeg call hs u rec0) 0 1 6 7 8 9:=sq2 x1od x1oi
theorem x1ok{rec0:AV->AV->AV->AV->AV->AV->Mem->Nat->O2}:x2ia call hs u xy2 (j6 rec0 0 1 6 7 8 9) (setE 0 r_17 eNil)=j6 (xtu call hs u rec0) 0 1 6 7 8 9:=tr (sqN 1 x1oj)
theorem x1ol:x2ia call hs u xy1 r_17 (setE 0 r_17 eNil)=j6 (x9x call hs u NN) 0 1 6 7 8 9:=lp (Ln:=fun n=>j6 (x9x call hs u n) 0 1 6 7 8 9) fun n=>tr x1ok
theorem x1om:x2ia call hs u xy0 r_17 eNil=j6 (x9x call hs u NN) 0 1 6 7 8 9:=bk x1ol
theorem x1on:x2ia call hs u xxz r_17 eNil=j3 (xtv call hs u) 0 1 6:=tr (sqN 3 x1om)
theorem x1oo:x2ia call hs u x1o9 r_17 eNil=j0 (xtw call hs u):=by kernel_rfl
theorem x1op:x2ia call hs u xl6 r_17 eNil=j4 (xtx call hs u) 0 1 6 15:=tr (cd x1on x1oo)
theorem x1hi:x2ia call hs u xxy r_17 eNil=j3 (xty call hs u) 0 1 2:=tr (sqN 2 x1op)
noncomputable abbrev x2k8:=VX xbh 57 r_7
noncomputable def xy5:=x2g6 xbh
noncomputable def xl9:=nRs 6 xy5
noncomputable def xy6:=nL xl9
noncomputable def x1oq:=nR xl9
noncomputable def xla:=nR xy6
noncomputable def xlb:=nL xla
noncomputable def x1or:=nR xla
noncomputable def x1os:=nL xlb
noncomputable def x1ot:=nR xlb
theorem x1ou:x2k8 call hs u x1oq r_7 eNil=j2 (x48 call hs u) 9 11:=by kernel_rfl
theorem x1ov:x2k8 call hs u x1ot (j2 (x48 call hs u) 9 11) eNil=j5 (xeh call hs u) 0 9 10 11 12:=by kernel_rfl
theorem x1ow:x2k8 call hs u x1os (j5 (xeh call hs u) 0 9 10 11 12) eNil=j6 (xjy call hs u) 0 8 9 10 11 12:=by kernel_rfl
theorem x1ox:x2k8 call hs u xlb (j2 (x48 call hs u) 9 11) eNil=j6 (xjy call hs u) 0 8 9 10 11 12:=sq2 x1ov x1ow
theorem x1oy:x2k8 call hs u x1or (j2 (x48 call hs u) 9 11) eNil=j2 (xtz call hs u) 9 11:=by kernel_rfl
theorem x1oz:x2k8 call hs u xla (j2 (x48 call hs u) 9 11) eNil=j7 (xu0 call hs u) 0 8 9 10 11 12 32:=tr (cd x1ox x1oy)
theorem x1p0:x2k8 call hs u xy6 (j2 (x48 call hs u) 9 11) eNil=j6 (xjz call hs u) 0 8 9 10 11 12:=tr (sqN 1 x1oz)
theorem x1p1:x2k8 call hs u xl9 r_7 eNil=j6 (xjz call hs u) 0 8 9 10 11 12:=sq2 x1ou x1p0
theorem x1hj:x2k8 call hs u xy5 r_7 eNil=j3 (xu1 call hs u) 0 1 2:=tr (sqN 6 x1p1)
noncomputable abbrev x2og:=VX xbi 32 r_17
noncomputable def xy7:=x2g6 xbi
noncomputable def xy8:=nRs 2 xy7
noncomputable def xy9:=nR xy8
noncomputable def x1p2:=nR xy9
theorem x1p3{rec0:AV->AV->AV->Mem->Nat->O2}:x2og call hs u x1p2 (j3 rec0 0 6 7) (setE 0 r_17 eNil)=j3 (xu2 call hs u rec0) 0 6 7:=by kernel_rfl
theorem x1p4:x2og call hs u xy9 r_17 (setE 0 r_17 eNil)=j3 (x9y call hs u NN) 0 6 7:=lp (Ln:=fun n=>j3 (x9y call hs u n) 0 6 7) fun n=>tr x1p3
theorem x1p5:x2og call hs u xy8 r_17 eNil=j3 (x9y call hs u NN) 0 6 7:=bk x1p4
theorem x1hk:x2og call hs u xy7 r_17 eNil=j3 (xu3 call hs u) 0 1 2:=tr (sqN 2 x1p5)
noncomputable abbrev x2gt:=VX xbj 133 r_1
noncomputable def xya:=x2g6 xbj
noncomputable def xlc:=nRs 2 xya
noncomputable def xyb:=nL xlc
noncomputable def x1p6:=nR xlc
noncomputable def xyc:=nR xyb
noncomputable def xyd:=nR xyc
noncomputable def xye:=nR xyd
noncomputable def xld:=nR xye
noncomputable def xyf:=nL xld
noncomputable def x1p7:=nR xld
noncomputable def xle:=nR xyf
noncomputable def xyg:=nL xle
noncomputable def xyh:=nR xle
noncomputable def xlf:=nRs 3 xyh
noncomputable def xyi:=nL xlf
noncomputable def xyj:=nR xlf
noncomputable def xlg:=nR xyj
noncomputable def xyk:=nL xlg
noncomputable def x1p8:=nR xlg
noncomputable def xyl:=nR xyk
noncomputable def xym:=nR xyl
noncomputable def x1p9:=nR xym
noncomputable def xlh:=nR xyi
noncomputable def xyn:=nL xlh
noncomputable def x1pa:=nR xlh
noncomputable def xyo:=nR xyn
noncomputable def xyp:=nR xyo
noncomputable def x1pb:=nR xyp
noncomputable def xyq:=nR xyg
noncomputable def x1pc:=nR xyq
theorem x1pd:x2gt call hs u x1p6 r_1 eNil=j0 (x7 call hs u):=by kernel_rfl
theorem x1pe{rec0:AV->AV->AV->AV->AV->Mem->Nat->O2}:x2gt call hs u x1p7 (j5 rec0 0 1 2 7 8) (setE 0 (j0 (x7 call hs u)) eNil)=j5 (x5 call hs u rec0) 0 1 2 7 8:=by kernel_rfl
theorem x1pf{rec0:AV->AV->AV->AV->AV->Mem->Nat->O2}{rec1:AV->AV->AV->AV->AV->AV->Mem->Nat->O2}:x2gt call hs u x1p9 (j6 rec1 0 1 2 7 8 10) (setE 6 (j5 (x5 call hs u rec0) 0 1 2 7 8) (setE 1 (j5 (x5 call hs u rec0) 0 1 2 7 8) (setE 0 (j0 (x7 call hs u)) eNil)))=j6 (xu4 call hs u rec0 rec1) 0 1 2 7 8 10:=by kernel_rfl
theorem x1pg{rec0:AV->AV->AV->AV->AV->Mem->Nat->O2}:x2gt call hs u xym (j5 (x5 call hs u rec0) 0 1 2 7 8) (setE 6 (j5 (x5 call hs u rec0) 0 1 2 7 8) (setE 1 (j5 (x5 call hs u rec0) 0 1 2 7 8) (setE 0 (j0 (x7 call hs u)) eNil)))=j6 (x9z call hs u rec0 NN) 0 1 2 7 8 10:=lp (Ln:=fun n=>j6 (x9z call hs u rec0 n) 0 1 2 7 8 10) fun n=>tr x1pf
theorem x1ph{rec0:AV->AV->AV->AV->AV->Mem->Nat->O2}:x2gt call hs u xyl (j5 (x5 call hs u rec0) 0 1 2 7 8) (setE 1 (j5 (x5 call hs u rec0) 0 1 2 7 8) (setE 0 (j0 (x7 call hs u)) eNil))=j6 (x9z call hs u rec0 NN) 0 1 2 7 8 10:=bk x1pg
theorem x1pi{rec0:AV->AV->AV->AV->AV->Mem->Nat->O2}:x2gt call hs u xyk (j5 (x5 call hs u rec0) 0 1 2 7 8) (setE 1 (j5 (x5 call hs u rec0) 0 1 2 7 8) (setE 0 (j0 (x7 call hs u)) eNil))=j5 (xu5 call hs u rec0) 0 1 2 7 8:=tr (sqN 1 x1ph)
theorem x1pj{rec0:AV->AV->AV->AV->AV->Mem->Nat->O2}:x2gt call hs u x1p8 (j5 (x5 call hs u rec0) 0 1 2 7 8) (setE 1 (j5 (x5 call hs u rec0) 0 1 2 7 8) (setE 0 (j0 (x7 call hs u)) eNil))=j5 (xu6 call hs u rec0) 0 1 2 7 8:=by kernel_rfl
theorem x1pk{rec0:AV->AV->AV->AV->AV->Mem->Nat->O2}:x2gt call hs u xlg (j5 (x5 call hs u rec0) 0 1 2 7 8) (setE 1 (j5 (x5 call hs u rec0) 0 1 2 7 8) (setE 0 (j0 (x7 call hs u)) eNil))=j6 (xu7 call hs u rec0) 0 1 2 7 8 98:=tr (cd x1pi x1pj)
theorem x1pl{rec0:AV->AV->AV->AV->AV->Mem->Nat->O2}:x2gt call hs u xyj (j5 (x5 call hs u rec0) 0 1 2 7 8) (setE 1 (j5 (x5 call hs u rec0) 0 1 2 7 8) (setE 0 (j0 (x7 call hs u)) eNil))=j5 (x1f call hs u rec0) 0 1 2 7 8:=tr (sqN 1 x1pk)
theorem x1pm{rec0:AV->AV->AV->AV->AV->Mem->Nat->O2}{rec2:AV->AV->AV->AV->AV->AV->Mem->Nat->O2}:x2gt call hs u x1pb (j6 rec2 0 1 2 7 8 9) (setE 4 (j5 (x1f call hs u rec0) 0 1 2 7 8) (setE 1 (j5 (x5 call hs u rec0) 0 1 2 7 8) (setE 0 (j0 (x7 call hs u)) eNil)))=j6 (xu8 call hs u rec0 rec2) 0 1 2 7 8 9:=by kernel_rfl
theorem x1pn{rec0:AV->AV->AV->AV->AV->Mem->Nat->O2}:x2gt call hs u xyp (j5 (x1f call hs u rec0) 0 1 2 7 8) (setE 4 (j5 (x1f call hs u rec0) 0 1 2 7 8) (setE 1 (j5 (x5 call hs u rec0) 0 1 2 7 8) (setE 0 (j0 (x7 call hs u)) eNil)))=j6 (xa0 call hs u rec0 NN) 0 1 2 7 8 9:=lp (Ln:=fun n=>j6 (xa0 call hs u rec0 n) 0 1 2 7 8 9) fun n=>tr x1pm
theorem x1po{rec0:AV->AV->AV->AV->AV->Mem->Nat->O2}:x2gt call hs u xyo (j5 (x1f call hs u rec0) 0 1 2 7 8) (setE 1 (j5 (x5 call hs u rec0) 0 1 2 7 8) (setE 0 (j0 (x7 call hs u)) eNil))=j6 (xa0 call hs u rec0 NN) 0 1 2 7 8 9:=bk x1pn
theorem x1pp{rec0:AV->AV->AV->AV->AV->Mem->Nat->O2}:x2gt call hs u xyn (j5 (x1f call hs u rec0) 0 1 2 7 8) (setE 1 (j5 (x5 call hs u rec0) 0 1 2 7 8) (setE 0 (j0 (x7 call hs u)) eNil))=j5 (xu9 call hs u rec0) 0 1 2 7 8:=tr (sqN 1 x1po)
theorem x1pq{rec0:AV->AV->AV->AV->AV->Mem->Nat->O2}:x2gt call hs u x1pa (j5 (x1f call hs u rec0) 0 1 2 7 8) (setE 1 (j5 (x5 call hs u rec0) 0 1 2 7 8) (setE 0 (j0 (x7 call hs u)) eNil))=j5 (xua call hs u rec0) 0 1 2 7 8:=by kernel_rfl
theorem x1pr{rec0:AV->AV->AV->AV->AV->Mem->Nat->O2}:x2gt call hs u xlh (j5 (x1f call hs u rec0) 0 1 2 7 8) (setE 1 (j5 (x5 call hs u rec0) 0 1 2 7 8) (setE 0 (j0 (x7 call hs u)) eNil))=j6 (xub call hs u rec0) 0 1 2 7 8 61:=tr (cd x1pp x1pq)
theorem x1ps{rec0:AV->AV->AV->AV->AV->Mem->Nat->O2}:x2gt call hs u xyi (j5 (x1f call hs u rec0) 0 1 2 7 8) (setE 1 (j5 (x5 call hs u rec0) 0 1 2 7 8) (setE 0 (j0 (x7 call hs u)) eNil))=j5 (xk0 call hs u rec0) 0 1 2 7 8:=tr (sqN 1 x1pr)
theorem x1pt{rec0:AV->AV->AV->AV->AV->Mem->Nat->O2}:x2gt call hs u xlf (j5 (x5 call hs u rec0) 0 1 2 7 8) (setE 1 (j5 (x5 call hs u rec0) 0 1 2 7 8) (setE 0 (j0 (x7 call hs u)) eNil))=j5 (xk0 call hs u rec0) 0 1 2 7 8:=sq2 x1pl x1ps
theorem x1pu{rec0:AV->AV->AV->AV->AV->Mem->Nat->O2}:x2gt call hs u xyh (j5 (x5 call hs u rec0) 0 1 2 7 8) (setE 1 (j5 (x5 call hs u rec0) 0 1 2 7 8) (setE 0 (j0 (x7 call hs u)) eNil))=j5 (x6o call hs u rec0) 0 1 2 7 8:=tr (sqN 3 x1pt)
theorem x1pv{rec0:AV->AV->AV->AV->AV->Mem->Nat->O2}{rec3:AV->AV->AV->AV->AV->Mem->Nat->O2}:x2gt call hs u x1pc (j5 rec3 0 1 2 7 8) (setE 2 (j5 (x6o call hs u rec0) 0 1 2 7 8) (setE 1 (j5 (x5 call hs u rec0) 0 1 2 7 8) (setE 0 (j0 (x7 call hs u)) eNil)))=j5 (xuc call hs u rec0 rec3) 0 1 2 7 8:=by kernel_rfl
theorem x1pw{rec0:AV->AV->AV->AV->AV->Mem->Nat->O2}:x2gt call hs u xyq (j5 (x6o call hs u rec0) 0 1 2 7 8) (setE 2 (j5 (x6o call hs u rec0) 0 1 2 7 8) (setE 1 (j5 (x5 call hs u rec0) 0 1 2 7 8) (setE 0 (j0 (x7 call hs u)) eNil)))=j5 (x49 call hs u rec0 NN) 0 1 2 7 8:=lp (Ln:=fun n=>j5 (x49 call hs u rec0 n) 0 1 2 7 8) fun n=>tr x1pv
theorem x1px{rec0:AV->AV->AV->AV->AV->Mem->Nat->O2}:x2gt call hs u xyg (j5 (x6o call hs u rec0) 0 1 2 7 8) (setE 1 (j5 (x5 call hs u rec0) 0 1 2 7 8) (setE 0 (j0 (x7 call hs u)) eNil))=j5 (x49 call hs u rec0 NN) 0 1 2 7 8:=bk x1pw
theorem x1py{rec0:AV->AV->AV->AV->AV->Mem->Nat->O2}:x2gt call hs u xle (j5 (x5 call hs u rec0) 0 1 2 7 8) (setE 1 (j5 (x5 call hs u rec0) 0 1 2 7 8) (setE 0 (j0 (x7 call hs u)) eNil))=j5 (x49 call hs u rec0 NN) 0 1 2 7 8:=sq2 x1pu x1px
theorem x1pz{rec0:AV->AV->AV->AV->AV->Mem->Nat->O2}:x2gt call hs u xyf (j5 (x5 call hs u rec0) 0 1 2 7 8) (setE 0 (j0 (x7 call hs u)) eNil)=j5 (x49 call hs u rec0 NN) 0 1 2 7 8:=bk x1py
theorem x1q0{rec0:AV->AV->AV->AV->AV->Mem->Nat->O2}:x2gt call hs u xld (j5 rec0 0 1 2 7 8) (setE 0 (j0 (x7 call hs u)) eNil)=j5 (x49 call hs u rec0 NN) 0 1 2 7 8:=sq2 x1pe x1pz
theorem x1q1{rec0:AV->AV->AV->AV->AV->Mem->Nat->O2}:x2gt call hs u xye (j5 rec0 0 1 2 7 8) (setE 0 (j0 (x7 call hs u)) eNil)=j5 (xud call hs u rec0) 0 1 2 7 8:=tr (sqN 1 x1q0)
theorem x1q2:x2gt call hs u xyd (j0 (x7 call hs u)) (setE 0 (j0 (x7 call hs u)) eNil)=j5 (xa1 call hs u NN) 0 1 2 7 8:=lp (Ln:=fun n=>j5 (xa1 call hs u n) 0 1 2 7 8) fun n=>tr x1q1
theorem x1q3:x2gt call hs u xyc (j0 (x7 call hs u)) eNil=j5 (xa1 call hs u NN) 0 1 2 7 8:=bk x1q2
theorem x1q4:x2gt call hs u xyb (j0 (x7 call hs u)) eNil=j4 (xk1 call hs u) 0 1 2 7:=tr (sqN 1 x1q3)
theorem x1q5:x2gt call hs u xlc r_1 eNil=j4 (xk1 call hs u) 0 1 2 7:=sq2 x1pd x1q4
theorem x1hl:x2gt call hs u xya r_1 eNil=j3 (xue call hs u) 0 1 2:=tr (sqN 2 x1q5)
noncomputable abbrev x2vb:=VX xf 17 r_0
noncomputable def x1q6:=x2g6 xf
theorem x1hm:x2vb call hs u x1q6 r_0 eNil=j2 (xk2 call hs u) 0 1:=by kernel_rfl
noncomputable abbrev x2i6:=VX xbk 84 r_16
noncomputable def xyr:=x2g6 xbk
noncomputable def xli:=nRs 3 xyr
noncomputable def xys:=nL xli
noncomputable def x1q7:=nR xli
noncomputable def xyt:=nR xys
noncomputable def xyu:=nR xyt
noncomputable def xlj:=nR xyu
noncomputable def xyv:=nL xlj
noncomputable def xlk:=nR xlj
noncomputable def xyw:=nL xlk
noncomputable def x1q8:=nR xlk
noncomputable def xyx:=nR xyw
noncomputable def x1q9:=nR xyx
noncomputable def xyy:=nR xyv
noncomputable def x1qa:=nR xyy
theorem x1qb:x2i6 call hs u x1q7 r_16 eNil=j1 (x10 call hs u) 9:=by kernel_rfl
theorem x1qc{rec0:AV->AV->AV->AV->Mem->Nat->O2}:x2i6 call hs u x1q8 (j4 rec0 0 1 9 10) (setE 1 (j4 rec0 0 1 9 10) (setE 0 (j1 (x10 call hs u) 9) eNil))=j4 (x6p call hs u rec0) 0 1 9 10:=by kernel_rfl
theorem x1qd{rec0:AV->AV->AV->AV->Mem->Nat->O2}{rec1:AV->AV->AV->AV->Mem->Nat->O2}:x2i6 call hs u x1q9 (j4 rec1 0 1 9 10) (setE 4 (j4 (x6p call hs u rec0) 0 1 9 10) (setE 1 (j4 rec0 0 1 9 10) (setE 0 (j1 (x10 call hs u) 9) eNil)))=j4 (xuf call hs u rec0 rec1) 0 1 9 10:=by kernel_rfl
theorem x1qe{rec0:AV->AV->AV->AV->Mem->Nat->O2}:x2i6 call hs u xyx (j4 (x6p call hs u rec0) 0 1 9 10) (setE 4 (j4 (x6p call hs u rec0) 0 1 9 10) (setE 1 (j4 rec0 0 1 9 10) (setE 0 (j1 (x10 call hs u) 9) eNil)))=j4 (x2i call hs u rec0 NN) 0 1 9 10:=lp (Ln:=fun n=>j4 (x2i call hs u rec0 n) 0 1 9 10) fun n=>tr x1qd
theorem x1qf{rec0:AV->AV->AV->AV->Mem->Nat->O2}:x2i6 call hs u xyw (j4 (x6p call hs u rec0) 0 1 9 10) (setE 1 (j4 rec0 0 1 9 10) (setE 0 (j1 (x10 call hs u) 9) eNil))=j4 (x2i call hs u rec0 NN) 0 1 9 10:=bk x1qe
theorem x1qg{rec0:AV->AV->AV->AV->Mem->Nat->O2}:x2i6 call hs u xlk (j4 rec0 0 1 9 10) (setE 1 (j4 rec0 0 1 9 10) (setE 0 (j1 (x10 call hs u) 9) eNil))=j4 (x2i call hs u rec0 NN) 0 1 9 10:=sq2 x1qc x1qf
theorem x1qh{rec0:AV->AV->AV->AV->Mem->Nat->O2}{rec2:AV->AV->AV->AV->Mem->Nat->O2}:x2i6 call hs u x1qa (j4 rec2 0 1 9 10) (setE 2 (j4 (x2i call hs u rec0 NN) 0 1 9 10) (setE 1 (j4 rec0 0 1 9 10) (setE 0 (j1 (x10 call hs u) 9) eNil)))=j4 (xug call hs u rec0 rec2) 0 1 9 10:=by kernel_rfl
theorem x1qi{rec0:AV->AV->AV->AV->Mem->Nat->O2}:x2i6 call hs u xyy (j4 (x2i call hs u rec0 NN) 0 1 9 10) (setE 2 (j4 (x2i call hs u rec0 NN) 0 1 9 10) (setE 1 (j4 rec0 0 1 9 10) (setE 0 (j1 (x10 call hs u) 9) eNil)))=j4 (x5m call hs u rec0 NN) 0 1 9 10:=lp (Ln:=fun n=>j4 (x5m call hs u rec0 n) 0 1 9 10) fun n=>tr x1qh
theorem x1qj{rec0:AV->AV->AV->AV->Mem->Nat->O2}:x2i6 call hs u xyv (j4 (x2i call hs u rec0 NN) 0 1 9 10) (setE 1 (j4 rec0 0 1 9 10) (setE 0 (j1 (x10 call hs u) 9) eNil))=j4 (x5m call hs u rec0 NN) 0 1 9 10:=bk x1qi
theorem x1qk{rec0:AV->AV->AV->AV->Mem->Nat->O2}:x2i6 call hs u xlj (j4 rec0 0 1 9 10) (setE 1 (j4 rec0 0 1 9 10) (setE 0 (j1 (x10 call hs u) 9) eNil))=j4 (x5m call hs u rec0 NN) 0 1 9 10:=sq2 x1qg x1qj
theorem x1ql{rec0:AV->AV->AV->AV->Mem->Nat->O2}:x2i6 call hs u xyu (j4 rec0 0 1 9 10) (setE 0 (j1 (x10 call hs u) 9) eNil)=j4 (x5m call hs u rec0 NN) 0 1 9 10:=bk x1qk
theorem x1qm:x2i6 call hs u xyt (j1 (x10 call hs u) 9) (setE 0 (j1 (x10 call hs u) 9) eNil)=j4 (x6q call hs u NN) 0 1 9 10:=lp (Ln:=fun n=>j4 (x6q call hs u n) 0 1 9 10) fun n=>tr x1ql
theorem x1qn:x2i6 call hs u xys (j1 (x10 call hs u) 9) eNil=j4 (x6q call hs u NN) 0 1 9 10:=bk x1qm
theorem x1qo:x2i6 call hs u xli r_16 eNil=j4 (x6q call hs u NN) 0 1 9 10:=sq2 x1qb x1qn
theorem x1hn:x2i6 call hs u xyr r_16 eNil=j4 (xuh call hs u) 0 1 2 3:=tr (sqN 3 x1qo)
noncomputable abbrev x2h5:=VX xbl 168 r_21
noncomputable def xyz:=x2g6 xbl
noncomputable def xll:=nRs 3 xyz
noncomputable def xz0:=nL xll
noncomputable def xlm:=nR xll
noncomputable def xz1:=nL xlm
noncomputable def xz2:=nR xlm
noncomputable def xln:=nRs 4 xz2
noncomputable def xz3:=nL xln
noncomputable def x1qp:=nR xln
noncomputable def xz4:=nR xz3
noncomputable def xz5:=nR xz4
noncomputable def xlo:=nR xz5
noncomputable def xz6:=nL xlo
noncomputable def xlp:=nR xlo
noncomputable def xz7:=nL xlp
noncomputable def x1qq:=nR xlp
noncomputable def xz8:=nR xz7
noncomputable def x1qr:=nR xz8
noncomputable def xz9:=nR xz6
noncomputable def x1qs:=nR xz9
noncomputable def xza:=nR xz1
noncomputable def x1qt:=nR xza
noncomputable def xzb:=nR xz0
noncomputable def x1qu:=nR xzb
theorem x1qv:x2h5 call hs u x1qp r_21 eNil=j3 (x11 call hs u) 0 1 11:=by kernel_rfl
theorem x1qw{rec0:AV->AV->AV->AV->Mem->Nat->O2}:x2h5 call hs u x1qq (j4 rec0 0 1 10 11) (setE 5 (j4 rec0 0 1 10 11) (setE 4 (j3 (x11 call hs u) 0 1 11) eNil))=j4 (x6r call hs u rec0) 0 1 10 11:=by kernel_rfl
theorem x1qx{rec0:AV->AV->AV->AV->Mem->Nat->O2}{rec1:AV->AV->AV->AV->Mem->Nat->O2}:x2h5 call hs u x1qr (j4 rec1 0 1 10 11) (setE 8 (j4 (x6r call hs u rec0) 0 1 10 11) (setE 5 (j4 rec0 0 1 10 11) (setE 4 (j3 (x11 call hs u) 0 1 11) eNil)))=j4 (xui call hs u rec0 rec1) 0 1 10 11:=by kernel_rfl
theorem x1qy{rec0:AV->AV->AV->AV->Mem->Nat->O2}:x2h5 call hs u xz8 (j4 (x6r call hs u rec0) 0 1 10 11) (setE 8 (j4 (x6r call hs u rec0) 0 1 10 11) (setE 5 (j4 rec0 0 1 10 11) (setE 4 (j3 (x11 call hs u) 0 1 11) eNil)))=j4 (x2j call hs u rec0 NN) 0 1 10 11:=lp (Ln:=fun n=>j4 (x2j call hs u rec0 n) 0 1 10 11) fun n=>tr x1qx
theorem x1qz{rec0:AV->AV->AV->AV->Mem->Nat->O2}:x2h5 call hs u xz7 (j4 (x6r call hs u rec0) 0 1 10 11) (setE 5 (j4 rec0 0 1 10 11) (setE 4 (j3 (x11 call hs u) 0 1 11) eNil))=j4 (x2j call hs u rec0 NN) 0 1 10 11:=bk x1qy
theorem x1r0{rec0:AV->AV->AV->AV->Mem->Nat->O2}:x2h5 call hs u xlp (j4 rec0 0 1 10 11) (setE 5 (j4 rec0 0 1 10 11) (setE 4 (j3 (x11 call hs u) 0 1 11) eNil))=j4 (x2j call hs u rec0 NN) 0 1 10 11:=sq2 x1qw x1qz
theorem x1r1{rec0:AV->AV->AV->AV->Mem->Nat->O2}{rec2:AV->AV->AV->AV->Mem->Nat->O2}:x2h5 call hs u x1qs (j4 rec2 0 1 10 11) (setE 6 (j4 (x2j call hs u rec0 NN) 0 1 10 11) (setE 5 (j4 rec0 0 1 10 11) (setE 4 (j3 (x11 call hs u) 0 1 11) eNil)))=j4 (xuj call hs u rec0 rec2) 0 1 10 11:=by kernel_rfl
theorem x1r2{rec0:AV->AV->AV->AV->Mem->Nat->O2}:x2h5 call hs u xz9 (j4 (x2j call hs u rec0 NN) 0 1 10 11) (setE 6 (j4 (x2j call hs u rec0 NN) 0 1 10 11) (setE 5 (j4 rec0 0 1 10 11) (setE 4 (j3 (x11 call hs u) 0 1 11) eNil)))=j4 (x5n call hs u rec0 NN) 0 1 10 11:=lp (Ln:=fun n=>j4 (x5n call hs u rec0 n) 0 1 10 11) fun n=>tr x1r1
theorem x1r3{rec0:AV->AV->AV->AV->Mem->Nat->O2}:x2h5 call hs u xz6 (j4 (x2j call hs u rec0 NN) 0 1 10 11) (setE 5 (j4 rec0 0 1 10 11) (setE 4 (j3 (x11 call hs u) 0 1 11) eNil))=j4 (x5n call hs u rec0 NN) 0 1 10 11:=bk x1r2
theorem x1r4{rec0:AV->AV->AV->AV->Mem->Nat->O2}:x2h5 call hs u xlo (j4 rec0 0 1 10 11) (setE 5 (j4 rec0 0 1 10 11) (setE 4 (j3 (x11 call hs u) 0 1 11) eNil))=j4 (x5n call hs u rec0 NN) 0 1 10 11:=sq2 x1r0 x1r3
theorem x1r5{rec0:AV->AV->AV->AV->Mem->Nat->O2}:x2h5 call hs u xz5 (j4 rec0 0 1 10 11) (setE 4 (j3 (x11 call hs u) 0 1 11) eNil)=j4 (x5n call hs u rec0 NN) 0 1 10 11:=bk x1r4
theorem x1r6:x2h5 call hs u xz4 (j3 (x11 call hs u) 0 1 11) (setE 4 (j3 (x11 call hs u) 0 1 11) eNil)=j4 (x6s call hs u NN) 0 1 10 11:=lp (Ln:=fun n=>j4 (x6s call hs u n) 0 1 10 11) fun n=>tr x1r5
theorem x1r7:x2h5 call hs u xz3 (j3 (x11 call hs u) 0 1 11) eNil=j4 (x6s call hs u NN) 0 1 10 11:=bk x1r6
theorem x1r8:x2h5 call hs u xln r_21 eNil=j4 (x6s call hs u NN) 0 1 10 11:=sq2 x1qv x1r7
theorem x1r9:x2h5 call hs u xz2 r_21 eNil=j4 (x6t call hs u) 0 1 10 11:=tr (sqN 4 x1r8)
theorem x1ra{rec3:AV->AV->AV->AV->Mem->Nat->O2}:x2h5 call hs u x1qt (j4 rec3 0 1 10 11) (setE 2 (j4 (x6t call hs u) 0 1 10 11) eNil)=j4 (xuk call hs u rec3) 0 1 10 11:=by kernel_rfl
theorem x1rb:x2h5 call hs u xza (j4 (x6t call hs u) 0 1 10 11) (setE 2 (j4 (x6t call hs u) 0 1 10 11) eNil)=j4 (x2k call hs u NN) 0 1 10 11:=lp (Ln:=fun n=>j4 (x2k call hs u n) 0 1 10 11) fun n=>tr x1ra
theorem x1rc:x2h5 call hs u xz1 (j4 (x6t call hs u) 0 1 10 11) eNil=j4 (x2k call hs u NN) 0 1 10 11:=bk x1rb
theorem x1rd:x2h5 call hs u xlm r_21 eNil=j4 (x2k call hs u NN) 0 1 10 11:=sq2 x1r9 x1rc
theorem x1re{rec4:AV->AV->AV->AV->Mem->Nat->O2}:x2h5 call hs u x1qu (j4 rec4 0 1 10 11) (setE 0 (j4 (x2k call hs u NN) 0 1 10 11) eNil)=j4 (xul call hs u rec4) 0 1 10 11:=by kernel_rfl
theorem x1rf:x2h5 call hs u xzb (j4 (x2k call hs u NN) 0 1 10 11) (setE 0 (j4 (x2k call hs u NN) 0 1 10 11) eNil)=j4 (x6u call hs u NN) 0 1 10 11:=lp (Ln:=fun n=>j4 (x6u call hs u n) 0 1 10 11) fun n=>tr x1re
theorem x1rg:x2h5 call hs u xz0 (j4 (x2k call hs u NN) 0 1 10 11) eNil=j4 (x6u call hs u NN) 0 1 10 11:=bk x1rf
theorem x1rh:x2h5 call hs u xll r_21 eNil=j4 (x6u call hs u NN) 0 1 10 11:=sq2 x1rd x1rg
theorem x1ho:x2h5 call hs u xyz r_21 eNil=j4 (xum call hs u) 0 1 2 3:=tr (sqN 3 x1rh)
noncomputable abbrev x2mh:=VX xbm 19 r_2
noncomputable def xzc:=x2g6 xbm
noncomputable def xlq:=nR xzc
noncomputable def x1ri:=nL xlq
noncomputable def xlr:=nR xlq
noncomputable def x1rj:=nL xlr
noncomputable def x1rk:=nR xlr
theorem x1rl:x2mh call hs u x1rk r_2 eNil=j2 (xei call hs u) 0 2:=by kernel_rfl
theorem x1rm:x2mh call hs u x1rj (j2 (xei call hs u) 0 2) eNil=j2 (xa2 call hs u) 0 2:=by kernel_rfl
theorem x1rn:x2mh call hs u xlr r_2 eNil=j2 (xa2 call hs u) 0 2:=sq2 x1rl x1rm
theorem x1ro:x2mh call hs u x1ri (j2 (xa2 call hs u) 0 2) eNil=j2 (xk3 call hs u) 0 2:=by kernel_rfl
theorem x1rp:x2mh call hs u xlq r_2 eNil=j2 (xk3 call hs u) 0 2:=sq2 x1rn x1ro
theorem x1hp:x2mh call hs u xzc r_2 eNil=j1 (xun call hs u) 0:=tr (sqN 1 x1rp)
noncomputable abbrev x2ko:=VX x63 25 r_2
noncomputable def xzd:=x2g6 x63
noncomputable def xls:=nR xzd
noncomputable def x1rq:=nL xls
noncomputable def xlt:=nR xls
noncomputable def x1rr:=nL xlt
noncomputable def xlu:=nR xlt
noncomputable def x1rs:=nL xlu
noncomputable def x1rt:=nR xlu
theorem x1ru:x2ko call hs u x1rt r_2 eNil=j2 (xej call hs u) 0 2:=by kernel_rfl
theorem x1rv:x2ko call hs u x1rs (j2 (xej call hs u) 0 2) eNil=j2 (xa3 call hs u) 0 2:=by kernel_rfl
theorem x1rw:x2ko call hs u xlu r_2 eNil=j2 (xa3 call hs u) 0 2:=sq2 x1ru x1rv
theorem x1rx:x2ko call hs u x1rr (j2 (xa3 call hs u) 0 2) eNil=j2 (xa4 call hs u) 0 2:=by kernel_rfl
theorem x1ry:x2ko call hs u xlt r_2 eNil=j2 (xa4 call hs u) 0 2:=sq2 x1rw x1rx
theorem x1rz:x2ko call hs u x1rq (j2 (xa4 call hs u) 0 2) eNil=j2 (xk4 call hs u) 0 2:=by kernel_rfl
theorem x1s0:x2ko call hs u xls r_2 eNil=j2 (xk4 call hs u) 0 2:=sq2 x1ry x1rz
theorem x1hq:x2ko call hs u xzd r_2 eNil=j1 (xuo call hs u) 0:=tr (sqN 1 x1s0)
noncomputable abbrev x2vc:=VX xaa 6 r_0
noncomputable def x1s1:=x2g6 xaa
theorem x1e7:x2vc call hs u x1s1 r_0 eNil=j2 (xup call hs u) 0 1:=by kernel_rfl
noncomputable abbrev x2vd:=VX xbn 30 r_6
noncomputable def x1s2:=x2g6 xbn
theorem x1hr:x2vd call hs u x1s2 r_6 eNil=j2 (xuq call hs u) 0 1:=by kernel_rfl
noncomputable abbrev x2mi:=VX xbo 58 r_17
noncomputable def xze:=x2g6 xbo
noncomputable def xlv:=nRs 2 xze
noncomputable def xzf:=nL xlv
noncomputable def x1s3:=nR xlv
noncomputable def xzg:=nR xzf
noncomputable def x1s4:=nR xzg
theorem x1s5:x2mi call hs u x1s3 r_17 eNil=j4 (x6v call hs u) 0 2 4 10:=by kernel_rfl
theorem x1s6{rec0:AV->AV->AV->AV->AV->Mem->Nat->O2}:x2mi call hs u x1s4 (j5 rec0 0 2 4 10 11) (setE 0 (j4 (x6v call hs u) 0 2 4 10) eNil)=j5 (xur call hs u rec0) 0 2 4 10 11:=by kernel_rfl
theorem x1s7:x2mi call hs u xzg (j4 (x6v call hs u) 0 2 4 10) (setE 0 (j4 (x6v call hs u) 0 2 4 10) eNil)=j5 (x6w call hs u NN) 0 2 4 10 11:=lp (Ln:=fun n=>j5 (x6w call hs u n) 0 2 4 10 11) fun n=>tr x1s6
theorem x1s8:x2mi call hs u xzf (j4 (x6v call hs u) 0 2 4 10) eNil=j5 (x6w call hs u NN) 0 2 4 10 11:=bk x1s7
theorem x1s9:x2mi call hs u xlv r_17 eNil=j5 (x6w call hs u NN) 0 2 4 10 11:=sq2 x1s5 x1s8
theorem x1hs:x2mi call hs u xze r_17 eNil=j5 (xus call hs u) 0 1 2 3 4:=tr (sqN 2 x1s9)
noncomputable abbrev x2kp:=VX x7e 76 r_17
noncomputable def xzh:=x2g6 x7e
noncomputable def xzi:=nR xzh
noncomputable def xzj:=nR xzi
noncomputable def xzk:=nR xzj
noncomputable def xzl:=nR xzk
noncomputable def xlw:=nRs 2 xzl
noncomputable def x1sa:=nL xlw
noncomputable def x1sb:=nR xlw
theorem x1sc{rec0:AV->AV->AV->AV->Mem->Nat->O2}:x2kp call hs u x1sb (j4 rec0 0 2 3 8) (setE 1 (j4 rec0 0 2 3 8) (setE 0 r_17 eNil))=j5 (xek call hs u rec0) 0 2 3 8 9:=by kernel_rfl
theorem x1sd{rec0:AV->AV->AV->AV->Mem->Nat->O2}:x2kp call hs u x1sa (j5 (xek call hs u rec0) 0 2 3 8 9) (setE 1 (j4 rec0 0 2 3 8) (setE 0 r_17 eNil))=j5 (xk5 call hs u rec0) 0 2 3 8 9:=by kernel_rfl
theorem x1se{rec0:AV->AV->AV->AV->Mem->Nat->O2}:x2kp call hs u xlw (j4 rec0 0 2 3 8) (setE 1 (j4 rec0 0 2 3 8) (setE 0 r_17 eNil))=j5 (xk5 call hs u rec0) 0 2 3 8 9:=sq2 x1sc x1sd
theorem x1sf{rec0:AV->AV->AV->AV->Mem->Nat->O2}:x2kp call hs u xzl (j4 rec0 0 2 3 8) (setE 1 (j4 rec0 0 2 3 8) (setE 0 r_17 eNil))=j4 (xk6 call hs u rec0) 0 2 3 8:=tr (sqN 2 x1se)
theorem x1sg{rec0:AV->AV->AV->AV->Mem->Nat->O2}:x2kp call hs u xzk (j4 rec0 0 2 3 8) (setE 0 r_17 eNil)=j4 (xk6 call hs u rec0) 0 2 3 8:=bk x1sf
theorem x1sh:x2kp call hs u xzj r_17 (setE 0 r_17 eNil)=j4 (xa5 call hs u NN) 0 2 3 8:=lp (Ln:=fun n=>j4 (xa5 call hs u n) 0 2 3 8) fun n=>tr x1sg
theorem x1si:x2kp call hs u xzi r_17 eNil=j4 (xa5 call hs u NN) 0 2 3 8:=bk x1sh
theorem x1ht:x2kp call hs u xzh r_17 eNil=j4 (xut call hs u) 0 1 2 3:=tr (sqN 1 x1si)
noncomputable abbrev x2ve:=VX xbp 7 r_2
noncomputable def x1sj:=x2g6 xbp
theorem x1hu:x2ve call hs u x1sj r_2 eNil=j1 (xuu call hs u) 0:=by kernel_rfl
noncomputable abbrev x2vf:=VX xbq 33 r_2
noncomputable def x1sk:=x2g6 xbq
theorem x1hv:x2vf call hs u x1sk r_2 eNil=j1 (xuv call hs u) 0:=by kernel_rfl
noncomputable abbrev x2vg:=VX x64 15 r_1
noncomputable def x1sl:=x2g6 x64
theorem x1hw:x2vg call hs u x1sl r_1 eNil=j3 (xuw call hs u) 0 1 2:=by kernel_rfl
noncomputable abbrev x2vh:=VX x7f 36 r_22
noncomputable def x1sm:=x2g6 x7f
theorem x1hx:x2vh call hs u x1sm r_22 eNil=j5 (xux call hs u) 0 1 2 3 4:=by kernel_rfl
noncomputable abbrev x2vi:=VX x4p 6 r_2
noncomputable def x1sn:=x2g6 x4p
theorem x1hy:x2vi call hs u x1sn r_2 eNil=j1 (xk7 call hs u) 0:=by kernel_rfl
noncomputable abbrev x2j5:=VX xa8 76 r_17
noncomputable def xzm:=x2g6 xa8
noncomputable def xzn:=nR xzm
noncomputable def xzo:=nR xzn
noncomputable def xzp:=nR xzo
noncomputable def xlx:=nRs 2 xzp
noncomputable def xzq:=nL xlx
noncomputable def x1so:=nR xlx
noncomputable def xzr:=nR xzq
noncomputable def xly:=nRs 3 xzr
noncomputable def x1sp:=nL xly
noncomputable def x1sq:=nR xly
theorem x1sr{rec0:AV->AV->AV->AV->AV->AV->Mem->Nat->O2}:x2j5 call hs u x1so (j6 rec0 0 1 2 14 15 16) (setE 0 r_17 eNil)=j6 (x2l call hs u rec0) 0 1 2 14 15 16:=by kernel_rfl
theorem x1ss{rec0:AV->AV->AV->AV->AV->AV->Mem->Nat->O2}:x2j5 call hs u x1sq (j6 (x2l call hs u rec0) 0 1 2 14 15 16) (setE 1 (j6 (x2l call hs u rec0) 0 1 2 14 15 16) (setE 0 r_17 eNil))=j7 (xel call hs u rec0) 0 1 2 7 14 15 16:=by kernel_rfl
theorem x1st{rec0:AV->AV->AV->AV->AV->AV->Mem->Nat->O2}:x2j5 call hs u x1sp (j7 (xel call hs u rec0) 0 1 2 7 14 15 16) (setE 1 (j6 (x2l call hs u rec0) 0 1 2 14 15 16) (setE 0 r_17 eNil))=j9 (xk8 call hs u rec0) 0 1 2 5 6 7 14 15 16:=by kernel_rfl
theorem x1su{rec0:AV->AV->AV->AV->AV->AV->Mem->Nat->O2}:x2j5 call hs u xly (j6 (x2l call hs u rec0) 0 1 2 14 15 16) (setE 1 (j6 (x2l call hs u rec0) 0 1 2 14 15 16) (setE 0 r_17 eNil))=j9 (xk8 call hs u rec0) 0 1 2 5 6 7 14 15 16:=sq2 x1ss x1st
theorem x1sv{rec0:AV->AV->AV->AV->AV->AV->Mem->Nat->O2}:x2j5 call hs u xzr (j6 (x2l call hs u rec0) 0 1 2 14 15 16) (setE 1 (j6 (x2l call hs u rec0) 0 1 2 14 15 16) (setE 0 r_17 eNil))=j6 (xem call hs u rec0) 0 1 2 14 15 16:=tr (sqN 3 x1su)
theorem x1sw{rec0:AV->AV->AV->AV->AV->AV->Mem->Nat->O2}:x2j5 call hs u xzq (j6 (x2l call hs u rec0) 0 1 2 14 15 16) (setE 0 r_17 eNil)=j6 (xem call hs u rec0) 0 1 2 14 15 16:=bk x1sv
theorem x1sx{rec0:AV->AV->AV->AV->AV->AV->Mem->Nat->O2}:x2j5 call hs u xlx (j6 rec0 0 1 2 14 15 16) (setE 0 r_17 eNil)=j6 (xem call hs u rec0) 0 1 2 14 15 16:=sq2 x1sr x1sw
theorem x1sy{rec0:AV->AV->AV->AV->AV->AV->Mem->Nat->O2}:x2j5 call hs u xzp (j6 rec0 0 1 2 14 15 16) (setE 0 r_17 eNil)=j6 (xuy call hs u rec0) 0 1 2 14 15 16:=tr (sqN 2 x1sx)
theorem x1sz:x2j5 call hs u xzo r_17 (setE 0 r_17 eNil)=j6 (xa6 call hs u NN) 0 1 2 14 15 16:=lp (Ln:=fun n=>j6 (xa6 call hs u n) 0 1 2 14 15 16) fun n=>tr x1sy
theorem x1t0:x2j5 call hs u xzn r_17 eNil=j6 (xa6 call hs u NN) 0 1 2 14 15 16:=bk x1sz
theorem x1e3:x2j5 call hs u xzm r_17 eNil=j3 (xuz call hs u) 0 1 2:=tr (sqN 1 x1t0)
noncomputable abbrev x2vj:=VX xbr 17 r_6
noncomputable def x1t1:=x2g6 xbr
theorem x1hz:x2vj call hs u x1t1 r_6 eNil=j2 (xv0 call hs u) 0 1:=by kernel_rfl
noncomputable abbrev x2vk:=VX xac 51 r_6
noncomputable def x1t2:=x2g6 xac
theorem x1e9:x2vk call hs u x1t2 r_6 eNil=j2 (xv1 call hs u) 0 1:=by kernel_rfl
noncomputable abbrev x2oh:=VX x65 38 r_17
noncomputable def xzs:=x2g6 x65
noncomputable def xzt:=nR xzs
noncomputable def xzu:=nR xzt
noncomputable def x1t3:=nR xzu
theorem x1t4{rec0:AV->AV->AV->AV->AV->Mem->Nat->O2}:x2oh call hs u x1t3 (j5 rec0 0 1 2 3 10) (setE 0 r_17 eNil)=j5 (xv2 call hs u rec0) 0 1 2 3 10:=by kernel_rfl
theorem x1t5:x2oh call hs u xzu r_17 (setE 0 r_17 eNil)=j5 (xa7 call hs u NN) 0 1 2 3 10:=lp (Ln:=fun n=>j5 (xa7 call hs u n) 0 1 2 3 10) fun n=>tr x1t4
theorem x1t6:x2oh call hs u xzt r_17 eNil=j5 (xa7 call hs u NN) 0 1 2 3 10:=bk x1t5
theorem x1i0:x2oh call hs u xzs r_17 eNil=j4 (xv3 call hs u) 0 1 2 3:=tr (sqN 1 x1t6)
noncomputable abbrev x2vl:=VX x66 28 r_21
noncomputable def x1t7:=x2g6 x66
theorem x1i1:x2vl call hs u x1t7 r_21 eNil=j4 (xv4 call hs u) 0 1 2 3:=by kernel_rfl
end Go.Ix
