import Derived.Test.YtpeakdjfagbpcaaGreatFxText0
import Derived.Test.YtpeakdjfagbpcaaGreatFxText1
import Derived.Test.YtpeakdjfagbpcaaGreatFxEnt
import Derived.Test.YtpeakdjfagbpcaaGreatFxRules
import Derived.Test.YtpeakdjfagbpcaaGreatFxProj
import Derived.ProofKit
set_option linter.unusedVariables false
namespace Go.Ix
open Go.Proofs
variable{call:x1xq}{hs:FHs}{u:Nat}
noncomputable abbrev x20n:=VX xbp 88 r_0
noncomputable def xql:=x1xu xbp
noncomputable def xg5:=nRs 3 xql
noncomputable def xqm:=nL xg5
noncomputable def xqn:=nR xg5
noncomputable def xg6:=nRs 2 xqn
noncomputable def x1c4:=nL xg6
noncomputable def x1c5:=nR xg6
noncomputable def xqo:=nR xqm
noncomputable def xqp:=nR xqo
noncomputable def x1c6:=nR xqp
theorem x1c7:x20n call hs u x1c5 r_0 eNil=j6 (x9k call hs u) 0 1 2 8 9 11:=by kernel_rfl
theorem x1c8:x20n call hs u x1c4 (j6 (x9k call hs u) 0 1 2 8 9 11) eNil=j6 (xcf call hs u) 0 1 2 8 9 11:=by kernel_rfl
theorem x1c9:x20n call hs u xg6 r_0 eNil=j6 (xcf call hs u) 0 1 2 8 9 11:=sq2 x1c7 x1c8
theorem x1ca:x20n call hs u xqn r_0 eNil=j3 (x39 call hs u) 0 1 2:=tr (sqN 2 x1c9)
theorem x1cb{rec0:AV->AV->AV->AV->Mem->Nat->O2}:x20n call hs u x1c6 (j4 rec0 0 1 2 7) (setE 0 (j3 (x39 call hs u) 0 1 2) eNil)=j4 (xj8 call hs u rec0) 0 1 2 7:=by kernel_rfl
theorem x1cc:x20n call hs u xqp (j3 (x39 call hs u) 0 1 2) (setE 0 (j3 (x39 call hs u) 0 1 2) eNil)=j4 (x5p call hs u NN) 0 1 2 7:=lp (Ln:=fun n=>j4 (x5p call hs u n) 0 1 2 7) fun n=>tr x1cb
theorem x1cd:x20n call hs u xqo (j3 (x39 call hs u) 0 1 2) eNil=j4 (x5p call hs u NN) 0 1 2 7:=bk x1cc
theorem x1ce:x20n call hs u xqm (j3 (x39 call hs u) 0 1 2) eNil=j3 (xcg call hs u) 0 1 2:=tr (sqN 1 x1cd)
theorem x1cf:x20n call hs u xg5 r_0 eNil=j3 (xcg call hs u) 0 1 2:=sq2 x1ca x1ce
theorem x13z:x20n call hs u xql r_0 eNil=j3 (xj9 call hs u) 0 1 2:=tr (sqN 3 x1cf)
noncomputable abbrev x24q:=VX x56 89 r_0
noncomputable def xqq:=x1xu x56
noncomputable def xg7:=nRs 6 xqq
noncomputable def x1cg:=nL xg7
noncomputable def x1ch:=nR xg7
theorem x1ci:x24q call hs u x1ch r_0 eNil=j7 (x4g call hs u) 1 3 5 7 8 9 10:=by kernel_rfl
theorem x1cj:x24q call hs u x1cg (j7 (x4g call hs u) 1 3 5 7 8 9 10) eNil=j7 (x9l call hs u) 1 3 5 7 8 9 10:=by kernel_rfl
theorem x1ck:x24q call hs u xg7 r_0 eNil=j7 (x9l call hs u) 1 3 5 7 8 9 10:=sq2 x1ci x1cj
theorem x140:x24q call hs u xqq r_0 eNil=j3 (xch call hs u) 0 1 2:=tr (sqN 6 x1ck)
noncomputable abbrev x2as:=VX x34 82 r_1
noncomputable def x1cl:=x1xu x34
theorem x141:x2as call hs u x1cl r_1 eNil=j0 (xja call hs u):=by kernel_rfl
noncomputable abbrev x1yz:=VX x87 90 r_2
noncomputable def xqr:=x1xu x87
noncomputable def xg8:=nRs 5 xqr
noncomputable def xqs:=nL xg8
noncomputable def xqt:=nR xg8
noncomputable def xg9:=nRs 3 xqt
noncomputable def xqu:=nL xg9
noncomputable def x1cm:=nR xg9
noncomputable def xqv:=nR xqu
noncomputable def xqw:=nR xqv
noncomputable def xqx:=nR xqw
noncomputable def xga:=nRs 2 xqx
noncomputable def x1cn:=nL xga
noncomputable def x1co:=nR xga
noncomputable def xqy:=nR xqs
noncomputable def xqz:=nR xqy
noncomputable def xr0:=nR xqz
noncomputable def xgb:=nRs 2 xr0
noncomputable def x1cp:=nL xgb
noncomputable def x1cq:=nR xgb
theorem x1cr:x1yz call hs u x1cm r_2 eNil=j1 (x1e call hs u) 14:=by kernel_rfl
theorem x1cs{rec0:AV->AV->AV->AV->AV->AV->AV->Mem->Nat->O2}:x1yz call hs u x1co (j7 rec0 1 12 13 14 60 61 62) (setE 2 (j1 (x1e call hs u) 14) eNil)=j7 (x9m call hs u rec0) 1 12 13 14 60 61 62:=by kernel_rfl
theorem x1ct{rec0:AV->AV->AV->AV->AV->AV->AV->Mem->Nat->O2}:x1yz call hs u x1cn (j7 (x9m call hs u rec0) 1 12 13 14 60 61 62) (setE 2 (j1 (x1e call hs u) 14) eNil)=j7 (xci call hs u rec0) 1 12 13 14 60 61 62:=by kernel_rfl
theorem x1cu{rec0:AV->AV->AV->AV->AV->AV->AV->Mem->Nat->O2}:x1yz call hs u xga (j7 rec0 1 12 13 14 60 61 62) (setE 2 (j1 (x1e call hs u) 14) eNil)=j7 (xci call hs u rec0) 1 12 13 14 60 61 62:=sq2 x1cs x1ct
theorem x1cv{rec0:AV->AV->AV->AV->AV->AV->AV->Mem->Nat->O2}:x1yz call hs u xqx (j7 rec0 1 12 13 14 60 61 62) (setE 2 (j1 (x1e call hs u) 14) eNil)=j7 (xjb call hs u rec0) 1 12 13 14 60 61 62:=tr (sqN 2 x1cu)
theorem x1cw:x1yz call hs u xqw (j1 (x1e call hs u) 14) (setE 2 (j1 (x1e call hs u) 14) eNil)=j7 (x5q call hs u NN) 1 12 13 14 60 61 62:=lp (Ln:=fun n=>j7 (x5q call hs u n) 1 12 13 14 60 61 62) fun n=>tr x1cv
theorem x1cx:x1yz call hs u xqv (j1 (x1e call hs u) 14) eNil=j7 (x5q call hs u NN) 1 12 13 14 60 61 62:=bk x1cw
theorem x1cy:x1yz call hs u xqu (j1 (x1e call hs u) 14) eNil=j4 (xcj call hs u) 1 12 13 14:=tr (sqN 1 x1cx)
theorem x1cz:x1yz call hs u xg9 r_2 eNil=j4 (xcj call hs u) 1 12 13 14:=sq2 x1cr x1cy
theorem x1d0:x1yz call hs u xqt r_2 eNil=j4 (x1f call hs u) 1 2 8 9:=tr (sqN 3 x1cz)
theorem x1d1{rec1:AV->AV->AV->AV->AV->AV->AV->Mem->Nat->O2}:x1yz call hs u x1cq (j7 rec1 1 2 8 9 36 37 38) (setE 0 (j4 (x1f call hs u) 1 2 8 9) eNil)=j7 (x9n call hs u rec1) 1 2 8 9 36 37 38:=by kernel_rfl
theorem x1d2{rec1:AV->AV->AV->AV->AV->AV->AV->Mem->Nat->O2}:x1yz call hs u x1cp (j7 (x9n call hs u rec1) 1 2 8 9 36 37 38) (setE 0 (j4 (x1f call hs u) 1 2 8 9) eNil)=j7 (xck call hs u rec1) 1 2 8 9 36 37 38:=by kernel_rfl
theorem x1d3{rec1:AV->AV->AV->AV->AV->AV->AV->Mem->Nat->O2}:x1yz call hs u xgb (j7 rec1 1 2 8 9 36 37 38) (setE 0 (j4 (x1f call hs u) 1 2 8 9) eNil)=j7 (xck call hs u rec1) 1 2 8 9 36 37 38:=sq2 x1d1 x1d2
theorem x1d4{rec1:AV->AV->AV->AV->AV->AV->AV->Mem->Nat->O2}:x1yz call hs u xr0 (j7 rec1 1 2 8 9 36 37 38) (setE 0 (j4 (x1f call hs u) 1 2 8 9) eNil)=j7 (xjc call hs u rec1) 1 2 8 9 36 37 38:=tr (sqN 2 x1d3)
theorem x1d5:x1yz call hs u xqz (j4 (x1f call hs u) 1 2 8 9) (setE 0 (j4 (x1f call hs u) 1 2 8 9) eNil)=j7 (x5r call hs u NN) 1 2 8 9 36 37 38:=lp (Ln:=fun n=>j7 (x5r call hs u n) 1 2 8 9 36 37 38) fun n=>tr x1d4
theorem x1d6:x1yz call hs u xqy (j4 (x1f call hs u) 1 2 8 9) eNil=j7 (x5r call hs u NN) 1 2 8 9 36 37 38:=bk x1d5
theorem x1d7:x1yz call hs u xqs (j4 (x1f call hs u) 1 2 8 9) eNil=j4 (xcl call hs u) 1 2 8 9:=tr (sqN 1 x1d6)
theorem x1d8:x1yz call hs u xg8 r_2 eNil=j4 (xcl call hs u) 1 2 8 9:=sq2 x1d0 x1d7
theorem x142:x1yz call hs u xqr r_2 eNil=j2 (xjd call hs u) 0 1:=tr (sqN 5 x1d8)
noncomputable abbrev x2at:=VX xy 15 r_0
noncomputable def x1d9:=x1xu xy
theorem x143:x2at call hs u x1d9 r_0 eNil=j3 (xcm call hs u) 0 1 2:=by kernel_rfl
noncomputable abbrev x226:=VX x1b 26 r_3
noncomputable def xr1:=x1xu x1b
noncomputable def xgc:=nRs 2 xr1
noncomputable def xr2:=nL xgc
noncomputable def x1da:=nR xgc
noncomputable def xr3:=nR xr2
noncomputable def xr4:=nR xr3
noncomputable def x1db:=nR xr4
theorem x1dc:x226 call hs u x1da r_3 eNil=j0 (x2f call hs u):=by kernel_rfl
theorem x1dd{rec0:AV->AV->AV->Mem->Nat->O2}:x226 call hs u x1db (j3 rec0 0 1 5) (setE 0 (j0 (x2f call hs u)) eNil)=j3 (x9o call hs u rec0) 0 1 5:=by kernel_rfl
theorem x1de:x226 call hs u xr4 (j0 (x2f call hs u)) (setE 0 (j0 (x2f call hs u)) eNil)=j3 (x2g call hs u NN) 0 1 5:=lp (Ln:=fun n=>j3 (x2g call hs u n) 0 1 5) fun n=>tr x1dd
theorem x1df:x226 call hs u xr3 (j0 (x2f call hs u)) eNil=j3 (x2g call hs u NN) 0 1 5:=bk x1de
theorem x1dg:x226 call hs u xr2 (j0 (x2f call hs u)) eNil=j2 (x9p call hs u) 0 1:=tr (sqN 1 x1df)
theorem x1dh:x226 call hs u xgc r_3 eNil=j2 (x9p call hs u) 0 1:=sq2 x1dc x1dg
theorem x144:x226 call hs u xr1 r_3 eNil=j2 (xcn call hs u) 0 1:=tr (sqN 2 x1dh)
noncomputable abbrev x1z6:=VX x88 77 r_4
noncomputable def xr5:=x1xu x88
noncomputable def xgd:=nRs 4 xr5
noncomputable def xr6:=nL xgd
noncomputable def x1di:=nR xgd
noncomputable def xr7:=nR xr6
noncomputable def xr8:=nR xr7
noncomputable def xr9:=nR xr8
noncomputable def xge:=nRs 2 xr9
noncomputable def xra:=nL xge
noncomputable def x1dj:=nR xge
noncomputable def xrb:=nR xra
noncomputable def xrc:=nRs 2 xrb
noncomputable def xrd:=nR xrc
noncomputable def xre:=nR xrd
noncomputable def xgf:=nR xre
noncomputable def x1dk:=nL xgf
noncomputable def x1dl:=nR xgf
theorem x1dm:x1z6 call hs u x1di r_4 eNil=j1 (xj call hs u) 10:=by kernel_rfl
theorem x1dn{rec0:AV->AV->AV->AV->AV->AV->AV->Mem->Nat->O2}:x1z6 call hs u x1dj (j7 rec0 0 1 2 10 31 32 33) (setE 0 (j1 (xj call hs u) 10) eNil)=j7 (xd call hs u rec0) 0 1 2 10 31 32 33:=by kernel_rfl
theorem x1do{rec0:AV->AV->AV->AV->AV->AV->AV->Mem->Nat->O2}{rec1:AV->AV->AV->AV->AV->AV->AV->AV->AV->AV->Mem->Nat->O2}:x1z6 call hs u x1dl (j10 rec1 0 1 2 10 11 12 13 31 32 33) (setE 2 (j7 (xd call hs u rec0) 0 1 2 10 31 32 33) (setE 1 (j7 (xd call hs u rec0) 0 1 2 10 31 32 33) (setE 0 (j1 (xj call hs u) 10) eNil)))=j10 (x9q call hs u rec0 rec1) 0 1 2 10 11 12 13 31 32 33:=by kernel_rfl
theorem x1dp{rec0:AV->AV->AV->AV->AV->AV->AV->Mem->Nat->O2}{rec1:AV->AV->AV->AV->AV->AV->AV->AV->AV->AV->Mem->Nat->O2}:x1z6 call hs u x1dk (j10 (x9q call hs u rec0 rec1) 0 1 2 10 11 12 13 31 32 33) (setE 2 (j7 (xd call hs u rec0) 0 1 2 10 31 32 33) (setE 1 (j7 (xd call hs u rec0) 0 1 2 10 31 32 33) (setE 0 (j1 (xj call hs u) 10) eNil)))=j10 (xco call hs u rec0 rec1) 0 1 2 10 11 12 13 31 32 33:=by kernel_rfl
theorem x1dq{rec0:AV->AV->AV->AV->AV->AV->AV->Mem->Nat->O2}{rec1:AV->AV->AV->AV->AV->AV->AV->AV->AV->AV->Mem->Nat->O2}:x1z6 call hs u xgf (j10 rec1 0 1 2 10 11 12 13 31 32 33) (setE 2 (j7 (xd call hs u rec0) 0 1 2 10 31 32 33) (setE 1 (j7 (xd call hs u rec0) 0 1 2 10 31 32 33) (setE 0 (j1 (xj call hs u) 10) eNil)))=j10 (xco call hs u rec0 rec1) 0 1 2 10 11 12 13 31 32 33:=sq2 x1do x1dp
theorem x1dr{rec0:AV->AV->AV->AV->AV->AV->AV->Mem->Nat->O2}{rec1:AV->AV->AV->AV->AV->AV->AV->AV->AV->AV->Mem->Nat->O2}:x1z6 call hs u xre (j10 rec1 0 1 2 10 11 12 13 31 32 33) (setE 2 (j7 (xd call hs u rec0) 0 1 2 10 31 32 33) (setE 1 (j7 (xd call hs u rec0) 0 1 2 10 31 32 33) (setE 0 (j1 (xj call hs u) 10) eNil)))=j10 (xje call hs u rec0 rec1) 0 1 2 10 11 12 13 31 32 33:=tr (sqN 1 x1dq)
theorem x1ds{rec0:AV->AV->AV->AV->AV->AV->AV->Mem->Nat->O2}:x1z6 call hs u xrd (j7 (xd call hs u rec0) 0 1 2 10 31 32 33) (setE 2 (j7 (xd call hs u rec0) 0 1 2 10 31 32 33) (setE 1 (j7 (xd call hs u rec0) 0 1 2 10 31 32 33) (setE 0 (j1 (xj call hs u) 10) eNil)))=j10 (x5s call hs u rec0 NN) 0 1 2 10 11 12 13 31 32 33:=lp (Ln:=fun n=>j10 (x5s call hs u rec0 n) 0 1 2 10 11 12 13 31 32 33) fun n=>tr x1dr
theorem x1dt{rec0:AV->AV->AV->AV->AV->AV->AV->Mem->Nat->O2}:x1z6 call hs u xrc (j7 (xd call hs u rec0) 0 1 2 10 31 32 33) (setE 1 (j7 (xd call hs u rec0) 0 1 2 10 31 32 33) (setE 0 (j1 (xj call hs u) 10) eNil))=j10 (x5s call hs u rec0 NN) 0 1 2 10 11 12 13 31 32 33:=bk x1ds
theorem x1du{rec0:AV->AV->AV->AV->AV->AV->AV->Mem->Nat->O2}:x1z6 call hs u xrb (j7 (xd call hs u rec0) 0 1 2 10 31 32 33) (setE 1 (j7 (xd call hs u rec0) 0 1 2 10 31 32 33) (setE 0 (j1 (xj call hs u) 10) eNil))=j7 (x9r call hs u rec0) 0 1 2 10 31 32 33:=tr (sqN 2 x1dt)
theorem x1dv{rec0:AV->AV->AV->AV->AV->AV->AV->Mem->Nat->O2}:x1z6 call hs u xra (j7 (xd call hs u rec0) 0 1 2 10 31 32 33) (setE 0 (j1 (xj call hs u) 10) eNil)=j7 (x9r call hs u rec0) 0 1 2 10 31 32 33:=bk x1du
theorem x1dw{rec0:AV->AV->AV->AV->AV->AV->AV->Mem->Nat->O2}:x1z6 call hs u xge (j7 rec0 0 1 2 10 31 32 33) (setE 0 (j1 (xj call hs u) 10) eNil)=j7 (x9r call hs u rec0) 0 1 2 10 31 32 33:=sq2 x1dn x1dv
theorem x1dx{rec0:AV->AV->AV->AV->AV->AV->AV->Mem->Nat->O2}:x1z6 call hs u xr9 (j7 rec0 0 1 2 10 31 32 33) (setE 0 (j1 (xj call hs u) 10) eNil)=j7 (xjf call hs u rec0) 0 1 2 10 31 32 33:=tr (sqN 2 x1dw)
theorem x1dy:x1z6 call hs u xr8 (j1 (xj call hs u) 10) (setE 0 (j1 (xj call hs u) 10) eNil)=j7 (x5t call hs u NN) 0 1 2 10 31 32 33:=lp (Ln:=fun n=>j7 (x5t call hs u n) 0 1 2 10 31 32 33) fun n=>tr x1dx
theorem x1dz:x1z6 call hs u xr7 (j1 (xj call hs u) 10) eNil=j7 (x5t call hs u NN) 0 1 2 10 31 32 33:=bk x1dy
theorem x1e0:x1z6 call hs u xr6 (j1 (xj call hs u) 10) eNil=j4 (xcp call hs u) 0 1 2 10:=tr (sqN 1 x1dz)
theorem x1e1:x1z6 call hs u xgd r_4 eNil=j4 (xcp call hs u) 0 1 2 10:=sq2 x1dm x1e0
theorem x145:x1z6 call hs u xr5 r_4 eNil=j3 (xjg call hs u) 0 1 2:=tr (sqN 4 x1e1)
noncomputable abbrev x1z7:=VX x2c 50 r_5
noncomputable def xrf:=x1xu x2c
noncomputable def xgg:=nRs 2 xrf
noncomputable def xrg:=nL xgg
noncomputable def x1e2:=nR xgg
noncomputable def xrh:=nR xrg
noncomputable def xri:=nR xrh
noncomputable def xrj:=nR xri
noncomputable def xgh:=nR xrj
noncomputable def xrk:=nL xgh
noncomputable def x1e3:=nR xgh
noncomputable def xrl:=nR xrk
noncomputable def xgi:=nRs 2 xrl
noncomputable def xrm:=nL xgi
noncomputable def x1e4:=nR xgi
noncomputable def xrn:=nR xrm
noncomputable def xro:=nR xrn
noncomputable def x1e5:=nR xro
theorem x1e6:x1z7 call hs u x1e2 r_5 eNil=j0 (xe call hs u):=by kernel_rfl
theorem x1e7{rec0:AV->AV->Mem->Nat->O2}:x1z7 call hs u x1e3 (j2 rec0 0 4) (setE 0 (j0 (xe call hs u)) eNil)=j2 (xz call hs u rec0) 0 4:=by kernel_rfl
theorem x1e8{rec0:AV->AV->Mem->Nat->O2}:x1z7 call hs u x1e4 (j2 (xz call hs u rec0) 0 4) (setE 1 (j2 (xz call hs u rec0) 0 4) (setE 0 (j0 (xe call hs u)) eNil))=j3 (x22 call hs u rec0) 0 4 5:=by kernel_rfl
theorem x1e9{rec0:AV->AV->Mem->Nat->O2}{rec1:AV->AV->AV->AV->Mem->Nat->O2}:x1z7 call hs u x1e5 (j4 rec1 0 4 5 6) (setE 2 (j3 (x22 call hs u rec0) 0 4 5) (setE 1 (j2 (xz call hs u rec0) 0 4) (setE 0 (j0 (xe call hs u)) eNil)))=j4 (x9s call hs u rec0 rec1) 0 4 5 6:=by kernel_rfl
theorem x1ea{rec0:AV->AV->Mem->Nat->O2}:x1z7 call hs u xro (j3 (x22 call hs u rec0) 0 4 5) (setE 2 (j3 (x22 call hs u rec0) 0 4 5) (setE 1 (j2 (xz call hs u rec0) 0 4) (setE 0 (j0 (xe call hs u)) eNil)))=j4 (x2h call hs u rec0 NN) 0 4 5 6:=lp (Ln:=fun n=>j4 (x2h call hs u rec0 n) 0 4 5 6) fun n=>tr x1e9
theorem x1eb{rec0:AV->AV->Mem->Nat->O2}:x1z7 call hs u xrn (j3 (x22 call hs u rec0) 0 4 5) (setE 1 (j2 (xz call hs u rec0) 0 4) (setE 0 (j0 (xe call hs u)) eNil))=j4 (x2h call hs u rec0 NN) 0 4 5 6:=bk x1ea
theorem x1ec{rec0:AV->AV->Mem->Nat->O2}:x1z7 call hs u xrm (j3 (x22 call hs u rec0) 0 4 5) (setE 1 (j2 (xz call hs u rec0) 0 4) (setE 0 (j0 (xe call hs u)) eNil))=j3 (x9t call hs u rec0) 0 4 5:=tr (sqN 1 x1eb)
theorem x1ed{rec0:AV->AV->Mem->Nat->O2}:x1z7 call hs u xgi (j2 (xz call hs u rec0) 0 4) (setE 1 (j2 (xz call hs u rec0) 0 4) (setE 0 (j0 (xe call hs u)) eNil))=j3 (x9t call hs u rec0) 0 4 5:=sq2 x1e8 x1ec
theorem x1ee{rec0:AV->AV->Mem->Nat->O2}:x1z7 call hs u xrl (j2 (xz call hs u rec0) 0 4) (setE 1 (j2 (xz call hs u rec0) 0 4) (setE 0 (j0 (xe call hs u)) eNil))=j2 (x5u call hs u rec0) 0 4:=tr (sqN 2 x1ed)
theorem x1ef{rec0:AV->AV->Mem->Nat->O2}:x1z7 call hs u xrk (j2 (xz call hs u rec0) 0 4) (setE 0 (j0 (xe call hs u)) eNil)=j2 (x5u call hs u rec0) 0 4:=bk x1ee
theorem x1eg{rec0:AV->AV->Mem->Nat->O2}:x1z7 call hs u xgh (j2 rec0 0 4) (setE 0 (j0 (xe call hs u)) eNil)=j2 (x5u call hs u rec0) 0 4:=sq2 x1e7 x1ef
theorem x1eh{rec0:AV->AV->Mem->Nat->O2}:x1z7 call hs u xrj (j2 rec0 0 4) (setE 0 (j0 (xe call hs u)) eNil)=j2 (x9u call hs u rec0) 0 4:=tr (sqN 1 x1eg)
theorem x1ei:x1z7 call hs u xri (j0 (xe call hs u)) (setE 0 (j0 (xe call hs u)) eNil)=j2 (x1g call hs u NN) 0 4:=lp (Ln:=fun n=>j2 (x1g call hs u n) 0 4) fun n=>tr x1eh
theorem x1ej:x1z7 call hs u xrh (j0 (xe call hs u)) eNil=j2 (x1g call hs u NN) 0 4:=bk x1ei
theorem x1ek:x1z7 call hs u xrg (j0 (xe call hs u)) eNil=j1 (x9v call hs u) 0:=tr (sqN 1 x1ej)
theorem x1el:x1z7 call hs u xgg r_5 eNil=j1 (x9v call hs u) 0:=sq2 x1e6 x1ek
theorem x146:x1z7 call hs u xrf r_5 eNil=j1 (xcq call hs u) 0:=tr (sqN 2 x1el)
noncomputable abbrev x1z8:=VX x89 61 r_0
noncomputable def xrp:=x1xu x89
noncomputable def xgj:=nRs 2 xrp
noncomputable def xrq:=nL xgj
noncomputable def x1em:=nR xgj
noncomputable def xrr:=nR xrq
noncomputable def xrs:=nR xrr
noncomputable def xrt:=nR xrs
noncomputable def xgk:=nR xrt
noncomputable def xru:=nL xgk
noncomputable def x1en:=nR xgk
noncomputable def xrv:=nR xru
noncomputable def xrw:=nR xrv
noncomputable def xrx:=nR xrw
noncomputable def xry:=nR xrx
noncomputable def xgl:=nR xry
noncomputable def x1eo:=nL xgl
noncomputable def x1ep:=nR xgl
theorem x1eq:x1z8 call hs u x1em r_0 eNil=j1 (xk call hs u) 7:=by kernel_rfl
theorem x1er{rec0:AV->AV->AV->AV->AV->Mem->Nat->O2}:x1z8 call hs u x1en (j5 rec0 0 1 2 7 8) (setE 0 (j1 (xk call hs u) 7) eNil)=j5 (xg call hs u rec0) 0 1 2 7 8:=by kernel_rfl
theorem x1es{rec0:AV->AV->AV->AV->AV->Mem->Nat->O2}{rec1:AV->AV->AV->AV->AV->AV->Mem->Nat->O2}:x1z8 call hs u x1ep (j6 rec1 0 1 2 7 8 9) (setE 2 (j5 (xg call hs u rec0) 0 1 2 7 8) (setE 1 (j5 (xg call hs u rec0) 0 1 2 7 8) (setE 0 (j1 (xk call hs u) 7) eNil)))=j6 (x9w call hs u rec0 rec1) 0 1 2 7 8 9:=by kernel_rfl
theorem x1et{rec0:AV->AV->AV->AV->AV->Mem->Nat->O2}{rec1:AV->AV->AV->AV->AV->AV->Mem->Nat->O2}:x1z8 call hs u x1eo (j6 (x9w call hs u rec0 rec1) 0 1 2 7 8 9) (setE 2 (j5 (xg call hs u rec0) 0 1 2 7 8) (setE 1 (j5 (xg call hs u rec0) 0 1 2 7 8) (setE 0 (j1 (xk call hs u) 7) eNil)))=j6 (xcr call hs u rec0 rec1) 0 1 2 7 8 9:=by kernel_rfl
theorem x1eu{rec0:AV->AV->AV->AV->AV->Mem->Nat->O2}{rec1:AV->AV->AV->AV->AV->AV->Mem->Nat->O2}:x1z8 call hs u xgl (j6 rec1 0 1 2 7 8 9) (setE 2 (j5 (xg call hs u rec0) 0 1 2 7 8) (setE 1 (j5 (xg call hs u rec0) 0 1 2 7 8) (setE 0 (j1 (xk call hs u) 7) eNil)))=j6 (xcr call hs u rec0 rec1) 0 1 2 7 8 9:=sq2 x1es x1et
theorem x1ev{rec0:AV->AV->AV->AV->AV->Mem->Nat->O2}{rec1:AV->AV->AV->AV->AV->AV->Mem->Nat->O2}:x1z8 call hs u xry (j6 rec1 0 1 2 7 8 9) (setE 2 (j5 (xg call hs u rec0) 0 1 2 7 8) (setE 1 (j5 (xg call hs u rec0) 0 1 2 7 8) (setE 0 (j1 (xk call hs u) 7) eNil)))=j6 (xjh call hs u rec0 rec1) 0 1 2 7 8 9:=tr (sqN 1 x1eu)
theorem x1ew{rec0:AV->AV->AV->AV->AV->Mem->Nat->O2}:x1z8 call hs u xrx (j5 (xg call hs u rec0) 0 1 2 7 8) (setE 2 (j5 (xg call hs u rec0) 0 1 2 7 8) (setE 1 (j5 (xg call hs u rec0) 0 1 2 7 8) (setE 0 (j1 (xk call hs u) 7) eNil)))=j6 (x5v call hs u rec0 NN) 0 1 2 7 8 9:=lp (Ln:=fun n=>j6 (x5v call hs u rec0 n) 0 1 2 7 8 9) fun n=>tr x1ev
theorem x1ex{rec0:AV->AV->AV->AV->AV->Mem->Nat->O2}:x1z8 call hs u xrw (j5 (xg call hs u rec0) 0 1 2 7 8) (setE 1 (j5 (xg call hs u rec0) 0 1 2 7 8) (setE 0 (j1 (xk call hs u) 7) eNil))=j6 (x5v call hs u rec0 NN) 0 1 2 7 8 9:=bk x1ew
theorem x1ey{rec0:AV->AV->AV->AV->AV->Mem->Nat->O2}:x1z8 call hs u xrv (j5 (xg call hs u rec0) 0 1 2 7 8) (setE 1 (j5 (xg call hs u rec0) 0 1 2 7 8) (setE 0 (j1 (xk call hs u) 7) eNil))=j5 (x9x call hs u rec0) 0 1 2 7 8:=tr (sqN 1 x1ex)
theorem x1ez{rec0:AV->AV->AV->AV->AV->Mem->Nat->O2}:x1z8 call hs u xru (j5 (xg call hs u rec0) 0 1 2 7 8) (setE 0 (j1 (xk call hs u) 7) eNil)=j5 (x9x call hs u rec0) 0 1 2 7 8:=bk x1ey
theorem x1f0{rec0:AV->AV->AV->AV->AV->Mem->Nat->O2}:x1z8 call hs u xgk (j5 rec0 0 1 2 7 8) (setE 0 (j1 (xk call hs u) 7) eNil)=j5 (x9x call hs u rec0) 0 1 2 7 8:=sq2 x1er x1ez
theorem x1f1{rec0:AV->AV->AV->AV->AV->Mem->Nat->O2}:x1z8 call hs u xrt (j5 rec0 0 1 2 7 8) (setE 0 (j1 (xk call hs u) 7) eNil)=j5 (xji call hs u rec0) 0 1 2 7 8:=tr (sqN 1 x1f0)
theorem x1f2:x1z8 call hs u xrs (j1 (xk call hs u) 7) (setE 0 (j1 (xk call hs u) 7) eNil)=j5 (x5w call hs u NN) 0 1 2 7 8:=lp (Ln:=fun n=>j5 (x5w call hs u n) 0 1 2 7 8) fun n=>tr x1f1
theorem x1f3:x1z8 call hs u xrr (j1 (xk call hs u) 7) eNil=j5 (x5w call hs u NN) 0 1 2 7 8:=bk x1f2
theorem x1f4:x1z8 call hs u xrq (j1 (xk call hs u) 7) eNil=j4 (xcs call hs u) 0 1 2 7:=tr (sqN 1 x1f3)
theorem x1f5:x1z8 call hs u xgj r_0 eNil=j4 (xcs call hs u) 0 1 2 7:=sq2 x1eq x1f4
theorem x147:x1z8 call hs u xrp r_0 eNil=j3 (xjj call hs u) 0 1 2:=tr (sqN 2 x1f5)
noncomputable abbrev x227:=VX x8a 26 r_3
noncomputable def xrz:=x1xu x8a
noncomputable def xgm:=nRs 2 xrz
noncomputable def xs0:=nL xgm
noncomputable def x1f6:=nR xgm
noncomputable def xs1:=nR xs0
noncomputable def xs2:=nR xs1
noncomputable def x1f7:=nR xs2
theorem x1f8:x227 call hs u x1f6 r_3 eNil=j0 (x3a call hs u):=by kernel_rfl
theorem x1f9{rec0:AV->AV->AV->Mem->Nat->O2}:x227 call hs u x1f7 (j3 rec0 0 1 5) (setE 0 (j0 (x3a call hs u)) eNil)=j3 (xjk call hs u rec0) 0 1 5:=by kernel_rfl
theorem x1fa:x227 call hs u xs2 (j0 (x3a call hs u)) (setE 0 (j0 (x3a call hs u)) eNil)=j3 (x5x call hs u NN) 0 1 5:=lp (Ln:=fun n=>j3 (x5x call hs u n) 0 1 5) fun n=>tr x1f9
theorem x1fb:x227 call hs u xs1 (j0 (x3a call hs u)) eNil=j3 (x5x call hs u NN) 0 1 5:=bk x1fa
theorem x1fc:x227 call hs u xs0 (j0 (x3a call hs u)) eNil=j2 (xct call hs u) 0 1:=tr (sqN 1 x1fb)
theorem x1fd:x227 call hs u xgm r_3 eNil=j2 (xct call hs u) 0 1:=sq2 x1f8 x1fc
theorem x148:x227 call hs u xrz r_3 eNil=j2 (xjl call hs u) 0 1:=tr (sqN 2 x1fd)
noncomputable abbrev x228:=VX x3z 53 r_6
noncomputable def xs3:=x1xu x3z
noncomputable def xgn:=nRs 2 xs3
noncomputable def xs4:=nL xgn
noncomputable def x1fe:=nR xgn
noncomputable def xs5:=nR xs4
noncomputable def xs6:=nR xs5
noncomputable def x1ff:=nR xs6
theorem x1fg:x228 call hs u x1fe r_6 eNil=j0 (x2i call hs u):=by kernel_rfl
theorem x1fh{rec0:AV->AV->Mem->Nat->O2}:x228 call hs u x1ff (j2 rec0 1 3) (setE 0 (j0 (x2i call hs u)) eNil)=j2 (x9y call hs u rec0) 1 3:=by kernel_rfl
theorem x1fi:x228 call hs u xs6 (j0 (x2i call hs u)) (setE 0 (j0 (x2i call hs u)) eNil)=j2 (x2j call hs u NN) 1 3:=lp (Ln:=fun n=>j2 (x2j call hs u n) 1 3) fun n=>tr x1fh
theorem x1fj:x228 call hs u xs5 (j0 (x2i call hs u)) eNil=j2 (x2j call hs u NN) 1 3:=bk x1fi
theorem x1fk:x228 call hs u xs4 (j0 (x2i call hs u)) eNil=j1 (x5y call hs u) 1:=tr (sqN 1 x1fj)
theorem x1fl:x228 call hs u xgn r_6 eNil=j1 (x5y call hs u) 1:=sq2 x1fg x1fk
theorem x149:x228 call hs u xs3 r_6 eNil=j1 (xcu call hs u) 0:=tr (sqN 2 x1fl)
noncomputable abbrev x229:=VX xbv 64 r_7
noncomputable def xs7:=x1xu xbv
noncomputable def xgo:=nRs 3 xs7
noncomputable def xs8:=nL xgo
noncomputable def x1fm:=nR xgo
noncomputable def xs9:=nR xs8
noncomputable def xsa:=nR xs9
noncomputable def x1fn:=nR xsa
theorem x1fo:x229 call hs u x1fm r_7 eNil=j3 (x3b call hs u) 1 2 7:=by kernel_rfl
theorem x1fp{rec0:AV->AV->AV->AV->AV->AV->Mem->Nat->O2}:x229 call hs u x1fn (j6 rec0 1 2 7 19 20 21) (setE 0 (j3 (x3b call hs u) 1 2 7) eNil)=j6 (xjm call hs u rec0) 1 2 7 19 20 21:=by kernel_rfl
theorem x1fq:x229 call hs u xsa (j3 (x3b call hs u) 1 2 7) (setE 0 (j3 (x3b call hs u) 1 2 7) eNil)=j6 (x5z call hs u NN) 1 2 7 19 20 21:=lp (Ln:=fun n=>j6 (x5z call hs u n) 1 2 7 19 20 21) fun n=>tr x1fp
theorem x1fr:x229 call hs u xs9 (j3 (x3b call hs u) 1 2 7) eNil=j6 (x5z call hs u NN) 1 2 7 19 20 21:=bk x1fq
theorem x1fs:x229 call hs u xs8 (j3 (x3b call hs u) 1 2 7) eNil=j3 (xcv call hs u) 1 2 7:=tr (sqN 1 x1fr)
theorem x1ft:x229 call hs u xgo r_7 eNil=j3 (xcv call hs u) 1 2 7:=sq2 x1fo x1fs
theorem x14a:x229 call hs u xs7 r_7 eNil=j2 (xjn call hs u) 0 1:=tr (sqN 3 x1ft)
noncomputable abbrev x2au:=VX x1z 12 r_8
noncomputable def x1fu:=x1xu x1z
theorem x14b:x2au call hs u x1fu r_8 eNil=j1 (xcw call hs u) 0:=by kernel_rfl
noncomputable abbrev x2av:=VX x2d 6 r_6
noncomputable def x1fv:=x1xu x2d
theorem x14c:x2av call hs u x1fv r_6 eNil=j1 (x9z call hs u) 0:=by kernel_rfl
noncomputable abbrev x2aw:=VX x40 11 r_6
noncomputable def x1fw:=x1xu x40
theorem x14d:x2aw call hs u x1fw r_6 eNil=j1 (xcx call hs u) 0:=by kernel_rfl
noncomputable abbrev x1zu:=VX xby 109 r_7
noncomputable def xsb:=x1xu xby
noncomputable def xgp:=nRs 2 xsb
noncomputable def xsc:=nL xgp
noncomputable def xsd:=nR xgp
noncomputable def xgq:=nR xsd
noncomputable def xse:=nL xgq
noncomputable def x1fx:=nR xgq
noncomputable def xsf:=nR xse
noncomputable def xsg:=nR xsf
noncomputable def x1fy:=nR xsg
noncomputable def xsh:=nR xsc
noncomputable def xsi:=nR xsh
noncomputable def x1fz:=nR xsi
theorem x1g0:x1zu call hs u x1fx r_7 eNil=j1 (x3c call hs u) 6:=by kernel_rfl
theorem x1g1{rec0:AV->AV->AV->AV->Mem->Nat->O2}:x1zu call hs u x1fy (j4 rec0 2 6 9 10) (setE 2 (j1 (x3c call hs u) 6) eNil)=j4 (xjo call hs u rec0) 2 6 9 10:=by kernel_rfl
theorem x1g2:x1zu call hs u xsg (j1 (x3c call hs u) 6) (setE 2 (j1 (x3c call hs u) 6) eNil)=j4 (x61 call hs u NN) 2 6 9 10:=lp (Ln:=fun n=>j4 (x61 call hs u n) 2 6 9 10) fun n=>tr x1g1
theorem x1g3:x1zu call hs u xsf (j1 (x3c call hs u) 6) eNil=j4 (x61 call hs u NN) 2 6 9 10:=bk x1g2
theorem x1g4:x1zu call hs u xse (j1 (x3c call hs u) 6) eNil=j3 (xcy call hs u) 2 6 9:=tr (sqN 1 x1g3)
theorem x1g5:x1zu call hs u xgq r_7 eNil=j3 (xcy call hs u) 2 6 9:=sq2 x1g0 x1g4
theorem x1g6:x1zu call hs u xsd r_7 eNil=j3 (x3d call hs u) 1 2 6:=tr (sqN 1 x1g5)
theorem x1g7{rec1:AV->AV->AV->AV->Mem->Nat->O2}:x1zu call hs u x1fz (j4 rec1 1 2 6 7) (setE 0 (j3 (x3d call hs u) 1 2 6) eNil)=j4 (xjp call hs u rec1) 1 2 6 7:=by kernel_rfl
theorem x1g8:x1zu call hs u xsi (j3 (x3d call hs u) 1 2 6) (setE 0 (j3 (x3d call hs u) 1 2 6) eNil)=j4 (x62 call hs u NN) 1 2 6 7:=lp (Ln:=fun n=>j4 (x62 call hs u n) 1 2 6 7) fun n=>tr x1g7
theorem x1g9:x1zu call hs u xsh (j3 (x3d call hs u) 1 2 6) eNil=j4 (x62 call hs u NN) 1 2 6 7:=bk x1g8
theorem x1ga:x1zu call hs u xsc (j3 (x3d call hs u) 1 2 6) eNil=j3 (xcz call hs u) 1 2 6:=tr (sqN 1 x1g9)
theorem x1gb:x1zu call hs u xgp r_7 eNil=j3 (xcz call hs u) 1 2 6:=sq2 x1g6 x1ga
theorem x14e:x1zu call hs u xsb r_7 eNil=j2 (xjq call hs u) 0 1:=tr (sqN 2 x1gb)
noncomputable abbrev x1zn:=VX x20 60 r_4
noncomputable def xsj:=x1xu x20
noncomputable def xgr:=nRs 4 xsj
noncomputable def xsk:=nL xgr
noncomputable def x1gc:=nR xgr
noncomputable def xsl:=nR xsk
noncomputable def xsm:=nR xsl
noncomputable def xsn:=nR xsm
noncomputable def xgs:=nRs 2 xsn
noncomputable def xso:=nL xgs
noncomputable def x1gd:=nR xgs
noncomputable def xsp:=nR xso
noncomputable def xgt:=nR xsp
noncomputable def x1ge:=nL xgt
noncomputable def x1gf:=nR xgt
theorem x1gg:x1zn call hs u x1gc r_4 eNil=j1 (xt call hs u) 9:=by kernel_rfl
theorem x1gh{rec0:AV->AV->AV->AV->AV->AV->Mem->Nat->O2}:x1zn call hs u x1gd (j6 rec0 1 2 9 40 41 42) (setE 1 (j1 (xt call hs u) 9) eNil)=j6 (x15 call hs u rec0) 1 2 9 40 41 42:=by kernel_rfl
theorem x1gi{rec0:AV->AV->AV->AV->AV->AV->Mem->Nat->O2}:x1zn call hs u x1gf (j6 (x15 call hs u rec0) 1 2 9 40 41 42) (setE 2 (j6 (x15 call hs u rec0) 1 2 9 40 41 42) (setE 1 (j1 (xt call hs u) 9) eNil))=j7 (x4i call hs u rec0) 1 2 9 11 40 41 42:=by kernel_rfl
theorem x1gj{rec0:AV->AV->AV->AV->AV->AV->Mem->Nat->O2}:x1zn call hs u x1ge (j7 (x4i call hs u rec0) 1 2 9 11 40 41 42) (setE 2 (j6 (x15 call hs u rec0) 1 2 9 40 41 42) (setE 1 (j1 (xt call hs u) 9) eNil))=j7 (xa0 call hs u rec0) 1 2 9 11 40 41 42:=by kernel_rfl
theorem x1gk{rec0:AV->AV->AV->AV->AV->AV->Mem->Nat->O2}:x1zn call hs u xgt (j6 (x15 call hs u rec0) 1 2 9 40 41 42) (setE 2 (j6 (x15 call hs u rec0) 1 2 9 40 41 42) (setE 1 (j1 (xt call hs u) 9) eNil))=j7 (xa0 call hs u rec0) 1 2 9 11 40 41 42:=sq2 x1gi x1gj
theorem x1gl{rec0:AV->AV->AV->AV->AV->AV->Mem->Nat->O2}:x1zn call hs u xsp (j6 (x15 call hs u rec0) 1 2 9 40 41 42) (setE 2 (j6 (x15 call hs u rec0) 1 2 9 40 41 42) (setE 1 (j1 (xt call hs u) 9) eNil))=j6 (x63 call hs u rec0) 1 2 9 40 41 42:=tr (sqN 1 x1gk)
theorem x1gm{rec0:AV->AV->AV->AV->AV->AV->Mem->Nat->O2}:x1zn call hs u xso (j6 (x15 call hs u rec0) 1 2 9 40 41 42) (setE 1 (j1 (xt call hs u) 9) eNil)=j6 (x63 call hs u rec0) 1 2 9 40 41 42:=bk x1gl
theorem x1gn{rec0:AV->AV->AV->AV->AV->AV->Mem->Nat->O2}:x1zn call hs u xgs (j6 rec0 1 2 9 40 41 42) (setE 1 (j1 (xt call hs u) 9) eNil)=j6 (x63 call hs u rec0) 1 2 9 40 41 42:=sq2 x1gh x1gm
theorem x1go{rec0:AV->AV->AV->AV->AV->AV->Mem->Nat->O2}:x1zn call hs u xsn (j6 rec0 1 2 9 40 41 42) (setE 1 (j1 (xt call hs u) 9) eNil)=j6 (xa1 call hs u rec0) 1 2 9 40 41 42:=tr (sqN 2 x1gn)
theorem x1gp:x1zn call hs u xsm (j1 (xt call hs u) 9) (setE 1 (j1 (xt call hs u) 9) eNil)=j6 (x2k call hs u NN) 1 2 9 40 41 42:=lp (Ln:=fun n=>j6 (x2k call hs u n) 1 2 9 40 41 42) fun n=>tr x1go
theorem x1gq:x1zn call hs u xsl (j1 (xt call hs u) 9) eNil=j6 (x2k call hs u NN) 1 2 9 40 41 42:=bk x1gp
theorem x1gr:x1zn call hs u xsk (j1 (xt call hs u) 9) eNil=j3 (xa2 call hs u) 1 2 9:=tr (sqN 1 x1gq)
theorem x1gs:x1zn call hs u xgr r_4 eNil=j3 (xa2 call hs u) 1 2 9:=sq2 x1gg x1gr
theorem x14f:x1zn call hs u xsj r_4 eNil=j3 (xd0 call hs u) 0 1 2:=tr (sqN 4 x1gs)
noncomputable abbrev x1yw:=VX x35 72 r_4
noncomputable def xsq:=x1xu x35
noncomputable def xgu:=nRs 2 xsq
noncomputable def xsr:=nL xgu
noncomputable def xss:=nR xgu
noncomputable def xgv:=nRs 3 xss
noncomputable def xst:=nL xgv
noncomputable def x1gt:=nR xgv
noncomputable def xsu:=nR xst
noncomputable def xsv:=nR xsu
noncomputable def xsw:=nR xsv
noncomputable def xgw:=nR xsw
noncomputable def xsx:=nL xgw
noncomputable def x1gu:=nR xgw
noncomputable def xsy:=nR xsx
noncomputable def xgx:=nR xsy
noncomputable def x1gv:=nL xgx
noncomputable def x1gw:=nR xgx
noncomputable def xsz:=nR xsr
noncomputable def xt0:=nR xsz
noncomputable def x1gx:=nR xt0
theorem x1gy:x1yw call hs u x1gt r_4 eNil=j1 (xu call hs u) 9:=by kernel_rfl
theorem x1gz{rec0:AV->AV->AV->AV->Mem->Nat->O2}:x1yw call hs u x1gu (j4 rec0 1 2 9 10) (setE 2 (j1 (xu call hs u) 9) eNil)=j4 (x16 call hs u rec0) 1 2 9 10:=by kernel_rfl
theorem x1h0{rec0:AV->AV->AV->AV->Mem->Nat->O2}:x1yw call hs u x1gw (j4 (x16 call hs u rec0) 1 2 9 10) (setE 3 (j4 (x16 call hs u rec0) 1 2 9 10) (setE 2 (j1 (xu call hs u) 9) eNil))=j5 (x4j call hs u rec0) 1 2 9 10 11:=by kernel_rfl
theorem x1h1{rec0:AV->AV->AV->AV->Mem->Nat->O2}:x1yw call hs u x1gv (j5 (x4j call hs u rec0) 1 2 9 10 11) (setE 3 (j4 (x16 call hs u rec0) 1 2 9 10) (setE 2 (j1 (xu call hs u) 9) eNil))=j5 (xa3 call hs u rec0) 1 2 9 10 11:=by kernel_rfl
theorem x1h2{rec0:AV->AV->AV->AV->Mem->Nat->O2}:x1yw call hs u xgx (j4 (x16 call hs u rec0) 1 2 9 10) (setE 3 (j4 (x16 call hs u rec0) 1 2 9 10) (setE 2 (j1 (xu call hs u) 9) eNil))=j5 (xa3 call hs u rec0) 1 2 9 10 11:=sq2 x1h0 x1h1
theorem x1h3{rec0:AV->AV->AV->AV->Mem->Nat->O2}:x1yw call hs u xsy (j4 (x16 call hs u rec0) 1 2 9 10) (setE 3 (j4 (x16 call hs u rec0) 1 2 9 10) (setE 2 (j1 (xu call hs u) 9) eNil))=j4 (x64 call hs u rec0) 1 2 9 10:=tr (sqN 1 x1h2)
theorem x1h4{rec0:AV->AV->AV->AV->Mem->Nat->O2}:x1yw call hs u xsx (j4 (x16 call hs u rec0) 1 2 9 10) (setE 2 (j1 (xu call hs u) 9) eNil)=j4 (x64 call hs u rec0) 1 2 9 10:=bk x1h3
theorem x1h5{rec0:AV->AV->AV->AV->Mem->Nat->O2}:x1yw call hs u xgw (j4 rec0 1 2 9 10) (setE 2 (j1 (xu call hs u) 9) eNil)=j4 (x64 call hs u rec0) 1 2 9 10:=sq2 x1gz x1h4
theorem x1h6{rec0:AV->AV->AV->AV->Mem->Nat->O2}:x1yw call hs u xsw (j4 rec0 1 2 9 10) (setE 2 (j1 (xu call hs u) 9) eNil)=j4 (xa4 call hs u rec0) 1 2 9 10:=tr (sqN 1 x1h5)
theorem x1h7:x1yw call hs u xsv (j1 (xu call hs u) 9) (setE 2 (j1 (xu call hs u) 9) eNil)=j4 (x2l call hs u NN) 1 2 9 10:=lp (Ln:=fun n=>j4 (x2l call hs u n) 1 2 9 10) fun n=>tr x1h6
theorem x1h8:x1yw call hs u xsu (j1 (xu call hs u) 9) eNil=j4 (x2l call hs u NN) 1 2 9 10:=bk x1h7
theorem x1h9:x1yw call hs u xst (j1 (xu call hs u) 9) eNil=j3 (xa5 call hs u) 1 2 9:=tr (sqN 1 x1h8)
theorem x1ha:x1yw call hs u xgv r_4 eNil=j3 (xa5 call hs u) 1 2 9:=sq2 x1gy x1h9
theorem x1hb:x1yw call hs u xss r_4 eNil=j3 (x2m call hs u) 1 2 3:=tr (sqN 3 x1ha)
theorem x1hc{rec1:AV->AV->AV->AV->Mem->Nat->O2}:x1yw call hs u x1gx (j4 rec1 1 2 3 8) (setE 0 (j3 (x2m call hs u) 1 2 3) eNil)=j4 (xa6 call hs u rec1) 1 2 3 8:=by kernel_rfl
theorem x1hd:x1yw call hs u xt0 (j3 (x2m call hs u) 1 2 3) (setE 0 (j3 (x2m call hs u) 1 2 3) eNil)=j4 (x2n call hs u NN) 1 2 3 8:=lp (Ln:=fun n=>j4 (x2n call hs u n) 1 2 3 8) fun n=>tr x1hc
theorem x1he:x1yw call hs u xsz (j3 (x2m call hs u) 1 2 3) eNil=j4 (x2n call hs u NN) 1 2 3 8:=bk x1hd
theorem x1hf:x1yw call hs u xsr (j3 (x2m call hs u) 1 2 3) eNil=j3 (xa7 call hs u) 1 2 3:=tr (sqN 1 x1he)
theorem x1hg:x1yw call hs u xgu r_4 eNil=j3 (xa7 call hs u) 1 2 3:=sq2 x1hb x1hf
theorem x14g:x1yw call hs u xsq r_4 eNil=j3 (xd1 call hs u) 0 1 2:=tr (sqN 2 x1hg)
noncomputable abbrev x20o:=VX x8c 51 r_5
noncomputable def xt1:=x1xu x8c
noncomputable def xgy:=nRs 6 xt1
noncomputable def xt2:=nL xgy
noncomputable def x1hh:=nR xgy
noncomputable def xt3:=nR xt2
noncomputable def xt4:=nR xt3
noncomputable def xt5:=nR xt4
noncomputable def xgz:=nRs 2 xt5
noncomputable def x1hi:=nL xgz
noncomputable def x1hj:=nR xgz
theorem x1hk:x20o call hs u x1hh r_5 eNil=j1 (x1h call hs u) 7:=by kernel_rfl
theorem x1hl{rec0:AV->AV->AV->AV->AV->Mem->Nat->O2}:x20o call hs u x1hj (j5 rec0 6 7 27 28 29) (setE 0 (j1 (x1h call hs u) 7) eNil)=j5 (xa8 call hs u rec0) 6 7 27 28 29:=by kernel_rfl
theorem x1hm{rec0:AV->AV->AV->AV->AV->Mem->Nat->O2}:x20o call hs u x1hi (j5 (xa8 call hs u rec0) 6 7 27 28 29) (setE 0 (j1 (x1h call hs u) 7) eNil)=j5 (xd2 call hs u rec0) 6 7 27 28 29:=by kernel_rfl
theorem x1hn{rec0:AV->AV->AV->AV->AV->Mem->Nat->O2}:x20o call hs u xgz (j5 rec0 6 7 27 28 29) (setE 0 (j1 (x1h call hs u) 7) eNil)=j5 (xd2 call hs u rec0) 6 7 27 28 29:=sq2 x1hl x1hm
theorem x1ho{rec0:AV->AV->AV->AV->AV->Mem->Nat->O2}:x20o call hs u xt5 (j5 rec0 6 7 27 28 29) (setE 0 (j1 (x1h call hs u) 7) eNil)=j5 (xjr call hs u rec0) 6 7 27 28 29:=tr (sqN 2 x1hn)
theorem x1hp:x20o call hs u xt4 (j1 (x1h call hs u) 7) (setE 0 (j1 (x1h call hs u) 7) eNil)=j5 (x65 call hs u NN) 6 7 27 28 29:=lp (Ln:=fun n=>j5 (x65 call hs u n) 6 7 27 28 29) fun n=>tr x1ho
theorem x1hq:x20o call hs u xt3 (j1 (x1h call hs u) 7) eNil=j5 (x65 call hs u NN) 6 7 27 28 29:=bk x1hp
theorem x1hr:x20o call hs u xt2 (j1 (x1h call hs u) 7) eNil=j3 (xd3 call hs u) 4 6 7:=tr (sqN 1 x1hq)
theorem x1hs:x20o call hs u xgy r_5 eNil=j3 (xd3 call hs u) 4 6 7:=sq2 x1hk x1hr
theorem x14h:x20o call hs u xt1 r_5 eNil=j1 (xjs call hs u) 0:=tr (sqN 6 x1hs)
noncomputable abbrev x22a:=VX x8d 60 r_9
noncomputable def xt6:=x1xu x8d
noncomputable def xh0:=nRs 6 xt6
noncomputable def xt7:=nL xh0
noncomputable def x1ht:=nR xh0
noncomputable def xt8:=nR xt7
noncomputable def xt9:=nR xt8
noncomputable def x1hu:=nR xt9
theorem x1hv:x22a call hs u x1ht r_9 eNil=j3 (x3e call hs u) 9 10 11:=by kernel_rfl
theorem x1hw{rec0:AV->AV->AV->AV->AV->AV->AV->Mem->Nat->O2}:x22a call hs u x1hu (j7 rec0 8 9 10 11 33 34 35) (setE 0 (j3 (x3e call hs u) 9 10 11) eNil)=j7 (xjt call hs u rec0) 8 9 10 11 33 34 35:=by kernel_rfl
theorem x1hx:x22a call hs u xt9 (j3 (x3e call hs u) 9 10 11) (setE 0 (j3 (x3e call hs u) 9 10 11) eNil)=j7 (x66 call hs u NN) 8 9 10 11 33 34 35:=lp (Ln:=fun n=>j7 (x66 call hs u n) 8 9 10 11 33 34 35) fun n=>tr x1hw
theorem x1hy:x22a call hs u xt8 (j3 (x3e call hs u) 9 10 11) eNil=j7 (x66 call hs u NN) 8 9 10 11 33 34 35:=bk x1hx
theorem x1hz:x22a call hs u xt7 (j3 (x3e call hs u) 9 10 11) eNil=j5 (xd4 call hs u) 6 8 9 10 11:=tr (sqN 1 x1hy)
theorem x1i0:x22a call hs u xh0 r_9 eNil=j5 (xd4 call hs u) 6 8 9 10 11:=sq2 x1hv x1hz
theorem x14i:x22a call hs u xt6 r_9 eNil=j1 (xju call hs u) 0:=tr (sqN 6 x1i0)
noncomputable abbrev x2ax:=VX x8e 20 r_10
noncomputable def x1i1:=x1xu x8e
theorem x14j:x2ax call hs u x1i1 r_10 eNil=j1 (xjv call hs u) 0:=by kernel_rfl
noncomputable abbrev x2ay:=VX x8f 40 r_3
noncomputable def x1i2:=x1xu x8f
theorem x14k:x2ay call hs u x1i2 r_3 eNil=j2 (xjw call hs u) 0 1:=by kernel_rfl
noncomputable abbrev x2az:=VX x57 36 r_6
noncomputable def x1i3:=x1xu x57
theorem x14l:x2az call hs u x1i3 r_6 eNil=j1 (xjx call hs u) 0:=by kernel_rfl
noncomputable abbrev x2b0:=VX x58 12 r_11
noncomputable def x1i4:=x1xu x58
theorem x14m:x2b0 call hs u x1i4 r_11 eNil=j0 (xjy call hs u):=by kernel_rfl
noncomputable abbrev x2b1:=VX x41 10 r_12
noncomputable def x1i5:=x1xu x41
theorem x14n:x2b1 call hs u x1i5 r_12 eNil=j2 (xjz call hs u) 0 1:=by kernel_rfl
noncomputable abbrev x2b2:=VX x36 7 r_6
noncomputable def x1i6:=x1xu x36
theorem x14o:x2b2 call hs u x1i6 r_6 eNil=j1 (xk1 call hs u) 0:=by kernel_rfl
noncomputable abbrev x2b3:=VX xr 15 r_0
noncomputable def x1i7:=x1xu xr
theorem x14p:x2b3 call hs u x1i7 r_0 eNil=j3 (xd5 call hs u) 0 1 2:=by kernel_rfl
noncomputable abbrev x22b:=VX x59 42 r_3
noncomputable def xta:=x1xu x59
noncomputable def xh1:=nRs 3 xta
noncomputable def xtb:=nL xh1
noncomputable def x1i8:=nR xh1
noncomputable def xtc:=nR xtb
noncomputable def xtd:=nR xtc
noncomputable def x1i9:=nR xtd
theorem x1ia:x22b call hs u x1i8 r_3 eNil=j1 (x3f call hs u) 6:=by kernel_rfl
theorem x1ib{rec0:AV->AV->AV->AV->AV->AV->Mem->Nat->O2}:x22b call hs u x1i9 (j6 rec0 1 5 6 14 15 16) (setE 0 (j1 (x3f call hs u) 6) eNil)=j6 (xk2 call hs u rec0) 1 5 6 14 15 16:=by kernel_rfl
theorem x1ic:x22b call hs u xtd (j1 (x3f call hs u) 6) (setE 0 (j1 (x3f call hs u) 6) eNil)=j6 (x67 call hs u NN) 1 5 6 14 15 16:=lp (Ln:=fun n=>j6 (x67 call hs u n) 1 5 6 14 15 16) fun n=>tr x1ib
theorem x1id:x22b call hs u xtc (j1 (x3f call hs u) 6) eNil=j6 (x67 call hs u NN) 1 5 6 14 15 16:=bk x1ic
theorem x1ie:x22b call hs u xtb (j1 (x3f call hs u) 6) eNil=j4 (xd6 call hs u) 1 2 5 6:=tr (sqN 1 x1id)
theorem x1if:x22b call hs u xh1 r_3 eNil=j4 (xd6 call hs u) 1 2 5 6:=sq2 x1ia x1ie
theorem x14q:x22b call hs u xta r_3 eNil=j2 (xk3 call hs u) 0 1:=tr (sqN 3 x1if)
noncomputable abbrev x20p:=VX x5a 38 r_3
noncomputable def xte:=x1xu x5a
noncomputable def xh2:=nRs 5 xte
noncomputable def xtf:=nL xh2
noncomputable def x1ig:=nR xh2
noncomputable def xtg:=nR xtf
noncomputable def xth:=nR xtg
noncomputable def xti:=nR xth
noncomputable def xh3:=nRs 2 xti
noncomputable def x1ih:=nL xh3
noncomputable def x1ii:=nR xh3
theorem x1ij:x20p call hs u x1ig r_3 eNil=j1 (x1i call hs u) 5:=by kernel_rfl
theorem x1ik{rec0:AV->AV->AV->AV->AV->Mem->Nat->O2}:x20p call hs u x1ii (j5 rec0 5 6 8 24 25) (setE 0 (j1 (x1i call hs u) 5) eNil)=j5 (xa9 call hs u rec0) 5 6 8 24 25:=by kernel_rfl
theorem x1il{rec0:AV->AV->AV->AV->AV->Mem->Nat->O2}:x20p call hs u x1ih (j5 (xa9 call hs u rec0) 5 6 8 24 25) (setE 0 (j1 (x1i call hs u) 5) eNil)=j5 (xd7 call hs u rec0) 5 6 8 24 25:=by kernel_rfl
theorem x1im{rec0:AV->AV->AV->AV->AV->Mem->Nat->O2}:x20p call hs u xh3 (j5 rec0 5 6 8 24 25) (setE 0 (j1 (x1i call hs u) 5) eNil)=j5 (xd7 call hs u rec0) 5 6 8 24 25:=sq2 x1ik x1il
theorem x1in{rec0:AV->AV->AV->AV->AV->Mem->Nat->O2}:x20p call hs u xti (j5 rec0 5 6 8 24 25) (setE 0 (j1 (x1i call hs u) 5) eNil)=j5 (xk4 call hs u rec0) 5 6 8 24 25:=tr (sqN 2 x1im)
theorem x1io:x20p call hs u xth (j1 (x1i call hs u) 5) (setE 0 (j1 (x1i call hs u) 5) eNil)=j5 (x68 call hs u NN) 5 6 8 24 25:=lp (Ln:=fun n=>j5 (x68 call hs u n) 5 6 8 24 25) fun n=>tr x1in
theorem x1ip:x20p call hs u xtg (j1 (x1i call hs u) 5) eNil=j5 (x68 call hs u NN) 5 6 8 24 25:=bk x1io
theorem x1iq:x20p call hs u xtf (j1 (x1i call hs u) 5) eNil=j3 (xd8 call hs u) 5 6 8:=tr (sqN 1 x1ip)
theorem x1ir:x20p call hs u xh2 r_3 eNil=j3 (xd8 call hs u) 5 6 8:=sq2 x1ij x1iq
theorem x14r:x20p call hs u xte r_3 eNil=j2 (xk5 call hs u) 0 1:=tr (sqN 5 x1ir)
noncomputable abbrev x20q:=VX x8g 30 r_3
noncomputable def xtj:=x1xu x8g
noncomputable def xh4:=nRs 2 xtj
noncomputable def xtk:=nL xh4
noncomputable def x1is:=nR xh4
noncomputable def xtl:=nR xtk
noncomputable def xtm:=nR xtl
noncomputable def xtn:=nR xtm
noncomputable def xh5:=nRs 2 xtn
noncomputable def x1it:=nL xh5
noncomputable def x1iu:=nR xh5
theorem x1iv:x20q call hs u x1is r_3 eNil=j1 (x1j call hs u) 5:=by kernel_rfl
theorem x1iw{rec0:AV->AV->AV->AV->AV->Mem->Nat->O2}:x20q call hs u x1iu (j5 rec0 1 5 15 16 17) (setE 0 (j1 (x1j call hs u) 5) eNil)=j5 (xaa call hs u rec0) 1 5 15 16 17:=by kernel_rfl
theorem x1ix{rec0:AV->AV->AV->AV->AV->Mem->Nat->O2}:x20q call hs u x1it (j5 (xaa call hs u rec0) 1 5 15 16 17) (setE 0 (j1 (x1j call hs u) 5) eNil)=j5 (xd9 call hs u rec0) 1 5 15 16 17:=by kernel_rfl
theorem x1iy{rec0:AV->AV->AV->AV->AV->Mem->Nat->O2}:x20q call hs u xh5 (j5 rec0 1 5 15 16 17) (setE 0 (j1 (x1j call hs u) 5) eNil)=j5 (xd9 call hs u rec0) 1 5 15 16 17:=sq2 x1iw x1ix
theorem x1iz{rec0:AV->AV->AV->AV->AV->Mem->Nat->O2}:x20q call hs u xtn (j5 rec0 1 5 15 16 17) (setE 0 (j1 (x1j call hs u) 5) eNil)=j5 (xk7 call hs u rec0) 1 5 15 16 17:=tr (sqN 2 x1iy)
theorem x1j0:x20q call hs u xtm (j1 (x1j call hs u) 5) (setE 0 (j1 (x1j call hs u) 5) eNil)=j5 (x69 call hs u NN) 1 5 15 16 17:=lp (Ln:=fun n=>j5 (x69 call hs u n) 1 5 15 16 17) fun n=>tr x1iz
theorem x1j1:x20q call hs u xtl (j1 (x1j call hs u) 5) eNil=j5 (x69 call hs u NN) 1 5 15 16 17:=bk x1j0
theorem x1j2:x20q call hs u xtk (j1 (x1j call hs u) 5) eNil=j3 (xda call hs u) 1 2 5:=tr (sqN 1 x1j1)
theorem x1j3:x20q call hs u xh4 r_3 eNil=j3 (xda call hs u) 1 2 5:=sq2 x1iv x1j2
theorem x14s:x20q call hs u xtj r_3 eNil=j2 (xk8 call hs u) 0 1:=tr (sqN 2 x1j3)
noncomputable abbrev x22c:=VX x2e 42 r_5
noncomputable def xto:=x1xu x2e
noncomputable def xh6:=nRs 2 xto
noncomputable def xtp:=nL xh6
noncomputable def x1j4:=nR xh6
noncomputable def xtq:=nR xtp
noncomputable def xtr:=nR xtq
noncomputable def x1j5:=nR xtr
theorem x1j6:x22c call hs u x1j4 r_5 eNil=j0 (x2p call hs u):=by kernel_rfl
theorem x1j7{rec0:AV->AV->AV->AV->Mem->Nat->O2}:x22c call hs u x1j5 (j4 rec0 0 9 10 11) (setE 0 (j0 (x2p call hs u)) eNil)=j4 (xab call hs u rec0) 0 9 10 11:=by kernel_rfl
theorem x1j8:x22c call hs u xtr (j0 (x2p call hs u)) (setE 0 (j0 (x2p call hs u)) eNil)=j4 (x25 call hs u NN) 0 9 10 11:=lp (Ln:=fun n=>j4 (x25 call hs u n) 0 9 10 11) fun n=>tr x1j7
theorem x1j9:x22c call hs u xtq (j0 (x2p call hs u)) eNil=j4 (x25 call hs u NN) 0 9 10 11:=bk x1j8
theorem x1ja:x22c call hs u xtp (j0 (x2p call hs u)) eNil=j1 (xac call hs u) 0:=tr (sqN 1 x1j9)
theorem x1jb:x22c call hs u xh6 r_5 eNil=j1 (xac call hs u) 0:=sq2 x1j6 x1ja
theorem x14t:x22c call hs u xto r_5 eNil=j1 (xdb call hs u) 0:=tr (sqN 2 x1jb)
noncomputable abbrev x2b4:=VX x1c 10 r_3
noncomputable def x1jc:=x1xu x1c
theorem x14u:x2b4 call hs u x1jc r_3 eNil=j2 (xdc call hs u) 0 1:=by kernel_rfl
noncomputable abbrev x22d:=VX x42 55 r_6
noncomputable def xts:=x1xu x42
noncomputable def xh7:=nRs 2 xts
noncomputable def xtt:=nL xh7
noncomputable def x1jd:=nR xh7
noncomputable def xtu:=nR xtt
noncomputable def xtv:=nR xtu
noncomputable def x1je:=nR xtv
theorem x1jf:x22d call hs u x1jd r_6 eNil=j0 (x2q call hs u):=by kernel_rfl
theorem x1jg{rec0:AV->AV->Mem->Nat->O2}:x22d call hs u x1je (j2 rec0 0 3) (setE 0 (j0 (x2q call hs u)) eNil)=j2 (xad call hs u rec0) 0 3:=by kernel_rfl
theorem x1jh:x22d call hs u xtv (j0 (x2q call hs u)) (setE 0 (j0 (x2q call hs u)) eNil)=j2 (x26 call hs u NN) 0 3:=lp (Ln:=fun n=>j2 (x26 call hs u n) 0 3) fun n=>tr x1jg
theorem x1ji:x22d call hs u xtu (j0 (x2q call hs u)) eNil=j2 (x26 call hs u NN) 0 3:=bk x1jh
theorem x1jj:x22d call hs u xtt (j0 (x2q call hs u)) eNil=j1 (xae call hs u) 0:=tr (sqN 1 x1ji)
theorem x1jk:x22d call hs u xh7 r_6 eNil=j1 (xae call hs u) 0:=sq2 x1jf x1jj
theorem x14v:x22d call hs u xts r_6 eNil=j1 (xdd call hs u) 0:=tr (sqN 2 x1jk)
noncomputable abbrev x2b5:=VX x21 11 r_6
noncomputable def x1jl:=x1xu x21
theorem x14w:x2b5 call hs u x1jl r_6 eNil=j1 (xde call hs u) 0:=by kernel_rfl
noncomputable abbrev x22e:=VX x43 15 r_6
noncomputable def xtw:=x1xu x43
noncomputable def xh8:=nRs 2 xtw
noncomputable def xtx:=nL xh8
noncomputable def x1jm:=nR xh8
noncomputable def xty:=nR xtx
noncomputable def xtz:=nR xty
noncomputable def x1jn:=nR xtz
theorem x1jo:x22e call hs u x1jm r_6 eNil=j1 (x3h call hs u) 3:=by kernel_rfl
theorem x1jp{rec0:AV->AV->AV->Mem->Nat->O2}:x22e call hs u x1jn (j3 rec0 3 5 6) (setE 0 (j1 (x3h call hs u) 3) eNil)=j3 (xk9 call hs u rec0) 3 5 6:=by kernel_rfl
theorem x1jq:x22e call hs u xtz (j1 (x3h call hs u) 3) (setE 0 (j1 (x3h call hs u) 3) eNil)=j3 (x6a call hs u NN) 3 5 6:=lp (Ln:=fun n=>j3 (x6a call hs u n) 3 5 6) fun n=>tr x1jp
theorem x1jr:x22e call hs u xty (j1 (x3h call hs u) 3) eNil=j3 (x6a call hs u NN) 3 5 6:=bk x1jq
theorem x1js:x22e call hs u xtx (j1 (x3h call hs u) 3) eNil=j2 (xdf call hs u) 0 3:=tr (sqN 1 x1jr)
theorem x1jt:x22e call hs u xh8 r_6 eNil=j2 (xdf call hs u) 0 3:=sq2 x1jo x1js
theorem x14x:x22e call hs u xtw r_6 eNil=j1 (xka call hs u) 0:=tr (sqN 2 x1jt)
noncomputable abbrev x20r:=VX x44 44 r_3
noncomputable def xu0:=x1xu x44
noncomputable def xh9:=nRs 2 xu0
noncomputable def xu1:=nL xh9
noncomputable def x1ju:=nR xh9
noncomputable def xu2:=nR xu1
noncomputable def xu3:=nR xu2
noncomputable def xu4:=nR xu3
noncomputable def xha:=nRs 2 xu4
noncomputable def x1jv:=nL xha
noncomputable def x1jw:=nR xha
theorem x1jx:x20r call hs u x1ju r_3 eNil=j2 (x1k call hs u) 5 6:=by kernel_rfl
theorem x1jy{rec0:AV->AV->AV->AV->AV->AV->Mem->Nat->O2}:x20r call hs u x1jw (j6 rec0 0 5 6 19 20 21) (setE 0 (j2 (x1k call hs u) 5 6) eNil)=j6 (xaf call hs u rec0) 0 5 6 19 20 21:=by kernel_rfl
theorem x1jz{rec0:AV->AV->AV->AV->AV->AV->Mem->Nat->O2}:x20r call hs u x1jv (j6 (xaf call hs u rec0) 0 5 6 19 20 21) (setE 0 (j2 (x1k call hs u) 5 6) eNil)=j6 (xdg call hs u rec0) 0 5 6 19 20 21:=by kernel_rfl
theorem x1k0{rec0:AV->AV->AV->AV->AV->AV->Mem->Nat->O2}:x20r call hs u xha (j6 rec0 0 5 6 19 20 21) (setE 0 (j2 (x1k call hs u) 5 6) eNil)=j6 (xdg call hs u rec0) 0 5 6 19 20 21:=sq2 x1jy x1jz
theorem x1k1{rec0:AV->AV->AV->AV->AV->AV->Mem->Nat->O2}:x20r call hs u xu4 (j6 rec0 0 5 6 19 20 21) (setE 0 (j2 (x1k call hs u) 5 6) eNil)=j6 (xkb call hs u rec0) 0 5 6 19 20 21:=tr (sqN 2 x1k0)
theorem x1k2:x20r call hs u xu3 (j2 (x1k call hs u) 5 6) (setE 0 (j2 (x1k call hs u) 5 6) eNil)=j6 (x6b call hs u NN) 0 5 6 19 20 21:=lp (Ln:=fun n=>j6 (x6b call hs u n) 0 5 6 19 20 21) fun n=>tr x1k1
theorem x1k3:x20r call hs u xu2 (j2 (x1k call hs u) 5 6) eNil=j6 (x6b call hs u NN) 0 5 6 19 20 21:=bk x1k2
theorem x1k4:x20r call hs u xu1 (j2 (x1k call hs u) 5 6) eNil=j3 (xdh call hs u) 0 5 6:=tr (sqN 1 x1k3)
theorem x1k5:x20r call hs u xh9 r_3 eNil=j3 (xdh call hs u) 0 5 6:=sq2 x1jx x1k4
theorem x14y:x20r call hs u xu0 r_3 eNil=j2 (xkd call hs u) 0 1:=tr (sqN 2 x1k5)
noncomputable abbrev x2b6:=VX x8h 9 r_3
noncomputable def x1k6:=x1xu x8h
theorem x14z:x2b6 call hs u x1k6 r_3 eNil=j2 (xke call hs u) 0 1:=by kernel_rfl
noncomputable abbrev x2b7:=VX x8i 15 r_13
noncomputable def x1k7:=x1xu x8i
theorem x150:x2b7 call hs u x1k7 r_13 eNil=j2 (xkf call hs u) 0 1:=by kernel_rfl
noncomputable abbrev x22f:=VX x5b 21 r_3
noncomputable def xu5:=x1xu x5b
noncomputable def xhb:=nRs 2 xu5
noncomputable def xu6:=nL xhb
noncomputable def x1k8:=nR xhb
noncomputable def xu7:=nR xu6
noncomputable def xu8:=nR xu7
noncomputable def x1k9:=nR xu8
theorem x1ka:x22f call hs u x1k8 r_3 eNil=j1 (x3i call hs u) 5:=by kernel_rfl
theorem x1kb{rec0:AV->AV->AV->AV->AV->Mem->Nat->O2}:x22f call hs u x1k9 (j5 rec0 2 5 8 9 10) (setE 0 (j1 (x3i call hs u) 5) eNil)=j5 (xkg call hs u rec0) 2 5 8 9 10:=by kernel_rfl
theorem x1kc:x22f call hs u xu8 (j1 (x3i call hs u) 5) (setE 0 (j1 (x3i call hs u) 5) eNil)=j5 (x6c call hs u NN) 2 5 8 9 10:=lp (Ln:=fun n=>j5 (x6c call hs u n) 2 5 8 9 10) fun n=>tr x1kb
theorem x1kd:x22f call hs u xu7 (j1 (x3i call hs u) 5) eNil=j5 (x6c call hs u NN) 2 5 8 9 10:=bk x1kc
theorem x1ke:x22f call hs u xu6 (j1 (x3i call hs u) 5) eNil=j3 (xdi call hs u) 1 2 5:=tr (sqN 1 x1kd)
theorem x1kf:x22f call hs u xhb r_3 eNil=j3 (xdi call hs u) 1 2 5:=sq2 x1ka x1ke
theorem x151:x22f call hs u xu5 r_3 eNil=j2 (xkh call hs u) 0 1:=tr (sqN 2 x1kf)
noncomputable abbrev x1zo:=VX x45 73 r_5
noncomputable def xu9:=x1xu x45
noncomputable def xhc:=nRs 3 xu9
noncomputable def xua:=nL xhc
noncomputable def x1kg:=nR xhc
noncomputable def xub:=nR xua
noncomputable def xuc:=nR xub
noncomputable def xud:=nR xuc
noncomputable def xhd:=nR xud
noncomputable def xue:=nL xhd
noncomputable def x1kh:=nR xhd
noncomputable def xuf:=nR xue
noncomputable def xug:=nRs 4 xuf
noncomputable def xuh:=nR xug
noncomputable def x1ki:=nR xuh
theorem x1kj:x1zo call hs u x1kg r_5 eNil=j0 (xv call hs u):=by kernel_rfl
theorem x1kk{rec0:AV->AV->Mem->Nat->O2}:x1zo call hs u x1kh (j2 rec0 1 6) (setE 0 (j0 (xv call hs u)) eNil)=j2 (x13 call hs u rec0) 1 6:=by kernel_rfl
theorem x1kl{rec0:AV->AV->Mem->Nat->O2}{rec1:AV->AV->AV->AV->Mem->Nat->O2}:x1zo call hs u x1ki (j4 rec1 1 6 7 8) (setE 2 (j2 (x13 call hs u rec0) 1 6) (setE 1 (j2 (x13 call hs u rec0) 1 6) (setE 0 (j0 (xv call hs u)) eNil)))=j4 (xag call hs u rec0 rec1) 1 6 7 8:=by kernel_rfl
theorem x1km{rec0:AV->AV->Mem->Nat->O2}:x1zo call hs u xuh (j2 (x13 call hs u rec0) 1 6) (setE 2 (j2 (x13 call hs u rec0) 1 6) (setE 1 (j2 (x13 call hs u rec0) 1 6) (setE 0 (j0 (xv call hs u)) eNil)))=j4 (x27 call hs u rec0 NN) 1 6 7 8:=lp (Ln:=fun n=>j4 (x27 call hs u rec0 n) 1 6 7 8) fun n=>tr x1kl
theorem x1kn{rec0:AV->AV->Mem->Nat->O2}:x1zo call hs u xug (j2 (x13 call hs u rec0) 1 6) (setE 1 (j2 (x13 call hs u rec0) 1 6) (setE 0 (j0 (xv call hs u)) eNil))=j4 (x27 call hs u rec0 NN) 1 6 7 8:=bk x1km
theorem x1ko{rec0:AV->AV->Mem->Nat->O2}:x1zo call hs u xuf (j2 (x13 call hs u rec0) 1 6) (setE 1 (j2 (x13 call hs u rec0) 1 6) (setE 0 (j0 (xv call hs u)) eNil))=j2 (x6d call hs u rec0) 1 6:=tr (sqN 4 x1kn)
theorem x1kp{rec0:AV->AV->Mem->Nat->O2}:x1zo call hs u xue (j2 (x13 call hs u rec0) 1 6) (setE 0 (j0 (xv call hs u)) eNil)=j2 (x6d call hs u rec0) 1 6:=bk x1ko
theorem x1kq{rec0:AV->AV->Mem->Nat->O2}:x1zo call hs u xhd (j2 rec0 1 6) (setE 0 (j0 (xv call hs u)) eNil)=j2 (x6d call hs u rec0) 1 6:=sq2 x1kk x1kp
theorem x1kr{rec0:AV->AV->Mem->Nat->O2}:x1zo call hs u xud (j2 rec0 1 6) (setE 0 (j0 (xv call hs u)) eNil)=j2 (xah call hs u rec0) 1 6:=tr (sqN 1 x1kq)
theorem x1ks:x1zo call hs u xuc (j0 (xv call hs u)) (setE 0 (j0 (xv call hs u)) eNil)=j2 (x1l call hs u NN) 1 6:=lp (Ln:=fun n=>j2 (x1l call hs u n) 1 6) fun n=>tr x1kr
theorem x1kt:x1zo call hs u xub (j0 (xv call hs u)) eNil=j2 (x1l call hs u NN) 1 6:=bk x1ks
theorem x1ku:x1zo call hs u xua (j0 (xv call hs u)) eNil=j1 (xai call hs u) 1:=tr (sqN 1 x1kt)
theorem x1kv:x1zo call hs u xhc r_5 eNil=j1 (xai call hs u) 1:=sq2 x1kj x1ku
theorem x152:x1zo call hs u xu9 r_5 eNil=j1 (xdj call hs u) 0:=tr (sqN 3 x1kv)
noncomputable abbrev x1yp:=VX x5c 68 r_3
noncomputable def xui:=x1xu x5c
noncomputable def xhe:=nRs 2 xui
noncomputable def xuj:=nL xhe
noncomputable def xhf:=nR xhe
noncomputable def xuk:=nL xhf
noncomputable def x1kw:=nR xhf
noncomputable def xul:=nR xuk
noncomputable def xum:=nR xul
noncomputable def xun:=nR xum
noncomputable def xhg:=nR xun
noncomputable def xuo:=nL xhg
noncomputable def x1kx:=nR xhg
noncomputable def xup:=nR xuo
noncomputable def xuq:=nRs 3 xup
noncomputable def xur:=nR xuq
noncomputable def xus:=nR xur
noncomputable def xhh:=nR xus
noncomputable def x1ky:=nL xhh
noncomputable def x1kz:=nR xhh
noncomputable def xut:=nR xuj
noncomputable def xuu:=nR xut
noncomputable def x1l0:=nR xuu
theorem x1l1:x1yp call hs u x1kw r_3 eNil=j1 (xl call hs u) 5:=by kernel_rfl
theorem x1l2{rec0:AV->AV->AV->AV->Mem->Nat->O2}:x1yp call hs u x1kx (j4 rec0 1 2 5 7) (setE 2 (j1 (xl call hs u) 5) eNil)=j4 (xh call hs u rec0) 1 2 5 7:=by kernel_rfl
theorem x1l3{rec0:AV->AV->AV->AV->Mem->Nat->O2}{rec1:AV->AV->AV->AV->AV->AV->AV->Mem->Nat->O2}:x1yp call hs u x1kz (j7 rec1 1 2 5 7 9 10 11) (setE 4 (j4 (xh call hs u rec0) 1 2 5 7) (setE 3 (j4 (xh call hs u rec0) 1 2 5 7) (setE 2 (j1 (xl call hs u) 5) eNil)))=j7 (xaj call hs u rec0 rec1) 1 2 5 7 9 10 11:=by kernel_rfl
theorem x1l4{rec0:AV->AV->AV->AV->Mem->Nat->O2}{rec1:AV->AV->AV->AV->AV->AV->AV->Mem->Nat->O2}:x1yp call hs u x1ky (j7 (xaj call hs u rec0 rec1) 1 2 5 7 9 10 11) (setE 4 (j4 (xh call hs u rec0) 1 2 5 7) (setE 3 (j4 (xh call hs u rec0) 1 2 5 7) (setE 2 (j1 (xl call hs u) 5) eNil)))=j7 (xdk call hs u rec0 rec1) 1 2 5 7 9 10 11:=by kernel_rfl
theorem x1l5{rec0:AV->AV->AV->AV->Mem->Nat->O2}{rec1:AV->AV->AV->AV->AV->AV->AV->Mem->Nat->O2}:x1yp call hs u xhh (j7 rec1 1 2 5 7 9 10 11) (setE 4 (j4 (xh call hs u rec0) 1 2 5 7) (setE 3 (j4 (xh call hs u rec0) 1 2 5 7) (setE 2 (j1 (xl call hs u) 5) eNil)))=j7 (xdk call hs u rec0 rec1) 1 2 5 7 9 10 11:=sq2 x1l3 x1l4
theorem x1l6{rec0:AV->AV->AV->AV->Mem->Nat->O2}{rec1:AV->AV->AV->AV->AV->AV->AV->Mem->Nat->O2}:x1yp call hs u xus (j7 rec1 1 2 5 7 9 10 11) (setE 4 (j4 (xh call hs u rec0) 1 2 5 7) (setE 3 (j4 (xh call hs u rec0) 1 2 5 7) (setE 2 (j1 (xl call hs u) 5) eNil)))=j7 (xki call hs u rec0 rec1) 1 2 5 7 9 10 11:=tr (sqN 1 x1l5)
theorem x1l7{rec0:AV->AV->AV->AV->Mem->Nat->O2}:x1yp call hs u xur (j4 (xh call hs u rec0) 1 2 5 7) (setE 4 (j4 (xh call hs u rec0) 1 2 5 7) (setE 3 (j4 (xh call hs u rec0) 1 2 5 7) (setE 2 (j1 (xl call hs u) 5) eNil)))=j7 (x6e call hs u rec0 NN) 1 2 5 7 9 10 11:=lp (Ln:=fun n=>j7 (x6e call hs u rec0 n) 1 2 5 7 9 10 11) fun n=>tr x1l6
theorem x1l8{rec0:AV->AV->AV->AV->Mem->Nat->O2}:x1yp call hs u xuq (j4 (xh call hs u rec0) 1 2 5 7) (setE 3 (j4 (xh call hs u rec0) 1 2 5 7) (setE 2 (j1 (xl call hs u) 5) eNil))=j7 (x6e call hs u rec0 NN) 1 2 5 7 9 10 11:=bk x1l7
theorem x1l9{rec0:AV->AV->AV->AV->Mem->Nat->O2}:x1yp call hs u xup (j4 (xh call hs u rec0) 1 2 5 7) (setE 3 (j4 (xh call hs u rec0) 1 2 5 7) (setE 2 (j1 (xl call hs u) 5) eNil))=j4 (xak call hs u rec0) 1 2 5 7:=tr (sqN 3 x1l8)
theorem x1la{rec0:AV->AV->AV->AV->Mem->Nat->O2}:x1yp call hs u xuo (j4 (xh call hs u rec0) 1 2 5 7) (setE 2 (j1 (xl call hs u) 5) eNil)=j4 (xak call hs u rec0) 1 2 5 7:=bk x1l9
theorem x1lb{rec0:AV->AV->AV->AV->Mem->Nat->O2}:x1yp call hs u xhg (j4 rec0 1 2 5 7) (setE 2 (j1 (xl call hs u) 5) eNil)=j4 (xak call hs u rec0) 1 2 5 7:=sq2 x1l2 x1la
theorem x1lc{rec0:AV->AV->AV->AV->Mem->Nat->O2}:x1yp call hs u xun (j4 rec0 1 2 5 7) (setE 2 (j1 (xl call hs u) 5) eNil)=j4 (xkj call hs u rec0) 1 2 5 7:=tr (sqN 1 x1lb)
theorem x1ld:x1yp call hs u xum (j1 (xl call hs u) 5) (setE 2 (j1 (xl call hs u) 5) eNil)=j4 (x6f call hs u NN) 1 2 5 7:=lp (Ln:=fun n=>j4 (x6f call hs u n) 1 2 5 7) fun n=>tr x1lc
theorem x1le:x1yp call hs u xul (j1 (xl call hs u) 5) eNil=j4 (x6f call hs u NN) 1 2 5 7:=bk x1ld
theorem x1lf:x1yp call hs u xuk (j1 (xl call hs u) 5) eNil=j3 (x2r call hs u) 1 2 5:=tr (sqN 1 x1le)
theorem x1lg:x1yp call hs u xhf r_3 eNil=j3 (x2r call hs u) 1 2 5:=sq2 x1l1 x1lf
theorem x1lh{rec2:AV->AV->AV->AV->Mem->Nat->O2}:x1yp call hs u x1l0 (j4 rec2 1 2 5 6) (setE 0 (j3 (x2r call hs u) 1 2 5) eNil)=j4 (xkk call hs u rec2) 1 2 5 6:=by kernel_rfl
theorem x1li:x1yp call hs u xuu (j3 (x2r call hs u) 1 2 5) (setE 0 (j3 (x2r call hs u) 1 2 5) eNil)=j4 (x6g call hs u NN) 1 2 5 6:=lp (Ln:=fun n=>j4 (x6g call hs u n) 1 2 5 6) fun n=>tr x1lh
theorem x1lj:x1yp call hs u xut (j3 (x2r call hs u) 1 2 5) eNil=j4 (x6g call hs u NN) 1 2 5 6:=bk x1li
theorem x1lk:x1yp call hs u xuj (j3 (x2r call hs u) 1 2 5) eNil=j3 (xdl call hs u) 1 2 5:=tr (sqN 1 x1lj)
theorem x1ll:x1yp call hs u xhe r_3 eNil=j3 (xdl call hs u) 1 2 5:=sq2 x1lg x1lk
theorem x153:x1yp call hs u xui r_3 eNil=j2 (xkl call hs u) 0 1:=tr (sqN 2 x1ll)
noncomputable abbrev x2b8:=VX x1d 9 r_3
noncomputable def x1lm:=x1xu x1d
theorem x154:x2b8 call hs u x1lm r_3 eNil=j2 (xdm call hs u) 0 1:=by kernel_rfl
noncomputable abbrev x2b9:=VX x37 10 r_6
noncomputable def x1ln:=x1xu x37
theorem x155:x2b9 call hs u x1ln r_6 eNil=j1 (xdn call hs u) 0:=by kernel_rfl
noncomputable abbrev x2ba:=VX x5d 15 r_14
noncomputable def x1lo:=x1xu x5d
theorem x156:x2ba call hs u x1lo r_14 eNil=j1 (xkm call hs u) 0:=by kernel_rfl
noncomputable abbrev x2bb:=VX x8j 16 r_5
noncomputable def x1lp:=x1xu x8j
theorem x157:x2bb call hs u x1lp r_5 eNil=j1 (xkn call hs u) 0:=by kernel_rfl
noncomputable abbrev x24r:=VX xc9 14 r_3
noncomputable def xuv:=x1xu xc9
noncomputable def xhi:=nRs 2 xuv
noncomputable def x1lq:=nL xhi
noncomputable def x1lr:=nR xhi
theorem x1ls:x24r call hs u x1lr r_3 eNil=j1 (xam call hs u) 0:=by kernel_rfl
theorem x1lt:x24r call hs u x1lq (j1 (xam call hs u) 0) eNil=j2 (xdo call hs u) 0 1:=by kernel_rfl
theorem x1lu:x24r call hs u xhi r_3 eNil=j2 (xdo call hs u) 0 1:=sq2 x1ls x1lt
theorem x158:x24r call hs u xuv r_3 eNil=j2 (xko call hs u) 0 1:=tr (sqN 2 x1lu)
noncomputable abbrev x2bc:=VX x8k 33 r_9
noncomputable def x1lv:=x1xu x8k
theorem x159:x2bc call hs u x1lv r_9 eNil=j1 (xkp call hs u) 0:=by kernel_rfl
noncomputable abbrev x2bd:=VX x5e 7 r_6
noncomputable def x1lw:=x1xu x5e
theorem x15a:x2bd call hs u x1lw r_6 eNil=j1 (xkq call hs u) 0:=by kernel_rfl
noncomputable abbrev x2be:=VX x8l 25 r_7
noncomputable def x1lx:=x1xu x8l
theorem x15b:x2be call hs u x1lx r_7 eNil=j2 (xkr call hs u) 0 1:=by kernel_rfl
noncomputable abbrev x1zd:=VX x5f 51 r_6
noncomputable def xuw:=x1xu x5f
noncomputable def xhj:=nRs 2 xuw
noncomputable def xux:=nL xhj
noncomputable def xuy:=nR xhj
noncomputable def xhk:=nRs 2 xuy
noncomputable def xuz:=nL xhk
noncomputable def x1ly:=nR xhk
noncomputable def xv0:=nR xuz
noncomputable def xv1:=nR xv0
noncomputable def xv2:=nR xv1
noncomputable def xhl:=nRs 2 xv2
noncomputable def x1lz:=nL xhl
noncomputable def x1m0:=nR xhl
noncomputable def xv3:=nR xux
noncomputable def xv4:=nR xv3
noncomputable def x1m1:=nR xv4
theorem x1m2:x1zd call hs u x1ly r_6 eNil=j1 (x1m call hs u) 4:=by kernel_rfl
theorem x1m3{rec0:AV->AV->AV->AV->AV->AV->Mem->Nat->O2}:x1zd call hs u x1m0 (j6 rec0 1 4 6 29 30 31) (setE 2 (j1 (x1m call hs u) 4) eNil)=j6 (xan call hs u rec0) 1 4 6 29 30 31:=by kernel_rfl
theorem x1m4{rec0:AV->AV->AV->AV->AV->AV->Mem->Nat->O2}:x1zd call hs u x1lz (j6 (xan call hs u rec0) 1 4 6 29 30 31) (setE 2 (j1 (x1m call hs u) 4) eNil)=j6 (xdp call hs u rec0) 1 4 6 29 30 31:=by kernel_rfl
theorem x1m5{rec0:AV->AV->AV->AV->AV->AV->Mem->Nat->O2}:x1zd call hs u xhl (j6 rec0 1 4 6 29 30 31) (setE 2 (j1 (x1m call hs u) 4) eNil)=j6 (xdp call hs u rec0) 1 4 6 29 30 31:=sq2 x1m3 x1m4
theorem x1m6{rec0:AV->AV->AV->AV->AV->AV->Mem->Nat->O2}:x1zd call hs u xv2 (j6 rec0 1 4 6 29 30 31) (setE 2 (j1 (x1m call hs u) 4) eNil)=j6 (xks call hs u rec0) 1 4 6 29 30 31:=tr (sqN 2 x1m5)
theorem x1m7:x1zd call hs u xv1 (j1 (x1m call hs u) 4) (setE 2 (j1 (x1m call hs u) 4) eNil)=j6 (x6h call hs u NN) 1 4 6 29 30 31:=lp (Ln:=fun n=>j6 (x6h call hs u n) 1 4 6 29 30 31) fun n=>tr x1m6
theorem x1m8:x1zd call hs u xv0 (j1 (x1m call hs u) 4) eNil=j6 (x6h call hs u NN) 1 4 6 29 30 31:=bk x1m7
theorem x1m9:x1zd call hs u xuz (j1 (x1m call hs u) 4) eNil=j4 (xdq call hs u) 1 3 4 6:=tr (sqN 1 x1m8)
theorem x1ma:x1zd call hs u xhk r_6 eNil=j4 (xdq call hs u) 1 3 4 6:=sq2 x1m2 x1m9
theorem x1mb:x1zd call hs u xuy r_6 eNil=j3 (x3j call hs u) 1 3 4:=tr (sqN 2 x1ma)
theorem x1mc{rec1:AV->AV->AV->AV->AV->Mem->Nat->O2}:x1zd call hs u x1m1 (j5 rec1 1 3 4 12 13) (setE 0 (j3 (x3j call hs u) 1 3 4) eNil)=j5 (xkt call hs u rec1) 1 3 4 12 13:=by kernel_rfl
theorem x1md:x1zd call hs u xv4 (j3 (x3j call hs u) 1 3 4) (setE 0 (j3 (x3j call hs u) 1 3 4) eNil)=j5 (x6i call hs u NN) 1 3 4 12 13:=lp (Ln:=fun n=>j5 (x6i call hs u n) 1 3 4 12 13) fun n=>tr x1mc
theorem x1me:x1zd call hs u xv3 (j3 (x3j call hs u) 1 3 4) eNil=j5 (x6i call hs u NN) 1 3 4 12 13:=bk x1md
theorem x1mf:x1zd call hs u xux (j3 (x3j call hs u) 1 3 4) eNil=j3 (xdr call hs u) 1 3 4:=tr (sqN 1 x1me)
theorem x1mg:x1zd call hs u xhj r_6 eNil=j3 (xdr call hs u) 1 3 4:=sq2 x1mb x1mf
theorem x15c:x1zd call hs u xuw r_6 eNil=j1 (xku call hs u) 0:=tr (sqN 2 x1mg)
noncomputable abbrev x2bf:=VX x8m 6 r_6
noncomputable def x1mh:=x1xu x8m
theorem x15d:x2bf call hs u x1mh r_6 eNil=j1 (xkv call hs u) 0:=by kernel_rfl
noncomputable abbrev x2bg:=VX x8n 6 r_6
noncomputable def x1mi:=x1xu x8n
theorem x15e:x2bg call hs u x1mi r_6 eNil=j1 (xkw call hs u) 0:=by kernel_rfl
noncomputable abbrev x266:=VX x46 43 r_15
noncomputable abbrev x28l:=VX (R:=Mem) x46 43 fNil
noncomputable def xv5:=x1xu x46
noncomputable def xv6:=nRs 3 xv5
noncomputable def xbm:=nR xv6
noncomputable def x1mj:=nL xbm
noncomputable def x1mk:=nR xbm
theorem x1ml:x28l call hs u x1mk (fun s=>some s.m) eNil=j7 (xds call hs u) 1 4 5 6 7 8 9:=by kernel_rfl
theorem x1mm:x28l call hs u x1mj (j7 (xds call hs u) 1 4 5 6 7 8 9) eNil=j7 (xkx call hs u) 1 4 5 6 7 17 18:=by kernel_rfl
theorem x1mn:x266 call hs u xbm r_15 (setE 0 r_15 eNil)=j6 (xdu call hs u) 1 4 5 6 7 16:=tr (rg (C:=xbm) (c:={f:=x46,u:=u,nt:=43,hs:=hs}) (f:=(.tmp 16)) (ps:=#[17,18]) (fun u=>x1ml) (fun u=>x1mm))
theorem x1mo:x266 call hs u xv6 r_15 eNil=j6 (xdu call hs u) 1 4 5 6 7 16:=bk x1mn
theorem x15f:x266 call hs u xv5 r_15 eNil=j7 (xky call hs u) 0 1 2 3 4 5 6:=tr (sqN 3 x1mo)
noncomputable abbrev x2bh:=VX x8o 8 r_0
noncomputable def x1mp:=x1xu x8o
theorem x15g:x2bh call hs u x1mp r_0 eNil=j3 (xkz call hs u) 0 1 2:=by kernel_rfl
noncomputable abbrev x1zk:=VX x47 49 r_6
noncomputable def xv7:=x1xu x47
noncomputable def xhm:=nRs 2 xv7
noncomputable def xv8:=nL xhm
noncomputable def x1mq:=nR xhm
noncomputable def xv9:=nR xv8
noncomputable def xva:=nR xv9
noncomputable def xvb:=nR xva
noncomputable def xhn:=nRs 2 xvb
noncomputable def xvc:=nL xhn
noncomputable def x1mr:=nR xhn
noncomputable def xvd:=nR xvc
noncomputable def xve:=nR xvd
noncomputable def xho:=nR xve
noncomputable def x1ms:=nL xho
noncomputable def x1mt:=nR xho
theorem x1mu:x1zk call hs u x1mq r_6 eNil=j0 (xp call hs u):=by kernel_rfl
theorem x1mv{rec0:AV->AV->AV->Mem->Nat->O2}:x1zk call hs u x1mr (j3 rec0 13 14 15) (setE 0 (j0 (xp call hs u)) eNil)=j3 (xm call hs u rec0) 13 14 15:=by kernel_rfl
theorem x1mw{rec0:AV->AV->AV->Mem->Nat->O2}:x1zk call hs u x1mt (j3 (xm call hs u rec0) 13 14 15) (setE 2 (j3 (xm call hs u rec0) 13 14 15) (setE 1 (j3 (xm call hs u rec0) 13 14 15) (setE 0 (j0 (xp call hs u)) eNil)))=j6 (x6j call hs u rec0) 3 4 13 14 15 20:=by kernel_rfl
theorem x1mx{rec0:AV->AV->AV->Mem->Nat->O2}:x1zk call hs u x1ms (j6 (x6j call hs u rec0) 3 4 13 14 15 20) (setE 2 (j3 (xm call hs u rec0) 13 14 15) (setE 1 (j3 (xm call hs u rec0) 13 14 15) (setE 0 (j0 (xp call hs u)) eNil)))=j5 (x6k call hs u rec0) 3 4 13 14 15:=by kernel_rfl
theorem x1my{rec0:AV->AV->AV->Mem->Nat->O2}:x1zk call hs u xho (j3 (xm call hs u rec0) 13 14 15) (setE 2 (j3 (xm call hs u rec0) 13 14 15) (setE 1 (j3 (xm call hs u rec0) 13 14 15) (setE 0 (j0 (xp call hs u)) eNil)))=j5 (x6k call hs u rec0) 3 4 13 14 15:=sq2 x1mw x1mx
theorem x1mz{rec0:AV->AV->AV->Mem->Nat->O2}:x1zk call hs u xve (j3 (xm call hs u rec0) 13 14 15) (setE 1 (j3 (xm call hs u rec0) 13 14 15) (setE 0 (j0 (xp call hs u)) eNil))=j5 (x6k call hs u rec0) 3 4 13 14 15:=bk x1my
theorem x1n0{rec0:AV->AV->AV->Mem->Nat->O2}:x1zk call hs u xvd (j3 (xm call hs u rec0) 13 14 15) (setE 1 (j3 (xm call hs u rec0) 13 14 15) (setE 0 (j0 (xp call hs u)) eNil))=j3 (x6l call hs u rec0) 13 14 15:=tr (sqN 1 x1mz)
theorem x1n1{rec0:AV->AV->AV->Mem->Nat->O2}:x1zk call hs u xvc (j3 (xm call hs u rec0) 13 14 15) (setE 0 (j0 (xp call hs u)) eNil)=j3 (x6l call hs u rec0) 13 14 15:=bk x1n0
theorem x1n2{rec0:AV->AV->AV->Mem->Nat->O2}:x1zk call hs u xhn (j3 rec0 13 14 15) (setE 0 (j0 (xp call hs u)) eNil)=j3 (x6l call hs u rec0) 13 14 15:=sq2 x1mv x1n1
theorem x1n3{rec0:AV->AV->AV->Mem->Nat->O2}:x1zk call hs u xvb (j3 rec0 13 14 15) (setE 0 (j0 (xp call hs u)) eNil)=j3 (xao call hs u rec0) 13 14 15:=tr (sqN 2 x1n2)
theorem x1n4:x1zk call hs u xva (j0 (xp call hs u)) (setE 0 (j0 (xp call hs u)) eNil)=j3 (x28 call hs u NN) 13 14 15:=lp (Ln:=fun n=>j3 (x28 call hs u n) 13 14 15) fun n=>tr x1n3
theorem x1n5:x1zk call hs u xv9 (j0 (xp call hs u)) eNil=j3 (x28 call hs u NN) 13 14 15:=bk x1n4
theorem x1n6:x1zk call hs u xv8 (j0 (xp call hs u)) eNil=j1 (xap call hs u) 0:=tr (sqN 1 x1n5)
theorem x1n7:x1zk call hs u xhm r_6 eNil=j1 (xap call hs u) 0:=sq2 x1mu x1n6
theorem x15h:x1zk call hs u xv7 r_6 eNil=j1 (xdv call hs u) 0:=tr (sqN 2 x1n7)
noncomputable abbrev x2bi:=VX x48 9 r_3
noncomputable def x1n8:=x1xu x48
theorem x15i:x2bi call hs u x1n8 r_3 eNil=j2 (xdw call hs u) 0 1:=by kernel_rfl
noncomputable abbrev x2bj:=VX xn 9 r_13
noncomputable def x1n9:=x1xu xn
theorem x15j:x2bj call hs u x1n9 r_13 eNil=j2 (xdx call hs u) 0 1:=by kernel_rfl
noncomputable abbrev x22g:=VX x49 66 r_5
noncomputable def xvf:=x1xu x49
noncomputable def xhp:=nRs 4 xvf
noncomputable def xvg:=nL xhp
noncomputable def x1na:=nR xhp
noncomputable def xvh:=nR xvg
noncomputable def xvi:=nR xvh
noncomputable def x1nb:=nR xvi
theorem x1nc:x22g call hs u x1na r_5 eNil=j0 (x2s call hs u):=by kernel_rfl
theorem x1nd{rec0:AV->AV->AV->AV->AV->Mem->Nat->O2}:x22g call hs u x1nb (j5 rec0 1 6 26 27 28) (setE 0 (j0 (x2s call hs u)) eNil)=j5 (xaq call hs u rec0) 1 6 26 27 28:=by kernel_rfl
theorem x1ne:x22g call hs u xvi (j0 (x2s call hs u)) (setE 0 (j0 (x2s call hs u)) eNil)=j5 (x29 call hs u NN) 1 6 26 27 28:=lp (Ln:=fun n=>j5 (x29 call hs u n) 1 6 26 27 28) fun n=>tr x1nd
theorem x1nf:x22g call hs u xvh (j0 (x2s call hs u)) eNil=j5 (x29 call hs u NN) 1 6 26 27 28:=bk x1ne
theorem x1ng:x22g call hs u xvg (j0 (x2s call hs u)) eNil=j2 (xar call hs u) 1 6:=tr (sqN 1 x1nf)
theorem x1nh:x22g call hs u xhp r_5 eNil=j2 (xar call hs u) 1 6:=sq2 x1nc x1ng
theorem x15k:x22g call hs u xvf r_5 eNil=j1 (xdz call hs u) 0:=tr (sqN 4 x1nh)
noncomputable abbrev x22h:=VX x8p 19 r_3
noncomputable def xvj:=x1xu x8p
noncomputable def xhq:=nR xvj
noncomputable def xvk:=nL xhq
noncomputable def x1ni:=nR xhq
noncomputable def xvl:=nR xvk
noncomputable def xvm:=nR xvl
noncomputable def x1nj:=nR xvm
theorem x1nk:x22h call hs u x1ni r_3 eNil=j0 (x3k call hs u):=by kernel_rfl
theorem x1nl{rec0:AV->AV->AV->AV->Mem->Nat->O2}:x22h call hs u x1nj (j4 rec0 0 1 7 8) (setE 0 (j0 (x3k call hs u)) eNil)=j4 (xl0 call hs u rec0) 0 1 7 8:=by kernel_rfl
theorem x1nm:x22h call hs u xvm (j0 (x3k call hs u)) (setE 0 (j0 (x3k call hs u)) eNil)=j4 (x6n call hs u NN) 0 1 7 8:=lp (Ln:=fun n=>j4 (x6n call hs u n) 0 1 7 8) fun n=>tr x1nl
theorem x1nn:x22h call hs u xvl (j0 (x3k call hs u)) eNil=j4 (x6n call hs u NN) 0 1 7 8:=bk x1nm
theorem x1no:x22h call hs u xvk (j0 (x3k call hs u)) eNil=j2 (xe0 call hs u) 0 1:=tr (sqN 1 x1nn)
theorem x1np:x22h call hs u xhq r_3 eNil=j2 (xe0 call hs u) 0 1:=sq2 x1nk x1no
theorem x15l:x22h call hs u xvj r_3 eNil=j2 (xl1 call hs u) 0 1:=tr (sqN 1 x1np)
noncomputable abbrev x2bk:=VX x4a 41 r_3
noncomputable def x1nq:=x1xu x4a
theorem x15m:x2bk call hs u x1nq r_3 eNil=j2 (xl2 call hs u) 0 1:=by kernel_rfl
noncomputable abbrev x22i:=VX x33 19 r_3
noncomputable def xvn:=x1xu x33
noncomputable def xhr:=nR xvn
noncomputable def xvo:=nL xhr
noncomputable def x1nr:=nR xhr
noncomputable def xvp:=nR xvo
noncomputable def xvq:=nR xvp
noncomputable def x1ns:=nR xvq
theorem x1nt:x22i call hs u x1nr r_3 eNil=j0 (x2t call hs u):=by kernel_rfl
theorem x1nu{rec0:AV->AV->AV->AV->Mem->Nat->O2}:x22i call hs u x1ns (j4 rec0 0 1 7 8) (setE 0 (j0 (x2t call hs u)) eNil)=j4 (xas call hs u rec0) 0 1 7 8:=by kernel_rfl
theorem x1nv:x22i call hs u xvq (j0 (x2t call hs u)) (setE 0 (j0 (x2t call hs u)) eNil)=j4 (x2u call hs u NN) 0 1 7 8:=lp (Ln:=fun n=>j4 (x2u call hs u n) 0 1 7 8) fun n=>tr x1nu
theorem x1nw:x22i call hs u xvp (j0 (x2t call hs u)) eNil=j4 (x2u call hs u NN) 0 1 7 8:=bk x1nv
theorem x1nx:x22i call hs u xvo (j0 (x2t call hs u)) eNil=j2 (xat call hs u) 0 1:=tr (sqN 1 x1nw)
theorem x1ny:x22i call hs u xhr r_3 eNil=j2 (xat call hs u) 0 1:=sq2 x1nt x1nx
theorem x13x:x22i call hs u xvn r_3 eNil=j2 (xe1 call hs u) 0 1:=tr (sqN 1 x1ny)
noncomputable abbrev x22j:=VX x8q 59 r_14
noncomputable def xvr:=x1xu x8q
noncomputable def xhs:=nRs 4 xvr
noncomputable def xvs:=nL xhs
noncomputable def x1nz:=nR xhs
noncomputable def xvt:=nR xvs
noncomputable def xvu:=nR xvt
noncomputable def x1o0:=nR xvu
theorem x1o1:x22j call hs u x1nz r_14 eNil=j2 (x3l call hs u) 2 5:=by kernel_rfl
theorem x1o2{rec0:AV->AV->AV->AV->AV->AV->AV->Mem->Nat->O2}:x22j call hs u x1o0 (j7 rec0 1 2 4 5 25 26 27) (setE 0 (j2 (x3l call hs u) 2 5) eNil)=j7 (xl3 call hs u rec0) 1 2 4 5 25 26 27:=by kernel_rfl
theorem x1o3:x22j call hs u xvu (j2 (x3l call hs u) 2 5) (setE 0 (j2 (x3l call hs u) 2 5) eNil)=j7 (x6o call hs u NN) 1 2 4 5 25 26 27:=lp (Ln:=fun n=>j7 (x6o call hs u n) 1 2 4 5 25 26 27) fun n=>tr x1o2
theorem x1o4:x22j call hs u xvt (j2 (x3l call hs u) 2 5) eNil=j7 (x6o call hs u NN) 1 2 4 5 25 26 27:=bk x1o3
theorem x1o5:x22j call hs u xvs (j2 (x3l call hs u) 2 5) eNil=j4 (xe2 call hs u) 1 2 4 5:=tr (sqN 1 x1o4)
theorem x1o6:x22j call hs u xhs r_14 eNil=j4 (xe2 call hs u) 1 2 4 5:=sq2 x1o1 x1o5
theorem x15n:x22j call hs u xvr r_14 eNil=j1 (xl4 call hs u) 0:=tr (sqN 4 x1o6)
noncomputable abbrev x2bl:=VX x5g 14 r_16
noncomputable def x1o7:=x1xu x5g
theorem x15o:x2bl call hs u x1o7 r_16 eNil=j1 (xl5 call hs u) 0:=by kernel_rfl
noncomputable abbrev x22k:=VX x8r 26 r_6
noncomputable def xvv:=x1xu x8r
noncomputable def xht:=nRs 3 xvv
noncomputable def xvw:=nL xht
noncomputable def x1o8:=nR xht
noncomputable def xvx:=nR xvw
noncomputable def xvy:=nR xvx
noncomputable def x1o9:=nR xvy
theorem x1oa:x22k call hs u x1o8 r_6 eNil=j2 (x3m call hs u) 1 4:=by kernel_rfl
theorem x1ob{rec0:AV->AV->AV->AV->AV->Mem->Nat->O2}:x22k call hs u x1o9 (j5 rec0 1 3 4 10 11) (setE 0 (j2 (x3m call hs u) 1 4) eNil)=j5 (xl6 call hs u rec0) 1 3 4 10 11:=by kernel_rfl
theorem x1oc:x22k call hs u xvy (j2 (x3m call hs u) 1 4) (setE 0 (j2 (x3m call hs u) 1 4) eNil)=j5 (x6p call hs u NN) 1 3 4 10 11:=lp (Ln:=fun n=>j5 (x6p call hs u n) 1 3 4 10 11) fun n=>tr x1ob
theorem x1od:x22k call hs u xvx (j2 (x3m call hs u) 1 4) eNil=j5 (x6p call hs u NN) 1 3 4 10 11:=bk x1oc
theorem x1oe:x22k call hs u xvw (j2 (x3m call hs u) 1 4) eNil=j3 (xe3 call hs u) 1 3 4:=tr (sqN 1 x1od)
theorem x1of:x22k call hs u xht r_6 eNil=j3 (xe3 call hs u) 1 3 4:=sq2 x1oa x1oe
theorem x15p:x22k call hs u xvv r_6 eNil=j1 (xl7 call hs u) 0:=tr (sqN 3 x1of)
noncomputable abbrev x1z0:=VX x5h 64 r_6
noncomputable def xvz:=x1xu x5h
noncomputable def xhu:=nRs 2 xvz
noncomputable def xw0:=nL xhu
noncomputable def xw1:=nR xhu
noncomputable def xhv:=nRs 2 xw1
noncomputable def xw2:=nL xhv
noncomputable def x1og:=nR xhv
noncomputable def xw3:=nR xw2
noncomputable def xw4:=nR xw3
noncomputable def xw5:=nR xw4
noncomputable def xhw:=nRs 2 xw5
noncomputable def xw6:=nL xhw
noncomputable def x1oh:=nR xhw
noncomputable def xw7:=nR xw6
noncomputable def xhx:=nR xw7
noncomputable def x1oi:=nL xhx
noncomputable def x1oj:=nR xhx
noncomputable def xw8:=nR xw0
noncomputable def x1ok:=nR xw8
theorem x1ol:x1z0 call hs u x1og r_6 eNil=j1 (x10 call hs u) 3:=by kernel_rfl
theorem x1om{rec0:AV->AV->AV->AV->AV->Mem->Nat->O2}:x1z0 call hs u x1oh (j5 rec0 3 6 26 27 28) (setE 2 (j1 (x10 call hs u) 3) eNil)=j5 (x1n call hs u rec0) 3 6 26 27 28:=by kernel_rfl
theorem x1on{rec0:AV->AV->AV->AV->AV->Mem->Nat->O2}:x1z0 call hs u x1oj (j5 (x1n call hs u rec0) 3 6 26 27 28) (setE 3 (j5 (x1n call hs u rec0) 3 6 26 27 28) (setE 2 (j1 (x10 call hs u) 3) eNil))=j7 (xau call hs u rec0) 3 6 7 8 26 27 28:=by kernel_rfl
theorem x1oo{rec0:AV->AV->AV->AV->AV->Mem->Nat->O2}:x1z0 call hs u x1oi (j7 (xau call hs u rec0) 3 6 7 8 26 27 28) (setE 3 (j5 (x1n call hs u rec0) 3 6 26 27 28) (setE 2 (j1 (x10 call hs u) 3) eNil))=j7 (xe5 call hs u rec0) 3 6 7 8 26 27 28:=by kernel_rfl
theorem x1op{rec0:AV->AV->AV->AV->AV->Mem->Nat->O2}:x1z0 call hs u xhx (j5 (x1n call hs u rec0) 3 6 26 27 28) (setE 3 (j5 (x1n call hs u rec0) 3 6 26 27 28) (setE 2 (j1 (x10 call hs u) 3) eNil))=j7 (xe5 call hs u rec0) 3 6 7 8 26 27 28:=sq2 x1on x1oo
theorem x1oq{rec0:AV->AV->AV->AV->AV->Mem->Nat->O2}:x1z0 call hs u xw7 (j5 (x1n call hs u rec0) 3 6 26 27 28) (setE 3 (j5 (x1n call hs u rec0) 3 6 26 27 28) (setE 2 (j1 (x10 call hs u) 3) eNil))=j5 (xav call hs u rec0) 3 6 26 27 28:=tr (sqN 1 x1op)
theorem x1or{rec0:AV->AV->AV->AV->AV->Mem->Nat->O2}:x1z0 call hs u xw6 (j5 (x1n call hs u rec0) 3 6 26 27 28) (setE 2 (j1 (x10 call hs u) 3) eNil)=j5 (xav call hs u rec0) 3 6 26 27 28:=bk x1oq
theorem x1os{rec0:AV->AV->AV->AV->AV->Mem->Nat->O2}:x1z0 call hs u xhw (j5 rec0 3 6 26 27 28) (setE 2 (j1 (x10 call hs u) 3) eNil)=j5 (xav call hs u rec0) 3 6 26 27 28:=sq2 x1om x1or
theorem x1ot{rec0:AV->AV->AV->AV->AV->Mem->Nat->O2}:x1z0 call hs u xw5 (j5 rec0 3 6 26 27 28) (setE 2 (j1 (x10 call hs u) 3) eNil)=j5 (xl9 call hs u rec0) 3 6 26 27 28:=tr (sqN 2 x1os)
theorem x1ou:x1z0 call hs u xw4 (j1 (x10 call hs u) 3) (setE 2 (j1 (x10 call hs u) 3) eNil)=j5 (x6q call hs u NN) 3 6 26 27 28:=lp (Ln:=fun n=>j5 (x6q call hs u n) 3 6 26 27 28) fun n=>tr x1ot
theorem x1ov:x1z0 call hs u xw3 (j1 (x10 call hs u) 3) eNil=j5 (x6q call hs u NN) 3 6 26 27 28:=bk x1ou
theorem x1ow:x1z0 call hs u xw2 (j1 (x10 call hs u) 3) eNil=j3 (xe6 call hs u) 3 5 6:=tr (sqN 1 x1ov)
theorem x1ox:x1z0 call hs u xhv r_6 eNil=j3 (xe6 call hs u) 3 5 6:=sq2 x1ol x1ow
theorem x1oy:x1z0 call hs u xw1 r_6 eNil=j2 (x4k call hs u) 1 3:=tr (sqN 2 x1ox)
theorem x1oz{rec1:AV->AV->Mem->Nat->O2}:x1z0 call hs u x1ok (j2 rec1 1 3) (setE 0 (j2 (x4k call hs u) 1 3) eNil)=j2 (xla call hs u rec1) 1 3:=by kernel_rfl
theorem x1p0:x1z0 call hs u xw8 (j2 (x4k call hs u) 1 3) (setE 0 (j2 (x4k call hs u) 1 3) eNil)=j2 (x4l call hs u NN) 1 3:=lp (Ln:=fun n=>j2 (x4l call hs u n) 1 3) fun n=>tr x1oz
theorem x1p1:x1z0 call hs u xw0 (j2 (x4k call hs u) 1 3) eNil=j2 (x4l call hs u NN) 1 3:=bk x1p0
theorem x1p2:x1z0 call hs u xhu r_6 eNil=j2 (x4l call hs u NN) 1 3:=sq2 x1oy x1p1
theorem x15q:x1z0 call hs u xvz r_6 eNil=j1 (xlb call hs u) 0:=tr (sqN 2 x1p2)
noncomputable abbrev x22l:=VX x8s 27 r_3
noncomputable def xw9:=x1xu x8s
noncomputable def xhy:=nRs 2 xw9
noncomputable def xwa:=nL xhy
noncomputable def x1p3:=nR xhy
noncomputable def xwb:=nR xwa
noncomputable def xwc:=nR xwb
noncomputable def x1p4:=nR xwc
theorem x1p5:x22l call hs u x1p3 r_3 eNil=j1 (x3n call hs u) 5:=by kernel_rfl
theorem x1p6{rec0:AV->AV->AV->AV->AV->Mem->Nat->O2}:x22l call hs u x1p4 (j5 rec0 1 5 10 11 12) (setE 0 (j1 (x3n call hs u) 5) eNil)=j5 (xlc call hs u rec0) 1 5 10 11 12:=by kernel_rfl
theorem x1p7:x22l call hs u xwc (j1 (x3n call hs u) 5) (setE 0 (j1 (x3n call hs u) 5) eNil)=j5 (x6r call hs u NN) 1 5 10 11 12:=lp (Ln:=fun n=>j5 (x6r call hs u n) 1 5 10 11 12) fun n=>tr x1p6
theorem x1p8:x22l call hs u xwb (j1 (x3n call hs u) 5) eNil=j5 (x6r call hs u NN) 1 5 10 11 12:=bk x1p7
theorem x1p9:x22l call hs u xwa (j1 (x3n call hs u) 5) eNil=j3 (xe7 call hs u) 1 2 5:=tr (sqN 1 x1p8)
theorem x1pa:x22l call hs u xhy r_3 eNil=j3 (xe7 call hs u) 1 2 5:=sq2 x1p5 x1p9
theorem x15r:x22l call hs u xw9 r_3 eNil=j2 (xld call hs u) 0 1:=tr (sqN 2 x1pa)
noncomputable abbrev x2bm:=VX x8t 9 r_15
noncomputable def x1pb:=x1xu x8t
theorem x15s:x2bm call hs u x1pb r_15 eNil=j2 (xle call hs u) 0 1:=by kernel_rfl
noncomputable abbrev x2bn:=VX x8u 13 r_17
noncomputable def x1pc:=x1xu x8u
theorem x15t:x2bn call hs u x1pc r_17 eNil=j3 (xlf call hs u) 0 1 2:=by kernel_rfl
noncomputable abbrev x2bo:=VX x8v 11 r_15
noncomputable def x1pd:=x1xu x8v
theorem x15u:x2bo call hs u x1pd r_15 eNil=j1 (xlg call hs u) 0:=by kernel_rfl
noncomputable abbrev x20a:=VX x8w 43 r_15
noncomputable def xwd:=x1xu x8w
noncomputable def xwe:=nR xwd
noncomputable def xwf:=nR xwe
noncomputable def xwg:=nR xwf
noncomputable def xhz:=nRs 2 xwg
noncomputable def xwh:=nL xhz
noncomputable def x1pe:=nR xhz
noncomputable def xwi:=nR xwh
noncomputable def xwj:=nRs 2 xwi
noncomputable def xwk:=nR xwj
noncomputable def x1pf:=nR xwk
theorem x1pg{rec0:AV->AV->AV->AV->AV->AV->Mem->Nat->O2}:x20a call hs u x1pe (j6 rec0 0 2 3 12 13 14) (setE 0 r_15 eNil)=j6 (x17 call hs u rec0) 0 2 3 12 13 14:=by kernel_rfl
theorem x1ph{rec0:AV->AV->AV->AV->AV->AV->Mem->Nat->O2}{rec1:AV->AV->AV->AV->AV->AV->AV->AV->AV->Mem->Nat->O2}:x20a call hs u x1pf (j9 rec1 0 2 3 6 12 13 14 18 19) (setE 2 (j6 (x17 call hs u rec0) 0 2 3 12 13 14) (setE 1 (j6 (x17 call hs u rec0) 0 2 3 12 13 14) (setE 0 r_15 eNil)))=j9 (xlh call hs u rec0 rec1) 0 2 3 6 12 13 14 18 19:=by kernel_rfl
theorem x1pi{rec0:AV->AV->AV->AV->AV->AV->Mem->Nat->O2}:x20a call hs u xwk (j6 (x17 call hs u rec0) 0 2 3 12 13 14) (setE 2 (j6 (x17 call hs u rec0) 0 2 3 12 13 14) (setE 1 (j6 (x17 call hs u rec0) 0 2 3 12 13 14) (setE 0 r_15 eNil)))=j9 (x6t call hs u rec0 NN) 0 2 3 6 12 13 14 18 19:=lp (Ln:=fun n=>j9 (x6t call hs u rec0 n) 0 2 3 6 12 13 14 18 19) fun n=>tr x1ph
theorem x1pj{rec0:AV->AV->AV->AV->AV->AV->Mem->Nat->O2}:x20a call hs u xwj (j6 (x17 call hs u rec0) 0 2 3 12 13 14) (setE 1 (j6 (x17 call hs u rec0) 0 2 3 12 13 14) (setE 0 r_15 eNil))=j9 (x6t call hs u rec0 NN) 0 2 3 6 12 13 14 18 19:=bk x1pi
theorem x1pk{rec0:AV->AV->AV->AV->AV->AV->Mem->Nat->O2}:x20a call hs u xwi (j6 (x17 call hs u rec0) 0 2 3 12 13 14) (setE 1 (j6 (x17 call hs u rec0) 0 2 3 12 13 14) (setE 0 r_15 eNil))=j6 (xaw call hs u rec0) 0 2 3 12 13 14:=tr (sqN 2 x1pj)
theorem x1pl{rec0:AV->AV->AV->AV->AV->AV->Mem->Nat->O2}:x20a call hs u xwh (j6 (x17 call hs u rec0) 0 2 3 12 13 14) (setE 0 r_15 eNil)=j6 (xaw call hs u rec0) 0 2 3 12 13 14:=bk x1pk
theorem x1pm{rec0:AV->AV->AV->AV->AV->AV->Mem->Nat->O2}:x20a call hs u xhz (j6 rec0 0 2 3 12 13 14) (setE 0 r_15 eNil)=j6 (xaw call hs u rec0) 0 2 3 12 13 14:=sq2 x1pg x1pl
theorem x1pn{rec0:AV->AV->AV->AV->AV->AV->Mem->Nat->O2}:x20a call hs u xwg (j6 rec0 0 2 3 12 13 14) (setE 0 r_15 eNil)=j6 (xli call hs u rec0) 0 2 3 12 13 14:=tr (sqN 2 x1pm)
theorem x1po:x20a call hs u xwf r_15 (setE 0 r_15 eNil)=j6 (x6u call hs u NN) 0 2 3 12 13 14:=lp (Ln:=fun n=>j6 (x6u call hs u n) 0 2 3 12 13 14) fun n=>tr x1pn
theorem x1pp:x20a call hs u xwe r_15 eNil=j6 (x6u call hs u NN) 0 2 3 12 13 14:=bk x1po
theorem x15v:x20a call hs u xwd r_15 eNil=j4 (xlj call hs u) 0 1 2 3:=tr (sqN 1 x1pp)
noncomputable abbrev x22m:=VX x4b 19 r_3
noncomputable def xwl:=x1xu x4b
noncomputable def xi0:=nR xwl
noncomputable def xwm:=nL xi0
noncomputable def x1pq:=nR xi0
noncomputable def xwn:=nR xwm
noncomputable def xwo:=nR xwn
noncomputable def x1pr:=nR xwo
theorem x1ps:x22m call hs u x1pq r_3 eNil=j0 (x2v call hs u):=by kernel_rfl
theorem x1pt{rec0:AV->AV->AV->AV->Mem->Nat->O2}:x22m call hs u x1pr (j4 rec0 0 1 7 8) (setE 0 (j0 (x2v call hs u)) eNil)=j4 (xax call hs u rec0) 0 1 7 8:=by kernel_rfl
theorem x1pu:x22m call hs u xwo (j0 (x2v call hs u)) (setE 0 (j0 (x2v call hs u)) eNil)=j4 (x2w call hs u NN) 0 1 7 8:=lp (Ln:=fun n=>j4 (x2w call hs u n) 0 1 7 8) fun n=>tr x1pt
theorem x1pv:x22m call hs u xwn (j0 (x2v call hs u)) eNil=j4 (x2w call hs u NN) 0 1 7 8:=bk x1pu
theorem x1pw:x22m call hs u xwm (j0 (x2v call hs u)) eNil=j2 (xay call hs u) 0 1:=tr (sqN 1 x1pv)
theorem x1px:x22m call hs u xi0 r_3 eNil=j2 (xay call hs u) 0 1:=sq2 x1ps x1pw
theorem x15w:x22m call hs u xwl r_3 eNil=j2 (xe8 call hs u) 0 1:=tr (sqN 1 x1px)
noncomputable abbrev x2bp:=VX x8x 6 r_6
noncomputable def x1py:=x1xu x8x
theorem x15x:x2bp call hs u x1py r_6 eNil=j1 (xlk call hs u) 0:=by kernel_rfl
noncomputable abbrev x22n:=VX x8y 62 r_5
noncomputable def xwp:=x1xu x8y
noncomputable def xi1:=nRs 2 xwp
noncomputable def xwq:=nL xi1
noncomputable def x1pz:=nR xi1
noncomputable def xwr:=nR xwq
noncomputable def xws:=nR xwr
noncomputable def x1q0:=nR xws
theorem x1q1:x22n call hs u x1pz r_5 eNil=j0 (x3o call hs u):=by kernel_rfl
theorem x1q2{rec0:AV->AV->AV->AV->Mem->Nat->O2}:x22n call hs u x1q0 (j4 rec0 1 17 18 19) (setE 1 (j0 (x3o call hs u)) eNil)=j4 (xll call hs u rec0) 1 17 18 19:=by kernel_rfl
theorem x1q3:x22n call hs u xws (j0 (x3o call hs u)) (setE 1 (j0 (x3o call hs u)) eNil)=j4 (x6v call hs u NN) 1 17 18 19:=lp (Ln:=fun n=>j4 (x6v call hs u n) 1 17 18 19) fun n=>tr x1q2
theorem x1q4:x22n call hs u xwr (j0 (x3o call hs u)) eNil=j4 (x6v call hs u NN) 1 17 18 19:=bk x1q3
theorem x1q5:x22n call hs u xwq (j0 (x3o call hs u)) eNil=j1 (xe9 call hs u) 1:=tr (sqN 1 x1q4)
theorem x1q6:x22n call hs u xi1 r_5 eNil=j1 (xe9 call hs u) 1:=sq2 x1q1 x1q5
theorem x15y:x22n call hs u xwp r_5 eNil=j1 (xlm call hs u) 0:=tr (sqN 2 x1q6)
noncomputable abbrev x20s:=VX x8z 47 r_3
noncomputable def xwt:=x1xu x8z
noncomputable def xi2:=nRs 2 xwt
noncomputable def xwu:=nL xi2
noncomputable def x1q7:=nR xi2
noncomputable def xwv:=nR xwu
noncomputable def xww:=nR xwv
noncomputable def xwx:=nR xww
noncomputable def xi3:=nRs 2 xwx
noncomputable def x1q8:=nL xi3
noncomputable def x1q9:=nR xi3
theorem x1qa:x20s call hs u x1q7 r_3 eNil=j1 (x1o call hs u) 5:=by kernel_rfl
theorem x1qb{rec0:AV->AV->AV->AV->AV->Mem->Nat->O2}:x20s call hs u x1q9 (j5 rec0 0 1 5 12 13) (setE 0 (j1 (x1o call hs u) 5) eNil)=j5 (xaz call hs u rec0) 0 1 5 12 13:=by kernel_rfl
theorem x1qc{rec0:AV->AV->AV->AV->AV->Mem->Nat->O2}:x20s call hs u x1q8 (j5 (xaz call hs u rec0) 0 1 5 12 13) (setE 0 (j1 (x1o call hs u) 5) eNil)=j5 (xea call hs u rec0) 0 1 5 12 13:=by kernel_rfl
theorem x1qd{rec0:AV->AV->AV->AV->AV->Mem->Nat->O2}:x20s call hs u xi3 (j5 rec0 0 1 5 12 13) (setE 0 (j1 (x1o call hs u) 5) eNil)=j5 (xea call hs u rec0) 0 1 5 12 13:=sq2 x1qb x1qc
theorem x1qe{rec0:AV->AV->AV->AV->AV->Mem->Nat->O2}:x20s call hs u xwx (j5 rec0 0 1 5 12 13) (setE 0 (j1 (x1o call hs u) 5) eNil)=j5 (xln call hs u rec0) 0 1 5 12 13:=tr (sqN 2 x1qd)
theorem x1qf:x20s call hs u xww (j1 (x1o call hs u) 5) (setE 0 (j1 (x1o call hs u) 5) eNil)=j5 (x6w call hs u NN) 0 1 5 12 13:=lp (Ln:=fun n=>j5 (x6w call hs u n) 0 1 5 12 13) fun n=>tr x1qe
theorem x1qg:x20s call hs u xwv (j1 (x1o call hs u) 5) eNil=j5 (x6w call hs u NN) 0 1 5 12 13:=bk x1qf
theorem x1qh:x20s call hs u xwu (j1 (x1o call hs u) 5) eNil=j3 (xeb call hs u) 0 1 5:=tr (sqN 1 x1qg)
theorem x1qi:x20s call hs u xi2 r_3 eNil=j3 (xeb call hs u) 0 1 5:=sq2 x1qa x1qh
theorem x15z:x20s call hs u xwt r_3 eNil=j2 (xlo call hs u) 0 1:=tr (sqN 2 x1qi)
noncomputable abbrev x1ze:=VX x5i 45 r_3
noncomputable def xwy:=x1xu x5i
noncomputable def xi4:=nRs 3 xwy
noncomputable def xwz:=nL xi4
noncomputable def x1qj:=nR xi4
noncomputable def xx0:=nR xwz
noncomputable def xx1:=nR xx0
noncomputable def xx2:=nR xx1
noncomputable def xi5:=nRs 2 xx2
noncomputable def xx3:=nL xi5
noncomputable def x1qk:=nR xi5
noncomputable def xx4:=nR xx3
noncomputable def xi6:=nRs 4 xx4
noncomputable def xx5:=nL xi6
noncomputable def x1ql:=nR xi6
noncomputable def xx6:=nR xx5
noncomputable def x1qm:=nR xx6
theorem x1qn:x1ze call hs u x1qj r_3 eNil=j1 (xq call hs u) 5:=by kernel_rfl
theorem x1qo{rec0:AV->AV->AV->AV->AV->Mem->Nat->O2}:x1ze call hs u x1qk (j5 rec0 1 5 6 14 15) (setE 0 (j1 (xq call hs u) 5) eNil)=j5 (x14 call hs u rec0) 1 5 6 14 15:=by kernel_rfl
theorem x1qp{rec0:AV->AV->AV->AV->AV->Mem->Nat->O2}:x1ze call hs u x1ql (j5 (x14 call hs u rec0) 1 5 6 14 15) (setE 1 (j5 (x14 call hs u rec0) 1 5 6 14 15) (setE 0 (j1 (xq call hs u) 5) eNil))=j5 (x4m call hs u rec0) 1 5 6 14 15:=by kernel_rfl
theorem x1qq{rec0:AV->AV->AV->AV->AV->Mem->Nat->O2}{rec1:AV->AV->AV->AV->AV->AV->Mem->Nat->O2}:x1ze call hs u x1qm (j6 rec1 1 5 6 8 14 15) (setE 2 (j5 (x4m call hs u rec0) 1 5 6 14 15) (setE 1 (j5 (x14 call hs u rec0) 1 5 6 14 15) (setE 0 (j1 (xq call hs u) 5) eNil)))=j6 (xlp call hs u rec0 rec1) 1 5 6 8 14 15:=by kernel_rfl
theorem x1qr{rec0:AV->AV->AV->AV->AV->Mem->Nat->O2}:x1ze call hs u xx6 (j5 (x4m call hs u rec0) 1 5 6 14 15) (setE 2 (j5 (x4m call hs u rec0) 1 5 6 14 15) (setE 1 (j5 (x14 call hs u rec0) 1 5 6 14 15) (setE 0 (j1 (xq call hs u) 5) eNil)))=j6 (x4n call hs u rec0 NN) 1 5 6 8 14 15:=lp (Ln:=fun n=>j6 (x4n call hs u rec0 n) 1 5 6 8 14 15) fun n=>tr x1qq
theorem x1qs{rec0:AV->AV->AV->AV->AV->Mem->Nat->O2}:x1ze call hs u xx5 (j5 (x4m call hs u rec0) 1 5 6 14 15) (setE 1 (j5 (x14 call hs u rec0) 1 5 6 14 15) (setE 0 (j1 (xq call hs u) 5) eNil))=j6 (x4n call hs u rec0 NN) 1 5 6 8 14 15:=bk x1qr
theorem x1qt{rec0:AV->AV->AV->AV->AV->Mem->Nat->O2}:x1ze call hs u xi6 (j5 (x14 call hs u rec0) 1 5 6 14 15) (setE 1 (j5 (x14 call hs u rec0) 1 5 6 14 15) (setE 0 (j1 (xq call hs u) 5) eNil))=j6 (x4n call hs u rec0 NN) 1 5 6 8 14 15:=sq2 x1qp x1qs
theorem x1qu{rec0:AV->AV->AV->AV->AV->Mem->Nat->O2}:x1ze call hs u xx4 (j5 (x14 call hs u rec0) 1 5 6 14 15) (setE 1 (j5 (x14 call hs u rec0) 1 5 6 14 15) (setE 0 (j1 (xq call hs u) 5) eNil))=j5 (xb0 call hs u rec0) 1 5 6 14 15:=tr (sqN 4 x1qt)
theorem x1qv{rec0:AV->AV->AV->AV->AV->Mem->Nat->O2}:x1ze call hs u xx3 (j5 (x14 call hs u rec0) 1 5 6 14 15) (setE 0 (j1 (xq call hs u) 5) eNil)=j5 (xb0 call hs u rec0) 1 5 6 14 15:=bk x1qu
theorem x1qw{rec0:AV->AV->AV->AV->AV->Mem->Nat->O2}:x1ze call hs u xi5 (j5 rec0 1 5 6 14 15) (setE 0 (j1 (xq call hs u) 5) eNil)=j5 (xb0 call hs u rec0) 1 5 6 14 15:=sq2 x1qo x1qv
theorem x1qx{rec0:AV->AV->AV->AV->AV->Mem->Nat->O2}:x1ze call hs u xx2 (j5 rec0 1 5 6 14 15) (setE 0 (j1 (xq call hs u) 5) eNil)=j5 (xlq call hs u rec0) 1 5 6 14 15:=tr (sqN 2 x1qw)
theorem x1qy:x1ze call hs u xx1 (j1 (xq call hs u) 5) (setE 0 (j1 (xq call hs u) 5) eNil)=j5 (x6y call hs u NN) 1 5 6 14 15:=lp (Ln:=fun n=>j5 (x6y call hs u n) 1 5 6 14 15) fun n=>tr x1qx
theorem x1qz:x1ze call hs u xx0 (j1 (xq call hs u) 5) eNil=j5 (x6y call hs u NN) 1 5 6 14 15:=bk x1qy
theorem x1r0:x1ze call hs u xwz (j1 (xq call hs u) 5) eNil=j3 (xec call hs u) 1 5 6:=tr (sqN 1 x1qz)
theorem x1r1:x1ze call hs u xi4 r_3 eNil=j3 (xec call hs u) 1 5 6:=sq2 x1qn x1r0
theorem x160:x1ze call hs u xwy r_3 eNil=j2 (xlr call hs u) 0 1:=tr (sqN 3 x1r1)
noncomputable abbrev x22o:=VX x83 53 r_15
noncomputable def xx7:=x1xu x83
noncomputable def xx8:=nR xx7
noncomputable def xx9:=nR xx8
noncomputable def xxa:=nR xx9
noncomputable def xi7:=nRs 2 xxa
noncomputable def x1r2:=nL xi7
noncomputable def x1r3:=nR xi7
theorem x1r4{rec0:AV->AV->AV->AV->AV->Mem->Nat->O2}:x22o call hs u x1r3 (j5 rec0 0 1 3 9 10) (setE 0 r_15 eNil)=j5 (xb1 call hs u rec0) 0 1 3 9 10:=by kernel_rfl
theorem x1r5{rec0:AV->AV->AV->AV->AV->Mem->Nat->O2}:x22o call hs u x1r2 (j5 (xb1 call hs u rec0) 0 1 3 9 10) (setE 0 r_15 eNil)=j5 (xed call hs u rec0) 0 1 3 9 10:=by kernel_rfl
theorem x1r6{rec0:AV->AV->AV->AV->AV->Mem->Nat->O2}:x22o call hs u xi7 (j5 rec0 0 1 3 9 10) (setE 0 r_15 eNil)=j5 (xed call hs u rec0) 0 1 3 9 10:=sq2 x1r4 x1r5
theorem x1r7{rec0:AV->AV->AV->AV->AV->Mem->Nat->O2}:x22o call hs u xxa (j5 rec0 0 1 3 9 10) (setE 0 r_15 eNil)=j5 (xls call hs u rec0) 0 1 3 9 10:=tr (sqN 2 x1r6)
theorem x1r8:x22o call hs u xx9 r_15 (setE 0 r_15 eNil)=j5 (x6z call hs u NN) 0 1 3 9 10:=lp (Ln:=fun n=>j5 (x6z call hs u n) 0 1 3 9 10) fun n=>tr x1r7
theorem x1r9:x22o call hs u xx8 r_15 eNil=j5 (x6z call hs u NN) 0 1 3 9 10:=bk x1r8
theorem x13u:x22o call hs u xx7 r_15 eNil=j4 (xlt call hs u) 0 1 2 3:=tr (sqN 1 x1r9)
noncomputable abbrev x1zp:=VX x90 132 r_6
noncomputable def xxb:=x1xu x90
noncomputable def xi8:=nRs 2 xxb
noncomputable def xxc:=nL xi8
noncomputable def x1ra:=nR xi8
noncomputable def xxd:=nR xxc
noncomputable def xxe:=nR xxd
noncomputable def xxf:=nR xxe
noncomputable def xi9:=nRs 2 xxf
noncomputable def xxg:=nL xi9
noncomputable def x1rb:=nR xi9
noncomputable def xxh:=nR xxg
noncomputable def xia:=nR xxh
noncomputable def x1rc:=nL xia
noncomputable def x1rd:=nR xia
theorem x1re:x1zp call hs u x1ra r_6 eNil=j1 (x11 call hs u) 3:=by kernel_rfl
theorem x1rf{rec0:AV->AV->AV->AV->Mem->Nat->O2}:x1zp call hs u x1rb (j4 rec0 3 28 29 30) (setE 0 (j1 (x11 call hs u) 3) eNil)=j4 (x1p call hs u rec0) 3 28 29 30:=by kernel_rfl
theorem x1rg{rec0:AV->AV->AV->AV->Mem->Nat->O2}:x1zp call hs u x1rd (j4 (x1p call hs u rec0) 3 28 29 30) (setE 1 (j4 (x1p call hs u rec0) 3 28 29 30) (setE 0 (j1 (x11 call hs u) 3) eNil))=j6 (x70 call hs u rec0) 3 4 5 28 29 30:=by kernel_rfl
theorem x1rh{rec0:AV->AV->AV->AV->Mem->Nat->O2}:x1zp call hs u x1rc (j6 (x70 call hs u rec0) 3 4 5 28 29 30) (setE 1 (j4 (x1p call hs u rec0) 3 28 29 30) (setE 0 (j1 (x11 call hs u) 3) eNil))=j6 (xee call hs u rec0) 3 4 5 28 29 30:=by kernel_rfl
theorem x1ri{rec0:AV->AV->AV->AV->Mem->Nat->O2}:x1zp call hs u xia (j4 (x1p call hs u rec0) 3 28 29 30) (setE 1 (j4 (x1p call hs u rec0) 3 28 29 30) (setE 0 (j1 (x11 call hs u) 3) eNil))=j6 (xee call hs u rec0) 3 4 5 28 29 30:=sq2 x1rg x1rh
theorem x1rj{rec0:AV->AV->AV->AV->Mem->Nat->O2}:x1zp call hs u xxh (j4 (x1p call hs u rec0) 3 28 29 30) (setE 1 (j4 (x1p call hs u rec0) 3 28 29 30) (setE 0 (j1 (x11 call hs u) 3) eNil))=j4 (xb2 call hs u rec0) 3 28 29 30:=tr (sqN 1 x1ri)
theorem x1rk{rec0:AV->AV->AV->AV->Mem->Nat->O2}:x1zp call hs u xxg (j4 (x1p call hs u rec0) 3 28 29 30) (setE 0 (j1 (x11 call hs u) 3) eNil)=j4 (xb2 call hs u rec0) 3 28 29 30:=bk x1rj
theorem x1rl{rec0:AV->AV->AV->AV->Mem->Nat->O2}:x1zp call hs u xi9 (j4 rec0 3 28 29 30) (setE 0 (j1 (x11 call hs u) 3) eNil)=j4 (xb2 call hs u rec0) 3 28 29 30:=sq2 x1rf x1rk
theorem x1rm{rec0:AV->AV->AV->AV->Mem->Nat->O2}:x1zp call hs u xxf (j4 rec0 3 28 29 30) (setE 0 (j1 (x11 call hs u) 3) eNil)=j4 (xlu call hs u rec0) 3 28 29 30:=tr (sqN 2 x1rl)
theorem x1rn:x1zp call hs u xxe (j1 (x11 call hs u) 3) (setE 0 (j1 (x11 call hs u) 3) eNil)=j4 (x71 call hs u NN) 3 28 29 30:=lp (Ln:=fun n=>j4 (x71 call hs u n) 3 28 29 30) fun n=>tr x1rm
theorem x1ro:x1zp call hs u xxd (j1 (x11 call hs u) 3) eNil=j4 (x71 call hs u NN) 3 28 29 30:=bk x1rn
theorem x1rp:x1zp call hs u xxc (j1 (x11 call hs u) 3) eNil=j2 (xef call hs u) 1 3:=tr (sqN 1 x1ro)
theorem x1rq:x1zp call hs u xi8 r_6 eNil=j2 (xef call hs u) 1 3:=sq2 x1re x1rp
theorem x161:x1zp call hs u xxb r_6 eNil=j1 (xlv call hs u) 0:=tr (sqN 2 x1rq)
noncomputable abbrev x2bq:=VX x86 5 r_6
noncomputable def x1rr:=x1xu x86
theorem x13y:x2bq call hs u x1rr r_6 eNil=j1 (xlw call hs u) 0:=by kernel_rfl
noncomputable abbrev x1ym:=VX x91 160 r_15
noncomputable def xxi:=x1xu x91
noncomputable def xib:=nRs 2 xxi
noncomputable def xxj:=nL xib
noncomputable def xxk:=nR xib
noncomputable def xic:=nR xxk
noncomputable def xxl:=nL xic
noncomputable def xid:=nR xic
noncomputable def xxm:=nL xid
noncomputable def xxn:=nR xid
noncomputable def xxo:=nRs 3 xxn
noncomputable def xxp:=nR xxo
noncomputable def x1rs:=nR xxp
noncomputable def xxq:=nR xxm
noncomputable def xxr:=nR xxq
noncomputable def x1rt:=nR xxr
noncomputable def xxs:=nR xxl
noncomputable def xxt:=nR xxs
noncomputable def x1ru:=nR xxt
noncomputable def xxu:=nR xxj
noncomputable def xxv:=nR xxu
noncomputable def xxw:=nR xxv
noncomputable def xie:=nRs 2 xxw
noncomputable def x1rv:=nL xie
noncomputable def x1rw:=nR xie
theorem x1rx{rec0:AV->AV->AV->AV->AV->AV->Mem->Nat->O2}:x1ym call hs u x1rs (j6 rec0 0 4 5 136 137 138) (setE 6 r_15 eNil)=j6 (xlx call hs u rec0) 0 4 5 136 137 138:=by kernel_rfl
theorem x1ry:x1ym call hs u xxp r_15 (setE 6 r_15 eNil)=j6 (x72 call hs u NN) 0 4 5 136 137 138:=lp (Ln:=fun n=>j6 (x72 call hs u n) 0 4 5 136 137 138) fun n=>tr x1rx
theorem x1rz:x1ym call hs u xxo r_15 eNil=j6 (x72 call hs u NN) 0 4 5 136 137 138:=bk x1ry
theorem x1s0:x1ym call hs u xxn r_15 eNil=j5 (x3p call hs u) 0 1 4 5 8:=tr (sqN 3 x1rz)
theorem x1s1{rec1:AV->AV->AV->AV->AV->AV->Mem->Nat->O2}:x1ym call hs u x1rt (j6 rec1 0 1 4 5 8 10) (setE 4 (j5 (x3p call hs u) 0 1 4 5 8) eNil)=j6 (xly call hs u rec1) 0 1 4 5 8 10:=by kernel_rfl
theorem x1s2:x1ym call hs u xxr (j5 (x3p call hs u) 0 1 4 5 8) (setE 4 (j5 (x3p call hs u) 0 1 4 5 8) eNil)=j6 (x73 call hs u NN) 0 1 4 5 8 10:=lp (Ln:=fun n=>j6 (x73 call hs u n) 0 1 4 5 8 10) fun n=>tr x1s1
theorem x1s3:x1ym call hs u xxq (j5 (x3p call hs u) 0 1 4 5 8) eNil=j6 (x73 call hs u NN) 0 1 4 5 8 10:=bk x1s2
theorem x1s4:x1ym call hs u xxm (j5 (x3p call hs u) 0 1 4 5 8) eNil=j5 (x2x call hs u) 0 1 4 5 8:=tr (sqN 1 x1s3)
theorem x1s5:x1ym call hs u xid r_15 eNil=j5 (x2x call hs u) 0 1 4 5 8:=sq2 x1s0 x1s4
theorem x1s6{rec2:AV->AV->AV->AV->AV->AV->Mem->Nat->O2}:x1ym call hs u x1ru (j6 rec2 0 1 4 5 8 9) (setE 2 (j5 (x2x call hs u) 0 1 4 5 8) eNil)=j6 (xlz call hs u rec2) 0 1 4 5 8 9:=by kernel_rfl
theorem x1s7:x1ym call hs u xxt (j5 (x2x call hs u) 0 1 4 5 8) (setE 2 (j5 (x2x call hs u) 0 1 4 5 8) eNil)=j6 (x74 call hs u NN) 0 1 4 5 8 9:=lp (Ln:=fun n=>j6 (x74 call hs u n) 0 1 4 5 8 9) fun n=>tr x1s6
theorem x1s8:x1ym call hs u xxs (j5 (x2x call hs u) 0 1 4 5 8) eNil=j6 (x74 call hs u NN) 0 1 4 5 8 9:=bk x1s7
theorem x1s9:x1ym call hs u xxl (j5 (x2x call hs u) 0 1 4 5 8) eNil=j5 (xeg call hs u) 0 1 4 5 8:=tr (sqN 1 x1s8)
theorem x1sa:x1ym call hs u xic r_15 eNil=j5 (xeg call hs u) 0 1 4 5 8:=sq2 x1s5 x1s9
theorem x1sb:x1ym call hs u xxk r_15 eNil=j4 (x1q call hs u) 0 1 4 5:=tr (sqN 1 x1sa)
theorem x1sc{rec3:AV->AV->AV->AV->AV->AV->AV->Mem->Nat->O2}:x1ym call hs u x1rw (j7 rec3 0 1 4 5 17 18 19) (setE 0 (j4 (x1q call hs u) 0 1 4 5) eNil)=j7 (xb3 call hs u rec3) 0 1 4 5 17 18 19:=by kernel_rfl
theorem x1sd{rec3:AV->AV->AV->AV->AV->AV->AV->Mem->Nat->O2}:x1ym call hs u x1rv (j7 (xb3 call hs u rec3) 0 1 4 5 17 18 19) (setE 0 (j4 (x1q call hs u) 0 1 4 5) eNil)=j7 (xeh call hs u rec3) 0 1 4 5 17 18 19:=by kernel_rfl
theorem x1se{rec3:AV->AV->AV->AV->AV->AV->AV->Mem->Nat->O2}:x1ym call hs u xie (j7 rec3 0 1 4 5 17 18 19) (setE 0 (j4 (x1q call hs u) 0 1 4 5) eNil)=j7 (xeh call hs u rec3) 0 1 4 5 17 18 19:=sq2 x1sc x1sd
theorem x1sf{rec3:AV->AV->AV->AV->AV->AV->AV->Mem->Nat->O2}:x1ym call hs u xxw (j7 rec3 0 1 4 5 17 18 19) (setE 0 (j4 (x1q call hs u) 0 1 4 5) eNil)=j7 (xm0 call hs u rec3) 0 1 4 5 17 18 19:=tr (sqN 2 x1se)
theorem x1sg:x1ym call hs u xxv (j4 (x1q call hs u) 0 1 4 5) (setE 0 (j4 (x1q call hs u) 0 1 4 5) eNil)=j7 (x75 call hs u NN) 0 1 4 5 17 18 19:=lp (Ln:=fun n=>j7 (x75 call hs u n) 0 1 4 5 17 18 19) fun n=>tr x1sf
theorem x1sh:x1ym call hs u xxu (j4 (x1q call hs u) 0 1 4 5) eNil=j7 (x75 call hs u NN) 0 1 4 5 17 18 19:=bk x1sg
theorem x1si:x1ym call hs u xxj (j4 (x1q call hs u) 0 1 4 5) eNil=j4 (xei call hs u) 0 1 4 5:=tr (sqN 1 x1sh)
theorem x1sj:x1ym call hs u xib r_15 eNil=j4 (xei call hs u) 0 1 4 5:=sq2 x1sb x1si
theorem x162:x1ym call hs u xxi r_15 eNil=j2 (xm1 call hs u) 0 1:=tr (sqN 2 x1sj)
noncomputable abbrev x20t:=VX x92 53 r_6
noncomputable def xxx:=x1xu x92
noncomputable def xif:=nRs 2 xxx
noncomputable def xxy:=nL xif
noncomputable def x1sk:=nR xif
noncomputable def xxz:=nR xxy
noncomputable def xy0:=nR xxz
noncomputable def xy1:=nR xy0
noncomputable def xig:=nRs 2 xy1
noncomputable def x1sl:=nL xig
noncomputable def x1sm:=nR xig
theorem x1sn:x20t call hs u x1sk r_6 eNil=j2 (x1r call hs u) 1 3:=by kernel_rfl
theorem x1so{rec0:AV->AV->AV->AV->AV->Mem->Nat->O2}:x20t call hs u x1sm (j5 rec0 1 3 12 13 14) (setE 0 (j2 (x1r call hs u) 1 3) eNil)=j5 (xb4 call hs u rec0) 1 3 12 13 14:=by kernel_rfl
theorem x1sp{rec0:AV->AV->AV->AV->AV->Mem->Nat->O2}:x20t call hs u x1sl (j5 (xb4 call hs u rec0) 1 3 12 13 14) (setE 0 (j2 (x1r call hs u) 1 3) eNil)=j5 (xej call hs u rec0) 1 3 12 13 14:=by kernel_rfl
theorem x1sq{rec0:AV->AV->AV->AV->AV->Mem->Nat->O2}:x20t call hs u xig (j5 rec0 1 3 12 13 14) (setE 0 (j2 (x1r call hs u) 1 3) eNil)=j5 (xej call hs u rec0) 1 3 12 13 14:=sq2 x1so x1sp
theorem x1sr{rec0:AV->AV->AV->AV->AV->Mem->Nat->O2}:x20t call hs u xy1 (j5 rec0 1 3 12 13 14) (setE 0 (j2 (x1r call hs u) 1 3) eNil)=j5 (xm2 call hs u rec0) 1 3 12 13 14:=tr (sqN 2 x1sq)
theorem x1ss:x20t call hs u xy0 (j2 (x1r call hs u) 1 3) (setE 0 (j2 (x1r call hs u) 1 3) eNil)=j5 (x76 call hs u NN) 1 3 12 13 14:=lp (Ln:=fun n=>j5 (x76 call hs u n) 1 3 12 13 14) fun n=>tr x1sr
theorem x1st:x20t call hs u xxz (j2 (x1r call hs u) 1 3) eNil=j5 (x76 call hs u NN) 1 3 12 13 14:=bk x1ss
theorem x1su:x20t call hs u xxy (j2 (x1r call hs u) 1 3) eNil=j2 (xek call hs u) 1 3:=tr (sqN 1 x1st)
theorem x1sv:x20t call hs u xif r_6 eNil=j2 (xek call hs u) 1 3:=sq2 x1sn x1su
theorem x163:x20t call hs u xxx r_6 eNil=j1 (xm3 call hs u) 0:=tr (sqN 2 x1sv)
noncomputable abbrev x2br:=VX x85 7 r_6
noncomputable def x1sw:=x1xu x85
theorem x13w:x2br call hs u x1sw r_6 eNil=j1 (xm4 call hs u) 0:=by kernel_rfl
noncomputable abbrev x2bs:=VX x84 19 r_3
noncomputable def x1sx:=x1xu x84
theorem x13v:x2bs call hs u x1sx r_3 eNil=j2 (xm5 call hs u) 0 1:=by kernel_rfl
noncomputable abbrev x1z3:=VX x93 63 r_15
noncomputable def xy2:=x1xu x93
noncomputable def xih:=nRs 2 xy2
noncomputable def xy3:=nL xih
noncomputable def xy4:=nR xih
noncomputable def xy5:=nR xy4
noncomputable def xy6:=nR xy5
noncomputable def xy7:=nR xy6
noncomputable def xy8:=nR xy7
noncomputable def xy9:=nR xy8
noncomputable def xii:=nR xy9
noncomputable def xya:=nL xii
noncomputable def xij:=nR xii
noncomputable def x1sy:=nL xij
noncomputable def x1sz:=nR xij
noncomputable def xyb:=nR xya
noncomputable def x1t0:=nR xyb
noncomputable def xyc:=nR xy3
noncomputable def x1t1:=nR xyc
theorem x1t2{rec0:AV->AV->AV->AV->Mem->Nat->O2}:x1z3 call hs u x1sz (j4 rec0 0 1 2 6) (setE 3 (j4 rec0 0 1 2 6) (setE 2 r_15 eNil))=j4 (xb5 call hs u rec0) 0 1 2 6:=by kernel_rfl
theorem x1t3{rec0:AV->AV->AV->AV->Mem->Nat->O2}:x1z3 call hs u x1sy (j4 (xb5 call hs u rec0) 0 1 2 6) (setE 3 (j4 rec0 0 1 2 6) (setE 2 r_15 eNil))=j5 (x3q call hs u rec0) 0 1 2 6 7:=by kernel_rfl
theorem x1t4{rec0:AV->AV->AV->AV->Mem->Nat->O2}:x1z3 call hs u xij (j4 rec0 0 1 2 6) (setE 3 (j4 rec0 0 1 2 6) (setE 2 r_15 eNil))=j5 (x3q call hs u rec0) 0 1 2 6 7:=sq2 x1t2 x1t3
theorem x1t5{rec0:AV->AV->AV->AV->Mem->Nat->O2}{rec1:AV->AV->AV->AV->AV->AV->Mem->Nat->O2}:x1z3 call hs u x1t0 (j6 rec1 0 1 2 6 7 8) (setE 4 (j5 (x3q call hs u rec0) 0 1 2 6 7) (setE 3 (j4 rec0 0 1 2 6) (setE 2 r_15 eNil)))=j6 (xm6 call hs u rec0 rec1) 0 1 2 6 7 8:=by kernel_rfl
theorem x1t6{rec0:AV->AV->AV->AV->Mem->Nat->O2}:x1z3 call hs u xyb (j5 (x3q call hs u rec0) 0 1 2 6 7) (setE 4 (j5 (x3q call hs u rec0) 0 1 2 6 7) (setE 3 (j4 rec0 0 1 2 6) (setE 2 r_15 eNil)))=j6 (x4o call hs u rec0 NN) 0 1 2 6 7 8:=lp (Ln:=fun n=>j6 (x4o call hs u rec0 n) 0 1 2 6 7 8) fun n=>tr x1t5
theorem x1t7{rec0:AV->AV->AV->AV->Mem->Nat->O2}:x1z3 call hs u xya (j5 (x3q call hs u rec0) 0 1 2 6 7) (setE 3 (j4 rec0 0 1 2 6) (setE 2 r_15 eNil))=j6 (x4o call hs u rec0 NN) 0 1 2 6 7 8:=bk x1t6
theorem x1t8{rec0:AV->AV->AV->AV->Mem->Nat->O2}:x1z3 call hs u xii (j4 rec0 0 1 2 6) (setE 3 (j4 rec0 0 1 2 6) (setE 2 r_15 eNil))=j6 (x4o call hs u rec0 NN) 0 1 2 6 7 8:=sq2 x1t4 x1t7
theorem x1t9{rec0:AV->AV->AV->AV->Mem->Nat->O2}:x1z3 call hs u xy9 (j4 rec0 0 1 2 6) (setE 3 (j4 rec0 0 1 2 6) (setE 2 r_15 eNil))=j4 (xel call hs u rec0) 0 1 2 6:=tr (sqN 1 x1t8)
theorem x1ta{rec0:AV->AV->AV->AV->Mem->Nat->O2}:x1z3 call hs u xy8 (j4 rec0 0 1 2 6) (setE 2 r_15 eNil)=j4 (xel call hs u rec0) 0 1 2 6:=bk x1t9
theorem x1tb{rec0:AV->AV->AV->AV->Mem->Nat->O2}:x1z3 call hs u xy7 (j4 rec0 0 1 2 6) (setE 2 r_15 eNil)=j4 (xm7 call hs u rec0) 0 1 2 6:=tr (sqN 1 x1ta)
theorem x1tc:x1z3 call hs u xy6 r_15 (setE 2 r_15 eNil)=j4 (x77 call hs u NN) 0 1 2 6:=lp (Ln:=fun n=>j4 (x77 call hs u n) 0 1 2 6) fun n=>tr x1tb
theorem x1td:x1z3 call hs u xy5 r_15 eNil=j4 (x77 call hs u NN) 0 1 2 6:=bk x1tc
theorem x1te:x1z3 call hs u xy4 r_15 eNil=j5 (x4p call hs u) 0 1 2 6 7:=tr (sqN 1 x1td)
theorem x1tf{rec2:AV->AV->AV->AV->AV->AV->Mem->Nat->O2}:x1z3 call hs u x1t1 (j6 rec2 0 1 2 6 7 8) (setE 0 (j5 (x4p call hs u) 0 1 2 6 7) eNil)=j6 (xm8 call hs u rec2) 0 1 2 6 7 8:=by kernel_rfl
theorem x1tg:x1z3 call hs u xyc (j5 (x4p call hs u) 0 1 2 6 7) (setE 0 (j5 (x4p call hs u) 0 1 2 6 7) eNil)=j6 (x4q call hs u NN) 0 1 2 6 7 8:=lp (Ln:=fun n=>j6 (x4q call hs u n) 0 1 2 6 7 8) fun n=>tr x1tf
theorem x1th:x1z3 call hs u xy3 (j5 (x4p call hs u) 0 1 2 6 7) eNil=j6 (x4q call hs u NN) 0 1 2 6 7 8:=bk x1tg
theorem x1ti:x1z3 call hs u xih r_15 eNil=j6 (x4q call hs u NN) 0 1 2 6 7 8:=sq2 x1te x1th
theorem x164:x1z3 call hs u xy2 r_15 eNil=j3 (xm9 call hs u) 0 1 2:=tr (sqN 2 x1ti)
noncomputable abbrev x1zv:=VX x4c 134 r_15
noncomputable def xyd:=x1xu x4c
noncomputable def xye:=nRs 2 xyd
noncomputable def xyf:=nR xye
noncomputable def xyg:=nR xyf
noncomputable def xyh:=nR xyg
noncomputable def xik:=nRs 3 xyh
noncomputable def x1tj:=nL xik
noncomputable def xyi:=nR xik
noncomputable def xil:=nR xyi
noncomputable def x1tk:=nL xil
noncomputable def xim:=nR xil
noncomputable def x1tl:=nL xim
noncomputable def x1tm:=nR xim
theorem x1tn{rec0:AV->AV->AV->AV->AV->AV->Mem->Nat->O2}:x1zv call hs u x1tm (j6 rec0 0 1 2 3 8 9) (setE 1 (j6 rec0 0 1 2 3 8 9) (setE 0 r_15 eNil))=j8 (xb6 call hs u rec0) 0 1 2 3 8 9 10 11:=by kernel_rfl
theorem x1to{rec0:AV->AV->AV->AV->AV->AV->Mem->Nat->O2}:x1zv call hs u x1tl (j8 (xb6 call hs u rec0) 0 1 2 3 8 9 10 11) (setE 1 (j6 rec0 0 1 2 3 8 9) (setE 0 r_15 eNil))=j9 (x78 call hs u rec0) 0 1 2 3 8 9 10 11 12:=by kernel_rfl
theorem x1tp{rec0:AV->AV->AV->AV->AV->AV->Mem->Nat->O2}:x1zv call hs u xim (j6 rec0 0 1 2 3 8 9) (setE 1 (j6 rec0 0 1 2 3 8 9) (setE 0 r_15 eNil))=j9 (x78 call hs u rec0) 0 1 2 3 8 9 10 11 12:=sq2 x1tn x1to
theorem x1tq{rec0:AV->AV->AV->AV->AV->AV->Mem->Nat->O2}:x1zv call hs u x1tk (j9 (x78 call hs u rec0) 0 1 2 3 8 9 10 11 12) (setE 1 (j6 rec0 0 1 2 3 8 9) (setE 0 r_15 eNil))=j9 (xem call hs u rec0) 0 1 2 3 8 9 10 11 12:=by kernel_rfl
theorem x1tr{rec0:AV->AV->AV->AV->AV->AV->Mem->Nat->O2}:x1zv call hs u xil (j6 rec0 0 1 2 3 8 9) (setE 1 (j6 rec0 0 1 2 3 8 9) (setE 0 r_15 eNil))=j9 (xem call hs u rec0) 0 1 2 3 8 9 10 11 12:=sq2 x1tp x1tq
theorem x1ts{rec0:AV->AV->AV->AV->AV->AV->Mem->Nat->O2}:x1zv call hs u xyi (j6 rec0 0 1 2 3 8 9) (setE 1 (j6 rec0 0 1 2 3 8 9) (setE 0 r_15 eNil))=j7 (xb7 call hs u rec0) 0 1 2 3 8 9 10:=tr (sqN 1 x1tr)
theorem x1tt{rec0:AV->AV->AV->AV->AV->AV->Mem->Nat->O2}:x1zv call hs u x1tj (j7 (xb7 call hs u rec0) 0 1 2 3 8 9 10) (setE 1 (j6 rec0 0 1 2 3 8 9) (setE 0 r_15 eNil))=j7 (xen call hs u rec0) 0 1 2 3 8 9 10:=by kernel_rfl
theorem x1tu{rec0:AV->AV->AV->AV->AV->AV->Mem->Nat->O2}:x1zv call hs u xik (j6 rec0 0 1 2 3 8 9) (setE 1 (j6 rec0 0 1 2 3 8 9) (setE 0 r_15 eNil))=j7 (xen call hs u rec0) 0 1 2 3 8 9 10:=sq2 x1ts x1tt
theorem x1tv{rec0:AV->AV->AV->AV->AV->AV->Mem->Nat->O2}:x1zv call hs u xyh (j6 rec0 0 1 2 3 8 9) (setE 1 (j6 rec0 0 1 2 3 8 9) (setE 0 r_15 eNil))=j6 (xeo call hs u rec0) 0 1 2 3 8 9:=tr (sqN 3 x1tu)
theorem x1tw{rec0:AV->AV->AV->AV->AV->AV->Mem->Nat->O2}:x1zv call hs u xyg (j6 rec0 0 1 2 3 8 9) (setE 0 r_15 eNil)=j6 (xeo call hs u rec0) 0 1 2 3 8 9:=bk x1tv
theorem x1tx:x1zv call hs u xyf r_15 (setE 0 r_15 eNil)=j6 (x79 call hs u NN) 0 1 2 3 8 9:=lp (Ln:=fun n=>j6 (x79 call hs u n) 0 1 2 3 8 9) fun n=>tr x1tw
theorem x1ty:x1zv call hs u xye r_15 eNil=j6 (x79 call hs u NN) 0 1 2 3 8 9:=bk x1tx
theorem x165:x1zv call hs u xyd r_15 eNil=j4 (xma call hs u) 0 1 2 3:=tr (sqN 2 x1ty)
noncomputable abbrev x2bt:=VX x5j 8 r_6
noncomputable def x1tz:=x1xu x5j
theorem x166:x2bt call hs u x1tz r_6 eNil=j1 (xmb call hs u) 0:=by kernel_rfl
noncomputable abbrev x2bu:=VX x2b 15 r_0
noncomputable def x1u0:=x1xu x2b
theorem x13o:x2bu call hs u x1u0 r_0 eNil=j3 (xmc call hs u) 0 1 2:=by kernel_rfl
noncomputable abbrev x2bv:=VX x94 5 r_6
noncomputable def x1u1:=x1xu x94
theorem x167:x2bv call hs u x1u1 r_6 eNil=j1 (xmd call hs u) 0:=by kernel_rfl
noncomputable abbrev x1zf:=VX x32 139 r_18
noncomputable abbrev x28m:=VX (R:=Mem) x32 139 fNil
noncomputable def xyj:=x1xu x32
noncomputable def xyk:=nRs 4 xyj
noncomputable def xyl:=nR xyk
noncomputable def xym:=nR xyl
noncomputable def xyn:=nR xym
noncomputable def xin:=nR xyn
noncomputable def xyo:=nL xin
noncomputable def xyp:=nR xin
noncomputable def xyq:=nRs 3 xyp
noncomputable def xbn:=nR xyq
noncomputable def x1u2:=nL xbn
noncomputable def x1u3:=nR xbn
noncomputable def xyr:=nR xyo
noncomputable def xys:=nR xyr
noncomputable def xyt:=nR xys
noncomputable def xio:=nRs 2 xyt
noncomputable def x1u4:=nL xio
noncomputable def x1u5:=nR xio
theorem x1u6:x28m call hs u x1u3 (fun s=>some s.m) eNil=j4 (xep call hs u) 2 5 7 10:=by kernel_rfl
theorem x1u7:x28m call hs u x1u2 (j4 (xep call hs u) 2 5 7 10) eNil=j4 (xme call hs u) 2 5 7 87:=by kernel_rfl
theorem x1u8{rec0:AV->AV->AV->AV->Mem->Nat->O2}:x1zf call hs u xbn (j4 rec0 2 4 5 6) (setE 4 (j4 rec0 2 4 5 6) (setE 1 (j4 rec0 2 4 5 6) (setE 0 r_18 eNil)))=j6 (xeq call hs u rec0) 2 4 5 6 7 86:=tr (rg (C:=xbn) (c:={f:=x32,u:=u,nt:=139,hs:=hs}) (f:=(.tmp 86)) (ps:=#[87]) (fun u=>x1u6) (fun u=>x1u7))
theorem x1u9{rec0:AV->AV->AV->AV->Mem->Nat->O2}:x1zf call hs u xyq (j4 rec0 2 4 5 6) (setE 1 (j4 rec0 2 4 5 6) (setE 0 r_18 eNil))=j6 (xeq call hs u rec0) 2 4 5 6 7 86:=bk x1u8
theorem x1ua{rec0:AV->AV->AV->AV->Mem->Nat->O2}:x1zf call hs u xyp (j4 rec0 2 4 5 6) (setE 1 (j4 rec0 2 4 5 6) (setE 0 r_18 eNil))=j5 (x1s call hs u rec0) 2 4 5 6 7:=tr (sqN 3 x1u9)
theorem x1ub{rec0:AV->AV->AV->AV->Mem->Nat->O2}{rec1:AV->AV->AV->AV->AV->AV->AV->AV->Mem->Nat->O2}:x1zf call hs u x1u5 (j8 rec1 2 4 5 6 7 47 48 49) (setE 2 (j5 (x1s call hs u rec0) 2 4 5 6 7) (setE 1 (j4 rec0 2 4 5 6) (setE 0 r_18 eNil)))=j8 (xb8 call hs u rec0 rec1) 2 4 5 6 7 47 48 49:=by kernel_rfl
theorem x1uc{rec0:AV->AV->AV->AV->Mem->Nat->O2}{rec1:AV->AV->AV->AV->AV->AV->AV->AV->Mem->Nat->O2}:x1zf call hs u x1u4 (j8 (xb8 call hs u rec0 rec1) 2 4 5 6 7 47 48 49) (setE 2 (j5 (x1s call hs u rec0) 2 4 5 6 7) (setE 1 (j4 rec0 2 4 5 6) (setE 0 r_18 eNil)))=j8 (xer call hs u rec0 rec1) 2 4 5 6 7 47 48 49:=by kernel_rfl
theorem x1ud{rec0:AV->AV->AV->AV->Mem->Nat->O2}{rec1:AV->AV->AV->AV->AV->AV->AV->AV->Mem->Nat->O2}:x1zf call hs u xio (j8 rec1 2 4 5 6 7 47 48 49) (setE 2 (j5 (x1s call hs u rec0) 2 4 5 6 7) (setE 1 (j4 rec0 2 4 5 6) (setE 0 r_18 eNil)))=j8 (xer call hs u rec0 rec1) 2 4 5 6 7 47 48 49:=sq2 x1ub x1uc
theorem x1ue{rec0:AV->AV->AV->AV->Mem->Nat->O2}{rec1:AV->AV->AV->AV->AV->AV->AV->AV->Mem->Nat->O2}:x1zf call hs u xyt (j8 rec1 2 4 5 6 7 47 48 49) (setE 2 (j5 (x1s call hs u rec0) 2 4 5 6 7) (setE 1 (j4 rec0 2 4 5 6) (setE 0 r_18 eNil)))=j8 (xmf call hs u rec0 rec1) 2 4 5 6 7 47 48 49:=tr (sqN 2 x1ud)
theorem x1uf{rec0:AV->AV->AV->AV->Mem->Nat->O2}:x1zf call hs u xys (j5 (x1s call hs u rec0) 2 4 5 6 7) (setE 2 (j5 (x1s call hs u rec0) 2 4 5 6 7) (setE 1 (j4 rec0 2 4 5 6) (setE 0 r_18 eNil)))=j8 (x7b call hs u rec0 NN) 2 4 5 6 7 47 48 49:=lp (Ln:=fun n=>j8 (x7b call hs u rec0 n) 2 4 5 6 7 47 48 49) fun n=>tr x1ue
theorem x1ug{rec0:AV->AV->AV->AV->Mem->Nat->O2}:x1zf call hs u xyr (j5 (x1s call hs u rec0) 2 4 5 6 7) (setE 1 (j4 rec0 2 4 5 6) (setE 0 r_18 eNil))=j8 (x7b call hs u rec0 NN) 2 4 5 6 7 47 48 49:=bk x1uf
theorem x1uh{rec0:AV->AV->AV->AV->Mem->Nat->O2}:x1zf call hs u xyo (j5 (x1s call hs u rec0) 2 4 5 6 7) (setE 1 (j4 rec0 2 4 5 6) (setE 0 r_18 eNil))=j5 (xes call hs u rec0) 2 4 5 6 7:=tr (sqN 1 x1ug)
theorem x1ui{rec0:AV->AV->AV->AV->Mem->Nat->O2}:x1zf call hs u xin (j4 rec0 2 4 5 6) (setE 1 (j4 rec0 2 4 5 6) (setE 0 r_18 eNil))=j5 (xes call hs u rec0) 2 4 5 6 7:=sq2 x1ua x1uh
theorem x1uj{rec0:AV->AV->AV->AV->Mem->Nat->O2}:x1zf call hs u xyn (j4 rec0 2 4 5 6) (setE 1 (j4 rec0 2 4 5 6) (setE 0 r_18 eNil))=j4 (xet call hs u rec0) 2 4 5 6:=tr (sqN 1 x1ui)
theorem x1uk{rec0:AV->AV->AV->AV->Mem->Nat->O2}:x1zf call hs u xym (j4 rec0 2 4 5 6) (setE 0 r_18 eNil)=j4 (xet call hs u rec0) 2 4 5 6:=bk x1uj
theorem x1ul:x1zf call hs u xyl r_18 (setE 0 r_18 eNil)=j4 (x7c call hs u NN) 2 4 5 6:=lp (Ln:=fun n=>j4 (x7c call hs u n) 2 4 5 6) fun n=>tr x1uk
theorem x1um:x1zf call hs u xyk r_18 eNil=j4 (x7c call hs u NN) 2 4 5 6:=bk x1ul
theorem x13q:x1zf call hs u xyj r_18 eNil=j2 (xmg call hs u) 0 1:=tr (sqN 4 x1um)
noncomputable abbrev x201:=VX x5k 48 r_3
noncomputable def xyu:=x1xu x5k
noncomputable def xip:=nR xyu
noncomputable def x1un:=nL xip
noncomputable def xyv:=nR xip
noncomputable def xiq:=nR xyv
noncomputable def x1uo:=nL xiq
noncomputable def xyw:=nR xiq
noncomputable def xir:=nRs 2 xyw
noncomputable def xyx:=nL xir
noncomputable def x1up:=nR xir
noncomputable def xyy:=nR xyx
noncomputable def x1uq:=nR xyy
theorem x1ur:x201 call hs u x1up r_3 eNil=j1 (x4r call hs u) 7:=by kernel_rfl
theorem x1us{rec0:AV->AV->Mem->Nat->O2}:x201 call hs u x1uq (j2 rec0 7 8) (setE 0 (j1 (x4r call hs u) 7) eNil)=j2 (xmh call hs u rec0) 7 8:=by kernel_rfl
theorem x1ut:x201 call hs u xyy (j1 (x4r call hs u) 7) (setE 0 (j1 (x4r call hs u) 7) eNil)=j2 (x4s call hs u NN) 7 8:=lp (Ln:=fun n=>j2 (x4s call hs u n) 7 8) fun n=>tr x1us
theorem x1uu:x201 call hs u xyx (j1 (x4r call hs u) 7) eNil=j2 (x4s call hs u NN) 7 8:=bk x1ut
theorem x1uv:x201 call hs u xir r_3 eNil=j2 (x4s call hs u NN) 7 8:=sq2 x1ur x1uu
theorem x1uw:x201 call hs u xyw r_3 eNil=j2 (xeu call hs u) 0 6:=tr (sqN 2 x1uv)
theorem x1ux:x201 call hs u x1uo (j2 (xeu call hs u) 0 6) eNil=j3 (xev call hs u) 0 5 6:=by kernel_rfl
theorem x1uy:x201 call hs u xiq r_3 eNil=j3 (xev call hs u) 0 5 6:=sq2 x1uw x1ux
theorem x1uz:x201 call hs u xyv r_3 eNil=j2 (xew call hs u) 0 1:=tr (sqN 1 x1uy)
theorem x1v0:x201 call hs u x1un (j2 (xew call hs u) 0 1) eNil=j2 (xex call hs u) 0 1:=by kernel_rfl
theorem x1v1:x201 call hs u xip r_3 eNil=j2 (xex call hs u) 0 1:=sq2 x1uz x1v0
theorem x168:x201 call hs u xyu r_3 eNil=j2 (xmi call hs u) 0 1:=tr (sqN 1 x1v1)
noncomputable abbrev x2bw:=VX x7z 18 r_15
noncomputable def x1v2:=x1xu x7z
theorem x13p:x2bw call hs u x1v2 r_15 eNil=j4 (xmj call hs u) 0 1 2 3:=by kernel_rfl
noncomputable abbrev x24s:=VX x81 20 r_15
noncomputable def xyz:=x1xu x81
noncomputable def xz0:=nR xyz
noncomputable def xz1:=nR xz0
noncomputable def x1v3:=nR xz1
theorem x1v4{rec0:AV->AV->AV->AV->Mem->Nat->O2}:x24s call hs u x1v3 (j4 rec0 1 10 11 12) (setE 0 r_15 eNil)=j4 (xmk call hs u rec0) 1 10 11 12:=by kernel_rfl
theorem x1v5:x24s call hs u xz1 r_15 (setE 0 r_15 eNil)=j4 (x7d call hs u NN) 1 10 11 12:=lp (Ln:=fun n=>j4 (x7d call hs u n) 1 10 11 12) fun n=>tr x1v4
theorem x1v6:x24s call hs u xz0 r_15 eNil=j4 (x7d call hs u NN) 1 10 11 12:=bk x1v5
theorem x13s:x24s call hs u xyz r_15 eNil=j3 (xml call hs u) 0 1 2:=tr (sqN 1 x1v6)
noncomputable abbrev x20b:=VX x5l 53 r_15
noncomputable def xz2:=x1xu x5l
noncomputable def xz3:=nR xz2
noncomputable def xz4:=nR xz3
noncomputable def xz5:=nR xz4
noncomputable def xis:=nR xz5
noncomputable def xz6:=nL xis
noncomputable def x1v7:=nR xis
noncomputable def xz7:=nR xz6
noncomputable def xz8:=nR xz7
noncomputable def xz9:=nR xz8
noncomputable def x1v8:=nR xz9
theorem x1v9{rec0:AV->AV->AV->AV->AV->Mem->Nat->O2}:x20b call hs u x1v7 (j5 rec0 0 1 2 3 8) (setE 0 r_15 eNil)=j5 (x18 call hs u rec0) 0 1 2 3 8:=by kernel_rfl
theorem x1va{rec0:AV->AV->AV->AV->AV->Mem->Nat->O2}{rec1:AV->AV->AV->AV->AV->AV->Mem->Nat->O2}:x20b call hs u x1v8 (j6 rec1 0 1 2 3 8 9) (setE 2 (j5 (x18 call hs u rec0) 0 1 2 3 8) (setE 1 (j5 (x18 call hs u rec0) 0 1 2 3 8) (setE 0 r_15 eNil)))=j6 (xmm call hs u rec0 rec1) 0 1 2 3 8 9:=by kernel_rfl
theorem x1vb{rec0:AV->AV->AV->AV->AV->Mem->Nat->O2}:x20b call hs u xz9 (j5 (x18 call hs u rec0) 0 1 2 3 8) (setE 2 (j5 (x18 call hs u rec0) 0 1 2 3 8) (setE 1 (j5 (x18 call hs u rec0) 0 1 2 3 8) (setE 0 r_15 eNil)))=j6 (x7e call hs u rec0 NN) 0 1 2 3 8 9:=lp (Ln:=fun n=>j6 (x7e call hs u rec0 n) 0 1 2 3 8 9) fun n=>tr x1va
theorem x1vc{rec0:AV->AV->AV->AV->AV->Mem->Nat->O2}:x20b call hs u xz8 (j5 (x18 call hs u rec0) 0 1 2 3 8) (setE 1 (j5 (x18 call hs u rec0) 0 1 2 3 8) (setE 0 r_15 eNil))=j6 (x7e call hs u rec0 NN) 0 1 2 3 8 9:=bk x1vb
theorem x1vd{rec0:AV->AV->AV->AV->AV->Mem->Nat->O2}:x20b call hs u xz7 (j5 (x18 call hs u rec0) 0 1 2 3 8) (setE 1 (j5 (x18 call hs u rec0) 0 1 2 3 8) (setE 0 r_15 eNil))=j5 (xb9 call hs u rec0) 0 1 2 3 8:=tr (sqN 1 x1vc)
theorem x1ve{rec0:AV->AV->AV->AV->AV->Mem->Nat->O2}:x20b call hs u xz6 (j5 (x18 call hs u rec0) 0 1 2 3 8) (setE 0 r_15 eNil)=j5 (xb9 call hs u rec0) 0 1 2 3 8:=bk x1vd
theorem x1vf{rec0:AV->AV->AV->AV->AV->Mem->Nat->O2}:x20b call hs u xis (j5 rec0 0 1 2 3 8) (setE 0 r_15 eNil)=j5 (xb9 call hs u rec0) 0 1 2 3 8:=sq2 x1v9 x1ve
theorem x1vg{rec0:AV->AV->AV->AV->AV->Mem->Nat->O2}:x20b call hs u xz5 (j5 rec0 0 1 2 3 8) (setE 0 r_15 eNil)=j5 (xmn call hs u rec0) 0 1 2 3 8:=tr (sqN 1 x1vf)
theorem x1vh:x20b call hs u xz4 r_15 (setE 0 r_15 eNil)=j5 (x7f call hs u NN) 0 1 2 3 8:=lp (Ln:=fun n=>j5 (x7f call hs u n) 0 1 2 3 8) fun n=>tr x1vg
theorem x1vi:x20b call hs u xz3 r_15 eNil=j5 (x7f call hs u NN) 0 1 2 3 8:=bk x1vh
theorem x169:x20b call hs u xz2 r_15 eNil=j4 (xmo call hs u) 0 1 2 3:=tr (sqN 1 x1vi)
noncomputable abbrev x1y3:=VX x38 220 r_15
noncomputable def xit:=x1xu x38
noncomputable def xza:=nL xit
noncomputable def xiu:=nR xit
noncomputable def xzb:=nL xiu
noncomputable def xzc:=nR xiu
noncomputable def xiv:=nRs 3 xzc
noncomputable def x1vj:=nL xiv
noncomputable def xzd:=nR xiv
noncomputable def xiw:=nR xzd
noncomputable def xze:=nL xiw
noncomputable def xzf:=nR xiw
noncomputable def xix:=nR xzf
noncomputable def x1vk:=nL xix
noncomputable def xiy:=nR xix
noncomputable def x1vl:=nL xiy
noncomputable def x1vm:=nR xiy
noncomputable def xzg:=nR xze
noncomputable def x1vn:=nR xzg
noncomputable def xiz:=nR xzb
noncomputable def xzh:=nL xiz
noncomputable def x1vo:=nR xiz
noncomputable def xj0:=nRs 2 xzh
noncomputable def xzi:=nL xj0
noncomputable def xj1:=nR xj0
noncomputable def xzj:=nL xj1
noncomputable def x1vp:=nR xj1
noncomputable def xzk:=nR xzj
noncomputable def xzl:=nR xzk
noncomputable def x1vq:=nR xzl
noncomputable def xzm:=nR xzi
noncomputable def x1vr:=nR xzm
noncomputable def xj2:=nR xza
noncomputable def xzn:=nL xj2
noncomputable def x1vs:=nR xj2
noncomputable def xj3:=nRs 2 xzn
noncomputable def xzo:=nL xj3
noncomputable def xj4:=nR xj3
noncomputable def xzp:=nL xj4
noncomputable def x1vt:=nR xj4
noncomputable def xzq:=nR xzp
noncomputable def xzr:=nR xzq
noncomputable def x1vu:=nR xzr
noncomputable def xzs:=nR xzo
noncomputable def x1vv:=nR xzs
theorem x1vw:x1y3 call hs u x1vm r_15 eNil=j5 (xba call hs u) 0 3 4 18 24:=by kernel_rfl
theorem x1vx:x1y3 call hs u x1vl (j5 (xba call hs u) 0 3 4 18 24) eNil=j7 (x7g call hs u) 0 1 3 4 18 20 24:=by kernel_rfl
theorem x1vy:x1y3 call hs u xiy r_15 eNil=j7 (x7g call hs u) 0 1 3 4 18 20 24:=sq2 x1vw x1vx
theorem x1vz:x1y3 call hs u x1vk (j7 (x7g call hs u) 0 1 3 4 18 20 24) eNil=j8 (xey call hs u) 0 1 2 3 4 18 20 24:=by kernel_rfl
theorem x1w0:x1y3 call hs u xix r_15 eNil=j8 (xey call hs u) 0 1 2 3 4 18 20 24:=sq2 x1vy x1vz
theorem x1w1:x1y3 call hs u xzf r_15 eNil=j8 (x4t call hs u) 0 1 2 3 4 18 19 20:=tr (sqN 1 x1w0)
theorem x1w2{rec0:AV->AV->AV->AV->AV->AV->AV->AV->AV->AV->Mem->Nat->O2}:x1y3 call hs u x1vn (j10 rec0 0 1 2 3 4 18 19 20 21 22) (setE 8 (j8 (x4t call hs u) 0 1 2 3 4 18 19 20) eNil)=j10 (xmp call hs u rec0) 0 1 2 3 4 18 19 20 21 22:=by kernel_rfl
theorem x1w3:x1y3 call hs u xzg (j8 (x4t call hs u) 0 1 2 3 4 18 19 20) (setE 8 (j8 (x4t call hs u) 0 1 2 3 4 18 19 20) eNil)=j10 (x4u call hs u NN) 0 1 2 3 4 18 19 20 21 22:=lp (Ln:=fun n=>j10 (x4u call hs u n) 0 1 2 3 4 18 19 20 21 22) fun n=>tr x1w2
theorem x1w4:x1y3 call hs u xze (j8 (x4t call hs u) 0 1 2 3 4 18 19 20) eNil=j10 (x4u call hs u NN) 0 1 2 3 4 18 19 20 21 22:=bk x1w3
theorem x1w5:x1y3 call hs u xiw r_15 eNil=j10 (x4u call hs u NN) 0 1 2 3 4 18 19 20 21 22:=sq2 x1w1 x1w4
theorem x1w6:x1y3 call hs u xzd r_15 eNil=j9 (xbb call hs u) 0 1 2 3 4 18 19 20 21:=tr (sqN 1 x1w5)
theorem x1w7:x1y3 call hs u x1vj (j9 (xbb call hs u) 0 1 2 3 4 18 19 20 21) eNil=j7 (xez call hs u) 0 1 2 3 4 18 19:=by kernel_rfl
theorem x1w8:x1y3 call hs u xiv r_15 eNil=j7 (xez call hs u) 0 1 2 3 4 18 19:=sq2 x1w6 x1w7
theorem x1w9:x1y3 call hs u xzc r_15 eNil=j5 (x2a call hs u) 0 1 2 3 4:=tr (sqN 3 x1w8)
theorem x1wa:x1y3 call hs u x1vp (j5 (x2a call hs u) 0 1 2 3 4) eNil=j0 (x3r call hs u):=by kernel_rfl
theorem x1wb{rec1:AV->AV->AV->Mem->Nat->O2}:x1y3 call hs u x1vq (j3 rec1 0 14 17) (setE 6 (j0 (x3r call hs u)) eNil)=j3 (xmq call hs u rec1) 0 14 17:=by kernel_rfl
theorem x1wc:x1y3 call hs u xzl (j0 (x3r call hs u)) (setE 6 (j0 (x3r call hs u)) eNil)=j3 (x7h call hs u NN) 0 14 17:=lp (Ln:=fun n=>j3 (x7h call hs u n) 0 14 17) fun n=>tr x1wb
theorem x1wd:x1y3 call hs u xzk (j0 (x3r call hs u)) eNil=j3 (x7h call hs u NN) 0 14 17:=bk x1wc
theorem x1we:x1y3 call hs u xzj (j0 (x3r call hs u)) eNil=j3 (x3s call hs u) 0 2 14:=tr (sqN 1 x1wd)
theorem x1wf:x1y3 call hs u xj1 (j5 (x2a call hs u) 0 1 2 3 4) eNil=j3 (x3s call hs u) 0 2 14:=sq2 x1wa x1we
theorem x1wg{rec2:AV->AV->AV->AV->AV->Mem->Nat->O2}:x1y3 call hs u x1vr (j5 rec2 0 2 4 14 15) (setE 4 (j3 (x3s call hs u) 0 2 14) eNil)=j5 (xmr call hs u rec2) 0 2 4 14 15:=by kernel_rfl
theorem x1wh:x1y3 call hs u xzm (j3 (x3s call hs u) 0 2 14) (setE 4 (j3 (x3s call hs u) 0 2 14) eNil)=j5 (x4v call hs u NN) 0 2 4 14 15:=lp (Ln:=fun n=>j5 (x4v call hs u n) 0 2 4 14 15) fun n=>tr x1wg
theorem x1wi:x1y3 call hs u xzi (j3 (x3s call hs u) 0 2 14) eNil=j5 (x4v call hs u NN) 0 2 4 14 15:=bk x1wh
theorem x1wj:x1y3 call hs u xj0 (j5 (x2a call hs u) 0 1 2 3 4) eNil=j5 (x4v call hs u NN) 0 2 4 14 15:=sq2 x1wf x1wi
theorem x1wk:x1y3 call hs u xzh (j5 (x2a call hs u) 0 1 2 3 4) eNil=j4 (xms call hs u) 0 1 2 4:=tr (sqN 2 x1wj)
theorem x1wl:x1y3 call hs u x1vo (j5 (x2a call hs u) 0 1 2 3 4) eNil=j5 (xmt call hs u) 0 1 2 3 4:=by kernel_rfl
theorem x1wm:x1y3 call hs u xiz (j5 (x2a call hs u) 0 1 2 3 4) eNil=j6 (xmu call hs u) 0 1 2 3 4 80:=tr (cd x1wk x1wl)
theorem x1wn:x1y3 call hs u xzb (j5 (x2a call hs u) 0 1 2 3 4) eNil=j5 (x1t call hs u) 0 1 2 3 4:=tr (sqN 1 x1wm)
theorem x1wo:x1y3 call hs u xiu r_15 eNil=j5 (x1t call hs u) 0 1 2 3 4:=sq2 x1w9 x1wn
theorem x1wp:x1y3 call hs u x1vt (j5 (x1t call hs u) 0 1 2 3 4) eNil=j0 (x3t call hs u):=by kernel_rfl
theorem x1wq{rec3:AV->AV->AV->Mem->Nat->O2}:x1y3 call hs u x1vu (j3 rec3 0 10 13) (setE 2 (j0 (x3t call hs u)) eNil)=j3 (xmv call hs u rec3) 0 10 13:=by kernel_rfl
theorem x1wr:x1y3 call hs u xzr (j0 (x3t call hs u)) (setE 2 (j0 (x3t call hs u)) eNil)=j3 (x7i call hs u NN) 0 10 13:=lp (Ln:=fun n=>j3 (x7i call hs u n) 0 10 13) fun n=>tr x1wq
theorem x1ws:x1y3 call hs u xzq (j0 (x3t call hs u)) eNil=j3 (x7i call hs u NN) 0 10 13:=bk x1wr
theorem x1wt:x1y3 call hs u xzp (j0 (x3t call hs u)) eNil=j3 (x3u call hs u) 0 1 10:=tr (sqN 1 x1ws)
theorem x1wu:x1y3 call hs u xj4 (j5 (x1t call hs u) 0 1 2 3 4) eNil=j3 (x3u call hs u) 0 1 10:=sq2 x1wp x1wt
theorem x1wv{rec4:AV->AV->AV->AV->AV->Mem->Nat->O2}:x1y3 call hs u x1vv (j5 rec4 0 1 4 10 11) (setE 0 (j3 (x3u call hs u) 0 1 10) eNil)=j5 (xmw call hs u rec4) 0 1 4 10 11:=by kernel_rfl
theorem x1ww:x1y3 call hs u xzs (j3 (x3u call hs u) 0 1 10) (setE 0 (j3 (x3u call hs u) 0 1 10) eNil)=j5 (x4w call hs u NN) 0 1 4 10 11:=lp (Ln:=fun n=>j5 (x4w call hs u n) 0 1 4 10 11) fun n=>tr x1wv
theorem x1wx:x1y3 call hs u xzo (j3 (x3u call hs u) 0 1 10) eNil=j5 (x4w call hs u NN) 0 1 4 10 11:=bk x1ww
theorem x1wy:x1y3 call hs u xj3 (j5 (x1t call hs u) 0 1 2 3 4) eNil=j5 (x4w call hs u NN) 0 1 4 10 11:=sq2 x1wu x1wx
theorem x1wz:x1y3 call hs u xzn (j5 (x1t call hs u) 0 1 2 3 4) eNil=j5 (xmx call hs u) 0 1 2 3 4:=tr (sqN 2 x1wy)
theorem x1x0:x1y3 call hs u x1vs (j5 (x1t call hs u) 0 1 2 3 4) eNil=j5 (xmy call hs u) 0 1 2 3 4:=by kernel_rfl
theorem x1x1:x1y3 call hs u xj2 (j5 (x1t call hs u) 0 1 2 3 4) eNil=j6 (xmz call hs u) 0 1 2 3 4 28:=tr (cd x1wz x1x0)
theorem x1x2:x1y3 call hs u xza (j5 (x1t call hs u) 0 1 2 3 4) eNil=j5 (xf0 call hs u) 0 1 2 3 4:=tr (sqN 1 x1x1)
theorem x16a:x1y3 call hs u xit r_15 eNil=j5 (xf0 call hs u) 0 1 2 3 4:=sq2 x1wo x1x2
noncomputable abbrev x20c:=VX x95 49 r_15
noncomputable def xzt:=x1xu x95
noncomputable def xzu:=nR xzt
noncomputable def xzv:=nR xzu
noncomputable def xzw:=nR xzv
noncomputable def xj5:=nR xzw
noncomputable def xzx:=nL xj5
noncomputable def x1x3:=nR xj5
noncomputable def xzy:=nR xzx
noncomputable def xzz:=nR xzy
noncomputable def x100:=nR xzz
noncomputable def x1x4:=nR x100
theorem x1x5{rec0:AV->AV->AV->AV->Mem->Nat->O2}:x20c call hs u x1x3 (j4 rec0 0 1 2 6) (setE 0 r_15 eNil)=j4 (x19 call hs u rec0) 0 1 2 6:=by kernel_rfl
theorem x1x6{rec0:AV->AV->AV->AV->Mem->Nat->O2}{rec1:AV->AV->AV->AV->AV->Mem->Nat->O2}:x20c call hs u x1x4 (j5 rec1 0 1 2 6 7) (setE 2 (j4 (x19 call hs u rec0) 0 1 2 6) (setE 1 (j4 (x19 call hs u rec0) 0 1 2 6) (setE 0 r_15 eNil)))=j5 (xn0 call hs u rec0 rec1) 0 1 2 6 7:=by kernel_rfl
theorem x1x7{rec0:AV->AV->AV->AV->Mem->Nat->O2}:x20c call hs u x100 (j4 (x19 call hs u rec0) 0 1 2 6) (setE 2 (j4 (x19 call hs u rec0) 0 1 2 6) (setE 1 (j4 (x19 call hs u rec0) 0 1 2 6) (setE 0 r_15 eNil)))=j5 (x7j call hs u rec0 NN) 0 1 2 6 7:=lp (Ln:=fun n=>j5 (x7j call hs u rec0 n) 0 1 2 6 7) fun n=>tr x1x6
theorem x1x8{rec0:AV->AV->AV->AV->Mem->Nat->O2}:x20c call hs u xzz (j4 (x19 call hs u rec0) 0 1 2 6) (setE 1 (j4 (x19 call hs u rec0) 0 1 2 6) (setE 0 r_15 eNil))=j5 (x7j call hs u rec0 NN) 0 1 2 6 7:=bk x1x7
theorem x1x9{rec0:AV->AV->AV->AV->Mem->Nat->O2}:x20c call hs u xzy (j4 (x19 call hs u rec0) 0 1 2 6) (setE 1 (j4 (x19 call hs u rec0) 0 1 2 6) (setE 0 r_15 eNil))=j4 (xbc call hs u rec0) 0 1 2 6:=tr (sqN 1 x1x8)
theorem x1xa{rec0:AV->AV->AV->AV->Mem->Nat->O2}:x20c call hs u xzx (j4 (x19 call hs u rec0) 0 1 2 6) (setE 0 r_15 eNil)=j4 (xbc call hs u rec0) 0 1 2 6:=bk x1x9
theorem x1xb{rec0:AV->AV->AV->AV->Mem->Nat->O2}:x20c call hs u xj5 (j4 rec0 0 1 2 6) (setE 0 r_15 eNil)=j4 (xbc call hs u rec0) 0 1 2 6:=sq2 x1x5 x1xa
theorem x1xc{rec0:AV->AV->AV->AV->Mem->Nat->O2}:x20c call hs u xzw (j4 rec0 0 1 2 6) (setE 0 r_15 eNil)=j4 (xn1 call hs u rec0) 0 1 2 6:=tr (sqN 1 x1xb)
theorem x1xd:x20c call hs u xzv r_15 (setE 0 r_15 eNil)=j4 (x7k call hs u NN) 0 1 2 6:=lp (Ln:=fun n=>j4 (x7k call hs u n) 0 1 2 6) fun n=>tr x1xc
theorem x1xe:x20c call hs u xzu r_15 eNil=j4 (x7k call hs u NN) 0 1 2 6:=bk x1xd
theorem x16b:x20c call hs u xzt r_15 eNil=j3 (xn2 call hs u) 0 1 2:=tr (sqN 1 x1xe)
noncomputable abbrev x20u:=VX x96 56 r_15
noncomputable def x101:=x1xu x96
noncomputable def xj6:=nRs 3 x101
noncomputable def x102:=nL xj6
noncomputable def x103:=nR xj6
noncomputable def x104:=nR x103
noncomputable def x105:=nR x104
noncomputable def x1xf:=nR x105
noncomputable def x106:=nR x102
noncomputable def x107:=nR x106
noncomputable def x1xg:=nR x107
theorem x1xh{rec0:AV->AV->AV->AV->Mem->Nat->O2}:x20u call hs u x1xf (j4 rec0 0 6 7 10) (setE 2 r_15 eNil)=j4 (xn3 call hs u rec0) 0 6 7 10:=by kernel_rfl
theorem x1xi:x20u call hs u x105 r_15 (setE 2 r_15 eNil)=j4 (x7l call hs u NN) 0 6 7 10:=lp (Ln:=fun n=>j4 (x7l call hs u n) 0 6 7 10) fun n=>tr x1xh
theorem x1xj:x20u call hs u x104 r_15 eNil=j4 (x7l call hs u NN) 0 6 7 10:=bk x1xi
theorem x1xk:x20u call hs u x103 r_15 eNil=j4 (x3v call hs u) 0 6 7 8:=tr (sqN 1 x1xj)
theorem x1xl{rec1:AV->AV->AV->AV->AV->Mem->Nat->O2}:x20u call hs u x1xg (j5 rec1 0 6 7 8 9) (setE 0 (j4 (x3v call hs u) 0 6 7 8) eNil)=j5 (xn4 call hs u rec1) 0 6 7 8 9:=by kernel_rfl
theorem x1xm:x20u call hs u x107 (j4 (x3v call hs u) 0 6 7 8) (setE 0 (j4 (x3v call hs u) 0 6 7 8) eNil)=j5 (x7m call hs u NN) 0 6 7 8 9:=lp (Ln:=fun n=>j5 (x7m call hs u n) 0 6 7 8 9) fun n=>tr x1xl
theorem x1xn:x20u call hs u x106 (j4 (x3v call hs u) 0 6 7 8) eNil=j5 (x7m call hs u NN) 0 6 7 8 9:=bk x1xm
theorem x1xo:x20u call hs u x102 (j4 (x3v call hs u) 0 6 7 8) eNil=j4 (xf1 call hs u) 0 6 7 8:=tr (sqN 1 x1xn)
theorem x1xp:x20u call hs u xj6 r_15 eNil=j4 (xf1 call hs u) 0 6 7 8:=sq2 x1xk x1xo
theorem x16c:x20u call hs u x101 r_15 eNil=j3 (xn5 call hs u) 0 1 2:=tr (sqN 3 x1xp)
end Go.Ix
