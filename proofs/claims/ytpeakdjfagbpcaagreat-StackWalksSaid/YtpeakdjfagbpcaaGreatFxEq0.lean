import Derived.Test.YtpeakdjfagbpcaaGreatFxText0
import Derived.Test.YtpeakdjfagbpcaaGreatFxText1
import Derived.Test.YtpeakdjfagbpcaaGreatFxEnt
import Derived.Test.YtpeakdjfagbpcaaGreatFxRules
import Derived.Test.YtpeakdjfagbpcaaGreatFxProj
import Derived.ProofKit
set_option linter.unusedVariables false
namespace Go.Ix
open Go.Proofs
variable{call:x1wy}{hs:FHs}{u:Nat}
noncomputable abbrev x1zs:=VX xbc 88 r_0
noncomputable def xq9:=x1x2 xbc
noncomputable def xfr:=nRs 3 xq9
noncomputable def xqa:=nL xfr
noncomputable def xqb:=nR xfr
noncomputable def xfs:=nRs 2 xqb
noncomputable def x1bn:=nL xfs
noncomputable def x1bo:=nR xfs
noncomputable def xqc:=nR xqa
noncomputable def xqd:=nR xqc
noncomputable def x1bp:=nR xqd
theorem x1bq:x1zs call hs u x1bo r_0 eNil=j6 (x9j call hs u) 0 1 2 8 9 11:=by kernel_rfl
theorem x1br:x1zs call hs u x1bn (j6 (x9j call hs u) 0 1 2 8 9 11) eNil=j6 (xc2 call hs u) 0 1 2 8 9 11:=by kernel_rfl
theorem x1bs:x1zs call hs u xfs r_0 eNil=j6 (xc2 call hs u) 0 1 2 8 9 11:=sq2 x1bq x1br
theorem x1bt:x1zs call hs u xqb r_0 eNil=j3 (x30 call hs u) 0 1 2:=tr (sqN 2 x1bs)
theorem x1bu{rec0:AV->AV->AV->AV->Mem->Nat->O2}:x1zs call hs u x1bp (j4 rec0 0 1 2 7) (setE 0 (j3 (x30 call hs u) 0 1 2) eNil)=j4 (xir call hs u rec0) 0 1 2 7:=by kernel_rfl
theorem x1bv:x1zs call hs u xqd (j3 (x30 call hs u) 0 1 2) (setE 0 (j3 (x30 call hs u) 0 1 2) eNil)=j4 (x5j call hs u NN) 0 1 2 7:=lp (Ln:=fun n=>j4 (x5j call hs u n) 0 1 2 7) fun n=>tr x1bu
theorem x1bw:x1zs call hs u xqc (j3 (x30 call hs u) 0 1 2) eNil=j4 (x5j call hs u NN) 0 1 2 7:=bk x1bv
theorem x1bx:x1zs call hs u xqa (j3 (x30 call hs u) 0 1 2) eNil=j3 (xc3 call hs u) 0 1 2:=tr (sqN 1 x1bw)
theorem x1by:x1zs call hs u xfr r_0 eNil=j3 (xc3 call hs u) 0 1 2:=sq2 x1bt x1bx
theorem x13j:x1zs call hs u xq9 r_0 eNil=j3 (xis call hs u) 0 1 2:=tr (sqN 3 x1by)
noncomputable abbrev x23t:=VX x50 42 r_1
noncomputable def xqe:=x1x2 x50
noncomputable def xft:=nRs 5 xqe
noncomputable def x1bz:=nL xft
noncomputable def x1c0:=nR xft
theorem x1c1:x23t call hs u x1c0 r_1 eNil=j2 (x4c call hs u) 5 6:=by kernel_rfl
theorem x1c2:x23t call hs u x1bz (j2 (x4c call hs u) 5 6) eNil=j4 (x5k call hs u) 1 2 5 6:=by kernel_rfl
theorem x1c3:x23t call hs u xft r_1 eNil=j4 (x5k call hs u) 1 2 5 6:=sq2 x1c1 x1c2
theorem x13k:x23t call hs u xqe r_1 eNil=j2 (xc4 call hs u) 0 1:=tr (sqN 5 x1c3)
noncomputable abbrev x29k:=VX x2s 82 r_2
noncomputable def x1c4:=x1x2 x2s
theorem x13l:x29k call hs u x1c4 r_2 eNil=j0 (xit call hs u):=by kernel_rfl
noncomputable abbrev x1y1:=VX x88 90 r_3
noncomputable def xqf:=x1x2 x88
noncomputable def xfu:=nRs 5 xqf
noncomputable def xqg:=nL xfu
noncomputable def xqh:=nR xfu
noncomputable def xfv:=nRs 3 xqh
noncomputable def xqi:=nL xfv
noncomputable def x1c5:=nR xfv
noncomputable def xqj:=nR xqi
noncomputable def xqk:=nR xqj
noncomputable def xql:=nR xqk
noncomputable def xfw:=nRs 2 xql
noncomputable def x1c6:=nL xfw
noncomputable def x1c7:=nR xfw
noncomputable def xqm:=nR xqg
noncomputable def xqn:=nR xqm
noncomputable def xqo:=nR xqn
noncomputable def xfx:=nRs 2 xqo
noncomputable def x1c8:=nL xfx
noncomputable def x1c9:=nR xfx
theorem x1ca:x1y1 call hs u x1c5 r_3 eNil=j1 (x1a call hs u) 14:=by kernel_rfl
theorem x1cb{rec0:AV->AV->AV->AV->AV->AV->AV->Mem->Nat->O2}:x1y1 call hs u x1c7 (j7 rec0 1 12 13 14 60 61 62) (setE 2 (j1 (x1a call hs u) 14) eNil)=j7 (x9k call hs u rec0) 1 12 13 14 60 61 62:=by kernel_rfl
theorem x1cc{rec0:AV->AV->AV->AV->AV->AV->AV->Mem->Nat->O2}:x1y1 call hs u x1c6 (j7 (x9k call hs u rec0) 1 12 13 14 60 61 62) (setE 2 (j1 (x1a call hs u) 14) eNil)=j7 (xc5 call hs u rec0) 1 12 13 14 60 61 62:=by kernel_rfl
theorem x1cd{rec0:AV->AV->AV->AV->AV->AV->AV->Mem->Nat->O2}:x1y1 call hs u xfw (j7 rec0 1 12 13 14 60 61 62) (setE 2 (j1 (x1a call hs u) 14) eNil)=j7 (xc5 call hs u rec0) 1 12 13 14 60 61 62:=sq2 x1cb x1cc
theorem x1ce{rec0:AV->AV->AV->AV->AV->AV->AV->Mem->Nat->O2}:x1y1 call hs u xql (j7 rec0 1 12 13 14 60 61 62) (setE 2 (j1 (x1a call hs u) 14) eNil)=j7 (xiu call hs u rec0) 1 12 13 14 60 61 62:=tr (sqN 2 x1cd)
theorem x1cf:x1y1 call hs u xqk (j1 (x1a call hs u) 14) (setE 2 (j1 (x1a call hs u) 14) eNil)=j7 (x5l call hs u NN) 1 12 13 14 60 61 62:=lp (Ln:=fun n=>j7 (x5l call hs u n) 1 12 13 14 60 61 62) fun n=>tr x1ce
theorem x1cg:x1y1 call hs u xqj (j1 (x1a call hs u) 14) eNil=j7 (x5l call hs u NN) 1 12 13 14 60 61 62:=bk x1cf
theorem x1ch:x1y1 call hs u xqi (j1 (x1a call hs u) 14) eNil=j4 (xc6 call hs u) 1 12 13 14:=tr (sqN 1 x1cg)
theorem x1ci:x1y1 call hs u xfv r_3 eNil=j4 (xc6 call hs u) 1 12 13 14:=sq2 x1ca x1ch
theorem x1cj:x1y1 call hs u xqh r_3 eNil=j4 (x1b call hs u) 1 2 8 9:=tr (sqN 3 x1ci)
theorem x1ck{rec1:AV->AV->AV->AV->AV->AV->AV->Mem->Nat->O2}:x1y1 call hs u x1c9 (j7 rec1 1 2 8 9 36 37 38) (setE 0 (j4 (x1b call hs u) 1 2 8 9) eNil)=j7 (x9l call hs u rec1) 1 2 8 9 36 37 38:=by kernel_rfl
theorem x1cl{rec1:AV->AV->AV->AV->AV->AV->AV->Mem->Nat->O2}:x1y1 call hs u x1c8 (j7 (x9l call hs u rec1) 1 2 8 9 36 37 38) (setE 0 (j4 (x1b call hs u) 1 2 8 9) eNil)=j7 (xc7 call hs u rec1) 1 2 8 9 36 37 38:=by kernel_rfl
theorem x1cm{rec1:AV->AV->AV->AV->AV->AV->AV->Mem->Nat->O2}:x1y1 call hs u xfx (j7 rec1 1 2 8 9 36 37 38) (setE 0 (j4 (x1b call hs u) 1 2 8 9) eNil)=j7 (xc7 call hs u rec1) 1 2 8 9 36 37 38:=sq2 x1ck x1cl
theorem x1cn{rec1:AV->AV->AV->AV->AV->AV->AV->Mem->Nat->O2}:x1y1 call hs u xqo (j7 rec1 1 2 8 9 36 37 38) (setE 0 (j4 (x1b call hs u) 1 2 8 9) eNil)=j7 (xiv call hs u rec1) 1 2 8 9 36 37 38:=tr (sqN 2 x1cm)
theorem x1co:x1y1 call hs u xqn (j4 (x1b call hs u) 1 2 8 9) (setE 0 (j4 (x1b call hs u) 1 2 8 9) eNil)=j7 (x5m call hs u NN) 1 2 8 9 36 37 38:=lp (Ln:=fun n=>j7 (x5m call hs u n) 1 2 8 9 36 37 38) fun n=>tr x1cn
theorem x1cp:x1y1 call hs u xqm (j4 (x1b call hs u) 1 2 8 9) eNil=j7 (x5m call hs u NN) 1 2 8 9 36 37 38:=bk x1co
theorem x1cq:x1y1 call hs u xqg (j4 (x1b call hs u) 1 2 8 9) eNil=j4 (xc8 call hs u) 1 2 8 9:=tr (sqN 1 x1cp)
theorem x1cr:x1y1 call hs u xfu r_3 eNil=j4 (xc8 call hs u) 1 2 8 9:=sq2 x1cj x1cq
theorem x13m:x1y1 call hs u xqf r_3 eNil=j2 (xiw call hs u) 0 1:=tr (sqN 5 x1cr)
noncomputable abbrev x29l:=VX xz 15 r_0
noncomputable def x1cs:=x1x2 xz
theorem x13n:x29l call hs u x1cs r_0 eNil=j3 (xc9 call hs u) 0 1 2:=by kernel_rfl
noncomputable abbrev x218:=VX x2t 26 r_1
noncomputable def xqp:=x1x2 x2t
noncomputable def xfy:=nRs 2 xqp
noncomputable def xqq:=nL xfy
noncomputable def x1ct:=nR xfy
noncomputable def xqr:=nR xqq
noncomputable def xqs:=nR xqr
noncomputable def x1cu:=nR xqs
theorem x1cv:x218 call hs u x1ct r_1 eNil=j0 (x31 call hs u):=by kernel_rfl
theorem x1cw{rec0:AV->AV->AV->Mem->Nat->O2}:x218 call hs u x1cu (j3 rec0 0 1 5) (setE 0 (j0 (x31 call hs u)) eNil)=j3 (xix call hs u rec0) 0 1 5:=by kernel_rfl
theorem x1cx:x218 call hs u xqs (j0 (x31 call hs u)) (setE 0 (j0 (x31 call hs u)) eNil)=j3 (x5n call hs u NN) 0 1 5:=lp (Ln:=fun n=>j3 (x5n call hs u n) 0 1 5) fun n=>tr x1cw
theorem x1cy:x218 call hs u xqr (j0 (x31 call hs u)) eNil=j3 (x5n call hs u NN) 0 1 5:=bk x1cx
theorem x1cz:x218 call hs u xqq (j0 (x31 call hs u)) eNil=j2 (xca call hs u) 0 1:=tr (sqN 1 x1cy)
theorem x1d0:x218 call hs u xfy r_1 eNil=j2 (xca call hs u) 0 1:=sq2 x1cv x1cz
theorem x13o:x218 call hs u xqp r_1 eNil=j2 (xiy call hs u) 0 1:=tr (sqN 2 x1d0)
noncomputable abbrev x1y9:=VX x89 77 r_4
noncomputable def xqt:=x1x2 x89
noncomputable def xfz:=nRs 4 xqt
noncomputable def xqu:=nL xfz
noncomputable def x1d1:=nR xfz
noncomputable def xqv:=nR xqu
noncomputable def xqw:=nR xqv
noncomputable def xqx:=nR xqw
noncomputable def xg0:=nRs 2 xqx
noncomputable def xqy:=nL xg0
noncomputable def x1d2:=nR xg0
noncomputable def xqz:=nR xqy
noncomputable def xr0:=nRs 2 xqz
noncomputable def xr1:=nR xr0
noncomputable def xr2:=nR xr1
noncomputable def xg1:=nR xr2
noncomputable def x1d3:=nL xg1
noncomputable def x1d4:=nR xg1
theorem x1d5:x1y9 call hs u x1d1 r_4 eNil=j1 (xg call hs u) 10:=by kernel_rfl
theorem x1d6{rec0:AV->AV->AV->AV->AV->AV->AV->Mem->Nat->O2}:x1y9 call hs u x1d2 (j7 rec0 0 1 2 10 31 32 33) (setE 0 (j1 (xg call hs u) 10) eNil)=j7 (xa call hs u rec0) 0 1 2 10 31 32 33:=by kernel_rfl
theorem x1d7{rec0:AV->AV->AV->AV->AV->AV->AV->Mem->Nat->O2}{rec1:AV->AV->AV->AV->AV->AV->AV->AV->AV->AV->Mem->Nat->O2}:x1y9 call hs u x1d4 (j10 rec1 0 1 2 10 11 12 13 31 32 33) (setE 2 (j7 (xa call hs u rec0) 0 1 2 10 31 32 33) (setE 1 (j7 (xa call hs u rec0) 0 1 2 10 31 32 33) (setE 0 (j1 (xg call hs u) 10) eNil)))=j10 (x9m call hs u rec0 rec1) 0 1 2 10 11 12 13 31 32 33:=by kernel_rfl
theorem x1d8{rec0:AV->AV->AV->AV->AV->AV->AV->Mem->Nat->O2}{rec1:AV->AV->AV->AV->AV->AV->AV->AV->AV->AV->Mem->Nat->O2}:x1y9 call hs u x1d3 (j10 (x9m call hs u rec0 rec1) 0 1 2 10 11 12 13 31 32 33) (setE 2 (j7 (xa call hs u rec0) 0 1 2 10 31 32 33) (setE 1 (j7 (xa call hs u rec0) 0 1 2 10 31 32 33) (setE 0 (j1 (xg call hs u) 10) eNil)))=j10 (xcb call hs u rec0 rec1) 0 1 2 10 11 12 13 31 32 33:=by kernel_rfl
theorem x1d9{rec0:AV->AV->AV->AV->AV->AV->AV->Mem->Nat->O2}{rec1:AV->AV->AV->AV->AV->AV->AV->AV->AV->AV->Mem->Nat->O2}:x1y9 call hs u xg1 (j10 rec1 0 1 2 10 11 12 13 31 32 33) (setE 2 (j7 (xa call hs u rec0) 0 1 2 10 31 32 33) (setE 1 (j7 (xa call hs u rec0) 0 1 2 10 31 32 33) (setE 0 (j1 (xg call hs u) 10) eNil)))=j10 (xcb call hs u rec0 rec1) 0 1 2 10 11 12 13 31 32 33:=sq2 x1d7 x1d8
theorem x1da{rec0:AV->AV->AV->AV->AV->AV->AV->Mem->Nat->O2}{rec1:AV->AV->AV->AV->AV->AV->AV->AV->AV->AV->Mem->Nat->O2}:x1y9 call hs u xr2 (j10 rec1 0 1 2 10 11 12 13 31 32 33) (setE 2 (j7 (xa call hs u rec0) 0 1 2 10 31 32 33) (setE 1 (j7 (xa call hs u rec0) 0 1 2 10 31 32 33) (setE 0 (j1 (xg call hs u) 10) eNil)))=j10 (xiz call hs u rec0 rec1) 0 1 2 10 11 12 13 31 32 33:=tr (sqN 1 x1d9)
theorem x1db{rec0:AV->AV->AV->AV->AV->AV->AV->Mem->Nat->O2}:x1y9 call hs u xr1 (j7 (xa call hs u rec0) 0 1 2 10 31 32 33) (setE 2 (j7 (xa call hs u rec0) 0 1 2 10 31 32 33) (setE 1 (j7 (xa call hs u rec0) 0 1 2 10 31 32 33) (setE 0 (j1 (xg call hs u) 10) eNil)))=j10 (x5o call hs u rec0 NN) 0 1 2 10 11 12 13 31 32 33:=lp (Ln:=fun n=>j10 (x5o call hs u rec0 n) 0 1 2 10 11 12 13 31 32 33) fun n=>tr x1da
theorem x1dc{rec0:AV->AV->AV->AV->AV->AV->AV->Mem->Nat->O2}:x1y9 call hs u xr0 (j7 (xa call hs u rec0) 0 1 2 10 31 32 33) (setE 1 (j7 (xa call hs u rec0) 0 1 2 10 31 32 33) (setE 0 (j1 (xg call hs u) 10) eNil))=j10 (x5o call hs u rec0 NN) 0 1 2 10 11 12 13 31 32 33:=bk x1db
theorem x1dd{rec0:AV->AV->AV->AV->AV->AV->AV->Mem->Nat->O2}:x1y9 call hs u xqz (j7 (xa call hs u rec0) 0 1 2 10 31 32 33) (setE 1 (j7 (xa call hs u rec0) 0 1 2 10 31 32 33) (setE 0 (j1 (xg call hs u) 10) eNil))=j7 (x9n call hs u rec0) 0 1 2 10 31 32 33:=tr (sqN 2 x1dc)
theorem x1de{rec0:AV->AV->AV->AV->AV->AV->AV->Mem->Nat->O2}:x1y9 call hs u xqy (j7 (xa call hs u rec0) 0 1 2 10 31 32 33) (setE 0 (j1 (xg call hs u) 10) eNil)=j7 (x9n call hs u rec0) 0 1 2 10 31 32 33:=bk x1dd
theorem x1df{rec0:AV->AV->AV->AV->AV->AV->AV->Mem->Nat->O2}:x1y9 call hs u xg0 (j7 rec0 0 1 2 10 31 32 33) (setE 0 (j1 (xg call hs u) 10) eNil)=j7 (x9n call hs u rec0) 0 1 2 10 31 32 33:=sq2 x1d6 x1de
theorem x1dg{rec0:AV->AV->AV->AV->AV->AV->AV->Mem->Nat->O2}:x1y9 call hs u xqx (j7 rec0 0 1 2 10 31 32 33) (setE 0 (j1 (xg call hs u) 10) eNil)=j7 (xj0 call hs u rec0) 0 1 2 10 31 32 33:=tr (sqN 2 x1df)
theorem x1dh:x1y9 call hs u xqw (j1 (xg call hs u) 10) (setE 0 (j1 (xg call hs u) 10) eNil)=j7 (x5p call hs u NN) 0 1 2 10 31 32 33:=lp (Ln:=fun n=>j7 (x5p call hs u n) 0 1 2 10 31 32 33) fun n=>tr x1dg
theorem x1di:x1y9 call hs u xqv (j1 (xg call hs u) 10) eNil=j7 (x5p call hs u NN) 0 1 2 10 31 32 33:=bk x1dh
theorem x1dj:x1y9 call hs u xqu (j1 (xg call hs u) 10) eNil=j4 (xcc call hs u) 0 1 2 10:=tr (sqN 1 x1di)
theorem x1dk:x1y9 call hs u xfz r_4 eNil=j4 (xcc call hs u) 0 1 2 10:=sq2 x1d5 x1dj
theorem x13p:x1y9 call hs u xqt r_4 eNil=j3 (xj1 call hs u) 0 1 2:=tr (sqN 4 x1dk)
noncomputable abbrev x1ya:=VX x28 50 r_5
noncomputable def xr3:=x1x2 x28
noncomputable def xg2:=nRs 2 xr3
noncomputable def xr4:=nL xg2
noncomputable def x1dl:=nR xg2
noncomputable def xr5:=nR xr4
noncomputable def xr6:=nR xr5
noncomputable def xr7:=nR xr6
noncomputable def xg3:=nR xr7
noncomputable def xr8:=nL xg3
noncomputable def x1dm:=nR xg3
noncomputable def xr9:=nR xr8
noncomputable def xg4:=nRs 2 xr9
noncomputable def xra:=nL xg4
noncomputable def x1dn:=nR xg4
noncomputable def xrb:=nR xra
noncomputable def xrc:=nR xrb
noncomputable def x1do:=nR xrc
theorem x1dp:x1ya call hs u x1dl r_5 eNil=j0 (xb call hs u):=by kernel_rfl
theorem x1dq{rec0:AV->AV->Mem->Nat->O2}:x1ya call hs u x1dm (j2 rec0 0 4) (setE 0 (j0 (xb call hs u)) eNil)=j2 (xv call hs u rec0) 0 4:=by kernel_rfl
theorem x1dr{rec0:AV->AV->Mem->Nat->O2}:x1ya call hs u x1dn (j2 (xv call hs u rec0) 0 4) (setE 1 (j2 (xv call hs u rec0) 0 4) (setE 0 (j0 (xb call hs u)) eNil))=j3 (x1w call hs u rec0) 0 4 5:=by kernel_rfl
theorem x1ds{rec0:AV->AV->Mem->Nat->O2}{rec1:AV->AV->AV->AV->Mem->Nat->O2}:x1ya call hs u x1do (j4 rec1 0 4 5 6) (setE 2 (j3 (x1w call hs u rec0) 0 4 5) (setE 1 (j2 (xv call hs u rec0) 0 4) (setE 0 (j0 (xb call hs u)) eNil)))=j4 (x9o call hs u rec0 rec1) 0 4 5 6:=by kernel_rfl
theorem x1dt{rec0:AV->AV->Mem->Nat->O2}:x1ya call hs u xrc (j3 (x1w call hs u rec0) 0 4 5) (setE 2 (j3 (x1w call hs u rec0) 0 4 5) (setE 1 (j2 (xv call hs u rec0) 0 4) (setE 0 (j0 (xb call hs u)) eNil)))=j4 (x2c call hs u rec0 NN) 0 4 5 6:=lp (Ln:=fun n=>j4 (x2c call hs u rec0 n) 0 4 5 6) fun n=>tr x1ds
theorem x1du{rec0:AV->AV->Mem->Nat->O2}:x1ya call hs u xrb (j3 (x1w call hs u rec0) 0 4 5) (setE 1 (j2 (xv call hs u rec0) 0 4) (setE 0 (j0 (xb call hs u)) eNil))=j4 (x2c call hs u rec0 NN) 0 4 5 6:=bk x1dt
theorem x1dv{rec0:AV->AV->Mem->Nat->O2}:x1ya call hs u xra (j3 (x1w call hs u rec0) 0 4 5) (setE 1 (j2 (xv call hs u rec0) 0 4) (setE 0 (j0 (xb call hs u)) eNil))=j3 (x9p call hs u rec0) 0 4 5:=tr (sqN 1 x1du)
theorem x1dw{rec0:AV->AV->Mem->Nat->O2}:x1ya call hs u xg4 (j2 (xv call hs u rec0) 0 4) (setE 1 (j2 (xv call hs u rec0) 0 4) (setE 0 (j0 (xb call hs u)) eNil))=j3 (x9p call hs u rec0) 0 4 5:=sq2 x1dr x1dv
theorem x1dx{rec0:AV->AV->Mem->Nat->O2}:x1ya call hs u xr9 (j2 (xv call hs u rec0) 0 4) (setE 1 (j2 (xv call hs u rec0) 0 4) (setE 0 (j0 (xb call hs u)) eNil))=j2 (x5q call hs u rec0) 0 4:=tr (sqN 2 x1dw)
theorem x1dy{rec0:AV->AV->Mem->Nat->O2}:x1ya call hs u xr8 (j2 (xv call hs u rec0) 0 4) (setE 0 (j0 (xb call hs u)) eNil)=j2 (x5q call hs u rec0) 0 4:=bk x1dx
theorem x1dz{rec0:AV->AV->Mem->Nat->O2}:x1ya call hs u xg3 (j2 rec0 0 4) (setE 0 (j0 (xb call hs u)) eNil)=j2 (x5q call hs u rec0) 0 4:=sq2 x1dq x1dy
theorem x1e0{rec0:AV->AV->Mem->Nat->O2}:x1ya call hs u xr7 (j2 rec0 0 4) (setE 0 (j0 (xb call hs u)) eNil)=j2 (x9q call hs u rec0) 0 4:=tr (sqN 1 x1dz)
theorem x1e1:x1ya call hs u xr6 (j0 (xb call hs u)) (setE 0 (j0 (xb call hs u)) eNil)=j2 (x1c call hs u NN) 0 4:=lp (Ln:=fun n=>j2 (x1c call hs u n) 0 4) fun n=>tr x1e0
theorem x1e2:x1ya call hs u xr5 (j0 (xb call hs u)) eNil=j2 (x1c call hs u NN) 0 4:=bk x1e1
theorem x1e3:x1ya call hs u xr4 (j0 (xb call hs u)) eNil=j1 (x9r call hs u) 0:=tr (sqN 1 x1e2)
theorem x1e4:x1ya call hs u xg2 r_5 eNil=j1 (x9r call hs u) 0:=sq2 x1dp x1e3
theorem x13q:x1ya call hs u xr3 r_5 eNil=j1 (xcd call hs u) 0:=tr (sqN 2 x1e4)
noncomputable abbrev x1yb:=VX x8a 61 r_0
noncomputable def xrd:=x1x2 x8a
noncomputable def xg5:=nRs 2 xrd
noncomputable def xre:=nL xg5
noncomputable def x1e5:=nR xg5
noncomputable def xrf:=nR xre
noncomputable def xrg:=nR xrf
noncomputable def xrh:=nR xrg
noncomputable def xg6:=nR xrh
noncomputable def xri:=nL xg6
noncomputable def x1e6:=nR xg6
noncomputable def xrj:=nR xri
noncomputable def xrk:=nR xrj
noncomputable def xrl:=nR xrk
noncomputable def xrm:=nR xrl
noncomputable def xg7:=nR xrm
noncomputable def x1e7:=nL xg7
noncomputable def x1e8:=nR xg7
theorem x1e9:x1yb call hs u x1e5 r_0 eNil=j1 (xh call hs u) 7:=by kernel_rfl
theorem x1ea{rec0:AV->AV->AV->AV->AV->Mem->Nat->O2}:x1yb call hs u x1e6 (j5 rec0 0 1 2 7 8) (setE 0 (j1 (xh call hs u) 7) eNil)=j5 (xd call hs u rec0) 0 1 2 7 8:=by kernel_rfl
theorem x1eb{rec0:AV->AV->AV->AV->AV->Mem->Nat->O2}{rec1:AV->AV->AV->AV->AV->AV->Mem->Nat->O2}:x1yb call hs u x1e8 (j6 rec1 0 1 2 7 8 9) (setE 2 (j5 (xd call hs u rec0) 0 1 2 7 8) (setE 1 (j5 (xd call hs u rec0) 0 1 2 7 8) (setE 0 (j1 (xh call hs u) 7) eNil)))=j6 (x9s call hs u rec0 rec1) 0 1 2 7 8 9:=by kernel_rfl
theorem x1ec{rec0:AV->AV->AV->AV->AV->Mem->Nat->O2}{rec1:AV->AV->AV->AV->AV->AV->Mem->Nat->O2}:x1yb call hs u x1e7 (j6 (x9s call hs u rec0 rec1) 0 1 2 7 8 9) (setE 2 (j5 (xd call hs u rec0) 0 1 2 7 8) (setE 1 (j5 (xd call hs u rec0) 0 1 2 7 8) (setE 0 (j1 (xh call hs u) 7) eNil)))=j6 (xce call hs u rec0 rec1) 0 1 2 7 8 9:=by kernel_rfl
theorem x1ed{rec0:AV->AV->AV->AV->AV->Mem->Nat->O2}{rec1:AV->AV->AV->AV->AV->AV->Mem->Nat->O2}:x1yb call hs u xg7 (j6 rec1 0 1 2 7 8 9) (setE 2 (j5 (xd call hs u rec0) 0 1 2 7 8) (setE 1 (j5 (xd call hs u rec0) 0 1 2 7 8) (setE 0 (j1 (xh call hs u) 7) eNil)))=j6 (xce call hs u rec0 rec1) 0 1 2 7 8 9:=sq2 x1eb x1ec
theorem x1ee{rec0:AV->AV->AV->AV->AV->Mem->Nat->O2}{rec1:AV->AV->AV->AV->AV->AV->Mem->Nat->O2}:x1yb call hs u xrm (j6 rec1 0 1 2 7 8 9) (setE 2 (j5 (xd call hs u rec0) 0 1 2 7 8) (setE 1 (j5 (xd call hs u rec0) 0 1 2 7 8) (setE 0 (j1 (xh call hs u) 7) eNil)))=j6 (xj2 call hs u rec0 rec1) 0 1 2 7 8 9:=tr (sqN 1 x1ed)
theorem x1ef{rec0:AV->AV->AV->AV->AV->Mem->Nat->O2}:x1yb call hs u xrl (j5 (xd call hs u rec0) 0 1 2 7 8) (setE 2 (j5 (xd call hs u rec0) 0 1 2 7 8) (setE 1 (j5 (xd call hs u rec0) 0 1 2 7 8) (setE 0 (j1 (xh call hs u) 7) eNil)))=j6 (x5r call hs u rec0 NN) 0 1 2 7 8 9:=lp (Ln:=fun n=>j6 (x5r call hs u rec0 n) 0 1 2 7 8 9) fun n=>tr x1ee
theorem x1eg{rec0:AV->AV->AV->AV->AV->Mem->Nat->O2}:x1yb call hs u xrk (j5 (xd call hs u rec0) 0 1 2 7 8) (setE 1 (j5 (xd call hs u rec0) 0 1 2 7 8) (setE 0 (j1 (xh call hs u) 7) eNil))=j6 (x5r call hs u rec0 NN) 0 1 2 7 8 9:=bk x1ef
theorem x1eh{rec0:AV->AV->AV->AV->AV->Mem->Nat->O2}:x1yb call hs u xrj (j5 (xd call hs u rec0) 0 1 2 7 8) (setE 1 (j5 (xd call hs u rec0) 0 1 2 7 8) (setE 0 (j1 (xh call hs u) 7) eNil))=j5 (x9t call hs u rec0) 0 1 2 7 8:=tr (sqN 1 x1eg)
theorem x1ei{rec0:AV->AV->AV->AV->AV->Mem->Nat->O2}:x1yb call hs u xri (j5 (xd call hs u rec0) 0 1 2 7 8) (setE 0 (j1 (xh call hs u) 7) eNil)=j5 (x9t call hs u rec0) 0 1 2 7 8:=bk x1eh
theorem x1ej{rec0:AV->AV->AV->AV->AV->Mem->Nat->O2}:x1yb call hs u xg6 (j5 rec0 0 1 2 7 8) (setE 0 (j1 (xh call hs u) 7) eNil)=j5 (x9t call hs u rec0) 0 1 2 7 8:=sq2 x1ea x1ei
theorem x1ek{rec0:AV->AV->AV->AV->AV->Mem->Nat->O2}:x1yb call hs u xrh (j5 rec0 0 1 2 7 8) (setE 0 (j1 (xh call hs u) 7) eNil)=j5 (xj3 call hs u rec0) 0 1 2 7 8:=tr (sqN 1 x1ej)
theorem x1el:x1yb call hs u xrg (j1 (xh call hs u) 7) (setE 0 (j1 (xh call hs u) 7) eNil)=j5 (x5s call hs u NN) 0 1 2 7 8:=lp (Ln:=fun n=>j5 (x5s call hs u n) 0 1 2 7 8) fun n=>tr x1ek
theorem x1em:x1yb call hs u xrf (j1 (xh call hs u) 7) eNil=j5 (x5s call hs u NN) 0 1 2 7 8:=bk x1el
theorem x1en:x1yb call hs u xre (j1 (xh call hs u) 7) eNil=j4 (xcf call hs u) 0 1 2 7:=tr (sqN 1 x1em)
theorem x1eo:x1yb call hs u xg5 r_0 eNil=j4 (xcf call hs u) 0 1 2 7:=sq2 x1e9 x1en
theorem x13r:x1yb call hs u xrd r_0 eNil=j3 (xj4 call hs u) 0 1 2:=tr (sqN 2 x1eo)
noncomputable abbrev x219:=VX x8b 26 r_1
noncomputable def xrn:=x1x2 x8b
noncomputable def xg8:=nRs 2 xrn
noncomputable def xro:=nL xg8
noncomputable def x1ep:=nR xg8
noncomputable def xrp:=nR xro
noncomputable def xrq:=nR xrp
noncomputable def x1eq:=nR xrq
theorem x1er:x219 call hs u x1ep r_1 eNil=j0 (x32 call hs u):=by kernel_rfl
theorem x1es{rec0:AV->AV->AV->Mem->Nat->O2}:x219 call hs u x1eq (j3 rec0 0 1 5) (setE 0 (j0 (x32 call hs u)) eNil)=j3 (xj5 call hs u rec0) 0 1 5:=by kernel_rfl
theorem x1et:x219 call hs u xrq (j0 (x32 call hs u)) (setE 0 (j0 (x32 call hs u)) eNil)=j3 (x5t call hs u NN) 0 1 5:=lp (Ln:=fun n=>j3 (x5t call hs u n) 0 1 5) fun n=>tr x1es
theorem x1eu:x219 call hs u xrp (j0 (x32 call hs u)) eNil=j3 (x5t call hs u NN) 0 1 5:=bk x1et
theorem x1ev:x219 call hs u xro (j0 (x32 call hs u)) eNil=j2 (xcg call hs u) 0 1:=tr (sqN 1 x1eu)
theorem x1ew:x219 call hs u xg8 r_1 eNil=j2 (xcg call hs u) 0 1:=sq2 x1er x1ev
theorem x13s:x219 call hs u xrn r_1 eNil=j2 (xj6 call hs u) 0 1:=tr (sqN 2 x1ew)
noncomputable abbrev x21a:=VX x3t 53 r_6
noncomputable def xrr:=x1x2 x3t
noncomputable def xg9:=nRs 2 xrr
noncomputable def xrs:=nL xg9
noncomputable def x1ex:=nR xg9
noncomputable def xrt:=nR xrs
noncomputable def xru:=nR xrt
noncomputable def x1ey:=nR xru
theorem x1ez:x21a call hs u x1ex r_6 eNil=j0 (x2d call hs u):=by kernel_rfl
theorem x1f0{rec0:AV->AV->Mem->Nat->O2}:x21a call hs u x1ey (j2 rec0 1 3) (setE 0 (j0 (x2d call hs u)) eNil)=j2 (x9u call hs u rec0) 1 3:=by kernel_rfl
theorem x1f1:x21a call hs u xru (j0 (x2d call hs u)) (setE 0 (j0 (x2d call hs u)) eNil)=j2 (x2e call hs u NN) 1 3:=lp (Ln:=fun n=>j2 (x2e call hs u n) 1 3) fun n=>tr x1f0
theorem x1f2:x21a call hs u xrt (j0 (x2d call hs u)) eNil=j2 (x2e call hs u NN) 1 3:=bk x1f1
theorem x1f3:x21a call hs u xrs (j0 (x2d call hs u)) eNil=j1 (x5u call hs u) 1:=tr (sqN 1 x1f2)
theorem x1f4:x21a call hs u xg9 r_6 eNil=j1 (x5u call hs u) 1:=sq2 x1ez x1f3
theorem x13t:x21a call hs u xrr r_6 eNil=j1 (xch call hs u) 0:=tr (sqN 2 x1f4)
noncomputable abbrev x21b:=VX xbh 64 r_7
noncomputable def xrv:=x1x2 xbh
noncomputable def xga:=nRs 3 xrv
noncomputable def xrw:=nL xga
noncomputable def x1f5:=nR xga
noncomputable def xrx:=nR xrw
noncomputable def xry:=nR xrx
noncomputable def x1f6:=nR xry
theorem x1f7:x21b call hs u x1f5 r_7 eNil=j3 (x33 call hs u) 1 2 7:=by kernel_rfl
theorem x1f8{rec0:AV->AV->AV->AV->AV->AV->Mem->Nat->O2}:x21b call hs u x1f6 (j6 rec0 1 2 7 19 20 21) (setE 0 (j3 (x33 call hs u) 1 2 7) eNil)=j6 (xj7 call hs u rec0) 1 2 7 19 20 21:=by kernel_rfl
theorem x1f9:x21b call hs u xry (j3 (x33 call hs u) 1 2 7) (setE 0 (j3 (x33 call hs u) 1 2 7) eNil)=j6 (x5v call hs u NN) 1 2 7 19 20 21:=lp (Ln:=fun n=>j6 (x5v call hs u n) 1 2 7 19 20 21) fun n=>tr x1f8
theorem x1fa:x21b call hs u xrx (j3 (x33 call hs u) 1 2 7) eNil=j6 (x5v call hs u NN) 1 2 7 19 20 21:=bk x1f9
theorem x1fb:x21b call hs u xrw (j3 (x33 call hs u) 1 2 7) eNil=j3 (xci call hs u) 1 2 7:=tr (sqN 1 x1fa)
theorem x1fc:x21b call hs u xga r_7 eNil=j3 (xci call hs u) 1 2 7:=sq2 x1f7 x1fb
theorem x13u:x21b call hs u xrv r_7 eNil=j2 (xj8 call hs u) 0 1:=tr (sqN 3 x1fc)
noncomputable abbrev x29m:=VX x29 12 r_8
noncomputable def x1fd:=x1x2 x29
theorem x13v:x29m call hs u x1fd r_8 eNil=j1 (xcj call hs u) 0:=by kernel_rfl
noncomputable abbrev x29n:=VX xbj 6 r_6
noncomputable def x1fe:=x1x2 xbj
theorem x13w:x29n call hs u x1fe r_6 eNil=j1 (xj9 call hs u) 0:=by kernel_rfl
noncomputable abbrev x29o:=VX x2u 11 r_6
noncomputable def x1ff:=x1x2 x2u
theorem x13x:x29o call hs u x1ff r_6 eNil=j1 (xck call hs u) 0:=by kernel_rfl
noncomputable abbrev x1yw:=VX xbl 109 r_7
noncomputable def xrz:=x1x2 xbl
noncomputable def xgb:=nRs 2 xrz
noncomputable def xs0:=nL xgb
noncomputable def xs1:=nR xgb
noncomputable def xgc:=nR xs1
noncomputable def xs2:=nL xgc
noncomputable def x1fg:=nR xgc
noncomputable def xs3:=nR xs2
noncomputable def xs4:=nR xs3
noncomputable def x1fh:=nR xs4
noncomputable def xs5:=nR xs0
noncomputable def xs6:=nR xs5
noncomputable def x1fi:=nR xs6
theorem x1fj:x1yw call hs u x1fg r_7 eNil=j1 (x34 call hs u) 6:=by kernel_rfl
theorem x1fk{rec0:AV->AV->AV->AV->Mem->Nat->O2}:x1yw call hs u x1fh (j4 rec0 2 6 9 10) (setE 2 (j1 (x34 call hs u) 6) eNil)=j4 (xja call hs u rec0) 2 6 9 10:=by kernel_rfl
theorem x1fl:x1yw call hs u xs4 (j1 (x34 call hs u) 6) (setE 2 (j1 (x34 call hs u) 6) eNil)=j4 (x5x call hs u NN) 2 6 9 10:=lp (Ln:=fun n=>j4 (x5x call hs u n) 2 6 9 10) fun n=>tr x1fk
theorem x1fm:x1yw call hs u xs3 (j1 (x34 call hs u) 6) eNil=j4 (x5x call hs u NN) 2 6 9 10:=bk x1fl
theorem x1fn:x1yw call hs u xs2 (j1 (x34 call hs u) 6) eNil=j3 (xcl call hs u) 2 6 9:=tr (sqN 1 x1fm)
theorem x1fo:x1yw call hs u xgc r_7 eNil=j3 (xcl call hs u) 2 6 9:=sq2 x1fj x1fn
theorem x1fp:x1yw call hs u xs1 r_7 eNil=j3 (x35 call hs u) 1 2 6:=tr (sqN 1 x1fo)
theorem x1fq{rec1:AV->AV->AV->AV->Mem->Nat->O2}:x1yw call hs u x1fi (j4 rec1 1 2 6 7) (setE 0 (j3 (x35 call hs u) 1 2 6) eNil)=j4 (xjb call hs u rec1) 1 2 6 7:=by kernel_rfl
theorem x1fr:x1yw call hs u xs6 (j3 (x35 call hs u) 1 2 6) (setE 0 (j3 (x35 call hs u) 1 2 6) eNil)=j4 (x5y call hs u NN) 1 2 6 7:=lp (Ln:=fun n=>j4 (x5y call hs u n) 1 2 6 7) fun n=>tr x1fq
theorem x1fs:x1yw call hs u xs5 (j3 (x35 call hs u) 1 2 6) eNil=j4 (x5y call hs u NN) 1 2 6 7:=bk x1fr
theorem x1ft:x1yw call hs u xs0 (j3 (x35 call hs u) 1 2 6) eNil=j3 (xcm call hs u) 1 2 6:=tr (sqN 1 x1fs)
theorem x1fu:x1yw call hs u xgb r_7 eNil=j3 (xcm call hs u) 1 2 6:=sq2 x1fp x1ft
theorem x13y:x1yw call hs u xrz r_7 eNil=j2 (xjc call hs u) 0 1:=tr (sqN 2 x1fu)
noncomputable abbrev x1zt:=VX x8c 51 r_5
noncomputable def xs7:=x1x2 x8c
noncomputable def xgd:=nRs 6 xs7
noncomputable def xs8:=nL xgd
noncomputable def x1fv:=nR xgd
noncomputable def xs9:=nR xs8
noncomputable def xsa:=nR xs9
noncomputable def xsb:=nR xsa
noncomputable def xge:=nRs 2 xsb
noncomputable def x1fw:=nL xge
noncomputable def x1fx:=nR xge
theorem x1fy:x1zt call hs u x1fv r_5 eNil=j1 (x1d call hs u) 7:=by kernel_rfl
theorem x1fz{rec0:AV->AV->AV->AV->AV->Mem->Nat->O2}:x1zt call hs u x1fx (j5 rec0 6 7 27 28 29) (setE 0 (j1 (x1d call hs u) 7) eNil)=j5 (x9v call hs u rec0) 6 7 27 28 29:=by kernel_rfl
theorem x1g0{rec0:AV->AV->AV->AV->AV->Mem->Nat->O2}:x1zt call hs u x1fw (j5 (x9v call hs u rec0) 6 7 27 28 29) (setE 0 (j1 (x1d call hs u) 7) eNil)=j5 (xcn call hs u rec0) 6 7 27 28 29:=by kernel_rfl
theorem x1g1{rec0:AV->AV->AV->AV->AV->Mem->Nat->O2}:x1zt call hs u xge (j5 rec0 6 7 27 28 29) (setE 0 (j1 (x1d call hs u) 7) eNil)=j5 (xcn call hs u rec0) 6 7 27 28 29:=sq2 x1fz x1g0
theorem x1g2{rec0:AV->AV->AV->AV->AV->Mem->Nat->O2}:x1zt call hs u xsb (j5 rec0 6 7 27 28 29) (setE 0 (j1 (x1d call hs u) 7) eNil)=j5 (xjd call hs u rec0) 6 7 27 28 29:=tr (sqN 2 x1g1)
theorem x1g3:x1zt call hs u xsa (j1 (x1d call hs u) 7) (setE 0 (j1 (x1d call hs u) 7) eNil)=j5 (x5z call hs u NN) 6 7 27 28 29:=lp (Ln:=fun n=>j5 (x5z call hs u n) 6 7 27 28 29) fun n=>tr x1g2
theorem x1g4:x1zt call hs u xs9 (j1 (x1d call hs u) 7) eNil=j5 (x5z call hs u NN) 6 7 27 28 29:=bk x1g3
theorem x1g5:x1zt call hs u xs8 (j1 (x1d call hs u) 7) eNil=j3 (xco call hs u) 4 6 7:=tr (sqN 1 x1g4)
theorem x1g6:x1zt call hs u xgd r_5 eNil=j3 (xco call hs u) 4 6 7:=sq2 x1fy x1g5
theorem x13z:x1zt call hs u xs7 r_5 eNil=j1 (xje call hs u) 0:=tr (sqN 6 x1g6)
noncomputable abbrev x21c:=VX x8d 60 r_9
noncomputable def xsc:=x1x2 x8d
noncomputable def xgf:=nRs 6 xsc
noncomputable def xsd:=nL xgf
noncomputable def x1g7:=nR xgf
noncomputable def xse:=nR xsd
noncomputable def xsf:=nR xse
noncomputable def x1g8:=nR xsf
theorem x1g9:x21c call hs u x1g7 r_9 eNil=j3 (x36 call hs u) 9 10 11:=by kernel_rfl
theorem x1ga{rec0:AV->AV->AV->AV->AV->AV->AV->Mem->Nat->O2}:x21c call hs u x1g8 (j7 rec0 8 9 10 11 33 34 35) (setE 0 (j3 (x36 call hs u) 9 10 11) eNil)=j7 (xjf call hs u rec0) 8 9 10 11 33 34 35:=by kernel_rfl
theorem x1gb:x21c call hs u xsf (j3 (x36 call hs u) 9 10 11) (setE 0 (j3 (x36 call hs u) 9 10 11) eNil)=j7 (x60 call hs u NN) 8 9 10 11 33 34 35:=lp (Ln:=fun n=>j7 (x60 call hs u n) 8 9 10 11 33 34 35) fun n=>tr x1ga
theorem x1gc:x21c call hs u xse (j3 (x36 call hs u) 9 10 11) eNil=j7 (x60 call hs u NN) 8 9 10 11 33 34 35:=bk x1gb
theorem x1gd:x21c call hs u xsd (j3 (x36 call hs u) 9 10 11) eNil=j5 (xcp call hs u) 6 8 9 10 11:=tr (sqN 1 x1gc)
theorem x1ge:x21c call hs u xgf r_9 eNil=j5 (xcp call hs u) 6 8 9 10 11:=sq2 x1g9 x1gd
theorem x140:x21c call hs u xsc r_9 eNil=j1 (xjg call hs u) 0:=tr (sqN 6 x1ge)
noncomputable abbrev x1yp:=VX x2v 70 r_1
noncomputable def xsg:=x1x2 x2v
noncomputable def xgg:=nRs 4 xsg
noncomputable def xsh:=nL xgg
noncomputable def x1gf:=nR xgg
noncomputable def xsi:=nR xsh
noncomputable def xsj:=nR xsi
noncomputable def xsk:=nR xsj
noncomputable def xgh:=nRs 2 xsk
noncomputable def xsl:=nL xgh
noncomputable def x1gg:=nR xgh
noncomputable def xsm:=nR xsl
noncomputable def xgi:=nRs 3 xsm
noncomputable def x1gh:=nL xgi
noncomputable def x1gi:=nR xgi
theorem x1gj:x1yp call hs u x1gf r_1 eNil=j2 (xp call hs u) 6 7:=by kernel_rfl
theorem x1gk{rec0:AV->AV->AV->AV->AV->AV->Mem->Nat->O2}:x1yp call hs u x1gg (j6 rec0 2 6 7 25 26 27) (setE 1 (j2 (xp call hs u) 6 7) eNil)=j6 (x17 call hs u rec0) 2 6 7 25 26 27:=by kernel_rfl
theorem x1gl{rec0:AV->AV->AV->AV->AV->AV->Mem->Nat->O2}:x1yp call hs u x1gi (j6 (x17 call hs u rec0) 2 6 7 25 26 27) (setE 2 (j6 (x17 call hs u rec0) 2 6 7 25 26 27) (setE 1 (j2 (xp call hs u) 6 7) eNil))=j6 (x61 call hs u rec0) 2 6 11 25 26 27:=by kernel_rfl
theorem x1gm{rec0:AV->AV->AV->AV->AV->AV->Mem->Nat->O2}:x1yp call hs u x1gh (j6 (x61 call hs u rec0) 2 6 11 25 26 27) (setE 2 (j6 (x17 call hs u rec0) 2 6 7 25 26 27) (setE 1 (j2 (xp call hs u) 6 7) eNil))=j9 (x62 call hs u rec0) 2 6 7 8 10 11 25 26 27:=by kernel_rfl
theorem x1gn{rec0:AV->AV->AV->AV->AV->AV->Mem->Nat->O2}:x1yp call hs u xgi (j6 (x17 call hs u rec0) 2 6 7 25 26 27) (setE 2 (j6 (x17 call hs u rec0) 2 6 7 25 26 27) (setE 1 (j2 (xp call hs u) 6 7) eNil))=j9 (x62 call hs u rec0) 2 6 7 8 10 11 25 26 27:=sq2 x1gl x1gm
theorem x1go{rec0:AV->AV->AV->AV->AV->AV->Mem->Nat->O2}:x1yp call hs u xsm (j6 (x17 call hs u rec0) 2 6 7 25 26 27) (setE 2 (j6 (x17 call hs u rec0) 2 6 7 25 26 27) (setE 1 (j2 (xp call hs u) 6 7) eNil))=j6 (x63 call hs u rec0) 2 6 7 25 26 27:=tr (sqN 3 x1gn)
theorem x1gp{rec0:AV->AV->AV->AV->AV->AV->Mem->Nat->O2}:x1yp call hs u xsl (j6 (x17 call hs u rec0) 2 6 7 25 26 27) (setE 1 (j2 (xp call hs u) 6 7) eNil)=j6 (x63 call hs u rec0) 2 6 7 25 26 27:=bk x1go
theorem x1gq{rec0:AV->AV->AV->AV->AV->AV->Mem->Nat->O2}:x1yp call hs u xgh (j6 rec0 2 6 7 25 26 27) (setE 1 (j2 (xp call hs u) 6 7) eNil)=j6 (x63 call hs u rec0) 2 6 7 25 26 27:=sq2 x1gk x1gp
theorem x1gr{rec0:AV->AV->AV->AV->AV->AV->Mem->Nat->O2}:x1yp call hs u xsk (j6 rec0 2 6 7 25 26 27) (setE 1 (j2 (xp call hs u) 6 7) eNil)=j6 (x9w call hs u rec0) 2 6 7 25 26 27:=tr (sqN 2 x1gq)
theorem x1gs:x1yp call hs u xsj (j2 (xp call hs u) 6 7) (setE 1 (j2 (xp call hs u) 6 7) eNil)=j6 (x1z call hs u NN) 2 6 7 25 26 27:=lp (Ln:=fun n=>j6 (x1z call hs u n) 2 6 7 25 26 27) fun n=>tr x1gr
theorem x1gt:x1yp call hs u xsi (j2 (xp call hs u) 6 7) eNil=j6 (x1z call hs u NN) 2 6 7 25 26 27:=bk x1gs
theorem x1gu:x1yp call hs u xsh (j2 (xp call hs u) 6 7) eNil=j4 (x9x call hs u) 1 2 6 7:=tr (sqN 1 x1gt)
theorem x1gv:x1yp call hs u xgg r_1 eNil=j4 (x9x call hs u) 1 2 6 7:=sq2 x1gj x1gu
theorem x141:x1yp call hs u xsg r_1 eNil=j2 (xcq call hs u) 0 1:=tr (sqN 4 x1gv)
noncomputable abbrev x29p:=VX x2w 6 r_6
noncomputable def x1gw:=x1x2 x2w
theorem x142:x29p call hs u x1gw r_6 eNil=j1 (xcr call hs u) 0:=by kernel_rfl
noncomputable abbrev x1yq:=VX x3u 59 r_1
noncomputable def xsn:=x1x2 x3u
noncomputable def xgj:=nRs 4 xsn
noncomputable def xso:=nL xgj
noncomputable def x1gx:=nR xgj
noncomputable def xsp:=nR xso
noncomputable def xsq:=nR xsp
noncomputable def xsr:=nR xsq
noncomputable def xgk:=nR xsr
noncomputable def xss:=nL xgk
noncomputable def x1gy:=nR xgk
noncomputable def xst:=nR xss
noncomputable def xgl:=nRs 4 xst
noncomputable def x1gz:=nL xgl
noncomputable def x1h0:=nR xgl
theorem x1h1:x1yq call hs u x1gx r_1 eNil=j2 (xq call hs u) 5 6:=by kernel_rfl
theorem x1h2{rec0:AV->AV->AV->AV->AV->Mem->Nat->O2}:x1yq call hs u x1gy (j5 rec0 1 2 5 6 7) (setE 0 (j2 (xq call hs u) 5 6) eNil)=j5 (x18 call hs u rec0) 1 2 5 6 7:=by kernel_rfl
theorem x1h3{rec0:AV->AV->AV->AV->AV->Mem->Nat->O2}:x1yq call hs u x1h0 (j5 (x18 call hs u rec0) 1 2 5 6 7) (setE 1 (j5 (x18 call hs u rec0) 1 2 5 6 7) (setE 0 (j2 (xq call hs u) 5 6) eNil))=j5 (x64 call hs u rec0) 1 2 5 7 10:=by kernel_rfl
theorem x1h4{rec0:AV->AV->AV->AV->AV->Mem->Nat->O2}:x1yq call hs u x1gz (j5 (x64 call hs u rec0) 1 2 5 7 10) (setE 1 (j5 (x18 call hs u rec0) 1 2 5 6 7) (setE 0 (j2 (xq call hs u) 5 6) eNil))=j7 (x65 call hs u rec0) 1 2 5 6 7 9 10:=by kernel_rfl
theorem x1h5{rec0:AV->AV->AV->AV->AV->Mem->Nat->O2}:x1yq call hs u xgl (j5 (x18 call hs u rec0) 1 2 5 6 7) (setE 1 (j5 (x18 call hs u rec0) 1 2 5 6 7) (setE 0 (j2 (xq call hs u) 5 6) eNil))=j7 (x65 call hs u rec0) 1 2 5 6 7 9 10:=sq2 x1h3 x1h4
theorem x1h6{rec0:AV->AV->AV->AV->AV->Mem->Nat->O2}:x1yq call hs u xst (j5 (x18 call hs u rec0) 1 2 5 6 7) (setE 1 (j5 (x18 call hs u rec0) 1 2 5 6 7) (setE 0 (j2 (xq call hs u) 5 6) eNil))=j5 (x66 call hs u rec0) 1 2 5 6 7:=tr (sqN 4 x1h5)
theorem x1h7{rec0:AV->AV->AV->AV->AV->Mem->Nat->O2}:x1yq call hs u xss (j5 (x18 call hs u rec0) 1 2 5 6 7) (setE 0 (j2 (xq call hs u) 5 6) eNil)=j5 (x66 call hs u rec0) 1 2 5 6 7:=bk x1h6
theorem x1h8{rec0:AV->AV->AV->AV->AV->Mem->Nat->O2}:x1yq call hs u xgk (j5 rec0 1 2 5 6 7) (setE 0 (j2 (xq call hs u) 5 6) eNil)=j5 (x66 call hs u rec0) 1 2 5 6 7:=sq2 x1h2 x1h7
theorem x1h9{rec0:AV->AV->AV->AV->AV->Mem->Nat->O2}:x1yq call hs u xsr (j5 rec0 1 2 5 6 7) (setE 0 (j2 (xq call hs u) 5 6) eNil)=j5 (x9y call hs u rec0) 1 2 5 6 7:=tr (sqN 1 x1h8)
theorem x1ha:x1yq call hs u xsq (j2 (xq call hs u) 5 6) (setE 0 (j2 (xq call hs u) 5 6) eNil)=j5 (x20 call hs u NN) 1 2 5 6 7:=lp (Ln:=fun n=>j5 (x20 call hs u n) 1 2 5 6 7) fun n=>tr x1h9
theorem x1hb:x1yq call hs u xsp (j2 (xq call hs u) 5 6) eNil=j5 (x20 call hs u NN) 1 2 5 6 7:=bk x1ha
theorem x1hc:x1yq call hs u xso (j2 (xq call hs u) 5 6) eNil=j4 (x9z call hs u) 1 2 5 6:=tr (sqN 1 x1hb)
theorem x1hd:x1yq call hs u xgj r_1 eNil=j4 (x9z call hs u) 1 2 5 6:=sq2 x1h1 x1hc
theorem x143:x1yq call hs u xsn r_1 eNil=j2 (xcs call hs u) 0 1:=tr (sqN 4 x1hd)
noncomputable abbrev x29q:=VX x8e 20 r_10
noncomputable def x1he:=x1x2 x8e
theorem x144:x29q call hs u x1he r_10 eNil=j1 (xjh call hs u) 0:=by kernel_rfl
noncomputable abbrev x29r:=VX x8f 40 r_1
noncomputable def x1hf:=x1x2 x8f
theorem x145:x29r call hs u x1hf r_1 eNil=j2 (xji call hs u) 0 1:=by kernel_rfl
noncomputable abbrev x29s:=VX x51 36 r_6
noncomputable def x1hg:=x1x2 x51
theorem x146:x29s call hs u x1hg r_6 eNil=j1 (xjj call hs u) 0:=by kernel_rfl
noncomputable abbrev x29t:=VX x52 12 r_11
noncomputable def x1hh:=x1x2 x52
theorem x147:x29t call hs u x1hh r_11 eNil=j0 (xjk call hs u):=by kernel_rfl
noncomputable abbrev x29u:=VX x3v 10 r_12
noncomputable def x1hi:=x1x2 x3v
theorem x148:x29u call hs u x1hi r_12 eNil=j2 (xjl call hs u) 0 1:=by kernel_rfl
noncomputable abbrev x29v:=VX x2x 7 r_6
noncomputable def x1hj:=x1x2 x2x
theorem x149:x29v call hs u x1hj r_6 eNil=j1 (xjn call hs u) 0:=by kernel_rfl
noncomputable abbrev x29w:=VX xo 15 r_0
noncomputable def x1hk:=x1x2 xo
theorem x14a:x29w call hs u x1hk r_0 eNil=j3 (xct call hs u) 0 1 2:=by kernel_rfl
noncomputable abbrev x21d:=VX x53 42 r_1
noncomputable def xsu:=x1x2 x53
noncomputable def xgm:=nRs 3 xsu
noncomputable def xsv:=nL xgm
noncomputable def x1hl:=nR xgm
noncomputable def xsw:=nR xsv
noncomputable def xsx:=nR xsw
noncomputable def x1hm:=nR xsx
theorem x1hn:x21d call hs u x1hl r_1 eNil=j1 (x38 call hs u) 6:=by kernel_rfl
theorem x1ho{rec0:AV->AV->AV->AV->AV->AV->Mem->Nat->O2}:x21d call hs u x1hm (j6 rec0 1 5 6 14 15 16) (setE 0 (j1 (x38 call hs u) 6) eNil)=j6 (xjo call hs u rec0) 1 5 6 14 15 16:=by kernel_rfl
theorem x1hp:x21d call hs u xsx (j1 (x38 call hs u) 6) (setE 0 (j1 (x38 call hs u) 6) eNil)=j6 (x67 call hs u NN) 1 5 6 14 15 16:=lp (Ln:=fun n=>j6 (x67 call hs u n) 1 5 6 14 15 16) fun n=>tr x1ho
theorem x1hq:x21d call hs u xsw (j1 (x38 call hs u) 6) eNil=j6 (x67 call hs u NN) 1 5 6 14 15 16:=bk x1hp
theorem x1hr:x21d call hs u xsv (j1 (x38 call hs u) 6) eNil=j4 (xcu call hs u) 1 2 5 6:=tr (sqN 1 x1hq)
theorem x1hs:x21d call hs u xgm r_1 eNil=j4 (xcu call hs u) 1 2 5 6:=sq2 x1hn x1hr
theorem x14b:x21d call hs u xsu r_1 eNil=j2 (xjp call hs u) 0 1:=tr (sqN 3 x1hs)
noncomputable abbrev x1zu:=VX x54 38 r_1
noncomputable def xsy:=x1x2 x54
noncomputable def xgn:=nRs 5 xsy
noncomputable def xsz:=nL xgn
noncomputable def x1ht:=nR xgn
noncomputable def xt0:=nR xsz
noncomputable def xt1:=nR xt0
noncomputable def xt2:=nR xt1
noncomputable def xgo:=nRs 2 xt2
noncomputable def x1hu:=nL xgo
noncomputable def x1hv:=nR xgo
theorem x1hw:x1zu call hs u x1ht r_1 eNil=j1 (x1e call hs u) 5:=by kernel_rfl
theorem x1hx{rec0:AV->AV->AV->AV->AV->Mem->Nat->O2}:x1zu call hs u x1hv (j5 rec0 5 6 8 24 25) (setE 0 (j1 (x1e call hs u) 5) eNil)=j5 (xa0 call hs u rec0) 5 6 8 24 25:=by kernel_rfl
theorem x1hy{rec0:AV->AV->AV->AV->AV->Mem->Nat->O2}:x1zu call hs u x1hu (j5 (xa0 call hs u rec0) 5 6 8 24 25) (setE 0 (j1 (x1e call hs u) 5) eNil)=j5 (xcv call hs u rec0) 5 6 8 24 25:=by kernel_rfl
theorem x1hz{rec0:AV->AV->AV->AV->AV->Mem->Nat->O2}:x1zu call hs u xgo (j5 rec0 5 6 8 24 25) (setE 0 (j1 (x1e call hs u) 5) eNil)=j5 (xcv call hs u rec0) 5 6 8 24 25:=sq2 x1hx x1hy
theorem x1i0{rec0:AV->AV->AV->AV->AV->Mem->Nat->O2}:x1zu call hs u xt2 (j5 rec0 5 6 8 24 25) (setE 0 (j1 (x1e call hs u) 5) eNil)=j5 (xjq call hs u rec0) 5 6 8 24 25:=tr (sqN 2 x1hz)
theorem x1i1:x1zu call hs u xt1 (j1 (x1e call hs u) 5) (setE 0 (j1 (x1e call hs u) 5) eNil)=j5 (x68 call hs u NN) 5 6 8 24 25:=lp (Ln:=fun n=>j5 (x68 call hs u n) 5 6 8 24 25) fun n=>tr x1i0
theorem x1i2:x1zu call hs u xt0 (j1 (x1e call hs u) 5) eNil=j5 (x68 call hs u NN) 5 6 8 24 25:=bk x1i1
theorem x1i3:x1zu call hs u xsz (j1 (x1e call hs u) 5) eNil=j3 (xcw call hs u) 5 6 8:=tr (sqN 1 x1i2)
theorem x1i4:x1zu call hs u xgn r_1 eNil=j3 (xcw call hs u) 5 6 8:=sq2 x1hw x1i3
theorem x14c:x1zu call hs u xsy r_1 eNil=j2 (xjr call hs u) 0 1:=tr (sqN 5 x1i4)
noncomputable abbrev x1zv:=VX x8g 30 r_1
noncomputable def xt3:=x1x2 x8g
noncomputable def xgp:=nRs 2 xt3
noncomputable def xt4:=nL xgp
noncomputable def x1i5:=nR xgp
noncomputable def xt5:=nR xt4
noncomputable def xt6:=nR xt5
noncomputable def xt7:=nR xt6
noncomputable def xgq:=nRs 2 xt7
noncomputable def x1i6:=nL xgq
noncomputable def x1i7:=nR xgq
theorem x1i8:x1zv call hs u x1i5 r_1 eNil=j1 (x1f call hs u) 5:=by kernel_rfl
theorem x1i9{rec0:AV->AV->AV->AV->AV->Mem->Nat->O2}:x1zv call hs u x1i7 (j5 rec0 1 5 15 16 17) (setE 0 (j1 (x1f call hs u) 5) eNil)=j5 (xa1 call hs u rec0) 1 5 15 16 17:=by kernel_rfl
theorem x1ia{rec0:AV->AV->AV->AV->AV->Mem->Nat->O2}:x1zv call hs u x1i6 (j5 (xa1 call hs u rec0) 1 5 15 16 17) (setE 0 (j1 (x1f call hs u) 5) eNil)=j5 (xcx call hs u rec0) 1 5 15 16 17:=by kernel_rfl
theorem x1ib{rec0:AV->AV->AV->AV->AV->Mem->Nat->O2}:x1zv call hs u xgq (j5 rec0 1 5 15 16 17) (setE 0 (j1 (x1f call hs u) 5) eNil)=j5 (xcx call hs u rec0) 1 5 15 16 17:=sq2 x1i9 x1ia
theorem x1ic{rec0:AV->AV->AV->AV->AV->Mem->Nat->O2}:x1zv call hs u xt7 (j5 rec0 1 5 15 16 17) (setE 0 (j1 (x1f call hs u) 5) eNil)=j5 (xjt call hs u rec0) 1 5 15 16 17:=tr (sqN 2 x1ib)
theorem x1id:x1zv call hs u xt6 (j1 (x1f call hs u) 5) (setE 0 (j1 (x1f call hs u) 5) eNil)=j5 (x69 call hs u NN) 1 5 15 16 17:=lp (Ln:=fun n=>j5 (x69 call hs u n) 1 5 15 16 17) fun n=>tr x1ic
theorem x1ie:x1zv call hs u xt5 (j1 (x1f call hs u) 5) eNil=j5 (x69 call hs u NN) 1 5 15 16 17:=bk x1id
theorem x1if:x1zv call hs u xt4 (j1 (x1f call hs u) 5) eNil=j3 (xcy call hs u) 1 2 5:=tr (sqN 1 x1ie)
theorem x1ig:x1zv call hs u xgp r_1 eNil=j3 (xcy call hs u) 1 2 5:=sq2 x1i8 x1if
theorem x14d:x1zv call hs u xt3 r_1 eNil=j2 (xju call hs u) 0 1:=tr (sqN 2 x1ig)
noncomputable abbrev x21e:=VX x2a 42 r_5
noncomputable def xt8:=x1x2 x2a
noncomputable def xgr:=nRs 2 xt8
noncomputable def xt9:=nL xgr
noncomputable def x1ih:=nR xgr
noncomputable def xta:=nR xt9
noncomputable def xtb:=nR xta
noncomputable def x1ii:=nR xtb
theorem x1ij:x21e call hs u x1ih r_5 eNil=j0 (x2g call hs u):=by kernel_rfl
theorem x1ik{rec0:AV->AV->AV->AV->Mem->Nat->O2}:x21e call hs u x1ii (j4 rec0 0 9 10 11) (setE 0 (j0 (x2g call hs u)) eNil)=j4 (xa2 call hs u rec0) 0 9 10 11:=by kernel_rfl
theorem x1il:x21e call hs u xtb (j0 (x2g call hs u)) (setE 0 (j0 (x2g call hs u)) eNil)=j4 (x21 call hs u NN) 0 9 10 11:=lp (Ln:=fun n=>j4 (x21 call hs u n) 0 9 10 11) fun n=>tr x1ik
theorem x1im:x21e call hs u xta (j0 (x2g call hs u)) eNil=j4 (x21 call hs u NN) 0 9 10 11:=bk x1il
theorem x1in:x21e call hs u xt9 (j0 (x2g call hs u)) eNil=j1 (xa3 call hs u) 0:=tr (sqN 1 x1im)
theorem x1io:x21e call hs u xgr r_5 eNil=j1 (xa3 call hs u) 0:=sq2 x1ij x1in
theorem x14e:x21e call hs u xt8 r_5 eNil=j1 (xcz call hs u) 0:=tr (sqN 2 x1io)
noncomputable abbrev x29x:=VX x19 10 r_1
noncomputable def x1ip:=x1x2 x19
theorem x14f:x29x call hs u x1ip r_1 eNil=j2 (xd0 call hs u) 0 1:=by kernel_rfl
noncomputable abbrev x21f:=VX x3w 55 r_6
noncomputable def xtc:=x1x2 x3w
noncomputable def xgs:=nRs 2 xtc
noncomputable def xtd:=nL xgs
noncomputable def x1iq:=nR xgs
noncomputable def xte:=nR xtd
noncomputable def xtf:=nR xte
noncomputable def x1ir:=nR xtf
theorem x1is:x21f call hs u x1iq r_6 eNil=j0 (x2h call hs u):=by kernel_rfl
theorem x1it{rec0:AV->AV->Mem->Nat->O2}:x21f call hs u x1ir (j2 rec0 0 3) (setE 0 (j0 (x2h call hs u)) eNil)=j2 (xa4 call hs u rec0) 0 3:=by kernel_rfl
theorem x1iu:x21f call hs u xtf (j0 (x2h call hs u)) (setE 0 (j0 (x2h call hs u)) eNil)=j2 (x22 call hs u NN) 0 3:=lp (Ln:=fun n=>j2 (x22 call hs u n) 0 3) fun n=>tr x1it
theorem x1iv:x21f call hs u xte (j0 (x2h call hs u)) eNil=j2 (x22 call hs u NN) 0 3:=bk x1iu
theorem x1iw:x21f call hs u xtd (j0 (x2h call hs u)) eNil=j1 (xa5 call hs u) 0:=tr (sqN 1 x1iv)
theorem x1ix:x21f call hs u xgs r_6 eNil=j1 (xa5 call hs u) 0:=sq2 x1is x1iw
theorem x14g:x21f call hs u xtc r_6 eNil=j1 (xd1 call hs u) 0:=tr (sqN 2 x1ix)
noncomputable abbrev x29y:=VX x1v 11 r_6
noncomputable def x1iy:=x1x2 x1v
theorem x14h:x29y call hs u x1iy r_6 eNil=j1 (xd2 call hs u) 0:=by kernel_rfl
noncomputable abbrev x21g:=VX x3x 15 r_6
noncomputable def xtg:=x1x2 x3x
noncomputable def xgt:=nRs 2 xtg
noncomputable def xth:=nL xgt
noncomputable def x1iz:=nR xgt
noncomputable def xti:=nR xth
noncomputable def xtj:=nR xti
noncomputable def x1j0:=nR xtj
theorem x1j1:x21g call hs u x1iz r_6 eNil=j1 (x3a call hs u) 3:=by kernel_rfl
theorem x1j2{rec0:AV->AV->AV->Mem->Nat->O2}:x21g call hs u x1j0 (j3 rec0 3 5 6) (setE 0 (j1 (x3a call hs u) 3) eNil)=j3 (xjv call hs u rec0) 3 5 6:=by kernel_rfl
theorem x1j3:x21g call hs u xtj (j1 (x3a call hs u) 3) (setE 0 (j1 (x3a call hs u) 3) eNil)=j3 (x6a call hs u NN) 3 5 6:=lp (Ln:=fun n=>j3 (x6a call hs u n) 3 5 6) fun n=>tr x1j2
theorem x1j4:x21g call hs u xti (j1 (x3a call hs u) 3) eNil=j3 (x6a call hs u NN) 3 5 6:=bk x1j3
theorem x1j5:x21g call hs u xth (j1 (x3a call hs u) 3) eNil=j2 (xd3 call hs u) 0 3:=tr (sqN 1 x1j4)
theorem x1j6:x21g call hs u xgt r_6 eNil=j2 (xd3 call hs u) 0 3:=sq2 x1j1 x1j5
theorem x14i:x21g call hs u xtg r_6 eNil=j1 (xjw call hs u) 0:=tr (sqN 2 x1j6)
noncomputable abbrev x1zw:=VX x3y 44 r_1
noncomputable def xtk:=x1x2 x3y
noncomputable def xgu:=nRs 2 xtk
noncomputable def xtl:=nL xgu
noncomputable def x1j7:=nR xgu
noncomputable def xtm:=nR xtl
noncomputable def xtn:=nR xtm
noncomputable def xto:=nR xtn
noncomputable def xgv:=nRs 2 xto
noncomputable def x1j8:=nL xgv
noncomputable def x1j9:=nR xgv
theorem x1ja:x1zw call hs u x1j7 r_1 eNil=j2 (x1g call hs u) 5 6:=by kernel_rfl
theorem x1jb{rec0:AV->AV->AV->AV->AV->AV->Mem->Nat->O2}:x1zw call hs u x1j9 (j6 rec0 0 5 6 19 20 21) (setE 0 (j2 (x1g call hs u) 5 6) eNil)=j6 (xa6 call hs u rec0) 0 5 6 19 20 21:=by kernel_rfl
theorem x1jc{rec0:AV->AV->AV->AV->AV->AV->Mem->Nat->O2}:x1zw call hs u x1j8 (j6 (xa6 call hs u rec0) 0 5 6 19 20 21) (setE 0 (j2 (x1g call hs u) 5 6) eNil)=j6 (xd4 call hs u rec0) 0 5 6 19 20 21:=by kernel_rfl
theorem x1jd{rec0:AV->AV->AV->AV->AV->AV->Mem->Nat->O2}:x1zw call hs u xgv (j6 rec0 0 5 6 19 20 21) (setE 0 (j2 (x1g call hs u) 5 6) eNil)=j6 (xd4 call hs u rec0) 0 5 6 19 20 21:=sq2 x1jb x1jc
theorem x1je{rec0:AV->AV->AV->AV->AV->AV->Mem->Nat->O2}:x1zw call hs u xto (j6 rec0 0 5 6 19 20 21) (setE 0 (j2 (x1g call hs u) 5 6) eNil)=j6 (xjx call hs u rec0) 0 5 6 19 20 21:=tr (sqN 2 x1jd)
theorem x1jf:x1zw call hs u xtn (j2 (x1g call hs u) 5 6) (setE 0 (j2 (x1g call hs u) 5 6) eNil)=j6 (x6b call hs u NN) 0 5 6 19 20 21:=lp (Ln:=fun n=>j6 (x6b call hs u n) 0 5 6 19 20 21) fun n=>tr x1je
theorem x1jg:x1zw call hs u xtm (j2 (x1g call hs u) 5 6) eNil=j6 (x6b call hs u NN) 0 5 6 19 20 21:=bk x1jf
theorem x1jh:x1zw call hs u xtl (j2 (x1g call hs u) 5 6) eNil=j3 (xd5 call hs u) 0 5 6:=tr (sqN 1 x1jg)
theorem x1ji:x1zw call hs u xgu r_1 eNil=j3 (xd5 call hs u) 0 5 6:=sq2 x1ja x1jh
theorem x14j:x1zw call hs u xtk r_1 eNil=j2 (xjz call hs u) 0 1:=tr (sqN 2 x1ji)
noncomputable abbrev x29z:=VX x8h 9 r_1
noncomputable def x1jj:=x1x2 x8h
theorem x14k:x29z call hs u x1jj r_1 eNil=j2 (xk0 call hs u) 0 1:=by kernel_rfl
noncomputable abbrev x2a0:=VX x8i 15 r_13
noncomputable def x1jk:=x1x2 x8i
theorem x14l:x2a0 call hs u x1jk r_13 eNil=j2 (xk1 call hs u) 0 1:=by kernel_rfl
noncomputable abbrev x21h:=VX x55 21 r_1
noncomputable def xtp:=x1x2 x55
noncomputable def xgw:=nRs 2 xtp
noncomputable def xtq:=nL xgw
noncomputable def x1jl:=nR xgw
noncomputable def xtr:=nR xtq
noncomputable def xts:=nR xtr
noncomputable def x1jm:=nR xts
theorem x1jn:x21h call hs u x1jl r_1 eNil=j1 (x3b call hs u) 5:=by kernel_rfl
theorem x1jo{rec0:AV->AV->AV->AV->AV->Mem->Nat->O2}:x21h call hs u x1jm (j5 rec0 2 5 8 9 10) (setE 0 (j1 (x3b call hs u) 5) eNil)=j5 (xk2 call hs u rec0) 2 5 8 9 10:=by kernel_rfl
theorem x1jp:x21h call hs u xts (j1 (x3b call hs u) 5) (setE 0 (j1 (x3b call hs u) 5) eNil)=j5 (x6c call hs u NN) 2 5 8 9 10:=lp (Ln:=fun n=>j5 (x6c call hs u n) 2 5 8 9 10) fun n=>tr x1jo
theorem x1jq:x21h call hs u xtr (j1 (x3b call hs u) 5) eNil=j5 (x6c call hs u NN) 2 5 8 9 10:=bk x1jp
theorem x1jr:x21h call hs u xtq (j1 (x3b call hs u) 5) eNil=j3 (xd6 call hs u) 1 2 5:=tr (sqN 1 x1jq)
theorem x1js:x21h call hs u xgw r_1 eNil=j3 (xd6 call hs u) 1 2 5:=sq2 x1jn x1jr
theorem x14m:x21h call hs u xtp r_1 eNil=j2 (xk3 call hs u) 0 1:=tr (sqN 2 x1js)
noncomputable abbrev x1yr:=VX x3z 73 r_5
noncomputable def xtt:=x1x2 x3z
noncomputable def xgx:=nRs 3 xtt
noncomputable def xtu:=nL xgx
noncomputable def x1jt:=nR xgx
noncomputable def xtv:=nR xtu
noncomputable def xtw:=nR xtv
noncomputable def xtx:=nR xtw
noncomputable def xgy:=nR xtx
noncomputable def xty:=nL xgy
noncomputable def x1ju:=nR xgy
noncomputable def xtz:=nR xty
noncomputable def xu0:=nRs 4 xtz
noncomputable def xu1:=nR xu0
noncomputable def x1jv:=nR xu1
theorem x1jw:x1yr call hs u x1jt r_5 eNil=j0 (xr call hs u):=by kernel_rfl
theorem x1jx{rec0:AV->AV->Mem->Nat->O2}:x1yr call hs u x1ju (j2 rec0 1 6) (setE 0 (j0 (xr call hs u)) eNil)=j2 (x11 call hs u rec0) 1 6:=by kernel_rfl
theorem x1jy{rec0:AV->AV->Mem->Nat->O2}{rec1:AV->AV->AV->AV->Mem->Nat->O2}:x1yr call hs u x1jv (j4 rec1 1 6 7 8) (setE 2 (j2 (x11 call hs u rec0) 1 6) (setE 1 (j2 (x11 call hs u rec0) 1 6) (setE 0 (j0 (xr call hs u)) eNil)))=j4 (xa7 call hs u rec0 rec1) 1 6 7 8:=by kernel_rfl
theorem x1jz{rec0:AV->AV->Mem->Nat->O2}:x1yr call hs u xu1 (j2 (x11 call hs u rec0) 1 6) (setE 2 (j2 (x11 call hs u rec0) 1 6) (setE 1 (j2 (x11 call hs u rec0) 1 6) (setE 0 (j0 (xr call hs u)) eNil)))=j4 (x23 call hs u rec0 NN) 1 6 7 8:=lp (Ln:=fun n=>j4 (x23 call hs u rec0 n) 1 6 7 8) fun n=>tr x1jy
theorem x1k0{rec0:AV->AV->Mem->Nat->O2}:x1yr call hs u xu0 (j2 (x11 call hs u rec0) 1 6) (setE 1 (j2 (x11 call hs u rec0) 1 6) (setE 0 (j0 (xr call hs u)) eNil))=j4 (x23 call hs u rec0 NN) 1 6 7 8:=bk x1jz
theorem x1k1{rec0:AV->AV->Mem->Nat->O2}:x1yr call hs u xtz (j2 (x11 call hs u rec0) 1 6) (setE 1 (j2 (x11 call hs u rec0) 1 6) (setE 0 (j0 (xr call hs u)) eNil))=j2 (x6d call hs u rec0) 1 6:=tr (sqN 4 x1k0)
theorem x1k2{rec0:AV->AV->Mem->Nat->O2}:x1yr call hs u xty (j2 (x11 call hs u rec0) 1 6) (setE 0 (j0 (xr call hs u)) eNil)=j2 (x6d call hs u rec0) 1 6:=bk x1k1
theorem x1k3{rec0:AV->AV->Mem->Nat->O2}:x1yr call hs u xgy (j2 rec0 1 6) (setE 0 (j0 (xr call hs u)) eNil)=j2 (x6d call hs u rec0) 1 6:=sq2 x1jx x1k2
theorem x1k4{rec0:AV->AV->Mem->Nat->O2}:x1yr call hs u xtx (j2 rec0 1 6) (setE 0 (j0 (xr call hs u)) eNil)=j2 (xa8 call hs u rec0) 1 6:=tr (sqN 1 x1k3)
theorem x1k5:x1yr call hs u xtw (j0 (xr call hs u)) (setE 0 (j0 (xr call hs u)) eNil)=j2 (x1h call hs u NN) 1 6:=lp (Ln:=fun n=>j2 (x1h call hs u n) 1 6) fun n=>tr x1k4
theorem x1k6:x1yr call hs u xtv (j0 (xr call hs u)) eNil=j2 (x1h call hs u NN) 1 6:=bk x1k5
theorem x1k7:x1yr call hs u xtu (j0 (xr call hs u)) eNil=j1 (xa9 call hs u) 1:=tr (sqN 1 x1k6)
theorem x1k8:x1yr call hs u xgx r_5 eNil=j1 (xa9 call hs u) 1:=sq2 x1jw x1k7
theorem x14n:x1yr call hs u xtt r_5 eNil=j1 (xd7 call hs u) 0:=tr (sqN 3 x1k8)
noncomputable abbrev x1xw:=VX x56 68 r_1
noncomputable def xu2:=x1x2 x56
noncomputable def xgz:=nRs 2 xu2
noncomputable def xu3:=nL xgz
noncomputable def xh0:=nR xgz
noncomputable def xu4:=nL xh0
noncomputable def x1k9:=nR xh0
noncomputable def xu5:=nR xu4
noncomputable def xu6:=nR xu5
noncomputable def xu7:=nR xu6
noncomputable def xh1:=nR xu7
noncomputable def xu8:=nL xh1
noncomputable def x1ka:=nR xh1
noncomputable def xu9:=nR xu8
noncomputable def xua:=nRs 3 xu9
noncomputable def xub:=nR xua
noncomputable def xuc:=nR xub
noncomputable def xh2:=nR xuc
noncomputable def x1kb:=nL xh2
noncomputable def x1kc:=nR xh2
noncomputable def xud:=nR xu3
noncomputable def xue:=nR xud
noncomputable def x1kd:=nR xue
theorem x1ke:x1xw call hs u x1k9 r_1 eNil=j1 (xi call hs u) 5:=by kernel_rfl
theorem x1kf{rec0:AV->AV->AV->AV->Mem->Nat->O2}:x1xw call hs u x1ka (j4 rec0 1 2 5 7) (setE 2 (j1 (xi call hs u) 5) eNil)=j4 (xe call hs u rec0) 1 2 5 7:=by kernel_rfl
theorem x1kg{rec0:AV->AV->AV->AV->Mem->Nat->O2}{rec1:AV->AV->AV->AV->AV->AV->AV->Mem->Nat->O2}:x1xw call hs u x1kc (j7 rec1 1 2 5 7 9 10 11) (setE 4 (j4 (xe call hs u rec0) 1 2 5 7) (setE 3 (j4 (xe call hs u rec0) 1 2 5 7) (setE 2 (j1 (xi call hs u) 5) eNil)))=j7 (xaa call hs u rec0 rec1) 1 2 5 7 9 10 11:=by kernel_rfl
theorem x1kh{rec0:AV->AV->AV->AV->Mem->Nat->O2}{rec1:AV->AV->AV->AV->AV->AV->AV->Mem->Nat->O2}:x1xw call hs u x1kb (j7 (xaa call hs u rec0 rec1) 1 2 5 7 9 10 11) (setE 4 (j4 (xe call hs u rec0) 1 2 5 7) (setE 3 (j4 (xe call hs u rec0) 1 2 5 7) (setE 2 (j1 (xi call hs u) 5) eNil)))=j7 (xd8 call hs u rec0 rec1) 1 2 5 7 9 10 11:=by kernel_rfl
theorem x1ki{rec0:AV->AV->AV->AV->Mem->Nat->O2}{rec1:AV->AV->AV->AV->AV->AV->AV->Mem->Nat->O2}:x1xw call hs u xh2 (j7 rec1 1 2 5 7 9 10 11) (setE 4 (j4 (xe call hs u rec0) 1 2 5 7) (setE 3 (j4 (xe call hs u rec0) 1 2 5 7) (setE 2 (j1 (xi call hs u) 5) eNil)))=j7 (xd8 call hs u rec0 rec1) 1 2 5 7 9 10 11:=sq2 x1kg x1kh
theorem x1kj{rec0:AV->AV->AV->AV->Mem->Nat->O2}{rec1:AV->AV->AV->AV->AV->AV->AV->Mem->Nat->O2}:x1xw call hs u xuc (j7 rec1 1 2 5 7 9 10 11) (setE 4 (j4 (xe call hs u rec0) 1 2 5 7) (setE 3 (j4 (xe call hs u rec0) 1 2 5 7) (setE 2 (j1 (xi call hs u) 5) eNil)))=j7 (xk4 call hs u rec0 rec1) 1 2 5 7 9 10 11:=tr (sqN 1 x1ki)
theorem x1kk{rec0:AV->AV->AV->AV->Mem->Nat->O2}:x1xw call hs u xub (j4 (xe call hs u rec0) 1 2 5 7) (setE 4 (j4 (xe call hs u rec0) 1 2 5 7) (setE 3 (j4 (xe call hs u rec0) 1 2 5 7) (setE 2 (j1 (xi call hs u) 5) eNil)))=j7 (x6e call hs u rec0 NN) 1 2 5 7 9 10 11:=lp (Ln:=fun n=>j7 (x6e call hs u rec0 n) 1 2 5 7 9 10 11) fun n=>tr x1kj
theorem x1kl{rec0:AV->AV->AV->AV->Mem->Nat->O2}:x1xw call hs u xua (j4 (xe call hs u rec0) 1 2 5 7) (setE 3 (j4 (xe call hs u rec0) 1 2 5 7) (setE 2 (j1 (xi call hs u) 5) eNil))=j7 (x6e call hs u rec0 NN) 1 2 5 7 9 10 11:=bk x1kk
theorem x1km{rec0:AV->AV->AV->AV->Mem->Nat->O2}:x1xw call hs u xu9 (j4 (xe call hs u rec0) 1 2 5 7) (setE 3 (j4 (xe call hs u rec0) 1 2 5 7) (setE 2 (j1 (xi call hs u) 5) eNil))=j4 (xab call hs u rec0) 1 2 5 7:=tr (sqN 3 x1kl)
theorem x1kn{rec0:AV->AV->AV->AV->Mem->Nat->O2}:x1xw call hs u xu8 (j4 (xe call hs u rec0) 1 2 5 7) (setE 2 (j1 (xi call hs u) 5) eNil)=j4 (xab call hs u rec0) 1 2 5 7:=bk x1km
theorem x1ko{rec0:AV->AV->AV->AV->Mem->Nat->O2}:x1xw call hs u xh1 (j4 rec0 1 2 5 7) (setE 2 (j1 (xi call hs u) 5) eNil)=j4 (xab call hs u rec0) 1 2 5 7:=sq2 x1kf x1kn
theorem x1kp{rec0:AV->AV->AV->AV->Mem->Nat->O2}:x1xw call hs u xu7 (j4 rec0 1 2 5 7) (setE 2 (j1 (xi call hs u) 5) eNil)=j4 (xk5 call hs u rec0) 1 2 5 7:=tr (sqN 1 x1ko)
theorem x1kq:x1xw call hs u xu6 (j1 (xi call hs u) 5) (setE 2 (j1 (xi call hs u) 5) eNil)=j4 (x6f call hs u NN) 1 2 5 7:=lp (Ln:=fun n=>j4 (x6f call hs u n) 1 2 5 7) fun n=>tr x1kp
theorem x1kr:x1xw call hs u xu5 (j1 (xi call hs u) 5) eNil=j4 (x6f call hs u NN) 1 2 5 7:=bk x1kq
theorem x1ks:x1xw call hs u xu4 (j1 (xi call hs u) 5) eNil=j3 (x2i call hs u) 1 2 5:=tr (sqN 1 x1kr)
theorem x1kt:x1xw call hs u xh0 r_1 eNil=j3 (x2i call hs u) 1 2 5:=sq2 x1ke x1ks
theorem x1ku{rec2:AV->AV->AV->AV->Mem->Nat->O2}:x1xw call hs u x1kd (j4 rec2 1 2 5 6) (setE 0 (j3 (x2i call hs u) 1 2 5) eNil)=j4 (xk6 call hs u rec2) 1 2 5 6:=by kernel_rfl
theorem x1kv:x1xw call hs u xue (j3 (x2i call hs u) 1 2 5) (setE 0 (j3 (x2i call hs u) 1 2 5) eNil)=j4 (x6g call hs u NN) 1 2 5 6:=lp (Ln:=fun n=>j4 (x6g call hs u n) 1 2 5 6) fun n=>tr x1ku
theorem x1kw:x1xw call hs u xud (j3 (x2i call hs u) 1 2 5) eNil=j4 (x6g call hs u NN) 1 2 5 6:=bk x1kv
theorem x1kx:x1xw call hs u xu3 (j3 (x2i call hs u) 1 2 5) eNil=j3 (xd9 call hs u) 1 2 5:=tr (sqN 1 x1kw)
theorem x1ky:x1xw call hs u xgz r_1 eNil=j3 (xd9 call hs u) 1 2 5:=sq2 x1kt x1kx
theorem x14o:x1xw call hs u xu2 r_1 eNil=j2 (xk7 call hs u) 0 1:=tr (sqN 2 x1ky)
noncomputable abbrev x2a1:=VX x40 9 r_1
noncomputable def x1kz:=x1x2 x40
theorem x14p:x2a1 call hs u x1kz r_1 eNil=j2 (xk8 call hs u) 0 1:=by kernel_rfl
noncomputable abbrev x2a2:=VX x57 15 r_14
noncomputable def x1l0:=x1x2 x57
theorem x14q:x2a2 call hs u x1l0 r_14 eNil=j1 (xk9 call hs u) 0:=by kernel_rfl
noncomputable abbrev x2a3:=VX x8j 16 r_5
noncomputable def x1l1:=x1x2 x8j
theorem x14r:x2a3 call hs u x1l1 r_5 eNil=j1 (xka call hs u) 0:=by kernel_rfl
noncomputable abbrev x2a4:=VX x8k 33 r_9
noncomputable def x1l2:=x1x2 x8k
theorem x14s:x2a4 call hs u x1l2 r_9 eNil=j1 (xkb call hs u) 0:=by kernel_rfl
noncomputable abbrev x2a5:=VX x58 7 r_6
noncomputable def x1l3:=x1x2 x58
theorem x14t:x2a5 call hs u x1l3 r_6 eNil=j1 (xkc call hs u) 0:=by kernel_rfl
noncomputable abbrev x2a6:=VX x2y 25 r_7
noncomputable def x1l4:=x1x2 x2y
theorem x14u:x2a6 call hs u x1l4 r_7 eNil=j2 (xda call hs u) 0 1:=by kernel_rfl
noncomputable abbrev x2a7:=VX x41 24 r_7
noncomputable def x1l5:=x1x2 x41
theorem x14v:x2a7 call hs u x1l5 r_7 eNil=j2 (xdb call hs u) 0 1:=by kernel_rfl
noncomputable abbrev x1yf:=VX x59 51 r_6
noncomputable def xuf:=x1x2 x59
noncomputable def xh3:=nRs 2 xuf
noncomputable def xug:=nL xh3
noncomputable def xuh:=nR xh3
noncomputable def xh4:=nRs 2 xuh
noncomputable def xui:=nL xh4
noncomputable def x1l6:=nR xh4
noncomputable def xuj:=nR xui
noncomputable def xuk:=nR xuj
noncomputable def xul:=nR xuk
noncomputable def xh5:=nRs 2 xul
noncomputable def x1l7:=nL xh5
noncomputable def x1l8:=nR xh5
noncomputable def xum:=nR xug
noncomputable def xun:=nR xum
noncomputable def x1l9:=nR xun
theorem x1la:x1yf call hs u x1l6 r_6 eNil=j1 (x1i call hs u) 4:=by kernel_rfl
theorem x1lb{rec0:AV->AV->AV->AV->AV->AV->Mem->Nat->O2}:x1yf call hs u x1l8 (j6 rec0 1 4 6 29 30 31) (setE 2 (j1 (x1i call hs u) 4) eNil)=j6 (xad call hs u rec0) 1 4 6 29 30 31:=by kernel_rfl
theorem x1lc{rec0:AV->AV->AV->AV->AV->AV->Mem->Nat->O2}:x1yf call hs u x1l7 (j6 (xad call hs u rec0) 1 4 6 29 30 31) (setE 2 (j1 (x1i call hs u) 4) eNil)=j6 (xdc call hs u rec0) 1 4 6 29 30 31:=by kernel_rfl
theorem x1ld{rec0:AV->AV->AV->AV->AV->AV->Mem->Nat->O2}:x1yf call hs u xh5 (j6 rec0 1 4 6 29 30 31) (setE 2 (j1 (x1i call hs u) 4) eNil)=j6 (xdc call hs u rec0) 1 4 6 29 30 31:=sq2 x1lb x1lc
theorem x1le{rec0:AV->AV->AV->AV->AV->AV->Mem->Nat->O2}:x1yf call hs u xul (j6 rec0 1 4 6 29 30 31) (setE 2 (j1 (x1i call hs u) 4) eNil)=j6 (xkd call hs u rec0) 1 4 6 29 30 31:=tr (sqN 2 x1ld)
theorem x1lf:x1yf call hs u xuk (j1 (x1i call hs u) 4) (setE 2 (j1 (x1i call hs u) 4) eNil)=j6 (x6h call hs u NN) 1 4 6 29 30 31:=lp (Ln:=fun n=>j6 (x6h call hs u n) 1 4 6 29 30 31) fun n=>tr x1le
theorem x1lg:x1yf call hs u xuj (j1 (x1i call hs u) 4) eNil=j6 (x6h call hs u NN) 1 4 6 29 30 31:=bk x1lf
theorem x1lh:x1yf call hs u xui (j1 (x1i call hs u) 4) eNil=j4 (xdd call hs u) 1 3 4 6:=tr (sqN 1 x1lg)
theorem x1li:x1yf call hs u xh4 r_6 eNil=j4 (xdd call hs u) 1 3 4 6:=sq2 x1la x1lh
theorem x1lj:x1yf call hs u xuh r_6 eNil=j3 (x3c call hs u) 1 3 4:=tr (sqN 2 x1li)
theorem x1lk{rec1:AV->AV->AV->AV->AV->Mem->Nat->O2}:x1yf call hs u x1l9 (j5 rec1 1 3 4 12 13) (setE 0 (j3 (x3c call hs u) 1 3 4) eNil)=j5 (xke call hs u rec1) 1 3 4 12 13:=by kernel_rfl
theorem x1ll:x1yf call hs u xun (j3 (x3c call hs u) 1 3 4) (setE 0 (j3 (x3c call hs u) 1 3 4) eNil)=j5 (x6i call hs u NN) 1 3 4 12 13:=lp (Ln:=fun n=>j5 (x6i call hs u n) 1 3 4 12 13) fun n=>tr x1lk
theorem x1lm:x1yf call hs u xum (j3 (x3c call hs u) 1 3 4) eNil=j5 (x6i call hs u NN) 1 3 4 12 13:=bk x1ll
theorem x1ln:x1yf call hs u xug (j3 (x3c call hs u) 1 3 4) eNil=j3 (xde call hs u) 1 3 4:=tr (sqN 1 x1lm)
theorem x1lo:x1yf call hs u xh3 r_6 eNil=j3 (xde call hs u) 1 3 4:=sq2 x1lj x1ln
theorem x14w:x1yf call hs u xuf r_6 eNil=j1 (xkf call hs u) 0:=tr (sqN 2 x1lo)
noncomputable abbrev x2a8:=VX x8l 6 r_6
noncomputable def x1lp:=x1x2 x8l
theorem x14x:x2a8 call hs u x1lp r_6 eNil=j1 (xkg call hs u) 0:=by kernel_rfl
noncomputable abbrev x2a9:=VX x8m 6 r_6
noncomputable def x1lq:=x1x2 x8m
theorem x14y:x2a9 call hs u x1lq r_6 eNil=j1 (xkh call hs u) 0:=by kernel_rfl
noncomputable abbrev x256:=VX x42 43 r_15
noncomputable abbrev x27g:=VX (R:=Mem) x42 43 fNil
noncomputable def xuo:=x1x2 x42
noncomputable def xup:=nRs 3 xuo
noncomputable def xba:=nR xup
noncomputable def x1lr:=nL xba
noncomputable def x1ls:=nR xba
theorem x1lt:x27g call hs u x1ls (fun s=>some s.m) eNil=j7 (xdf call hs u) 1 4 5 6 7 8 9:=by kernel_rfl
theorem x1lu:x27g call hs u x1lr (j7 (xdf call hs u) 1 4 5 6 7 8 9) eNil=j7 (xki call hs u) 1 4 5 6 7 17 18:=by kernel_rfl
theorem x1lv:x256 call hs u xba r_15 (setE 0 r_15 eNil)=j6 (xdg call hs u) 1 4 5 6 7 16:=tr (rg (C:=xba) (c:={f:=x42,u:=u,nt:=43,hs:=hs}) (f:=(.tmp 16)) (ps:=#[17,18]) (fun u=>x1lt) (fun u=>x1lu))
theorem x1lw:x256 call hs u xup r_15 eNil=j6 (xdg call hs u) 1 4 5 6 7 16:=bk x1lv
theorem x14z:x256 call hs u xuo r_15 eNil=j7 (xkj call hs u) 0 1 2 3 4 5 6:=tr (sqN 3 x1lw)
noncomputable abbrev x2aa:=VX x8n 8 r_0
noncomputable def x1lx:=x1x2 x8n
theorem x150:x2aa call hs u x1lx r_0 eNil=j3 (xkk call hs u) 0 1 2:=by kernel_rfl
noncomputable abbrev x1yl:=VX x43 49 r_6
noncomputable def xuq:=x1x2 x43
noncomputable def xh6:=nRs 2 xuq
noncomputable def xur:=nL xh6
noncomputable def x1ly:=nR xh6
noncomputable def xus:=nR xur
noncomputable def xut:=nR xus
noncomputable def xuu:=nR xut
noncomputable def xh7:=nRs 2 xuu
noncomputable def xuv:=nL xh7
noncomputable def x1lz:=nR xh7
noncomputable def xuw:=nR xuv
noncomputable def xux:=nR xuw
noncomputable def xh8:=nR xux
noncomputable def x1m0:=nL xh8
noncomputable def x1m1:=nR xh8
theorem x1m2:x1yl call hs u x1ly r_6 eNil=j0 (xm call hs u):=by kernel_rfl
theorem x1m3{rec0:AV->AV->AV->Mem->Nat->O2}:x1yl call hs u x1lz (j3 rec0 13 14 15) (setE 0 (j0 (xm call hs u)) eNil)=j3 (xj call hs u rec0) 13 14 15:=by kernel_rfl
theorem x1m4{rec0:AV->AV->AV->Mem->Nat->O2}:x1yl call hs u x1m1 (j3 (xj call hs u rec0) 13 14 15) (setE 2 (j3 (xj call hs u rec0) 13 14 15) (setE 1 (j3 (xj call hs u rec0) 13 14 15) (setE 0 (j0 (xm call hs u)) eNil)))=j6 (x6j call hs u rec0) 3 4 13 14 15 20:=by kernel_rfl
theorem x1m5{rec0:AV->AV->AV->Mem->Nat->O2}:x1yl call hs u x1m0 (j6 (x6j call hs u rec0) 3 4 13 14 15 20) (setE 2 (j3 (xj call hs u rec0) 13 14 15) (setE 1 (j3 (xj call hs u rec0) 13 14 15) (setE 0 (j0 (xm call hs u)) eNil)))=j5 (x6k call hs u rec0) 3 4 13 14 15:=by kernel_rfl
theorem x1m6{rec0:AV->AV->AV->Mem->Nat->O2}:x1yl call hs u xh8 (j3 (xj call hs u rec0) 13 14 15) (setE 2 (j3 (xj call hs u rec0) 13 14 15) (setE 1 (j3 (xj call hs u rec0) 13 14 15) (setE 0 (j0 (xm call hs u)) eNil)))=j5 (x6k call hs u rec0) 3 4 13 14 15:=sq2 x1m4 x1m5
theorem x1m7{rec0:AV->AV->AV->Mem->Nat->O2}:x1yl call hs u xux (j3 (xj call hs u rec0) 13 14 15) (setE 1 (j3 (xj call hs u rec0) 13 14 15) (setE 0 (j0 (xm call hs u)) eNil))=j5 (x6k call hs u rec0) 3 4 13 14 15:=bk x1m6
theorem x1m8{rec0:AV->AV->AV->Mem->Nat->O2}:x1yl call hs u xuw (j3 (xj call hs u rec0) 13 14 15) (setE 1 (j3 (xj call hs u rec0) 13 14 15) (setE 0 (j0 (xm call hs u)) eNil))=j3 (x6l call hs u rec0) 13 14 15:=tr (sqN 1 x1m7)
theorem x1m9{rec0:AV->AV->AV->Mem->Nat->O2}:x1yl call hs u xuv (j3 (xj call hs u rec0) 13 14 15) (setE 0 (j0 (xm call hs u)) eNil)=j3 (x6l call hs u rec0) 13 14 15:=bk x1m8
theorem x1ma{rec0:AV->AV->AV->Mem->Nat->O2}:x1yl call hs u xh7 (j3 rec0 13 14 15) (setE 0 (j0 (xm call hs u)) eNil)=j3 (x6l call hs u rec0) 13 14 15:=sq2 x1m3 x1m9
theorem x1mb{rec0:AV->AV->AV->Mem->Nat->O2}:x1yl call hs u xuu (j3 rec0 13 14 15) (setE 0 (j0 (xm call hs u)) eNil)=j3 (xae call hs u rec0) 13 14 15:=tr (sqN 2 x1ma)
theorem x1mc:x1yl call hs u xut (j0 (xm call hs u)) (setE 0 (j0 (xm call hs u)) eNil)=j3 (x24 call hs u NN) 13 14 15:=lp (Ln:=fun n=>j3 (x24 call hs u n) 13 14 15) fun n=>tr x1mb
theorem x1md:x1yl call hs u xus (j0 (xm call hs u)) eNil=j3 (x24 call hs u NN) 13 14 15:=bk x1mc
theorem x1me:x1yl call hs u xur (j0 (xm call hs u)) eNil=j1 (xaf call hs u) 0:=tr (sqN 1 x1md)
theorem x1mf:x1yl call hs u xh6 r_6 eNil=j1 (xaf call hs u) 0:=sq2 x1m2 x1me
theorem x151:x1yl call hs u xuq r_6 eNil=j1 (xdh call hs u) 0:=tr (sqN 2 x1mf)
noncomputable abbrev x2ab:=VX x44 9 r_1
noncomputable def x1mg:=x1x2 x44
theorem x152:x2ab call hs u x1mg r_1 eNil=j2 (xdi call hs u) 0 1:=by kernel_rfl
noncomputable abbrev x2ac:=VX xk 9 r_13
noncomputable def x1mh:=x1x2 xk
theorem x153:x2ac call hs u x1mh r_13 eNil=j2 (xdj call hs u) 0 1:=by kernel_rfl
noncomputable abbrev x21i:=VX x45 66 r_5
noncomputable def xuy:=x1x2 x45
noncomputable def xh9:=nRs 4 xuy
noncomputable def xuz:=nL xh9
noncomputable def x1mi:=nR xh9
noncomputable def xv0:=nR xuz
noncomputable def xv1:=nR xv0
noncomputable def x1mj:=nR xv1
theorem x1mk:x21i call hs u x1mi r_5 eNil=j0 (x2j call hs u):=by kernel_rfl
theorem x1ml{rec0:AV->AV->AV->AV->AV->Mem->Nat->O2}:x21i call hs u x1mj (j5 rec0 1 6 26 27 28) (setE 0 (j0 (x2j call hs u)) eNil)=j5 (xag call hs u rec0) 1 6 26 27 28:=by kernel_rfl
theorem x1mm:x21i call hs u xv1 (j0 (x2j call hs u)) (setE 0 (j0 (x2j call hs u)) eNil)=j5 (x25 call hs u NN) 1 6 26 27 28:=lp (Ln:=fun n=>j5 (x25 call hs u n) 1 6 26 27 28) fun n=>tr x1ml
theorem x1mn:x21i call hs u xv0 (j0 (x2j call hs u)) eNil=j5 (x25 call hs u NN) 1 6 26 27 28:=bk x1mm
theorem x1mo:x21i call hs u xuz (j0 (x2j call hs u)) eNil=j2 (xah call hs u) 1 6:=tr (sqN 1 x1mn)
theorem x1mp:x21i call hs u xh9 r_5 eNil=j2 (xah call hs u) 1 6:=sq2 x1mk x1mo
theorem x154:x21i call hs u xuy r_5 eNil=j1 (xdl call hs u) 0:=tr (sqN 4 x1mp)
noncomputable abbrev x21j:=VX x8o 19 r_1
noncomputable def xv2:=x1x2 x8o
noncomputable def xha:=nR xv2
noncomputable def xv3:=nL xha
noncomputable def x1mq:=nR xha
noncomputable def xv4:=nR xv3
noncomputable def xv5:=nR xv4
noncomputable def x1mr:=nR xv5
theorem x1ms:x21j call hs u x1mq r_1 eNil=j0 (x3d call hs u):=by kernel_rfl
theorem x1mt{rec0:AV->AV->AV->AV->Mem->Nat->O2}:x21j call hs u x1mr (j4 rec0 0 1 7 8) (setE 0 (j0 (x3d call hs u)) eNil)=j4 (xkl call hs u rec0) 0 1 7 8:=by kernel_rfl
theorem x1mu:x21j call hs u xv5 (j0 (x3d call hs u)) (setE 0 (j0 (x3d call hs u)) eNil)=j4 (x6n call hs u NN) 0 1 7 8:=lp (Ln:=fun n=>j4 (x6n call hs u n) 0 1 7 8) fun n=>tr x1mt
theorem x1mv:x21j call hs u xv4 (j0 (x3d call hs u)) eNil=j4 (x6n call hs u NN) 0 1 7 8:=bk x1mu
theorem x1mw:x21j call hs u xv3 (j0 (x3d call hs u)) eNil=j2 (xdm call hs u) 0 1:=tr (sqN 1 x1mv)
theorem x1mx:x21j call hs u xha r_1 eNil=j2 (xdm call hs u) 0 1:=sq2 x1ms x1mw
theorem x155:x21j call hs u xv2 r_1 eNil=j2 (xkm call hs u) 0 1:=tr (sqN 1 x1mx)
noncomputable abbrev x2ad:=VX x46 41 r_1
noncomputable def x1my:=x1x2 x46
theorem x156:x2ad call hs u x1my r_1 eNil=j2 (xkn call hs u) 0 1:=by kernel_rfl
noncomputable abbrev x21k:=VX x4z 19 r_1
noncomputable def xv6:=x1x2 x4z
noncomputable def xhb:=nR xv6
noncomputable def xv7:=nL xhb
noncomputable def x1mz:=nR xhb
noncomputable def xv8:=nR xv7
noncomputable def xv9:=nR xv8
noncomputable def x1n0:=nR xv9
theorem x1n1:x21k call hs u x1mz r_1 eNil=j0 (x3e call hs u):=by kernel_rfl
theorem x1n2{rec0:AV->AV->AV->AV->Mem->Nat->O2}:x21k call hs u x1n0 (j4 rec0 0 1 7 8) (setE 0 (j0 (x3e call hs u)) eNil)=j4 (xko call hs u rec0) 0 1 7 8:=by kernel_rfl
theorem x1n3:x21k call hs u xv9 (j0 (x3e call hs u)) (setE 0 (j0 (x3e call hs u)) eNil)=j4 (x6o call hs u NN) 0 1 7 8:=lp (Ln:=fun n=>j4 (x6o call hs u n) 0 1 7 8) fun n=>tr x1n2
theorem x1n4:x21k call hs u xv8 (j0 (x3e call hs u)) eNil=j4 (x6o call hs u NN) 0 1 7 8:=bk x1n3
theorem x1n5:x21k call hs u xv7 (j0 (x3e call hs u)) eNil=j2 (xdn call hs u) 0 1:=tr (sqN 1 x1n4)
theorem x1n6:x21k call hs u xhb r_1 eNil=j2 (xdn call hs u) 0 1:=sq2 x1n1 x1n5
theorem x13h:x21k call hs u xv6 r_1 eNil=j2 (xkp call hs u) 0 1:=tr (sqN 1 x1n6)
noncomputable abbrev x21l:=VX x8p 59 r_14
noncomputable def xva:=x1x2 x8p
noncomputable def xhc:=nRs 4 xva
noncomputable def xvb:=nL xhc
noncomputable def x1n7:=nR xhc
noncomputable def xvc:=nR xvb
noncomputable def xvd:=nR xvc
noncomputable def x1n8:=nR xvd
theorem x1n9:x21l call hs u x1n7 r_14 eNil=j2 (x3f call hs u) 2 5:=by kernel_rfl
theorem x1na{rec0:AV->AV->AV->AV->AV->AV->AV->Mem->Nat->O2}:x21l call hs u x1n8 (j7 rec0 1 2 4 5 25 26 27) (setE 0 (j2 (x3f call hs u) 2 5) eNil)=j7 (xkq call hs u rec0) 1 2 4 5 25 26 27:=by kernel_rfl
theorem x1nb:x21l call hs u xvd (j2 (x3f call hs u) 2 5) (setE 0 (j2 (x3f call hs u) 2 5) eNil)=j7 (x6p call hs u NN) 1 2 4 5 25 26 27:=lp (Ln:=fun n=>j7 (x6p call hs u n) 1 2 4 5 25 26 27) fun n=>tr x1na
theorem x1nc:x21l call hs u xvc (j2 (x3f call hs u) 2 5) eNil=j7 (x6p call hs u NN) 1 2 4 5 25 26 27:=bk x1nb
theorem x1nd:x21l call hs u xvb (j2 (x3f call hs u) 2 5) eNil=j4 (xdo call hs u) 1 2 4 5:=tr (sqN 1 x1nc)
theorem x1ne:x21l call hs u xhc r_14 eNil=j4 (xdo call hs u) 1 2 4 5:=sq2 x1n9 x1nd
theorem x157:x21l call hs u xva r_14 eNil=j1 (xkr call hs u) 0:=tr (sqN 4 x1ne)
noncomputable abbrev x2ae:=VX x5a 14 r_16
noncomputable def x1nf:=x1x2 x5a
theorem x158:x2ae call hs u x1nf r_16 eNil=j1 (xks call hs u) 0:=by kernel_rfl
noncomputable abbrev x21m:=VX x8q 26 r_6
noncomputable def xve:=x1x2 x8q
noncomputable def xhd:=nRs 3 xve
noncomputable def xvf:=nL xhd
noncomputable def x1ng:=nR xhd
noncomputable def xvg:=nR xvf
noncomputable def xvh:=nR xvg
noncomputable def x1nh:=nR xvh
theorem x1ni:x21m call hs u x1ng r_6 eNil=j2 (x3g call hs u) 1 4:=by kernel_rfl
theorem x1nj{rec0:AV->AV->AV->AV->AV->Mem->Nat->O2}:x21m call hs u x1nh (j5 rec0 1 3 4 10 11) (setE 0 (j2 (x3g call hs u) 1 4) eNil)=j5 (xkt call hs u rec0) 1 3 4 10 11:=by kernel_rfl
theorem x1nk:x21m call hs u xvh (j2 (x3g call hs u) 1 4) (setE 0 (j2 (x3g call hs u) 1 4) eNil)=j5 (x6q call hs u NN) 1 3 4 10 11:=lp (Ln:=fun n=>j5 (x6q call hs u n) 1 3 4 10 11) fun n=>tr x1nj
theorem x1nl:x21m call hs u xvg (j2 (x3g call hs u) 1 4) eNil=j5 (x6q call hs u NN) 1 3 4 10 11:=bk x1nk
theorem x1nm:x21m call hs u xvf (j2 (x3g call hs u) 1 4) eNil=j3 (xdp call hs u) 1 3 4:=tr (sqN 1 x1nl)
theorem x1nn:x21m call hs u xhd r_6 eNil=j3 (xdp call hs u) 1 3 4:=sq2 x1ni x1nm
theorem x159:x21m call hs u xve r_6 eNil=j1 (xku call hs u) 0:=tr (sqN 3 x1nn)
noncomputable abbrev x1y2:=VX x5b 64 r_6
noncomputable def xvi:=x1x2 x5b
noncomputable def xhe:=nRs 2 xvi
noncomputable def xvj:=nL xhe
noncomputable def xvk:=nR xhe
noncomputable def xhf:=nRs 2 xvk
noncomputable def xvl:=nL xhf
noncomputable def x1no:=nR xhf
noncomputable def xvm:=nR xvl
noncomputable def xvn:=nR xvm
noncomputable def xvo:=nR xvn
noncomputable def xhg:=nRs 2 xvo
noncomputable def xvp:=nL xhg
noncomputable def x1np:=nR xhg
noncomputable def xvq:=nR xvp
noncomputable def xhh:=nR xvq
noncomputable def x1nq:=nL xhh
noncomputable def x1nr:=nR xhh
noncomputable def xvr:=nR xvj
noncomputable def x1ns:=nR xvr
theorem x1nt:x1y2 call hs u x1no r_6 eNil=j1 (xw call hs u) 3:=by kernel_rfl
theorem x1nu{rec0:AV->AV->AV->AV->AV->Mem->Nat->O2}:x1y2 call hs u x1np (j5 rec0 3 6 26 27 28) (setE 2 (j1 (xw call hs u) 3) eNil)=j5 (x1j call hs u rec0) 3 6 26 27 28:=by kernel_rfl
theorem x1nv{rec0:AV->AV->AV->AV->AV->Mem->Nat->O2}:x1y2 call hs u x1nr (j5 (x1j call hs u rec0) 3 6 26 27 28) (setE 3 (j5 (x1j call hs u rec0) 3 6 26 27 28) (setE 2 (j1 (xw call hs u) 3) eNil))=j7 (xai call hs u rec0) 3 6 7 8 26 27 28:=by kernel_rfl
theorem x1nw{rec0:AV->AV->AV->AV->AV->Mem->Nat->O2}:x1y2 call hs u x1nq (j7 (xai call hs u rec0) 3 6 7 8 26 27 28) (setE 3 (j5 (x1j call hs u rec0) 3 6 26 27 28) (setE 2 (j1 (xw call hs u) 3) eNil))=j7 (xdr call hs u rec0) 3 6 7 8 26 27 28:=by kernel_rfl
theorem x1nx{rec0:AV->AV->AV->AV->AV->Mem->Nat->O2}:x1y2 call hs u xhh (j5 (x1j call hs u rec0) 3 6 26 27 28) (setE 3 (j5 (x1j call hs u rec0) 3 6 26 27 28) (setE 2 (j1 (xw call hs u) 3) eNil))=j7 (xdr call hs u rec0) 3 6 7 8 26 27 28:=sq2 x1nv x1nw
theorem x1ny{rec0:AV->AV->AV->AV->AV->Mem->Nat->O2}:x1y2 call hs u xvq (j5 (x1j call hs u rec0) 3 6 26 27 28) (setE 3 (j5 (x1j call hs u rec0) 3 6 26 27 28) (setE 2 (j1 (xw call hs u) 3) eNil))=j5 (xaj call hs u rec0) 3 6 26 27 28:=tr (sqN 1 x1nx)
theorem x1nz{rec0:AV->AV->AV->AV->AV->Mem->Nat->O2}:x1y2 call hs u xvp (j5 (x1j call hs u rec0) 3 6 26 27 28) (setE 2 (j1 (xw call hs u) 3) eNil)=j5 (xaj call hs u rec0) 3 6 26 27 28:=bk x1ny
theorem x1o0{rec0:AV->AV->AV->AV->AV->Mem->Nat->O2}:x1y2 call hs u xhg (j5 rec0 3 6 26 27 28) (setE 2 (j1 (xw call hs u) 3) eNil)=j5 (xaj call hs u rec0) 3 6 26 27 28:=sq2 x1nu x1nz
theorem x1o1{rec0:AV->AV->AV->AV->AV->Mem->Nat->O2}:x1y2 call hs u xvo (j5 rec0 3 6 26 27 28) (setE 2 (j1 (xw call hs u) 3) eNil)=j5 (xkw call hs u rec0) 3 6 26 27 28:=tr (sqN 2 x1o0)
theorem x1o2:x1y2 call hs u xvn (j1 (xw call hs u) 3) (setE 2 (j1 (xw call hs u) 3) eNil)=j5 (x6r call hs u NN) 3 6 26 27 28:=lp (Ln:=fun n=>j5 (x6r call hs u n) 3 6 26 27 28) fun n=>tr x1o1
theorem x1o3:x1y2 call hs u xvm (j1 (xw call hs u) 3) eNil=j5 (x6r call hs u NN) 3 6 26 27 28:=bk x1o2
theorem x1o4:x1y2 call hs u xvl (j1 (xw call hs u) 3) eNil=j3 (xds call hs u) 3 5 6:=tr (sqN 1 x1o3)
theorem x1o5:x1y2 call hs u xhf r_6 eNil=j3 (xds call hs u) 3 5 6:=sq2 x1nt x1o4
theorem x1o6:x1y2 call hs u xvk r_6 eNil=j2 (x4d call hs u) 1 3:=tr (sqN 2 x1o5)
theorem x1o7{rec1:AV->AV->Mem->Nat->O2}:x1y2 call hs u x1ns (j2 rec1 1 3) (setE 0 (j2 (x4d call hs u) 1 3) eNil)=j2 (xkx call hs u rec1) 1 3:=by kernel_rfl
theorem x1o8:x1y2 call hs u xvr (j2 (x4d call hs u) 1 3) (setE 0 (j2 (x4d call hs u) 1 3) eNil)=j2 (x4e call hs u NN) 1 3:=lp (Ln:=fun n=>j2 (x4e call hs u n) 1 3) fun n=>tr x1o7
theorem x1o9:x1y2 call hs u xvj (j2 (x4d call hs u) 1 3) eNil=j2 (x4e call hs u NN) 1 3:=bk x1o8
theorem x1oa:x1y2 call hs u xhe r_6 eNil=j2 (x4e call hs u NN) 1 3:=sq2 x1o6 x1o9
theorem x15a:x1y2 call hs u xvi r_6 eNil=j1 (xky call hs u) 0:=tr (sqN 2 x1oa)
noncomputable abbrev x21n:=VX x8r 27 r_1
noncomputable def xvs:=x1x2 x8r
noncomputable def xhi:=nRs 2 xvs
noncomputable def xvt:=nL xhi
noncomputable def x1ob:=nR xhi
noncomputable def xvu:=nR xvt
noncomputable def xvv:=nR xvu
noncomputable def x1oc:=nR xvv
theorem x1od:x21n call hs u x1ob r_1 eNil=j1 (x3h call hs u) 5:=by kernel_rfl
theorem x1oe{rec0:AV->AV->AV->AV->AV->Mem->Nat->O2}:x21n call hs u x1oc (j5 rec0 1 5 10 11 12) (setE 0 (j1 (x3h call hs u) 5) eNil)=j5 (xkz call hs u rec0) 1 5 10 11 12:=by kernel_rfl
theorem x1of:x21n call hs u xvv (j1 (x3h call hs u) 5) (setE 0 (j1 (x3h call hs u) 5) eNil)=j5 (x6s call hs u NN) 1 5 10 11 12:=lp (Ln:=fun n=>j5 (x6s call hs u n) 1 5 10 11 12) fun n=>tr x1oe
theorem x1og:x21n call hs u xvu (j1 (x3h call hs u) 5) eNil=j5 (x6s call hs u NN) 1 5 10 11 12:=bk x1of
theorem x1oh:x21n call hs u xvt (j1 (x3h call hs u) 5) eNil=j3 (xdt call hs u) 1 2 5:=tr (sqN 1 x1og)
theorem x1oi:x21n call hs u xhi r_1 eNil=j3 (xdt call hs u) 1 2 5:=sq2 x1od x1oh
theorem x15b:x21n call hs u xvs r_1 eNil=j2 (xl0 call hs u) 0 1:=tr (sqN 2 x1oi)
noncomputable abbrev x2af:=VX x8s 9 r_15
noncomputable def x1oj:=x1x2 x8s
theorem x15c:x2af call hs u x1oj r_15 eNil=j2 (xl1 call hs u) 0 1:=by kernel_rfl
noncomputable abbrev x2ag:=VX x8t 13 r_17
noncomputable def x1ok:=x1x2 x8t
theorem x15d:x2ag call hs u x1ok r_17 eNil=j3 (xl2 call hs u) 0 1 2:=by kernel_rfl
noncomputable abbrev x2ah:=VX x8u 11 r_15
noncomputable def x1ol:=x1x2 x8u
theorem x15e:x2ah call hs u x1ol r_15 eNil=j1 (xl3 call hs u) 0:=by kernel_rfl
noncomputable abbrev x1ze:=VX x8v 43 r_15
noncomputable def xvw:=x1x2 x8v
noncomputable def xvx:=nR xvw
noncomputable def xvy:=nR xvx
noncomputable def xvz:=nR xvy
noncomputable def xhj:=nRs 2 xvz
noncomputable def xw0:=nL xhj
noncomputable def x1om:=nR xhj
noncomputable def xw1:=nR xw0
noncomputable def xw2:=nRs 2 xw1
noncomputable def xw3:=nR xw2
noncomputable def x1on:=nR xw3
theorem x1oo{rec0:AV->AV->AV->AV->AV->AV->Mem->Nat->O2}:x1ze call hs u x1om (j6 rec0 0 2 3 12 13 14) (setE 0 r_15 eNil)=j6 (x13 call hs u rec0) 0 2 3 12 13 14:=by kernel_rfl
theorem x1op{rec0:AV->AV->AV->AV->AV->AV->Mem->Nat->O2}{rec1:AV->AV->AV->AV->AV->AV->AV->AV->AV->Mem->Nat->O2}:x1ze call hs u x1on (j9 rec1 0 2 3 6 12 13 14 18 19) (setE 2 (j6 (x13 call hs u rec0) 0 2 3 12 13 14) (setE 1 (j6 (x13 call hs u rec0) 0 2 3 12 13 14) (setE 0 r_15 eNil)))=j9 (xl4 call hs u rec0 rec1) 0 2 3 6 12 13 14 18 19:=by kernel_rfl
theorem x1oq{rec0:AV->AV->AV->AV->AV->AV->Mem->Nat->O2}:x1ze call hs u xw3 (j6 (x13 call hs u rec0) 0 2 3 12 13 14) (setE 2 (j6 (x13 call hs u rec0) 0 2 3 12 13 14) (setE 1 (j6 (x13 call hs u rec0) 0 2 3 12 13 14) (setE 0 r_15 eNil)))=j9 (x6t call hs u rec0 NN) 0 2 3 6 12 13 14 18 19:=lp (Ln:=fun n=>j9 (x6t call hs u rec0 n) 0 2 3 6 12 13 14 18 19) fun n=>tr x1op
theorem x1or{rec0:AV->AV->AV->AV->AV->AV->Mem->Nat->O2}:x1ze call hs u xw2 (j6 (x13 call hs u rec0) 0 2 3 12 13 14) (setE 1 (j6 (x13 call hs u rec0) 0 2 3 12 13 14) (setE 0 r_15 eNil))=j9 (x6t call hs u rec0 NN) 0 2 3 6 12 13 14 18 19:=bk x1oq
theorem x1os{rec0:AV->AV->AV->AV->AV->AV->Mem->Nat->O2}:x1ze call hs u xw1 (j6 (x13 call hs u rec0) 0 2 3 12 13 14) (setE 1 (j6 (x13 call hs u rec0) 0 2 3 12 13 14) (setE 0 r_15 eNil))=j6 (xak call hs u rec0) 0 2 3 12 13 14:=tr (sqN 2 x1or)
theorem x1ot{rec0:AV->AV->AV->AV->AV->AV->Mem->Nat->O2}:x1ze call hs u xw0 (j6 (x13 call hs u rec0) 0 2 3 12 13 14) (setE 0 r_15 eNil)=j6 (xak call hs u rec0) 0 2 3 12 13 14:=bk x1os
theorem x1ou{rec0:AV->AV->AV->AV->AV->AV->Mem->Nat->O2}:x1ze call hs u xhj (j6 rec0 0 2 3 12 13 14) (setE 0 r_15 eNil)=j6 (xak call hs u rec0) 0 2 3 12 13 14:=sq2 x1oo x1ot
theorem x1ov{rec0:AV->AV->AV->AV->AV->AV->Mem->Nat->O2}:x1ze call hs u xvz (j6 rec0 0 2 3 12 13 14) (setE 0 r_15 eNil)=j6 (xl6 call hs u rec0) 0 2 3 12 13 14:=tr (sqN 2 x1ou)
theorem x1ow:x1ze call hs u xvy r_15 (setE 0 r_15 eNil)=j6 (x6u call hs u NN) 0 2 3 12 13 14:=lp (Ln:=fun n=>j6 (x6u call hs u n) 0 2 3 12 13 14) fun n=>tr x1ov
theorem x1ox:x1ze call hs u xvx r_15 eNil=j6 (x6u call hs u NN) 0 2 3 12 13 14:=bk x1ow
theorem x15f:x1ze call hs u xvw r_15 eNil=j4 (xl7 call hs u) 0 1 2 3:=tr (sqN 1 x1ox)
noncomputable abbrev x21o:=VX x47 19 r_1
noncomputable def xw4:=x1x2 x47
noncomputable def xhk:=nR xw4
noncomputable def xw5:=nL xhk
noncomputable def x1oy:=nR xhk
noncomputable def xw6:=nR xw5
noncomputable def xw7:=nR xw6
noncomputable def x1oz:=nR xw7
theorem x1p0:x21o call hs u x1oy r_1 eNil=j0 (x2k call hs u):=by kernel_rfl
theorem x1p1{rec0:AV->AV->AV->AV->Mem->Nat->O2}:x21o call hs u x1oz (j4 rec0 0 1 7 8) (setE 0 (j0 (x2k call hs u)) eNil)=j4 (xal call hs u rec0) 0 1 7 8:=by kernel_rfl
theorem x1p2:x21o call hs u xw7 (j0 (x2k call hs u)) (setE 0 (j0 (x2k call hs u)) eNil)=j4 (x2l call hs u NN) 0 1 7 8:=lp (Ln:=fun n=>j4 (x2l call hs u n) 0 1 7 8) fun n=>tr x1p1
theorem x1p3:x21o call hs u xw6 (j0 (x2k call hs u)) eNil=j4 (x2l call hs u NN) 0 1 7 8:=bk x1p2
theorem x1p4:x21o call hs u xw5 (j0 (x2k call hs u)) eNil=j2 (xam call hs u) 0 1:=tr (sqN 1 x1p3)
theorem x1p5:x21o call hs u xhk r_1 eNil=j2 (xam call hs u) 0 1:=sq2 x1p0 x1p4
theorem x15g:x21o call hs u xw4 r_1 eNil=j2 (xdu call hs u) 0 1:=tr (sqN 1 x1p5)
noncomputable abbrev x2ai:=VX x8w 6 r_6
noncomputable def x1p6:=x1x2 x8w
theorem x15h:x2ai call hs u x1p6 r_6 eNil=j1 (xl8 call hs u) 0:=by kernel_rfl
noncomputable abbrev x21p:=VX x8x 62 r_5
noncomputable def xw8:=x1x2 x8x
noncomputable def xhl:=nRs 2 xw8
noncomputable def xw9:=nL xhl
noncomputable def x1p7:=nR xhl
noncomputable def xwa:=nR xw9
noncomputable def xwb:=nR xwa
noncomputable def x1p8:=nR xwb
theorem x1p9:x21p call hs u x1p7 r_5 eNil=j0 (x3i call hs u):=by kernel_rfl
theorem x1pa{rec0:AV->AV->AV->AV->Mem->Nat->O2}:x21p call hs u x1p8 (j4 rec0 1 17 18 19) (setE 1 (j0 (x3i call hs u)) eNil)=j4 (xl9 call hs u rec0) 1 17 18 19:=by kernel_rfl
theorem x1pb:x21p call hs u xwb (j0 (x3i call hs u)) (setE 1 (j0 (x3i call hs u)) eNil)=j4 (x6v call hs u NN) 1 17 18 19:=lp (Ln:=fun n=>j4 (x6v call hs u n) 1 17 18 19) fun n=>tr x1pa
theorem x1pc:x21p call hs u xwa (j0 (x3i call hs u)) eNil=j4 (x6v call hs u NN) 1 17 18 19:=bk x1pb
theorem x1pd:x21p call hs u xw9 (j0 (x3i call hs u)) eNil=j1 (xdv call hs u) 1:=tr (sqN 1 x1pc)
theorem x1pe:x21p call hs u xhl r_5 eNil=j1 (xdv call hs u) 1:=sq2 x1p9 x1pd
theorem x15i:x21p call hs u xw8 r_5 eNil=j1 (xla call hs u) 0:=tr (sqN 2 x1pe)
noncomputable abbrev x1zx:=VX x8y 47 r_1
noncomputable def xwc:=x1x2 x8y
noncomputable def xhm:=nRs 2 xwc
noncomputable def xwd:=nL xhm
noncomputable def x1pf:=nR xhm
noncomputable def xwe:=nR xwd
noncomputable def xwf:=nR xwe
noncomputable def xwg:=nR xwf
noncomputable def xhn:=nRs 2 xwg
noncomputable def x1pg:=nL xhn
noncomputable def x1ph:=nR xhn
theorem x1pi:x1zx call hs u x1pf r_1 eNil=j1 (x1k call hs u) 5:=by kernel_rfl
theorem x1pj{rec0:AV->AV->AV->AV->AV->Mem->Nat->O2}:x1zx call hs u x1ph (j5 rec0 0 1 5 12 13) (setE 0 (j1 (x1k call hs u) 5) eNil)=j5 (xan call hs u rec0) 0 1 5 12 13:=by kernel_rfl
theorem x1pk{rec0:AV->AV->AV->AV->AV->Mem->Nat->O2}:x1zx call hs u x1pg (j5 (xan call hs u rec0) 0 1 5 12 13) (setE 0 (j1 (x1k call hs u) 5) eNil)=j5 (xdw call hs u rec0) 0 1 5 12 13:=by kernel_rfl
theorem x1pl{rec0:AV->AV->AV->AV->AV->Mem->Nat->O2}:x1zx call hs u xhn (j5 rec0 0 1 5 12 13) (setE 0 (j1 (x1k call hs u) 5) eNil)=j5 (xdw call hs u rec0) 0 1 5 12 13:=sq2 x1pj x1pk
theorem x1pm{rec0:AV->AV->AV->AV->AV->Mem->Nat->O2}:x1zx call hs u xwg (j5 rec0 0 1 5 12 13) (setE 0 (j1 (x1k call hs u) 5) eNil)=j5 (xlb call hs u rec0) 0 1 5 12 13:=tr (sqN 2 x1pl)
theorem x1pn:x1zx call hs u xwf (j1 (x1k call hs u) 5) (setE 0 (j1 (x1k call hs u) 5) eNil)=j5 (x6w call hs u NN) 0 1 5 12 13:=lp (Ln:=fun n=>j5 (x6w call hs u n) 0 1 5 12 13) fun n=>tr x1pm
theorem x1po:x1zx call hs u xwe (j1 (x1k call hs u) 5) eNil=j5 (x6w call hs u NN) 0 1 5 12 13:=bk x1pn
theorem x1pp:x1zx call hs u xwd (j1 (x1k call hs u) 5) eNil=j3 (xdx call hs u) 0 1 5:=tr (sqN 1 x1po)
theorem x1pq:x1zx call hs u xhm r_1 eNil=j3 (xdx call hs u) 0 1 5:=sq2 x1pi x1pp
theorem x15j:x1zx call hs u xwc r_1 eNil=j2 (xlc call hs u) 0 1:=tr (sqN 2 x1pq)
noncomputable abbrev x1yg:=VX x5c 45 r_1
noncomputable def xwh:=x1x2 x5c
noncomputable def xho:=nRs 3 xwh
noncomputable def xwi:=nL xho
noncomputable def x1pr:=nR xho
noncomputable def xwj:=nR xwi
noncomputable def xwk:=nR xwj
noncomputable def xwl:=nR xwk
noncomputable def xhp:=nRs 2 xwl
noncomputable def xwm:=nL xhp
noncomputable def x1ps:=nR xhp
noncomputable def xwn:=nR xwm
noncomputable def xhq:=nRs 4 xwn
noncomputable def xwo:=nL xhq
noncomputable def x1pt:=nR xhq
noncomputable def xwp:=nR xwo
noncomputable def x1pu:=nR xwp
theorem x1pv:x1yg call hs u x1pr r_1 eNil=j1 (xn call hs u) 5:=by kernel_rfl
theorem x1pw{rec0:AV->AV->AV->AV->AV->Mem->Nat->O2}:x1yg call hs u x1ps (j5 rec0 1 5 6 14 15) (setE 0 (j1 (xn call hs u) 5) eNil)=j5 (x12 call hs u rec0) 1 5 6 14 15:=by kernel_rfl
theorem x1px{rec0:AV->AV->AV->AV->AV->Mem->Nat->O2}:x1yg call hs u x1pt (j5 (x12 call hs u rec0) 1 5 6 14 15) (setE 1 (j5 (x12 call hs u rec0) 1 5 6 14 15) (setE 0 (j1 (xn call hs u) 5) eNil))=j5 (x4f call hs u rec0) 1 5 6 14 15:=by kernel_rfl
theorem x1py{rec0:AV->AV->AV->AV->AV->Mem->Nat->O2}{rec1:AV->AV->AV->AV->AV->AV->Mem->Nat->O2}:x1yg call hs u x1pu (j6 rec1 1 5 6 8 14 15) (setE 2 (j5 (x4f call hs u rec0) 1 5 6 14 15) (setE 1 (j5 (x12 call hs u rec0) 1 5 6 14 15) (setE 0 (j1 (xn call hs u) 5) eNil)))=j6 (xld call hs u rec0 rec1) 1 5 6 8 14 15:=by kernel_rfl
theorem x1pz{rec0:AV->AV->AV->AV->AV->Mem->Nat->O2}:x1yg call hs u xwp (j5 (x4f call hs u rec0) 1 5 6 14 15) (setE 2 (j5 (x4f call hs u rec0) 1 5 6 14 15) (setE 1 (j5 (x12 call hs u rec0) 1 5 6 14 15) (setE 0 (j1 (xn call hs u) 5) eNil)))=j6 (x4g call hs u rec0 NN) 1 5 6 8 14 15:=lp (Ln:=fun n=>j6 (x4g call hs u rec0 n) 1 5 6 8 14 15) fun n=>tr x1py
theorem x1q0{rec0:AV->AV->AV->AV->AV->Mem->Nat->O2}:x1yg call hs u xwo (j5 (x4f call hs u rec0) 1 5 6 14 15) (setE 1 (j5 (x12 call hs u rec0) 1 5 6 14 15) (setE 0 (j1 (xn call hs u) 5) eNil))=j6 (x4g call hs u rec0 NN) 1 5 6 8 14 15:=bk x1pz
theorem x1q1{rec0:AV->AV->AV->AV->AV->Mem->Nat->O2}:x1yg call hs u xhq (j5 (x12 call hs u rec0) 1 5 6 14 15) (setE 1 (j5 (x12 call hs u rec0) 1 5 6 14 15) (setE 0 (j1 (xn call hs u) 5) eNil))=j6 (x4g call hs u rec0 NN) 1 5 6 8 14 15:=sq2 x1px x1q0
theorem x1q2{rec0:AV->AV->AV->AV->AV->Mem->Nat->O2}:x1yg call hs u xwn (j5 (x12 call hs u rec0) 1 5 6 14 15) (setE 1 (j5 (x12 call hs u rec0) 1 5 6 14 15) (setE 0 (j1 (xn call hs u) 5) eNil))=j5 (xao call hs u rec0) 1 5 6 14 15:=tr (sqN 4 x1q1)
theorem x1q3{rec0:AV->AV->AV->AV->AV->Mem->Nat->O2}:x1yg call hs u xwm (j5 (x12 call hs u rec0) 1 5 6 14 15) (setE 0 (j1 (xn call hs u) 5) eNil)=j5 (xao call hs u rec0) 1 5 6 14 15:=bk x1q2
theorem x1q4{rec0:AV->AV->AV->AV->AV->Mem->Nat->O2}:x1yg call hs u xhp (j5 rec0 1 5 6 14 15) (setE 0 (j1 (xn call hs u) 5) eNil)=j5 (xao call hs u rec0) 1 5 6 14 15:=sq2 x1pw x1q3
theorem x1q5{rec0:AV->AV->AV->AV->AV->Mem->Nat->O2}:x1yg call hs u xwl (j5 rec0 1 5 6 14 15) (setE 0 (j1 (xn call hs u) 5) eNil)=j5 (xle call hs u rec0) 1 5 6 14 15:=tr (sqN 2 x1q4)
theorem x1q6:x1yg call hs u xwk (j1 (xn call hs u) 5) (setE 0 (j1 (xn call hs u) 5) eNil)=j5 (x6y call hs u NN) 1 5 6 14 15:=lp (Ln:=fun n=>j5 (x6y call hs u n) 1 5 6 14 15) fun n=>tr x1q5
theorem x1q7:x1yg call hs u xwj (j1 (xn call hs u) 5) eNil=j5 (x6y call hs u NN) 1 5 6 14 15:=bk x1q6
theorem x1q8:x1yg call hs u xwi (j1 (xn call hs u) 5) eNil=j3 (xdy call hs u) 1 5 6:=tr (sqN 1 x1q7)
theorem x1q9:x1yg call hs u xho r_1 eNil=j3 (xdy call hs u) 1 5 6:=sq2 x1pv x1q8
theorem x15k:x1yg call hs u xwh r_1 eNil=j2 (xlf call hs u) 0 1:=tr (sqN 3 x1q9)
noncomputable abbrev x21q:=VX x84 53 r_15
noncomputable def xwq:=x1x2 x84
noncomputable def xwr:=nR xwq
noncomputable def xws:=nR xwr
noncomputable def xwt:=nR xws
noncomputable def xhr:=nRs 2 xwt
noncomputable def x1qa:=nL xhr
noncomputable def x1qb:=nR xhr
theorem x1qc{rec0:AV->AV->AV->AV->AV->Mem->Nat->O2}:x21q call hs u x1qb (j5 rec0 0 1 3 9 10) (setE 0 r_15 eNil)=j5 (xap call hs u rec0) 0 1 3 9 10:=by kernel_rfl
theorem x1qd{rec0:AV->AV->AV->AV->AV->Mem->Nat->O2}:x21q call hs u x1qa (j5 (xap call hs u rec0) 0 1 3 9 10) (setE 0 r_15 eNil)=j5 (xdz call hs u rec0) 0 1 3 9 10:=by kernel_rfl
theorem x1qe{rec0:AV->AV->AV->AV->AV->Mem->Nat->O2}:x21q call hs u xhr (j5 rec0 0 1 3 9 10) (setE 0 r_15 eNil)=j5 (xdz call hs u rec0) 0 1 3 9 10:=sq2 x1qc x1qd
theorem x1qf{rec0:AV->AV->AV->AV->AV->Mem->Nat->O2}:x21q call hs u xwt (j5 rec0 0 1 3 9 10) (setE 0 r_15 eNil)=j5 (xlg call hs u rec0) 0 1 3 9 10:=tr (sqN 2 x1qe)
theorem x1qg:x21q call hs u xws r_15 (setE 0 r_15 eNil)=j5 (x6z call hs u NN) 0 1 3 9 10:=lp (Ln:=fun n=>j5 (x6z call hs u n) 0 1 3 9 10) fun n=>tr x1qf
theorem x1qh:x21q call hs u xwr r_15 eNil=j5 (x6z call hs u NN) 0 1 3 9 10:=bk x1qg
theorem x13e:x21q call hs u xwq r_15 eNil=j4 (xlh call hs u) 0 1 2 3:=tr (sqN 1 x1qh)
noncomputable abbrev x1ys:=VX x8z 132 r_6
noncomputable def xwu:=x1x2 x8z
noncomputable def xhs:=nRs 2 xwu
noncomputable def xwv:=nL xhs
noncomputable def x1qi:=nR xhs
noncomputable def xww:=nR xwv
noncomputable def xwx:=nR xww
noncomputable def xwy:=nR xwx
noncomputable def xht:=nRs 2 xwy
noncomputable def xwz:=nL xht
noncomputable def x1qj:=nR xht
noncomputable def xx0:=nR xwz
noncomputable def xhu:=nR xx0
noncomputable def x1qk:=nL xhu
noncomputable def x1ql:=nR xhu
theorem x1qm:x1ys call hs u x1qi r_6 eNil=j1 (xx call hs u) 3:=by kernel_rfl
theorem x1qn{rec0:AV->AV->AV->AV->Mem->Nat->O2}:x1ys call hs u x1qj (j4 rec0 3 28 29 30) (setE 0 (j1 (xx call hs u) 3) eNil)=j4 (x1l call hs u rec0) 3 28 29 30:=by kernel_rfl
theorem x1qo{rec0:AV->AV->AV->AV->Mem->Nat->O2}:x1ys call hs u x1ql (j4 (x1l call hs u rec0) 3 28 29 30) (setE 1 (j4 (x1l call hs u rec0) 3 28 29 30) (setE 0 (j1 (xx call hs u) 3) eNil))=j6 (x70 call hs u rec0) 3 4 5 28 29 30:=by kernel_rfl
theorem x1qp{rec0:AV->AV->AV->AV->Mem->Nat->O2}:x1ys call hs u x1qk (j6 (x70 call hs u rec0) 3 4 5 28 29 30) (setE 1 (j4 (x1l call hs u rec0) 3 28 29 30) (setE 0 (j1 (xx call hs u) 3) eNil))=j6 (xe0 call hs u rec0) 3 4 5 28 29 30:=by kernel_rfl
theorem x1qq{rec0:AV->AV->AV->AV->Mem->Nat->O2}:x1ys call hs u xhu (j4 (x1l call hs u rec0) 3 28 29 30) (setE 1 (j4 (x1l call hs u rec0) 3 28 29 30) (setE 0 (j1 (xx call hs u) 3) eNil))=j6 (xe0 call hs u rec0) 3 4 5 28 29 30:=sq2 x1qo x1qp
theorem x1qr{rec0:AV->AV->AV->AV->Mem->Nat->O2}:x1ys call hs u xx0 (j4 (x1l call hs u rec0) 3 28 29 30) (setE 1 (j4 (x1l call hs u rec0) 3 28 29 30) (setE 0 (j1 (xx call hs u) 3) eNil))=j4 (xaq call hs u rec0) 3 28 29 30:=tr (sqN 1 x1qq)
theorem x1qs{rec0:AV->AV->AV->AV->Mem->Nat->O2}:x1ys call hs u xwz (j4 (x1l call hs u rec0) 3 28 29 30) (setE 0 (j1 (xx call hs u) 3) eNil)=j4 (xaq call hs u rec0) 3 28 29 30:=bk x1qr
theorem x1qt{rec0:AV->AV->AV->AV->Mem->Nat->O2}:x1ys call hs u xht (j4 rec0 3 28 29 30) (setE 0 (j1 (xx call hs u) 3) eNil)=j4 (xaq call hs u rec0) 3 28 29 30:=sq2 x1qn x1qs
theorem x1qu{rec0:AV->AV->AV->AV->Mem->Nat->O2}:x1ys call hs u xwy (j4 rec0 3 28 29 30) (setE 0 (j1 (xx call hs u) 3) eNil)=j4 (xli call hs u rec0) 3 28 29 30:=tr (sqN 2 x1qt)
theorem x1qv:x1ys call hs u xwx (j1 (xx call hs u) 3) (setE 0 (j1 (xx call hs u) 3) eNil)=j4 (x71 call hs u NN) 3 28 29 30:=lp (Ln:=fun n=>j4 (x71 call hs u n) 3 28 29 30) fun n=>tr x1qu
theorem x1qw:x1ys call hs u xww (j1 (xx call hs u) 3) eNil=j4 (x71 call hs u NN) 3 28 29 30:=bk x1qv
theorem x1qx:x1ys call hs u xwv (j1 (xx call hs u) 3) eNil=j2 (xe1 call hs u) 1 3:=tr (sqN 1 x1qw)
theorem x1qy:x1ys call hs u xhs r_6 eNil=j2 (xe1 call hs u) 1 3:=sq2 x1qm x1qx
theorem x15l:x1ys call hs u xwu r_6 eNil=j1 (xlj call hs u) 0:=tr (sqN 2 x1qy)
noncomputable abbrev x2aj:=VX x87 5 r_6
noncomputable def x1qz:=x1x2 x87
theorem x13i:x2aj call hs u x1qz r_6 eNil=j1 (xlk call hs u) 0:=by kernel_rfl
noncomputable abbrev x1xt:=VX x90 160 r_15
noncomputable def xx1:=x1x2 x90
noncomputable def xhv:=nRs 2 xx1
noncomputable def xx2:=nL xhv
noncomputable def xx3:=nR xhv
noncomputable def xhw:=nR xx3
noncomputable def xx4:=nL xhw
noncomputable def xhx:=nR xhw
noncomputable def xx5:=nL xhx
noncomputable def xx6:=nR xhx
noncomputable def xx7:=nRs 3 xx6
noncomputable def xx8:=nR xx7
noncomputable def x1r0:=nR xx8
noncomputable def xx9:=nR xx5
noncomputable def xxa:=nR xx9
noncomputable def x1r1:=nR xxa
noncomputable def xxb:=nR xx4
noncomputable def xxc:=nR xxb
noncomputable def x1r2:=nR xxc
noncomputable def xxd:=nR xx2
noncomputable def xxe:=nR xxd
noncomputable def xxf:=nR xxe
noncomputable def xhy:=nRs 2 xxf
noncomputable def x1r3:=nL xhy
noncomputable def x1r4:=nR xhy
theorem x1r5{rec0:AV->AV->AV->AV->AV->AV->Mem->Nat->O2}:x1xt call hs u x1r0 (j6 rec0 0 4 5 136 137 138) (setE 6 r_15 eNil)=j6 (xll call hs u rec0) 0 4 5 136 137 138:=by kernel_rfl
theorem x1r6:x1xt call hs u xx8 r_15 (setE 6 r_15 eNil)=j6 (x72 call hs u NN) 0 4 5 136 137 138:=lp (Ln:=fun n=>j6 (x72 call hs u n) 0 4 5 136 137 138) fun n=>tr x1r5
theorem x1r7:x1xt call hs u xx7 r_15 eNil=j6 (x72 call hs u NN) 0 4 5 136 137 138:=bk x1r6
theorem x1r8:x1xt call hs u xx6 r_15 eNil=j5 (x3j call hs u) 0 1 4 5 8:=tr (sqN 3 x1r7)
theorem x1r9{rec1:AV->AV->AV->AV->AV->AV->Mem->Nat->O2}:x1xt call hs u x1r1 (j6 rec1 0 1 4 5 8 10) (setE 4 (j5 (x3j call hs u) 0 1 4 5 8) eNil)=j6 (xlm call hs u rec1) 0 1 4 5 8 10:=by kernel_rfl
theorem x1ra:x1xt call hs u xxa (j5 (x3j call hs u) 0 1 4 5 8) (setE 4 (j5 (x3j call hs u) 0 1 4 5 8) eNil)=j6 (x73 call hs u NN) 0 1 4 5 8 10:=lp (Ln:=fun n=>j6 (x73 call hs u n) 0 1 4 5 8 10) fun n=>tr x1r9
theorem x1rb:x1xt call hs u xx9 (j5 (x3j call hs u) 0 1 4 5 8) eNil=j6 (x73 call hs u NN) 0 1 4 5 8 10:=bk x1ra
theorem x1rc:x1xt call hs u xx5 (j5 (x3j call hs u) 0 1 4 5 8) eNil=j5 (x2m call hs u) 0 1 4 5 8:=tr (sqN 1 x1rb)
theorem x1rd:x1xt call hs u xhx r_15 eNil=j5 (x2m call hs u) 0 1 4 5 8:=sq2 x1r8 x1rc
theorem x1re{rec2:AV->AV->AV->AV->AV->AV->Mem->Nat->O2}:x1xt call hs u x1r2 (j6 rec2 0 1 4 5 8 9) (setE 2 (j5 (x2m call hs u) 0 1 4 5 8) eNil)=j6 (xln call hs u rec2) 0 1 4 5 8 9:=by kernel_rfl
theorem x1rf:x1xt call hs u xxc (j5 (x2m call hs u) 0 1 4 5 8) (setE 2 (j5 (x2m call hs u) 0 1 4 5 8) eNil)=j6 (x74 call hs u NN) 0 1 4 5 8 9:=lp (Ln:=fun n=>j6 (x74 call hs u n) 0 1 4 5 8 9) fun n=>tr x1re
theorem x1rg:x1xt call hs u xxb (j5 (x2m call hs u) 0 1 4 5 8) eNil=j6 (x74 call hs u NN) 0 1 4 5 8 9:=bk x1rf
theorem x1rh:x1xt call hs u xx4 (j5 (x2m call hs u) 0 1 4 5 8) eNil=j5 (xe2 call hs u) 0 1 4 5 8:=tr (sqN 1 x1rg)
theorem x1ri:x1xt call hs u xhw r_15 eNil=j5 (xe2 call hs u) 0 1 4 5 8:=sq2 x1rd x1rh
theorem x1rj:x1xt call hs u xx3 r_15 eNil=j4 (x1m call hs u) 0 1 4 5:=tr (sqN 1 x1ri)
theorem x1rk{rec3:AV->AV->AV->AV->AV->AV->AV->Mem->Nat->O2}:x1xt call hs u x1r4 (j7 rec3 0 1 4 5 17 18 19) (setE 0 (j4 (x1m call hs u) 0 1 4 5) eNil)=j7 (xar call hs u rec3) 0 1 4 5 17 18 19:=by kernel_rfl
theorem x1rl{rec3:AV->AV->AV->AV->AV->AV->AV->Mem->Nat->O2}:x1xt call hs u x1r3 (j7 (xar call hs u rec3) 0 1 4 5 17 18 19) (setE 0 (j4 (x1m call hs u) 0 1 4 5) eNil)=j7 (xe3 call hs u rec3) 0 1 4 5 17 18 19:=by kernel_rfl
theorem x1rm{rec3:AV->AV->AV->AV->AV->AV->AV->Mem->Nat->O2}:x1xt call hs u xhy (j7 rec3 0 1 4 5 17 18 19) (setE 0 (j4 (x1m call hs u) 0 1 4 5) eNil)=j7 (xe3 call hs u rec3) 0 1 4 5 17 18 19:=sq2 x1rk x1rl
theorem x1rn{rec3:AV->AV->AV->AV->AV->AV->AV->Mem->Nat->O2}:x1xt call hs u xxf (j7 rec3 0 1 4 5 17 18 19) (setE 0 (j4 (x1m call hs u) 0 1 4 5) eNil)=j7 (xlo call hs u rec3) 0 1 4 5 17 18 19:=tr (sqN 2 x1rm)
theorem x1ro:x1xt call hs u xxe (j4 (x1m call hs u) 0 1 4 5) (setE 0 (j4 (x1m call hs u) 0 1 4 5) eNil)=j7 (x75 call hs u NN) 0 1 4 5 17 18 19:=lp (Ln:=fun n=>j7 (x75 call hs u n) 0 1 4 5 17 18 19) fun n=>tr x1rn
theorem x1rp:x1xt call hs u xxd (j4 (x1m call hs u) 0 1 4 5) eNil=j7 (x75 call hs u NN) 0 1 4 5 17 18 19:=bk x1ro
theorem x1rq:x1xt call hs u xx2 (j4 (x1m call hs u) 0 1 4 5) eNil=j4 (xe4 call hs u) 0 1 4 5:=tr (sqN 1 x1rp)
theorem x1rr:x1xt call hs u xhv r_15 eNil=j4 (xe4 call hs u) 0 1 4 5:=sq2 x1rj x1rq
theorem x15m:x1xt call hs u xx1 r_15 eNil=j2 (xlp call hs u) 0 1:=tr (sqN 2 x1rr)
noncomputable abbrev x1zy:=VX x91 53 r_6
noncomputable def xxg:=x1x2 x91
noncomputable def xhz:=nRs 2 xxg
noncomputable def xxh:=nL xhz
noncomputable def x1rs:=nR xhz
noncomputable def xxi:=nR xxh
noncomputable def xxj:=nR xxi
noncomputable def xxk:=nR xxj
noncomputable def xi0:=nRs 2 xxk
noncomputable def x1rt:=nL xi0
noncomputable def x1ru:=nR xi0
theorem x1rv:x1zy call hs u x1rs r_6 eNil=j2 (x1n call hs u) 1 3:=by kernel_rfl
theorem x1rw{rec0:AV->AV->AV->AV->AV->Mem->Nat->O2}:x1zy call hs u x1ru (j5 rec0 1 3 12 13 14) (setE 0 (j2 (x1n call hs u) 1 3) eNil)=j5 (xas call hs u rec0) 1 3 12 13 14:=by kernel_rfl
theorem x1rx{rec0:AV->AV->AV->AV->AV->Mem->Nat->O2}:x1zy call hs u x1rt (j5 (xas call hs u rec0) 1 3 12 13 14) (setE 0 (j2 (x1n call hs u) 1 3) eNil)=j5 (xe5 call hs u rec0) 1 3 12 13 14:=by kernel_rfl
theorem x1ry{rec0:AV->AV->AV->AV->AV->Mem->Nat->O2}:x1zy call hs u xi0 (j5 rec0 1 3 12 13 14) (setE 0 (j2 (x1n call hs u) 1 3) eNil)=j5 (xe5 call hs u rec0) 1 3 12 13 14:=sq2 x1rw x1rx
theorem x1rz{rec0:AV->AV->AV->AV->AV->Mem->Nat->O2}:x1zy call hs u xxk (j5 rec0 1 3 12 13 14) (setE 0 (j2 (x1n call hs u) 1 3) eNil)=j5 (xlq call hs u rec0) 1 3 12 13 14:=tr (sqN 2 x1ry)
theorem x1s0:x1zy call hs u xxj (j2 (x1n call hs u) 1 3) (setE 0 (j2 (x1n call hs u) 1 3) eNil)=j5 (x76 call hs u NN) 1 3 12 13 14:=lp (Ln:=fun n=>j5 (x76 call hs u n) 1 3 12 13 14) fun n=>tr x1rz
theorem x1s1:x1zy call hs u xxi (j2 (x1n call hs u) 1 3) eNil=j5 (x76 call hs u NN) 1 3 12 13 14:=bk x1s0
theorem x1s2:x1zy call hs u xxh (j2 (x1n call hs u) 1 3) eNil=j2 (xe6 call hs u) 1 3:=tr (sqN 1 x1s1)
theorem x1s3:x1zy call hs u xhz r_6 eNil=j2 (xe6 call hs u) 1 3:=sq2 x1rv x1s2
theorem x15n:x1zy call hs u xxg r_6 eNil=j1 (xlr call hs u) 0:=tr (sqN 2 x1s3)
noncomputable abbrev x2ak:=VX x86 7 r_6
noncomputable def x1s4:=x1x2 x86
theorem x13g:x2ak call hs u x1s4 r_6 eNil=j1 (xls call hs u) 0:=by kernel_rfl
noncomputable abbrev x2al:=VX x85 19 r_1
noncomputable def x1s5:=x1x2 x85
theorem x13f:x2al call hs u x1s5 r_1 eNil=j2 (xlt call hs u) 0 1:=by kernel_rfl
noncomputable abbrev x1y6:=VX x92 63 r_15
noncomputable def xxl:=x1x2 x92
noncomputable def xi1:=nRs 2 xxl
noncomputable def xxm:=nL xi1
noncomputable def xxn:=nR xi1
noncomputable def xxo:=nR xxn
noncomputable def xxp:=nR xxo
noncomputable def xxq:=nR xxp
noncomputable def xxr:=nR xxq
noncomputable def xxs:=nR xxr
noncomputable def xi2:=nR xxs
noncomputable def xxt:=nL xi2
noncomputable def xi3:=nR xi2
noncomputable def x1s6:=nL xi3
noncomputable def x1s7:=nR xi3
noncomputable def xxu:=nR xxt
noncomputable def x1s8:=nR xxu
noncomputable def xxv:=nR xxm
noncomputable def x1s9:=nR xxv
theorem x1sa{rec0:AV->AV->AV->AV->Mem->Nat->O2}:x1y6 call hs u x1s7 (j4 rec0 0 1 2 6) (setE 3 (j4 rec0 0 1 2 6) (setE 2 r_15 eNil))=j4 (xat call hs u rec0) 0 1 2 6:=by kernel_rfl
theorem x1sb{rec0:AV->AV->AV->AV->Mem->Nat->O2}:x1y6 call hs u x1s6 (j4 (xat call hs u rec0) 0 1 2 6) (setE 3 (j4 rec0 0 1 2 6) (setE 2 r_15 eNil))=j5 (x3k call hs u rec0) 0 1 2 6 7:=by kernel_rfl
theorem x1sc{rec0:AV->AV->AV->AV->Mem->Nat->O2}:x1y6 call hs u xi3 (j4 rec0 0 1 2 6) (setE 3 (j4 rec0 0 1 2 6) (setE 2 r_15 eNil))=j5 (x3k call hs u rec0) 0 1 2 6 7:=sq2 x1sa x1sb
theorem x1sd{rec0:AV->AV->AV->AV->Mem->Nat->O2}{rec1:AV->AV->AV->AV->AV->AV->Mem->Nat->O2}:x1y6 call hs u x1s8 (j6 rec1 0 1 2 6 7 8) (setE 4 (j5 (x3k call hs u rec0) 0 1 2 6 7) (setE 3 (j4 rec0 0 1 2 6) (setE 2 r_15 eNil)))=j6 (xlu call hs u rec0 rec1) 0 1 2 6 7 8:=by kernel_rfl
theorem x1se{rec0:AV->AV->AV->AV->Mem->Nat->O2}:x1y6 call hs u xxu (j5 (x3k call hs u rec0) 0 1 2 6 7) (setE 4 (j5 (x3k call hs u rec0) 0 1 2 6 7) (setE 3 (j4 rec0 0 1 2 6) (setE 2 r_15 eNil)))=j6 (x4h call hs u rec0 NN) 0 1 2 6 7 8:=lp (Ln:=fun n=>j6 (x4h call hs u rec0 n) 0 1 2 6 7 8) fun n=>tr x1sd
theorem x1sf{rec0:AV->AV->AV->AV->Mem->Nat->O2}:x1y6 call hs u xxt (j5 (x3k call hs u rec0) 0 1 2 6 7) (setE 3 (j4 rec0 0 1 2 6) (setE 2 r_15 eNil))=j6 (x4h call hs u rec0 NN) 0 1 2 6 7 8:=bk x1se
theorem x1sg{rec0:AV->AV->AV->AV->Mem->Nat->O2}:x1y6 call hs u xi2 (j4 rec0 0 1 2 6) (setE 3 (j4 rec0 0 1 2 6) (setE 2 r_15 eNil))=j6 (x4h call hs u rec0 NN) 0 1 2 6 7 8:=sq2 x1sc x1sf
theorem x1sh{rec0:AV->AV->AV->AV->Mem->Nat->O2}:x1y6 call hs u xxs (j4 rec0 0 1 2 6) (setE 3 (j4 rec0 0 1 2 6) (setE 2 r_15 eNil))=j4 (xe7 call hs u rec0) 0 1 2 6:=tr (sqN 1 x1sg)
theorem x1si{rec0:AV->AV->AV->AV->Mem->Nat->O2}:x1y6 call hs u xxr (j4 rec0 0 1 2 6) (setE 2 r_15 eNil)=j4 (xe7 call hs u rec0) 0 1 2 6:=bk x1sh
theorem x1sj{rec0:AV->AV->AV->AV->Mem->Nat->O2}:x1y6 call hs u xxq (j4 rec0 0 1 2 6) (setE 2 r_15 eNil)=j4 (xlv call hs u rec0) 0 1 2 6:=tr (sqN 1 x1si)
theorem x1sk:x1y6 call hs u xxp r_15 (setE 2 r_15 eNil)=j4 (x77 call hs u NN) 0 1 2 6:=lp (Ln:=fun n=>j4 (x77 call hs u n) 0 1 2 6) fun n=>tr x1sj
theorem x1sl:x1y6 call hs u xxo r_15 eNil=j4 (x77 call hs u NN) 0 1 2 6:=bk x1sk
theorem x1sm:x1y6 call hs u xxn r_15 eNil=j5 (x4i call hs u) 0 1 2 6 7:=tr (sqN 1 x1sl)
theorem x1sn{rec2:AV->AV->AV->AV->AV->AV->Mem->Nat->O2}:x1y6 call hs u x1s9 (j6 rec2 0 1 2 6 7 8) (setE 0 (j5 (x4i call hs u) 0 1 2 6 7) eNil)=j6 (xlw call hs u rec2) 0 1 2 6 7 8:=by kernel_rfl
theorem x1so:x1y6 call hs u xxv (j5 (x4i call hs u) 0 1 2 6 7) (setE 0 (j5 (x4i call hs u) 0 1 2 6 7) eNil)=j6 (x4j call hs u NN) 0 1 2 6 7 8:=lp (Ln:=fun n=>j6 (x4j call hs u n) 0 1 2 6 7 8) fun n=>tr x1sn
theorem x1sp:x1y6 call hs u xxm (j5 (x4i call hs u) 0 1 2 6 7) eNil=j6 (x4j call hs u NN) 0 1 2 6 7 8:=bk x1so
theorem x1sq:x1y6 call hs u xi1 r_15 eNil=j6 (x4j call hs u NN) 0 1 2 6 7 8:=sq2 x1sm x1sp
theorem x15o:x1y6 call hs u xxl r_15 eNil=j3 (xlx call hs u) 0 1 2:=tr (sqN 2 x1sq)
noncomputable abbrev x1yx:=VX x48 134 r_15
noncomputable def xxw:=x1x2 x48
noncomputable def xxx:=nRs 2 xxw
noncomputable def xxy:=nR xxx
noncomputable def xxz:=nR xxy
noncomputable def xy0:=nR xxz
noncomputable def xi4:=nRs 3 xy0
noncomputable def x1sr:=nL xi4
noncomputable def xy1:=nR xi4
noncomputable def xi5:=nR xy1
noncomputable def x1ss:=nL xi5
noncomputable def xi6:=nR xi5
noncomputable def x1st:=nL xi6
noncomputable def x1su:=nR xi6
theorem x1sv{rec0:AV->AV->AV->AV->AV->AV->Mem->Nat->O2}:x1yx call hs u x1su (j6 rec0 0 1 2 3 8 9) (setE 1 (j6 rec0 0 1 2 3 8 9) (setE 0 r_15 eNil))=j8 (xau call hs u rec0) 0 1 2 3 8 9 10 11:=by kernel_rfl
theorem x1sw{rec0:AV->AV->AV->AV->AV->AV->Mem->Nat->O2}:x1yx call hs u x1st (j8 (xau call hs u rec0) 0 1 2 3 8 9 10 11) (setE 1 (j6 rec0 0 1 2 3 8 9) (setE 0 r_15 eNil))=j9 (x78 call hs u rec0) 0 1 2 3 8 9 10 11 12:=by kernel_rfl
theorem x1sx{rec0:AV->AV->AV->AV->AV->AV->Mem->Nat->O2}:x1yx call hs u xi6 (j6 rec0 0 1 2 3 8 9) (setE 1 (j6 rec0 0 1 2 3 8 9) (setE 0 r_15 eNil))=j9 (x78 call hs u rec0) 0 1 2 3 8 9 10 11 12:=sq2 x1sv x1sw
theorem x1sy{rec0:AV->AV->AV->AV->AV->AV->Mem->Nat->O2}:x1yx call hs u x1ss (j9 (x78 call hs u rec0) 0 1 2 3 8 9 10 11 12) (setE 1 (j6 rec0 0 1 2 3 8 9) (setE 0 r_15 eNil))=j9 (xe8 call hs u rec0) 0 1 2 3 8 9 10 11 12:=by kernel_rfl
theorem x1sz{rec0:AV->AV->AV->AV->AV->AV->Mem->Nat->O2}:x1yx call hs u xi5 (j6 rec0 0 1 2 3 8 9) (setE 1 (j6 rec0 0 1 2 3 8 9) (setE 0 r_15 eNil))=j9 (xe8 call hs u rec0) 0 1 2 3 8 9 10 11 12:=sq2 x1sx x1sy
theorem x1t0{rec0:AV->AV->AV->AV->AV->AV->Mem->Nat->O2}:x1yx call hs u xy1 (j6 rec0 0 1 2 3 8 9) (setE 1 (j6 rec0 0 1 2 3 8 9) (setE 0 r_15 eNil))=j7 (xav call hs u rec0) 0 1 2 3 8 9 10:=tr (sqN 1 x1sz)
theorem x1t1{rec0:AV->AV->AV->AV->AV->AV->Mem->Nat->O2}:x1yx call hs u x1sr (j7 (xav call hs u rec0) 0 1 2 3 8 9 10) (setE 1 (j6 rec0 0 1 2 3 8 9) (setE 0 r_15 eNil))=j7 (xe9 call hs u rec0) 0 1 2 3 8 9 10:=by kernel_rfl
theorem x1t2{rec0:AV->AV->AV->AV->AV->AV->Mem->Nat->O2}:x1yx call hs u xi4 (j6 rec0 0 1 2 3 8 9) (setE 1 (j6 rec0 0 1 2 3 8 9) (setE 0 r_15 eNil))=j7 (xe9 call hs u rec0) 0 1 2 3 8 9 10:=sq2 x1t0 x1t1
theorem x1t3{rec0:AV->AV->AV->AV->AV->AV->Mem->Nat->O2}:x1yx call hs u xy0 (j6 rec0 0 1 2 3 8 9) (setE 1 (j6 rec0 0 1 2 3 8 9) (setE 0 r_15 eNil))=j6 (xea call hs u rec0) 0 1 2 3 8 9:=tr (sqN 3 x1t2)
theorem x1t4{rec0:AV->AV->AV->AV->AV->AV->Mem->Nat->O2}:x1yx call hs u xxz (j6 rec0 0 1 2 3 8 9) (setE 0 r_15 eNil)=j6 (xea call hs u rec0) 0 1 2 3 8 9:=bk x1t3
theorem x1t5:x1yx call hs u xxy r_15 (setE 0 r_15 eNil)=j6 (x79 call hs u NN) 0 1 2 3 8 9:=lp (Ln:=fun n=>j6 (x79 call hs u n) 0 1 2 3 8 9) fun n=>tr x1t4
theorem x1t6:x1yx call hs u xxx r_15 eNil=j6 (x79 call hs u NN) 0 1 2 3 8 9:=bk x1t5
theorem x15p:x1yx call hs u xxw r_15 eNil=j4 (xly call hs u) 0 1 2 3:=tr (sqN 2 x1t6)
noncomputable abbrev x2am:=VX x5d 8 r_6
noncomputable def x1t7:=x1x2 x5d
theorem x15q:x2am call hs u x1t7 r_6 eNil=j1 (xlz call hs u) 0:=by kernel_rfl
noncomputable abbrev x2an:=VX x27 15 r_0
noncomputable def x1t8:=x1x2 x27
theorem x138:x2an call hs u x1t8 r_0 eNil=j3 (xm0 call hs u) 0 1 2:=by kernel_rfl
noncomputable abbrev x2ao:=VX x93 5 r_6
noncomputable def x1t9:=x1x2 x93
theorem x15r:x2ao call hs u x1t9 r_6 eNil=j1 (xm1 call hs u) 0:=by kernel_rfl
noncomputable abbrev x1yh:=VX x2r 139 r_18
noncomputable abbrev x27h:=VX (R:=Mem) x2r 139 fNil
noncomputable def xy2:=x1x2 x2r
noncomputable def xy3:=nRs 4 xy2
noncomputable def xy4:=nR xy3
noncomputable def xy5:=nR xy4
noncomputable def xy6:=nR xy5
noncomputable def xi7:=nR xy6
noncomputable def xy7:=nL xi7
noncomputable def xy8:=nR xi7
noncomputable def xy9:=nRs 3 xy8
noncomputable def xbb:=nR xy9
noncomputable def x1ta:=nL xbb
noncomputable def x1tb:=nR xbb
noncomputable def xya:=nR xy7
noncomputable def xyb:=nR xya
noncomputable def xyc:=nR xyb
noncomputable def xi8:=nRs 2 xyc
noncomputable def x1tc:=nL xi8
noncomputable def x1td:=nR xi8
theorem x1te:x27h call hs u x1tb (fun s=>some s.m) eNil=j4 (xeb call hs u) 2 5 7 10:=by kernel_rfl
theorem x1tf:x27h call hs u x1ta (j4 (xeb call hs u) 2 5 7 10) eNil=j4 (xm2 call hs u) 2 5 7 87:=by kernel_rfl
theorem x1tg{rec0:AV->AV->AV->AV->Mem->Nat->O2}:x1yh call hs u xbb (j4 rec0 2 4 5 6) (setE 4 (j4 rec0 2 4 5 6) (setE 1 (j4 rec0 2 4 5 6) (setE 0 r_18 eNil)))=j6 (xec call hs u rec0) 2 4 5 6 7 86:=tr (rg (C:=xbb) (c:={f:=x2r,u:=u,nt:=139,hs:=hs}) (f:=(.tmp 86)) (ps:=#[87]) (fun u=>x1te) (fun u=>x1tf))
theorem x1th{rec0:AV->AV->AV->AV->Mem->Nat->O2}:x1yh call hs u xy9 (j4 rec0 2 4 5 6) (setE 1 (j4 rec0 2 4 5 6) (setE 0 r_18 eNil))=j6 (xec call hs u rec0) 2 4 5 6 7 86:=bk x1tg
theorem x1ti{rec0:AV->AV->AV->AV->Mem->Nat->O2}:x1yh call hs u xy8 (j4 rec0 2 4 5 6) (setE 1 (j4 rec0 2 4 5 6) (setE 0 r_18 eNil))=j5 (x1o call hs u rec0) 2 4 5 6 7:=tr (sqN 3 x1th)
theorem x1tj{rec0:AV->AV->AV->AV->Mem->Nat->O2}{rec1:AV->AV->AV->AV->AV->AV->AV->AV->Mem->Nat->O2}:x1yh call hs u x1td (j8 rec1 2 4 5 6 7 47 48 49) (setE 2 (j5 (x1o call hs u rec0) 2 4 5 6 7) (setE 1 (j4 rec0 2 4 5 6) (setE 0 r_18 eNil)))=j8 (xaw call hs u rec0 rec1) 2 4 5 6 7 47 48 49:=by kernel_rfl
theorem x1tk{rec0:AV->AV->AV->AV->Mem->Nat->O2}{rec1:AV->AV->AV->AV->AV->AV->AV->AV->Mem->Nat->O2}:x1yh call hs u x1tc (j8 (xaw call hs u rec0 rec1) 2 4 5 6 7 47 48 49) (setE 2 (j5 (x1o call hs u rec0) 2 4 5 6 7) (setE 1 (j4 rec0 2 4 5 6) (setE 0 r_18 eNil)))=j8 (xed call hs u rec0 rec1) 2 4 5 6 7 47 48 49:=by kernel_rfl
theorem x1tl{rec0:AV->AV->AV->AV->Mem->Nat->O2}{rec1:AV->AV->AV->AV->AV->AV->AV->AV->Mem->Nat->O2}:x1yh call hs u xi8 (j8 rec1 2 4 5 6 7 47 48 49) (setE 2 (j5 (x1o call hs u rec0) 2 4 5 6 7) (setE 1 (j4 rec0 2 4 5 6) (setE 0 r_18 eNil)))=j8 (xed call hs u rec0 rec1) 2 4 5 6 7 47 48 49:=sq2 x1tj x1tk
theorem x1tm{rec0:AV->AV->AV->AV->Mem->Nat->O2}{rec1:AV->AV->AV->AV->AV->AV->AV->AV->Mem->Nat->O2}:x1yh call hs u xyc (j8 rec1 2 4 5 6 7 47 48 49) (setE 2 (j5 (x1o call hs u rec0) 2 4 5 6 7) (setE 1 (j4 rec0 2 4 5 6) (setE 0 r_18 eNil)))=j8 (xm3 call hs u rec0 rec1) 2 4 5 6 7 47 48 49:=tr (sqN 2 x1tl)
theorem x1tn{rec0:AV->AV->AV->AV->Mem->Nat->O2}:x1yh call hs u xyb (j5 (x1o call hs u rec0) 2 4 5 6 7) (setE 2 (j5 (x1o call hs u rec0) 2 4 5 6 7) (setE 1 (j4 rec0 2 4 5 6) (setE 0 r_18 eNil)))=j8 (x7b call hs u rec0 NN) 2 4 5 6 7 47 48 49:=lp (Ln:=fun n=>j8 (x7b call hs u rec0 n) 2 4 5 6 7 47 48 49) fun n=>tr x1tm
theorem x1to{rec0:AV->AV->AV->AV->Mem->Nat->O2}:x1yh call hs u xya (j5 (x1o call hs u rec0) 2 4 5 6 7) (setE 1 (j4 rec0 2 4 5 6) (setE 0 r_18 eNil))=j8 (x7b call hs u rec0 NN) 2 4 5 6 7 47 48 49:=bk x1tn
theorem x1tp{rec0:AV->AV->AV->AV->Mem->Nat->O2}:x1yh call hs u xy7 (j5 (x1o call hs u rec0) 2 4 5 6 7) (setE 1 (j4 rec0 2 4 5 6) (setE 0 r_18 eNil))=j5 (xee call hs u rec0) 2 4 5 6 7:=tr (sqN 1 x1to)
theorem x1tq{rec0:AV->AV->AV->AV->Mem->Nat->O2}:x1yh call hs u xi7 (j4 rec0 2 4 5 6) (setE 1 (j4 rec0 2 4 5 6) (setE 0 r_18 eNil))=j5 (xee call hs u rec0) 2 4 5 6 7:=sq2 x1ti x1tp
theorem x1tr{rec0:AV->AV->AV->AV->Mem->Nat->O2}:x1yh call hs u xy6 (j4 rec0 2 4 5 6) (setE 1 (j4 rec0 2 4 5 6) (setE 0 r_18 eNil))=j4 (xef call hs u rec0) 2 4 5 6:=tr (sqN 1 x1tq)
theorem x1ts{rec0:AV->AV->AV->AV->Mem->Nat->O2}:x1yh call hs u xy5 (j4 rec0 2 4 5 6) (setE 0 r_18 eNil)=j4 (xef call hs u rec0) 2 4 5 6:=bk x1tr
theorem x1tt:x1yh call hs u xy4 r_18 (setE 0 r_18 eNil)=j4 (x7c call hs u NN) 2 4 5 6:=lp (Ln:=fun n=>j4 (x7c call hs u n) 2 4 5 6) fun n=>tr x1ts
theorem x1tu:x1yh call hs u xy3 r_18 eNil=j4 (x7c call hs u NN) 2 4 5 6:=bk x1tt
theorem x13a:x1yh call hs u xy2 r_18 eNil=j2 (xm4 call hs u) 0 1:=tr (sqN 4 x1tu)
noncomputable abbrev x1z5:=VX x5e 48 r_1
noncomputable def xyd:=x1x2 x5e
noncomputable def xi9:=nR xyd
noncomputable def x1tv:=nL xi9
noncomputable def xye:=nR xi9
noncomputable def xia:=nR xye
noncomputable def x1tw:=nL xia
noncomputable def xyf:=nR xia
noncomputable def xib:=nRs 2 xyf
noncomputable def xyg:=nL xib
noncomputable def x1tx:=nR xib
noncomputable def xyh:=nR xyg
noncomputable def x1ty:=nR xyh
theorem x1tz:x1z5 call hs u x1tx r_1 eNil=j1 (x4k call hs u) 7:=by kernel_rfl
theorem x1u0{rec0:AV->AV->Mem->Nat->O2}:x1z5 call hs u x1ty (j2 rec0 7 8) (setE 0 (j1 (x4k call hs u) 7) eNil)=j2 (xm5 call hs u rec0) 7 8:=by kernel_rfl
theorem x1u1:x1z5 call hs u xyh (j1 (x4k call hs u) 7) (setE 0 (j1 (x4k call hs u) 7) eNil)=j2 (x4l call hs u NN) 7 8:=lp (Ln:=fun n=>j2 (x4l call hs u n) 7 8) fun n=>tr x1u0
theorem x1u2:x1z5 call hs u xyg (j1 (x4k call hs u) 7) eNil=j2 (x4l call hs u NN) 7 8:=bk x1u1
theorem x1u3:x1z5 call hs u xib r_1 eNil=j2 (x4l call hs u NN) 7 8:=sq2 x1tz x1u2
theorem x1u4:x1z5 call hs u xyf r_1 eNil=j2 (xeg call hs u) 0 6:=tr (sqN 2 x1u3)
theorem x1u5:x1z5 call hs u x1tw (j2 (xeg call hs u) 0 6) eNil=j3 (xeh call hs u) 0 5 6:=by kernel_rfl
theorem x1u6:x1z5 call hs u xia r_1 eNil=j3 (xeh call hs u) 0 5 6:=sq2 x1u4 x1u5
theorem x1u7:x1z5 call hs u xye r_1 eNil=j2 (xei call hs u) 0 1:=tr (sqN 1 x1u6)
theorem x1u8:x1z5 call hs u x1tv (j2 (xei call hs u) 0 1) eNil=j2 (xej call hs u) 0 1:=by kernel_rfl
theorem x1u9:x1z5 call hs u xi9 r_1 eNil=j2 (xej call hs u) 0 1:=sq2 x1u7 x1u8
theorem x15s:x1z5 call hs u xyd r_1 eNil=j2 (xm6 call hs u) 0 1:=tr (sqN 1 x1u9)
noncomputable abbrev x2ap:=VX x80 18 r_15
noncomputable def x1ua:=x1x2 x80
theorem x139:x2ap call hs u x1ua r_15 eNil=j4 (xm7 call hs u) 0 1 2 3:=by kernel_rfl
noncomputable abbrev x23u:=VX x82 20 r_15
noncomputable def xyi:=x1x2 x82
noncomputable def xyj:=nR xyi
noncomputable def xyk:=nR xyj
noncomputable def x1ub:=nR xyk
theorem x1uc{rec0:AV->AV->AV->AV->Mem->Nat->O2}:x23u call hs u x1ub (j4 rec0 1 10 11 12) (setE 0 r_15 eNil)=j4 (xm8 call hs u rec0) 1 10 11 12:=by kernel_rfl
theorem x1ud:x23u call hs u xyk r_15 (setE 0 r_15 eNil)=j4 (x7d call hs u NN) 1 10 11 12:=lp (Ln:=fun n=>j4 (x7d call hs u n) 1 10 11 12) fun n=>tr x1uc
theorem x1ue:x23u call hs u xyj r_15 eNil=j4 (x7d call hs u NN) 1 10 11 12:=bk x1ud
theorem x13c:x23u call hs u xyi r_15 eNil=j3 (xm9 call hs u) 0 1 2:=tr (sqN 1 x1ue)
noncomputable abbrev x1zf:=VX x5f 53 r_15
noncomputable def xyl:=x1x2 x5f
noncomputable def xym:=nR xyl
noncomputable def xyn:=nR xym
noncomputable def xyo:=nR xyn
noncomputable def xic:=nR xyo
noncomputable def xyp:=nL xic
noncomputable def x1uf:=nR xic
noncomputable def xyq:=nR xyp
noncomputable def xyr:=nR xyq
noncomputable def xys:=nR xyr
noncomputable def x1ug:=nR xys
theorem x1uh{rec0:AV->AV->AV->AV->AV->Mem->Nat->O2}:x1zf call hs u x1uf (j5 rec0 0 1 2 3 8) (setE 0 r_15 eNil)=j5 (x14 call hs u rec0) 0 1 2 3 8:=by kernel_rfl
theorem x1ui{rec0:AV->AV->AV->AV->AV->Mem->Nat->O2}{rec1:AV->AV->AV->AV->AV->AV->Mem->Nat->O2}:x1zf call hs u x1ug (j6 rec1 0 1 2 3 8 9) (setE 2 (j5 (x14 call hs u rec0) 0 1 2 3 8) (setE 1 (j5 (x14 call hs u rec0) 0 1 2 3 8) (setE 0 r_15 eNil)))=j6 (xma call hs u rec0 rec1) 0 1 2 3 8 9:=by kernel_rfl
theorem x1uj{rec0:AV->AV->AV->AV->AV->Mem->Nat->O2}:x1zf call hs u xys (j5 (x14 call hs u rec0) 0 1 2 3 8) (setE 2 (j5 (x14 call hs u rec0) 0 1 2 3 8) (setE 1 (j5 (x14 call hs u rec0) 0 1 2 3 8) (setE 0 r_15 eNil)))=j6 (x7e call hs u rec0 NN) 0 1 2 3 8 9:=lp (Ln:=fun n=>j6 (x7e call hs u rec0 n) 0 1 2 3 8 9) fun n=>tr x1ui
theorem x1uk{rec0:AV->AV->AV->AV->AV->Mem->Nat->O2}:x1zf call hs u xyr (j5 (x14 call hs u rec0) 0 1 2 3 8) (setE 1 (j5 (x14 call hs u rec0) 0 1 2 3 8) (setE 0 r_15 eNil))=j6 (x7e call hs u rec0 NN) 0 1 2 3 8 9:=bk x1uj
theorem x1ul{rec0:AV->AV->AV->AV->AV->Mem->Nat->O2}:x1zf call hs u xyq (j5 (x14 call hs u rec0) 0 1 2 3 8) (setE 1 (j5 (x14 call hs u rec0) 0 1 2 3 8) (setE 0 r_15 eNil))=j5 (xax call hs u rec0) 0 1 2 3 8:=tr (sqN 1 x1uk)
theorem x1um{rec0:AV->AV->AV->AV->AV->Mem->Nat->O2}:x1zf call hs u xyp (j5 (x14 call hs u rec0) 0 1 2 3 8) (setE 0 r_15 eNil)=j5 (xax call hs u rec0) 0 1 2 3 8:=bk x1ul
theorem x1un{rec0:AV->AV->AV->AV->AV->Mem->Nat->O2}:x1zf call hs u xic (j5 rec0 0 1 2 3 8) (setE 0 r_15 eNil)=j5 (xax call hs u rec0) 0 1 2 3 8:=sq2 x1uh x1um
theorem x1uo{rec0:AV->AV->AV->AV->AV->Mem->Nat->O2}:x1zf call hs u xyo (j5 rec0 0 1 2 3 8) (setE 0 r_15 eNil)=j5 (xmb call hs u rec0) 0 1 2 3 8:=tr (sqN 1 x1un)
theorem x1up:x1zf call hs u xyn r_15 (setE 0 r_15 eNil)=j5 (x7f call hs u NN) 0 1 2 3 8:=lp (Ln:=fun n=>j5 (x7f call hs u n) 0 1 2 3 8) fun n=>tr x1uo
theorem x1uq:x1zf call hs u xym r_15 eNil=j5 (x7f call hs u NN) 0 1 2 3 8:=bk x1up
theorem x15t:x1zf call hs u xyl r_15 eNil=j4 (xmc call hs u) 0 1 2 3:=tr (sqN 1 x1uq)
noncomputable abbrev x1xa:=VX x2z 220 r_15
noncomputable def xid:=x1x2 x2z
noncomputable def xyt:=nL xid
noncomputable def xie:=nR xid
noncomputable def xyu:=nL xie
noncomputable def xyv:=nR xie
noncomputable def xif:=nRs 3 xyv
noncomputable def x1ur:=nL xif
noncomputable def xyw:=nR xif
noncomputable def xig:=nR xyw
noncomputable def xyx:=nL xig
noncomputable def xyy:=nR xig
noncomputable def xih:=nR xyy
noncomputable def x1us:=nL xih
noncomputable def xii:=nR xih
noncomputable def x1ut:=nL xii
noncomputable def x1uu:=nR xii
noncomputable def xyz:=nR xyx
noncomputable def x1uv:=nR xyz
noncomputable def xij:=nR xyu
noncomputable def xz0:=nL xij
noncomputable def x1uw:=nR xij
noncomputable def xik:=nRs 2 xz0
noncomputable def xz1:=nL xik
noncomputable def xil:=nR xik
noncomputable def xz2:=nL xil
noncomputable def x1ux:=nR xil
noncomputable def xz3:=nR xz2
noncomputable def xz4:=nR xz3
noncomputable def x1uy:=nR xz4
noncomputable def xz5:=nR xz1
noncomputable def x1uz:=nR xz5
noncomputable def xim:=nR xyt
noncomputable def xz6:=nL xim
noncomputable def x1v0:=nR xim
noncomputable def xin:=nRs 2 xz6
noncomputable def xz7:=nL xin
noncomputable def xio:=nR xin
noncomputable def xz8:=nL xio
noncomputable def x1v1:=nR xio
noncomputable def xz9:=nR xz8
noncomputable def xza:=nR xz9
noncomputable def x1v2:=nR xza
noncomputable def xzb:=nR xz7
noncomputable def x1v3:=nR xzb
theorem x1v4:x1xa call hs u x1uu r_15 eNil=j5 (xay call hs u) 0 3 4 18 24:=by kernel_rfl
theorem x1v5:x1xa call hs u x1ut (j5 (xay call hs u) 0 3 4 18 24) eNil=j7 (x7g call hs u) 0 1 3 4 18 20 24:=by kernel_rfl
theorem x1v6:x1xa call hs u xii r_15 eNil=j7 (x7g call hs u) 0 1 3 4 18 20 24:=sq2 x1v4 x1v5
theorem x1v7:x1xa call hs u x1us (j7 (x7g call hs u) 0 1 3 4 18 20 24) eNil=j8 (xek call hs u) 0 1 2 3 4 18 20 24:=by kernel_rfl
theorem x1v8:x1xa call hs u xih r_15 eNil=j8 (xek call hs u) 0 1 2 3 4 18 20 24:=sq2 x1v6 x1v7
theorem x1v9:x1xa call hs u xyy r_15 eNil=j8 (x4m call hs u) 0 1 2 3 4 18 19 20:=tr (sqN 1 x1v8)
theorem x1va{rec0:AV->AV->AV->AV->AV->AV->AV->AV->AV->AV->Mem->Nat->O2}:x1xa call hs u x1uv (j10 rec0 0 1 2 3 4 18 19 20 21 22) (setE 8 (j8 (x4m call hs u) 0 1 2 3 4 18 19 20) eNil)=j10 (xmd call hs u rec0) 0 1 2 3 4 18 19 20 21 22:=by kernel_rfl
theorem x1vb:x1xa call hs u xyz (j8 (x4m call hs u) 0 1 2 3 4 18 19 20) (setE 8 (j8 (x4m call hs u) 0 1 2 3 4 18 19 20) eNil)=j10 (x4n call hs u NN) 0 1 2 3 4 18 19 20 21 22:=lp (Ln:=fun n=>j10 (x4n call hs u n) 0 1 2 3 4 18 19 20 21 22) fun n=>tr x1va
theorem x1vc:x1xa call hs u xyx (j8 (x4m call hs u) 0 1 2 3 4 18 19 20) eNil=j10 (x4n call hs u NN) 0 1 2 3 4 18 19 20 21 22:=bk x1vb
theorem x1vd:x1xa call hs u xig r_15 eNil=j10 (x4n call hs u NN) 0 1 2 3 4 18 19 20 21 22:=sq2 x1v9 x1vc
theorem x1ve:x1xa call hs u xyw r_15 eNil=j9 (xaz call hs u) 0 1 2 3 4 18 19 20 21:=tr (sqN 1 x1vd)
theorem x1vf:x1xa call hs u x1ur (j9 (xaz call hs u) 0 1 2 3 4 18 19 20 21) eNil=j7 (xel call hs u) 0 1 2 3 4 18 19:=by kernel_rfl
theorem x1vg:x1xa call hs u xif r_15 eNil=j7 (xel call hs u) 0 1 2 3 4 18 19:=sq2 x1ve x1vf
theorem x1vh:x1xa call hs u xyv r_15 eNil=j5 (x26 call hs u) 0 1 2 3 4:=tr (sqN 3 x1vg)
theorem x1vi:x1xa call hs u x1ux (j5 (x26 call hs u) 0 1 2 3 4) eNil=j0 (x3l call hs u):=by kernel_rfl
theorem x1vj{rec1:AV->AV->AV->Mem->Nat->O2}:x1xa call hs u x1uy (j3 rec1 0 14 17) (setE 6 (j0 (x3l call hs u)) eNil)=j3 (xme call hs u rec1) 0 14 17:=by kernel_rfl
theorem x1vk:x1xa call hs u xz4 (j0 (x3l call hs u)) (setE 6 (j0 (x3l call hs u)) eNil)=j3 (x7h call hs u NN) 0 14 17:=lp (Ln:=fun n=>j3 (x7h call hs u n) 0 14 17) fun n=>tr x1vj
theorem x1vl:x1xa call hs u xz3 (j0 (x3l call hs u)) eNil=j3 (x7h call hs u NN) 0 14 17:=bk x1vk
theorem x1vm:x1xa call hs u xz2 (j0 (x3l call hs u)) eNil=j3 (x3m call hs u) 0 2 14:=tr (sqN 1 x1vl)
theorem x1vn:x1xa call hs u xil (j5 (x26 call hs u) 0 1 2 3 4) eNil=j3 (x3m call hs u) 0 2 14:=sq2 x1vi x1vm
theorem x1vo{rec2:AV->AV->AV->AV->AV->Mem->Nat->O2}:x1xa call hs u x1uz (j5 rec2 0 2 4 14 15) (setE 4 (j3 (x3m call hs u) 0 2 14) eNil)=j5 (xmf call hs u rec2) 0 2 4 14 15:=by kernel_rfl
theorem x1vp:x1xa call hs u xz5 (j3 (x3m call hs u) 0 2 14) (setE 4 (j3 (x3m call hs u) 0 2 14) eNil)=j5 (x4o call hs u NN) 0 2 4 14 15:=lp (Ln:=fun n=>j5 (x4o call hs u n) 0 2 4 14 15) fun n=>tr x1vo
theorem x1vq:x1xa call hs u xz1 (j3 (x3m call hs u) 0 2 14) eNil=j5 (x4o call hs u NN) 0 2 4 14 15:=bk x1vp
theorem x1vr:x1xa call hs u xik (j5 (x26 call hs u) 0 1 2 3 4) eNil=j5 (x4o call hs u NN) 0 2 4 14 15:=sq2 x1vn x1vq
theorem x1vs:x1xa call hs u xz0 (j5 (x26 call hs u) 0 1 2 3 4) eNil=j4 (xmg call hs u) 0 1 2 4:=tr (sqN 2 x1vr)
theorem x1vt:x1xa call hs u x1uw (j5 (x26 call hs u) 0 1 2 3 4) eNil=j5 (xmh call hs u) 0 1 2 3 4:=by kernel_rfl
theorem x1vu:x1xa call hs u xij (j5 (x26 call hs u) 0 1 2 3 4) eNil=j6 (xmi call hs u) 0 1 2 3 4 80:=tr (cd x1vs x1vt)
theorem x1vv:x1xa call hs u xyu (j5 (x26 call hs u) 0 1 2 3 4) eNil=j5 (x1p call hs u) 0 1 2 3 4:=tr (sqN 1 x1vu)
theorem x1vw:x1xa call hs u xie r_15 eNil=j5 (x1p call hs u) 0 1 2 3 4:=sq2 x1vh x1vv
theorem x1vx:x1xa call hs u x1v1 (j5 (x1p call hs u) 0 1 2 3 4) eNil=j0 (x3n call hs u):=by kernel_rfl
theorem x1vy{rec3:AV->AV->AV->Mem->Nat->O2}:x1xa call hs u x1v2 (j3 rec3 0 10 13) (setE 2 (j0 (x3n call hs u)) eNil)=j3 (xmj call hs u rec3) 0 10 13:=by kernel_rfl
theorem x1vz:x1xa call hs u xza (j0 (x3n call hs u)) (setE 2 (j0 (x3n call hs u)) eNil)=j3 (x7i call hs u NN) 0 10 13:=lp (Ln:=fun n=>j3 (x7i call hs u n) 0 10 13) fun n=>tr x1vy
theorem x1w0:x1xa call hs u xz9 (j0 (x3n call hs u)) eNil=j3 (x7i call hs u NN) 0 10 13:=bk x1vz
theorem x1w1:x1xa call hs u xz8 (j0 (x3n call hs u)) eNil=j3 (x3o call hs u) 0 1 10:=tr (sqN 1 x1w0)
theorem x1w2:x1xa call hs u xio (j5 (x1p call hs u) 0 1 2 3 4) eNil=j3 (x3o call hs u) 0 1 10:=sq2 x1vx x1w1
theorem x1w3{rec4:AV->AV->AV->AV->AV->Mem->Nat->O2}:x1xa call hs u x1v3 (j5 rec4 0 1 4 10 11) (setE 0 (j3 (x3o call hs u) 0 1 10) eNil)=j5 (xmk call hs u rec4) 0 1 4 10 11:=by kernel_rfl
theorem x1w4:x1xa call hs u xzb (j3 (x3o call hs u) 0 1 10) (setE 0 (j3 (x3o call hs u) 0 1 10) eNil)=j5 (x4p call hs u NN) 0 1 4 10 11:=lp (Ln:=fun n=>j5 (x4p call hs u n) 0 1 4 10 11) fun n=>tr x1w3
theorem x1w5:x1xa call hs u xz7 (j3 (x3o call hs u) 0 1 10) eNil=j5 (x4p call hs u NN) 0 1 4 10 11:=bk x1w4
theorem x1w6:x1xa call hs u xin (j5 (x1p call hs u) 0 1 2 3 4) eNil=j5 (x4p call hs u NN) 0 1 4 10 11:=sq2 x1w2 x1w5
theorem x1w7:x1xa call hs u xz6 (j5 (x1p call hs u) 0 1 2 3 4) eNil=j5 (xml call hs u) 0 1 2 3 4:=tr (sqN 2 x1w6)
theorem x1w8:x1xa call hs u x1v0 (j5 (x1p call hs u) 0 1 2 3 4) eNil=j5 (xmm call hs u) 0 1 2 3 4:=by kernel_rfl
theorem x1w9:x1xa call hs u xim (j5 (x1p call hs u) 0 1 2 3 4) eNil=j6 (xmn call hs u) 0 1 2 3 4 28:=tr (cd x1w7 x1w8)
theorem x1wa:x1xa call hs u xyt (j5 (x1p call hs u) 0 1 2 3 4) eNil=j5 (xem call hs u) 0 1 2 3 4:=tr (sqN 1 x1w9)
theorem x15u:x1xa call hs u xid r_15 eNil=j5 (xem call hs u) 0 1 2 3 4:=sq2 x1vw x1wa
noncomputable abbrev x1zg:=VX x94 49 r_15
noncomputable def xzc:=x1x2 x94
noncomputable def xzd:=nR xzc
noncomputable def xze:=nR xzd
noncomputable def xzf:=nR xze
noncomputable def xip:=nR xzf
noncomputable def xzg:=nL xip
noncomputable def x1wb:=nR xip
noncomputable def xzh:=nR xzg
noncomputable def xzi:=nR xzh
noncomputable def xzj:=nR xzi
noncomputable def x1wc:=nR xzj
theorem x1wd{rec0:AV->AV->AV->AV->Mem->Nat->O2}:x1zg call hs u x1wb (j4 rec0 0 1 2 6) (setE 0 r_15 eNil)=j4 (x15 call hs u rec0) 0 1 2 6:=by kernel_rfl
theorem x1we{rec0:AV->AV->AV->AV->Mem->Nat->O2}{rec1:AV->AV->AV->AV->AV->Mem->Nat->O2}:x1zg call hs u x1wc (j5 rec1 0 1 2 6 7) (setE 2 (j4 (x15 call hs u rec0) 0 1 2 6) (setE 1 (j4 (x15 call hs u rec0) 0 1 2 6) (setE 0 r_15 eNil)))=j5 (xmo call hs u rec0 rec1) 0 1 2 6 7:=by kernel_rfl
theorem x1wf{rec0:AV->AV->AV->AV->Mem->Nat->O2}:x1zg call hs u xzj (j4 (x15 call hs u rec0) 0 1 2 6) (setE 2 (j4 (x15 call hs u rec0) 0 1 2 6) (setE 1 (j4 (x15 call hs u rec0) 0 1 2 6) (setE 0 r_15 eNil)))=j5 (x7j call hs u rec0 NN) 0 1 2 6 7:=lp (Ln:=fun n=>j5 (x7j call hs u rec0 n) 0 1 2 6 7) fun n=>tr x1we
theorem x1wg{rec0:AV->AV->AV->AV->Mem->Nat->O2}:x1zg call hs u xzi (j4 (x15 call hs u rec0) 0 1 2 6) (setE 1 (j4 (x15 call hs u rec0) 0 1 2 6) (setE 0 r_15 eNil))=j5 (x7j call hs u rec0 NN) 0 1 2 6 7:=bk x1wf
theorem x1wh{rec0:AV->AV->AV->AV->Mem->Nat->O2}:x1zg call hs u xzh (j4 (x15 call hs u rec0) 0 1 2 6) (setE 1 (j4 (x15 call hs u rec0) 0 1 2 6) (setE 0 r_15 eNil))=j4 (xb0 call hs u rec0) 0 1 2 6:=tr (sqN 1 x1wg)
theorem x1wi{rec0:AV->AV->AV->AV->Mem->Nat->O2}:x1zg call hs u xzg (j4 (x15 call hs u rec0) 0 1 2 6) (setE 0 r_15 eNil)=j4 (xb0 call hs u rec0) 0 1 2 6:=bk x1wh
theorem x1wj{rec0:AV->AV->AV->AV->Mem->Nat->O2}:x1zg call hs u xip (j4 rec0 0 1 2 6) (setE 0 r_15 eNil)=j4 (xb0 call hs u rec0) 0 1 2 6:=sq2 x1wd x1wi
theorem x1wk{rec0:AV->AV->AV->AV->Mem->Nat->O2}:x1zg call hs u xzf (j4 rec0 0 1 2 6) (setE 0 r_15 eNil)=j4 (xmp call hs u rec0) 0 1 2 6:=tr (sqN 1 x1wj)
theorem x1wl:x1zg call hs u xze r_15 (setE 0 r_15 eNil)=j4 (x7k call hs u NN) 0 1 2 6:=lp (Ln:=fun n=>j4 (x7k call hs u n) 0 1 2 6) fun n=>tr x1wk
theorem x1wm:x1zg call hs u xzd r_15 eNil=j4 (x7k call hs u NN) 0 1 2 6:=bk x1wl
theorem x15v:x1zg call hs u xzc r_15 eNil=j3 (xmq call hs u) 0 1 2:=tr (sqN 1 x1wm)
noncomputable abbrev x1zz:=VX x95 56 r_15
noncomputable def xzk:=x1x2 x95
noncomputable def xiq:=nRs 3 xzk
noncomputable def xzl:=nL xiq
noncomputable def xzm:=nR xiq
noncomputable def xzn:=nR xzm
noncomputable def xzo:=nR xzn
noncomputable def x1wn:=nR xzo
noncomputable def xzp:=nR xzl
noncomputable def xzq:=nR xzp
noncomputable def x1wo:=nR xzq
theorem x1wp{rec0:AV->AV->AV->AV->Mem->Nat->O2}:x1zz call hs u x1wn (j4 rec0 0 6 7 10) (setE 2 r_15 eNil)=j4 (xmr call hs u rec0) 0 6 7 10:=by kernel_rfl
theorem x1wq:x1zz call hs u xzo r_15 (setE 2 r_15 eNil)=j4 (x7l call hs u NN) 0 6 7 10:=lp (Ln:=fun n=>j4 (x7l call hs u n) 0 6 7 10) fun n=>tr x1wp
theorem x1wr:x1zz call hs u xzn r_15 eNil=j4 (x7l call hs u NN) 0 6 7 10:=bk x1wq
theorem x1ws:x1zz call hs u xzm r_15 eNil=j4 (x3p call hs u) 0 6 7 8:=tr (sqN 1 x1wr)
theorem x1wt{rec1:AV->AV->AV->AV->AV->Mem->Nat->O2}:x1zz call hs u x1wo (j5 rec1 0 6 7 8 9) (setE 0 (j4 (x3p call hs u) 0 6 7 8) eNil)=j5 (xms call hs u rec1) 0 6 7 8 9:=by kernel_rfl
theorem x1wu:x1zz call hs u xzq (j4 (x3p call hs u) 0 6 7 8) (setE 0 (j4 (x3p call hs u) 0 6 7 8) eNil)=j5 (x7m call hs u NN) 0 6 7 8 9:=lp (Ln:=fun n=>j5 (x7m call hs u n) 0 6 7 8 9) fun n=>tr x1wt
theorem x1wv:x1zz call hs u xzp (j4 (x3p call hs u) 0 6 7 8) eNil=j5 (x7m call hs u NN) 0 6 7 8 9:=bk x1wu
theorem x1ww:x1zz call hs u xzl (j4 (x3p call hs u) 0 6 7 8) eNil=j4 (xen call hs u) 0 6 7 8:=tr (sqN 1 x1wv)
theorem x1wx:x1zz call hs u xiq r_15 eNil=j4 (xen call hs u) 0 6 7 8:=sq2 x1ws x1ww
theorem x15w:x1zz call hs u xzk r_15 eNil=j3 (xmt call hs u) 0 1 2:=tr (sqN 3 x1wx)
end Go.Ix
