import Derived.Test.YtpeakdjfagbpcaaGreatFxText0
import Derived.Test.YtpeakdjfagbpcaaGreatFxEnt
import Derived.Test.YtpeakdjfagbpcaaGreatFxRules
import Derived.Test.YtpeakdjfagbpcaaGreatFxProj
import Derived.ProofKit
set_option linter.unusedVariables false
namespace Go.Ix
open Go.Proofs
variable{call:x13d}{hs:FHs}{u:Nat}
noncomputable abbrev x1j0:=VX x58 131 r_0
noncomputable def xph:=x13k x58
theorem xni:x1j0 call hs u xph r_0 eNil=j2 (xar call hs u) 0 1:=by kernel_rfl
noncomputable abbrev x18e:=VX x3e 63 r_1
noncomputable def xf4:=x13k x3e
noncomputable def xcy:=nRs 3 xf4
noncomputable def xf5:=nL xcy
noncomputable def xpi:=nR xcy
noncomputable def xf6:=nR xf5
noncomputable def xf7:=nR xf6
noncomputable def xpj:=nR xf7
theorem xpk:x18e call hs u xpi r_1 eNil=j0 (x24 call hs u):=by kernel_rfl
theorem xpl{rec0:AV->AV->Mem->Nat->O2}:x18e call hs u xpj (j2 rec0 1 3) (setE 0 (j0 (x24 call hs u)) eNil)=j2 (x68 call hs u rec0) 1 3:=by kernel_rfl
theorem xpm:x18e call hs u xf7 (j0 (x24 call hs u)) (setE 0 (j0 (x24 call hs u)) eNil)=j2 (x25 call hs u NN) 1 3:=lp (Ln:=fun n=>j2 (x25 call hs u n) 1 3) fun n=>tr xpl
theorem xpn:x18e call hs u xf6 (j0 (x24 call hs u)) eNil=j2 (x25 call hs u NN) 1 3:=bk xpm
theorem xpo:x18e call hs u xf5 (j0 (x24 call hs u)) eNil=j1 (x5a call hs u) 1:=tr (sqN 1 xpn)
theorem xpp:x18e call hs u xcy r_1 eNil=j1 (x5a call hs u) 1:=sq2 xpk xpo
theorem xnj:x18e call hs u xf4 r_1 eNil=j1 (xat call hs u) 0:=tr (sqN 3 xpp)
noncomputable abbrev x1j1:=VX x1c 13 r_2
noncomputable def xpq:=x13k x1c
theorem xnk:x1j1 call hs u xpq r_2 eNil=j1 (xau call hs u) 0:=by kernel_rfl
noncomputable abbrev x15y:=VX x1v 58 r_1
noncomputable def xf8:=x13k x1v
noncomputable def xcz:=nRs 3 xf8
noncomputable def xf9:=nL xcz
noncomputable def xd0:=nR xcz
noncomputable def xfa:=nL xd0
noncomputable def xpr:=nR xd0
noncomputable def xfb:=nR xfa
noncomputable def xfc:=nR xfb
noncomputable def xps:=nR xfc
noncomputable def xfd:=nR xf9
noncomputable def xfe:=nR xfd
noncomputable def xpt:=nR xfe
theorem xpu:x15y call hs u xpr r_1 eNil=j0 (x26 call hs u):=by kernel_rfl
theorem xpv{rec0:AV->AV->Mem->Nat->O2}:x15y call hs u xps (j2 rec0 1 5) (setE 2 (j0 (x26 call hs u)) eNil)=j2 (x69 call hs u rec0) 1 5:=by kernel_rfl
theorem xpw:x15y call hs u xfc (j0 (x26 call hs u)) (setE 2 (j0 (x26 call hs u)) eNil)=j2 (x27 call hs u NN) 1 5:=lp (Ln:=fun n=>j2 (x27 call hs u n) 1 5) fun n=>tr xpv
theorem xpx:x15y call hs u xfb (j0 (x26 call hs u)) eNil=j2 (x27 call hs u NN) 1 5:=bk xpw
theorem xpy:x15y call hs u xfa (j0 (x26 call hs u)) eNil=j1 (x1e call hs u) 1:=tr (sqN 1 xpx)
theorem xpz:x15y call hs u xd0 r_1 eNil=j1 (x1e call hs u) 1:=sq2 xpu xpy
theorem xq0{rec1:AV->AV->Mem->Nat->O2}:x15y call hs u xpt (j2 rec1 1 4) (setE 0 (j1 (x1e call hs u) 1) eNil)=j2 (x6a call hs u rec1) 1 4:=by kernel_rfl
theorem xq1:x15y call hs u xfe (j1 (x1e call hs u) 1) (setE 0 (j1 (x1e call hs u) 1) eNil)=j2 (x28 call hs u NN) 1 4:=lp (Ln:=fun n=>j2 (x28 call hs u n) 1 4) fun n=>tr xq0
theorem xq2:x15y call hs u xfd (j1 (x1e call hs u) 1) eNil=j2 (x28 call hs u NN) 1 4:=bk xq1
theorem xq3:x15y call hs u xf9 (j1 (x1e call hs u) 1) eNil=j1 (x6b call hs u) 1:=tr (sqN 1 xq2)
theorem xq4:x15y call hs u xcz r_1 eNil=j1 (x6b call hs u) 1:=sq2 xpz xq3
theorem xnl:x15y call hs u xf8 r_1 eNil=j1 (xaw call hs u) 0:=tr (sqN 3 xq4)
noncomputable abbrev x1j2:=VX xu 15 r_3
noncomputable def xq5:=x13k xu
theorem xnm:x1j2 call hs u xq5 r_3 eNil=j3 (xax call hs u) 0 1 2:=by kernel_rfl
noncomputable abbrev x151:=VX x3f 50 r_4
noncomputable def xff:=x13k x3f
noncomputable def xd1:=nRs 2 xff
noncomputable def xfg:=nL xd1
noncomputable def xq6:=nR xd1
noncomputable def xfh:=nR xfg
noncomputable def xfi:=nR xfh
noncomputable def xfj:=nR xfi
noncomputable def xd2:=nR xfj
noncomputable def xfk:=nL xd2
noncomputable def xq7:=nR xd2
noncomputable def xfl:=nR xfk
noncomputable def xd3:=nRs 2 xfl
noncomputable def xfm:=nL xd3
noncomputable def xq8:=nR xd3
noncomputable def xfn:=nR xfm
noncomputable def xfo:=nR xfn
noncomputable def xq9:=nR xfo
theorem xqa:x151 call hs u xq6 r_4 eNil=j0 (xf call hs u):=by kernel_rfl
theorem xqb{rec0:AV->AV->Mem->Nat->O2}:x151 call hs u xq7 (j2 rec0 0 4) (setE 0 (j0 (xf call hs u)) eNil)=j2 (xo call hs u rec0) 0 4:=by kernel_rfl
theorem xqc{rec0:AV->AV->Mem->Nat->O2}:x151 call hs u xq8 (j2 (xo call hs u rec0) 0 4) (setE 1 (j2 (xo call hs u rec0) 0 4) (setE 0 (j0 (xf call hs u)) eNil))=j3 (x1f call hs u rec0) 0 4 5:=by kernel_rfl
theorem xqd{rec0:AV->AV->Mem->Nat->O2}{rec1:AV->AV->AV->AV->Mem->Nat->O2}:x151 call hs u xq9 (j4 rec1 0 4 5 6) (setE 2 (j3 (x1f call hs u rec0) 0 4 5) (setE 1 (j2 (xo call hs u rec0) 0 4) (setE 0 (j0 (xf call hs u)) eNil)))=j4 (x6c call hs u rec0 rec1) 0 4 5 6:=by kernel_rfl
theorem xqe{rec0:AV->AV->Mem->Nat->O2}:x151 call hs u xfo (j3 (x1f call hs u rec0) 0 4 5) (setE 2 (j3 (x1f call hs u rec0) 0 4 5) (setE 1 (j2 (xo call hs u rec0) 0 4) (setE 0 (j0 (xf call hs u)) eNil)))=j4 (x29 call hs u rec0 NN) 0 4 5 6:=lp (Ln:=fun n=>j4 (x29 call hs u rec0 n) 0 4 5 6) fun n=>tr xqd
theorem xqf{rec0:AV->AV->Mem->Nat->O2}:x151 call hs u xfn (j3 (x1f call hs u rec0) 0 4 5) (setE 1 (j2 (xo call hs u rec0) 0 4) (setE 0 (j0 (xf call hs u)) eNil))=j4 (x29 call hs u rec0 NN) 0 4 5 6:=bk xqe
theorem xqg{rec0:AV->AV->Mem->Nat->O2}:x151 call hs u xfm (j3 (x1f call hs u rec0) 0 4 5) (setE 1 (j2 (xo call hs u rec0) 0 4) (setE 0 (j0 (xf call hs u)) eNil))=j3 (x6d call hs u rec0) 0 4 5:=tr (sqN 1 xqf)
theorem xqh{rec0:AV->AV->Mem->Nat->O2}:x151 call hs u xd3 (j2 (xo call hs u rec0) 0 4) (setE 1 (j2 (xo call hs u rec0) 0 4) (setE 0 (j0 (xf call hs u)) eNil))=j3 (x6d call hs u rec0) 0 4 5:=sq2 xqc xqg
theorem xqi{rec0:AV->AV->Mem->Nat->O2}:x151 call hs u xfl (j2 (xo call hs u rec0) 0 4) (setE 1 (j2 (xo call hs u rec0) 0 4) (setE 0 (j0 (xf call hs u)) eNil))=j2 (x5b call hs u rec0) 0 4:=tr (sqN 2 xqh)
theorem xqj{rec0:AV->AV->Mem->Nat->O2}:x151 call hs u xfk (j2 (xo call hs u rec0) 0 4) (setE 0 (j0 (xf call hs u)) eNil)=j2 (x5b call hs u rec0) 0 4:=bk xqi
theorem xqk{rec0:AV->AV->Mem->Nat->O2}:x151 call hs u xd2 (j2 rec0 0 4) (setE 0 (j0 (xf call hs u)) eNil)=j2 (x5b call hs u rec0) 0 4:=sq2 xqb xqj
theorem xql{rec0:AV->AV->Mem->Nat->O2}:x151 call hs u xfj (j2 rec0 0 4) (setE 0 (j0 (xf call hs u)) eNil)=j2 (x6e call hs u rec0) 0 4:=tr (sqN 1 xqk)
theorem xqm:x151 call hs u xfi (j0 (xf call hs u)) (setE 0 (j0 (xf call hs u)) eNil)=j2 (x15 call hs u NN) 0 4:=lp (Ln:=fun n=>j2 (x15 call hs u n) 0 4) fun n=>tr xql
theorem xqn:x151 call hs u xfh (j0 (xf call hs u)) eNil=j2 (x15 call hs u NN) 0 4:=bk xqm
theorem xqo:x151 call hs u xfg (j0 (xf call hs u)) eNil=j1 (x6f call hs u) 0:=tr (sqN 1 xqn)
theorem xqp:x151 call hs u xd1 r_4 eNil=j1 (x6f call hs u) 0:=sq2 xqa xqo
theorem xnn:x151 call hs u xff r_4 eNil=j1 (xay call hs u) 0:=tr (sqN 2 xqp)
noncomputable abbrev x18f:=VX x49 53 r_1
noncomputable def xfp:=x13k x49
noncomputable def xd4:=nRs 2 xfp
noncomputable def xfq:=nL xd4
noncomputable def xqq:=nR xd4
noncomputable def xfr:=nR xfq
noncomputable def xfs:=nR xfr
noncomputable def xqr:=nR xfs
theorem xqs:x18f call hs u xqq r_1 eNil=j0 (x2b call hs u):=by kernel_rfl
theorem xqt{rec0:AV->AV->Mem->Nat->O2}:x18f call hs u xqr (j2 rec0 1 3) (setE 0 (j0 (x2b call hs u)) eNil)=j2 (x6g call hs u rec0) 1 3:=by kernel_rfl
theorem xqu:x18f call hs u xfs (j0 (x2b call hs u)) (setE 0 (j0 (x2b call hs u)) eNil)=j2 (x2c call hs u NN) 1 3:=lp (Ln:=fun n=>j2 (x2c call hs u n) 1 3) fun n=>tr xqt
theorem xqv:x18f call hs u xfr (j0 (x2b call hs u)) eNil=j2 (x2c call hs u NN) 1 3:=bk xqu
theorem xqw:x18f call hs u xfq (j0 (x2b call hs u)) eNil=j1 (x5c call hs u) 1:=tr (sqN 1 xqv)
theorem xqx:x18f call hs u xd4 r_1 eNil=j1 (x5c call hs u) 1:=sq2 xqs xqw
theorem xno:x18f call hs u xfp r_1 eNil=j1 (xaz call hs u) 0:=tr (sqN 2 xqx)
noncomputable abbrev x1j3:=VX x3g 12 r_5
noncomputable def xqy:=x13k x3g
theorem xnp:x1j3 call hs u xqy r_5 eNil=j1 (xb0 call hs u) 0:=by kernel_rfl
noncomputable abbrev x1j4:=VX x1w 6 r_1
noncomputable def xqz:=x13k x1w
theorem xnq:x1j4 call hs u xqz r_1 eNil=j1 (xb2 call hs u) 0:=by kernel_rfl
noncomputable abbrev x1j5:=VX x4a 11 r_1
noncomputable def xr0:=x13k x4a
theorem xnr:x1j5 call hs u xr0 r_1 eNil=j1 (xb3 call hs u) 0:=by kernel_rfl
noncomputable abbrev x18g:=VX x1d 18 r_0
noncomputable def xft:=x13k x1d
noncomputable def xd5:=nR xft
noncomputable def xfu:=nL xd5
noncomputable def xr1:=nR xd5
noncomputable def xfv:=nR xfu
noncomputable def xfw:=nR xfv
noncomputable def xr2:=nR xfw
theorem xr3:x18g call hs u xr1 r_0 eNil=j0 (x2d call hs u):=by kernel_rfl
theorem xr4{rec0:AV->AV->AV->Mem->Nat->O2}:x18g call hs u xr2 (j3 rec0 0 1 5) (setE 0 (j0 (x2d call hs u)) eNil)=j3 (x6h call hs u rec0) 0 1 5:=by kernel_rfl
theorem xr5:x18g call hs u xfw (j0 (x2d call hs u)) (setE 0 (j0 (x2d call hs u)) eNil)=j3 (x2e call hs u NN) 0 1 5:=lp (Ln:=fun n=>j3 (x2e call hs u n) 0 1 5) fun n=>tr xr4
theorem xr6:x18g call hs u xfv (j0 (x2d call hs u)) eNil=j3 (x2e call hs u NN) 0 1 5:=bk xr5
theorem xr7:x18g call hs u xfu (j0 (x2d call hs u)) eNil=j2 (xb4 call hs u) 0 1:=tr (sqN 1 xr6)
theorem xr8:x18g call hs u xd5 r_0 eNil=j2 (xb4 call hs u) 0 1:=sq2 xr3 xr7
theorem xns:x18g call hs u xft r_0 eNil=j2 (xev call hs u) 0 1:=tr (sqN 1 xr8)
noncomputable abbrev x15i:=VX x4b 70 r_0
noncomputable def xfx:=x13k x4b
noncomputable def xd6:=nRs 4 xfx
noncomputable def xfy:=nL xd6
noncomputable def xr9:=nR xd6
noncomputable def xfz:=nR xfy
noncomputable def xg0:=nR xfz
noncomputable def xg1:=nR xg0
noncomputable def xd7:=nRs 2 xg1
noncomputable def xg2:=nL xd7
noncomputable def xra:=nR xd7
noncomputable def xg3:=nR xg2
noncomputable def xd8:=nRs 3 xg3
noncomputable def xrb:=nL xd8
noncomputable def xrc:=nR xd8
theorem xrd:x15i call hs u xr9 r_0 eNil=j2 (xl call hs u) 6 7:=by kernel_rfl
theorem xre{rec0:AV->AV->AV->AV->AV->AV->Mem->Nat->O2}:x15i call hs u xra (j6 rec0 2 6 7 25 26 27) (setE 1 (j2 (xl call hs u) 6 7) eNil)=j6 (xx call hs u rec0) 2 6 7 25 26 27:=by kernel_rfl
theorem xrf{rec0:AV->AV->AV->AV->AV->AV->Mem->Nat->O2}:x15i call hs u xrc (j6 (xx call hs u rec0) 2 6 7 25 26 27) (setE 2 (j6 (xx call hs u rec0) 2 6 7 25 26 27) (setE 1 (j2 (xl call hs u) 6 7) eNil))=j6 (x5d call hs u rec0) 2 6 11 25 26 27:=by kernel_rfl
theorem xrg{rec0:AV->AV->AV->AV->AV->AV->Mem->Nat->O2}:x15i call hs u xrb (j6 (x5d call hs u rec0) 2 6 11 25 26 27) (setE 2 (j6 (xx call hs u rec0) 2 6 7 25 26 27) (setE 1 (j2 (xl call hs u) 6 7) eNil))=j9 (x5e call hs u rec0) 2 6 7 8 10 11 25 26 27:=by kernel_rfl
theorem xrh{rec0:AV->AV->AV->AV->AV->AV->Mem->Nat->O2}:x15i call hs u xd8 (j6 (xx call hs u rec0) 2 6 7 25 26 27) (setE 2 (j6 (xx call hs u rec0) 2 6 7 25 26 27) (setE 1 (j2 (xl call hs u) 6 7) eNil))=j9 (x5e call hs u rec0) 2 6 7 8 10 11 25 26 27:=sq2 xrf xrg
theorem xri{rec0:AV->AV->AV->AV->AV->AV->Mem->Nat->O2}:x15i call hs u xg3 (j6 (xx call hs u rec0) 2 6 7 25 26 27) (setE 2 (j6 (xx call hs u rec0) 2 6 7 25 26 27) (setE 1 (j2 (xl call hs u) 6 7) eNil))=j6 (x5f call hs u rec0) 2 6 7 25 26 27:=tr (sqN 3 xrh)
theorem xrj{rec0:AV->AV->AV->AV->AV->AV->Mem->Nat->O2}:x15i call hs u xg2 (j6 (xx call hs u rec0) 2 6 7 25 26 27) (setE 1 (j2 (xl call hs u) 6 7) eNil)=j6 (x5f call hs u rec0) 2 6 7 25 26 27:=bk xri
theorem xrk{rec0:AV->AV->AV->AV->AV->AV->Mem->Nat->O2}:x15i call hs u xd7 (j6 rec0 2 6 7 25 26 27) (setE 1 (j2 (xl call hs u) 6 7) eNil)=j6 (x5f call hs u rec0) 2 6 7 25 26 27:=sq2 xre xrj
theorem xrl{rec0:AV->AV->AV->AV->AV->AV->Mem->Nat->O2}:x15i call hs u xg1 (j6 rec0 2 6 7 25 26 27) (setE 1 (j2 (xl call hs u) 6 7) eNil)=j6 (x6j call hs u rec0) 2 6 7 25 26 27:=tr (sqN 2 xrk)
theorem xrm:x15i call hs u xg0 (j2 (xl call hs u) 6 7) (setE 1 (j2 (xl call hs u) 6 7) eNil)=j6 (x1h call hs u NN) 2 6 7 25 26 27:=lp (Ln:=fun n=>j6 (x1h call hs u n) 2 6 7 25 26 27) fun n=>tr xrl
theorem xrn:x15i call hs u xfz (j2 (xl call hs u) 6 7) eNil=j6 (x1h call hs u NN) 2 6 7 25 26 27:=bk xrm
theorem xro:x15i call hs u xfy (j2 (xl call hs u) 6 7) eNil=j4 (x6k call hs u) 1 2 6 7:=tr (sqN 1 xrn)
theorem xrp:x15i call hs u xd6 r_0 eNil=j4 (x6k call hs u) 1 2 6 7:=sq2 xrd xro
theorem xnt:x15i call hs u xfx r_0 eNil=j2 (xb5 call hs u) 0 1:=tr (sqN 4 xrp)
noncomputable abbrev x1j6:=VX x4c 6 r_1
noncomputable def xrq:=x13k x4c
theorem xnu:x1j6 call hs u xrq r_1 eNil=j1 (xb6 call hs u) 0:=by kernel_rfl
noncomputable abbrev x15j:=VX x4d 59 r_0
noncomputable def xg4:=x13k x4d
noncomputable def xd9:=nRs 4 xg4
noncomputable def xg5:=nL xd9
noncomputable def xrr:=nR xd9
noncomputable def xg6:=nR xg5
noncomputable def xg7:=nR xg6
noncomputable def xg8:=nR xg7
noncomputable def xda:=nR xg8
noncomputable def xg9:=nL xda
noncomputable def xrs:=nR xda
noncomputable def xga:=nR xg9
noncomputable def xdb:=nRs 4 xga
noncomputable def xrt:=nL xdb
noncomputable def xru:=nR xdb
theorem xrv:x15j call hs u xrr r_0 eNil=j2 (xm call hs u) 5 6:=by kernel_rfl
theorem xrw{rec0:AV->AV->AV->AV->AV->Mem->Nat->O2}:x15j call hs u xrs (j5 rec0 1 2 5 6 7) (setE 0 (j2 (xm call hs u) 5 6) eNil)=j5 (xy call hs u rec0) 1 2 5 6 7:=by kernel_rfl
theorem xrx{rec0:AV->AV->AV->AV->AV->Mem->Nat->O2}:x15j call hs u xru (j5 (xy call hs u rec0) 1 2 5 6 7) (setE 1 (j5 (xy call hs u rec0) 1 2 5 6 7) (setE 0 (j2 (xm call hs u) 5 6) eNil))=j5 (x5g call hs u rec0) 1 2 5 7 10:=by kernel_rfl
theorem xry{rec0:AV->AV->AV->AV->AV->Mem->Nat->O2}:x15j call hs u xrt (j5 (x5g call hs u rec0) 1 2 5 7 10) (setE 1 (j5 (xy call hs u rec0) 1 2 5 6 7) (setE 0 (j2 (xm call hs u) 5 6) eNil))=j7 (x5h call hs u rec0) 1 2 5 6 7 9 10:=by kernel_rfl
theorem xrz{rec0:AV->AV->AV->AV->AV->Mem->Nat->O2}:x15j call hs u xdb (j5 (xy call hs u rec0) 1 2 5 6 7) (setE 1 (j5 (xy call hs u rec0) 1 2 5 6 7) (setE 0 (j2 (xm call hs u) 5 6) eNil))=j7 (x5h call hs u rec0) 1 2 5 6 7 9 10:=sq2 xrx xry
theorem xs0{rec0:AV->AV->AV->AV->AV->Mem->Nat->O2}:x15j call hs u xga (j5 (xy call hs u rec0) 1 2 5 6 7) (setE 1 (j5 (xy call hs u rec0) 1 2 5 6 7) (setE 0 (j2 (xm call hs u) 5 6) eNil))=j5 (x5i call hs u rec0) 1 2 5 6 7:=tr (sqN 4 xrz)
theorem xs1{rec0:AV->AV->AV->AV->AV->Mem->Nat->O2}:x15j call hs u xg9 (j5 (xy call hs u rec0) 1 2 5 6 7) (setE 0 (j2 (xm call hs u) 5 6) eNil)=j5 (x5i call hs u rec0) 1 2 5 6 7:=bk xs0
theorem xs2{rec0:AV->AV->AV->AV->AV->Mem->Nat->O2}:x15j call hs u xda (j5 rec0 1 2 5 6 7) (setE 0 (j2 (xm call hs u) 5 6) eNil)=j5 (x5i call hs u rec0) 1 2 5 6 7:=sq2 xrw xs1
theorem xs3{rec0:AV->AV->AV->AV->AV->Mem->Nat->O2}:x15j call hs u xg8 (j5 rec0 1 2 5 6 7) (setE 0 (j2 (xm call hs u) 5 6) eNil)=j5 (x6l call hs u rec0) 1 2 5 6 7:=tr (sqN 1 xs2)
theorem xs4:x15j call hs u xg7 (j2 (xm call hs u) 5 6) (setE 0 (j2 (xm call hs u) 5 6) eNil)=j5 (x1i call hs u NN) 1 2 5 6 7:=lp (Ln:=fun n=>j5 (x1i call hs u n) 1 2 5 6 7) fun n=>tr xs3
theorem xs5:x15j call hs u xg6 (j2 (xm call hs u) 5 6) eNil=j5 (x1i call hs u NN) 1 2 5 6 7:=bk xs4
theorem xs6:x15j call hs u xg5 (j2 (xm call hs u) 5 6) eNil=j4 (x6m call hs u) 1 2 5 6:=tr (sqN 1 xs5)
theorem xs7:x15j call hs u xd9 r_0 eNil=j4 (x6m call hs u) 1 2 5 6:=sq2 xrv xs6
theorem xnv:x15j call hs u xg4 r_0 eNil=j2 (xb7 call hs u) 0 1:=tr (sqN 4 xs7)
noncomputable abbrev x147:=VX x3h 98 r_4
noncomputable def xgb:=x13k x3h
noncomputable def xdc:=nRs 4 xgb
noncomputable def xgc:=nL xdc
noncomputable def xgd:=nR xdc
noncomputable def xdd:=nR xgd
noncomputable def xge:=nL xdd
noncomputable def xs8:=nR xdd
noncomputable def xgf:=nR xge
noncomputable def xgg:=nR xgf
noncomputable def xgh:=nR xgg
noncomputable def xde:=nR xgh
noncomputable def xs9:=nL xde
noncomputable def xsa:=nR xde
noncomputable def xgi:=nR xgc
noncomputable def xgj:=nR xgi
noncomputable def xgk:=nR xgj
noncomputable def xdf:=nRs 2 xgk
noncomputable def xgl:=nL xdf
noncomputable def xsb:=nR xdf
noncomputable def xgm:=nR xgl
noncomputable def xdg:=nR xgm
noncomputable def xgn:=nL xdg
noncomputable def xsc:=nR xdg
noncomputable def xgo:=nR xgn
noncomputable def xgp:=nR xgo
noncomputable def xgq:=nR xgp
noncomputable def xdh:=nR xgq
noncomputable def xsd:=nL xdh
noncomputable def xse:=nR xdh
theorem xsf:x147 call hs u xs8 r_4 eNil=j2 (xz call hs u) 5 10:=by kernel_rfl
theorem xsg{rec0:AV->AV->AV->AV->AV->Mem->Nat->O2}:x147 call hs u xsa (j5 rec0 1 4 5 10 11) (setE 4 (j2 (xz call hs u) 5 10) eNil)=j5 (x51 call hs u rec0) 1 4 5 10 11:=by kernel_rfl
theorem xsh{rec0:AV->AV->AV->AV->AV->Mem->Nat->O2}:x147 call hs u xs9 (j5 (x51 call hs u rec0) 1 4 5 10 11) (setE 4 (j2 (xz call hs u) 5 10) eNil)=j5 (x6n call hs u rec0) 1 4 5 10 11:=by kernel_rfl
theorem xsi{rec0:AV->AV->AV->AV->AV->Mem->Nat->O2}:x147 call hs u xde (j5 rec0 1 4 5 10 11) (setE 4 (j2 (xz call hs u) 5 10) eNil)=j5 (x6n call hs u rec0) 1 4 5 10 11:=sq2 xsg xsh
theorem xsj{rec0:AV->AV->AV->AV->AV->Mem->Nat->O2}:x147 call hs u xgh (j5 rec0 1 4 5 10 11) (setE 4 (j2 (xz call hs u) 5 10) eNil)=j5 (x6o call hs u rec0) 1 4 5 10 11:=tr (sqN 1 xsi)
theorem xsk:x147 call hs u xgg (j2 (xz call hs u) 5 10) (setE 4 (j2 (xz call hs u) 5 10) eNil)=j5 (x2f call hs u NN) 1 4 5 10 11:=lp (Ln:=fun n=>j5 (x2f call hs u n) 1 4 5 10 11) fun n=>tr xsj
theorem xsl:x147 call hs u xgf (j2 (xz call hs u) 5 10) eNil=j5 (x2f call hs u NN) 1 4 5 10 11:=bk xsk
theorem xsm:x147 call hs u xge (j2 (xz call hs u) 5 10) eNil=j4 (x6p call hs u) 1 4 5 10:=tr (sqN 1 xsl)
theorem xsn:x147 call hs u xdd r_4 eNil=j4 (x6p call hs u) 1 4 5 10:=sq2 xsf xsm
theorem xso:x147 call hs u xgd r_4 eNil=j3 (xb call hs u) 1 4 5:=tr (sqN 1 xsn)
theorem xsp{rec1:AV->AV->AV->AV->AV->AV->Mem->Nat->O2}:x147 call hs u xsb (j6 rec1 1 4 5 6 18 19) (setE 0 (j3 (xb call hs u) 1 4 5) eNil)=j6 (xc call hs u rec1) 1 4 5 6 18 19:=by kernel_rfl
theorem xsq{rec1:AV->AV->AV->AV->AV->AV->Mem->Nat->O2}:x147 call hs u xsc (j6 (xc call hs u rec1) 1 4 5 6 18 19) (setE 1 (j6 (xc call hs u rec1) 1 4 5 6 18 19) (setE 0 (j3 (xb call hs u) 1 4 5) eNil))=j7 (xv call hs u rec1) 1 4 5 6 7 18 19:=by kernel_rfl
theorem xsr{rec1:AV->AV->AV->AV->AV->AV->Mem->Nat->O2}{rec2:AV->AV->AV->AV->AV->AV->AV->AV->Mem->Nat->O2}:x147 call hs u xse (j8 rec2 1 4 5 6 7 8 18 19) (setE 2 (j7 (xv call hs u rec1) 1 4 5 6 7 18 19) (setE 1 (j6 (xc call hs u rec1) 1 4 5 6 18 19) (setE 0 (j3 (xb call hs u) 1 4 5) eNil)))=j8 (x2g call hs u rec1 rec2) 1 4 5 6 7 8 18 19:=by kernel_rfl
theorem xss{rec1:AV->AV->AV->AV->AV->AV->Mem->Nat->O2}{rec2:AV->AV->AV->AV->AV->AV->AV->AV->Mem->Nat->O2}:x147 call hs u xsd (j8 (x2g call hs u rec1 rec2) 1 4 5 6 7 8 18 19) (setE 2 (j7 (xv call hs u rec1) 1 4 5 6 7 18 19) (setE 1 (j6 (xc call hs u rec1) 1 4 5 6 18 19) (setE 0 (j3 (xb call hs u) 1 4 5) eNil)))=j8 (x6q call hs u rec1 rec2) 1 4 5 6 7 8 18 19:=by kernel_rfl
theorem xst{rec1:AV->AV->AV->AV->AV->AV->Mem->Nat->O2}{rec2:AV->AV->AV->AV->AV->AV->AV->AV->Mem->Nat->O2}:x147 call hs u xdh (j8 rec2 1 4 5 6 7 8 18 19) (setE 2 (j7 (xv call hs u rec1) 1 4 5 6 7 18 19) (setE 1 (j6 (xc call hs u rec1) 1 4 5 6 18 19) (setE 0 (j3 (xb call hs u) 1 4 5) eNil)))=j8 (x6q call hs u rec1 rec2) 1 4 5 6 7 8 18 19:=sq2 xsr xss
theorem xsu{rec1:AV->AV->AV->AV->AV->AV->Mem->Nat->O2}{rec2:AV->AV->AV->AV->AV->AV->AV->AV->Mem->Nat->O2}:x147 call hs u xgq (j8 rec2 1 4 5 6 7 8 18 19) (setE 2 (j7 (xv call hs u rec1) 1 4 5 6 7 18 19) (setE 1 (j6 (xc call hs u rec1) 1 4 5 6 18 19) (setE 0 (j3 (xb call hs u) 1 4 5) eNil)))=j8 (x6r call hs u rec1 rec2) 1 4 5 6 7 8 18 19:=tr (sqN 1 xst)
theorem xsv{rec1:AV->AV->AV->AV->AV->AV->Mem->Nat->O2}:x147 call hs u xgp (j7 (xv call hs u rec1) 1 4 5 6 7 18 19) (setE 2 (j7 (xv call hs u rec1) 1 4 5 6 7 18 19) (setE 1 (j6 (xc call hs u rec1) 1 4 5 6 18 19) (setE 0 (j3 (xb call hs u) 1 4 5) eNil)))=j8 (x1j call hs u rec1 NN) 1 4 5 6 7 8 18 19:=lp (Ln:=fun n=>j8 (x1j call hs u rec1 n) 1 4 5 6 7 8 18 19) fun n=>tr xsu
theorem xsw{rec1:AV->AV->AV->AV->AV->AV->Mem->Nat->O2}:x147 call hs u xgo (j7 (xv call hs u rec1) 1 4 5 6 7 18 19) (setE 1 (j6 (xc call hs u rec1) 1 4 5 6 18 19) (setE 0 (j3 (xb call hs u) 1 4 5) eNil))=j8 (x1j call hs u rec1 NN) 1 4 5 6 7 8 18 19:=bk xsv
theorem xsx{rec1:AV->AV->AV->AV->AV->AV->Mem->Nat->O2}:x147 call hs u xgn (j7 (xv call hs u rec1) 1 4 5 6 7 18 19) (setE 1 (j6 (xc call hs u rec1) 1 4 5 6 18 19) (setE 0 (j3 (xb call hs u) 1 4 5) eNil))=j7 (x6s call hs u rec1) 1 4 5 6 7 18 19:=tr (sqN 1 xsw)
theorem xsy{rec1:AV->AV->AV->AV->AV->AV->Mem->Nat->O2}:x147 call hs u xdg (j6 (xc call hs u rec1) 1 4 5 6 18 19) (setE 1 (j6 (xc call hs u rec1) 1 4 5 6 18 19) (setE 0 (j3 (xb call hs u) 1 4 5) eNil))=j7 (x6s call hs u rec1) 1 4 5 6 7 18 19:=sq2 xsq xsx
theorem xsz{rec1:AV->AV->AV->AV->AV->AV->Mem->Nat->O2}:x147 call hs u xgm (j6 (xc call hs u rec1) 1 4 5 6 18 19) (setE 1 (j6 (xc call hs u rec1) 1 4 5 6 18 19) (setE 0 (j3 (xb call hs u) 1 4 5) eNil))=j6 (x5j call hs u rec1) 1 4 5 6 18 19:=tr (sqN 1 xsy)
theorem xt0{rec1:AV->AV->AV->AV->AV->AV->Mem->Nat->O2}:x147 call hs u xgl (j6 (xc call hs u rec1) 1 4 5 6 18 19) (setE 0 (j3 (xb call hs u) 1 4 5) eNil)=j6 (x5j call hs u rec1) 1 4 5 6 18 19:=bk xsz
theorem xt1{rec1:AV->AV->AV->AV->AV->AV->Mem->Nat->O2}:x147 call hs u xdf (j6 rec1 1 4 5 6 18 19) (setE 0 (j3 (xb call hs u) 1 4 5) eNil)=j6 (x5j call hs u rec1) 1 4 5 6 18 19:=sq2 xsp xt0
theorem xt2{rec1:AV->AV->AV->AV->AV->AV->Mem->Nat->O2}:x147 call hs u xgk (j6 rec1 1 4 5 6 18 19) (setE 0 (j3 (xb call hs u) 1 4 5) eNil)=j6 (x6t call hs u rec1) 1 4 5 6 18 19:=tr (sqN 2 xt1)
theorem xt3:x147 call hs u xgj (j3 (xb call hs u) 1 4 5) (setE 0 (j3 (xb call hs u) 1 4 5) eNil)=j6 (x16 call hs u NN) 1 4 5 6 18 19:=lp (Ln:=fun n=>j6 (x16 call hs u n) 1 4 5 6 18 19) fun n=>tr xt2
theorem xt4:x147 call hs u xgi (j3 (xb call hs u) 1 4 5) eNil=j6 (x16 call hs u NN) 1 4 5 6 18 19:=bk xt3
theorem xt5:x147 call hs u xgc (j3 (xb call hs u) 1 4 5) eNil=j4 (x6u call hs u) 1 4 5 6:=tr (sqN 1 xt4)
theorem xt6:x147 call hs u xdc r_4 eNil=j4 (x6u call hs u) 1 4 5 6:=sq2 xso xt5
theorem xnw:x147 call hs u xgb r_4 eNil=j1 (xb8 call hs u) 0:=tr (sqN 4 xt6)
noncomputable abbrev x1j7:=VX x1x 40 r_0
noncomputable def xt7:=x13k x1x
theorem xnx:x1j7 call hs u xt7 r_0 eNil=j2 (xb9 call hs u) 0 1:=by kernel_rfl
noncomputable abbrev x1j8:=VX x4e 24 r_6
noncomputable def xt8:=x13k x4e
theorem xny:x1j8 call hs u xt8 r_6 eNil=j2 (xba call hs u) 0 1:=by kernel_rfl
noncomputable abbrev x19d:=VX x13 31 r_7
noncomputable abbrev x1j9(lid:Id):=VX (R:=Mem) x13 31 (fun s=>sLpX lid .ret s.m)
noncomputable abbrev x1ja:=VX (R:=Mem) x13 31 fNil
noncomputable def xgr:=x13k x13
noncomputable def xdi:=nRs 3 xgr
noncomputable def xgs:=nL xdi
noncomputable def xt9:=nR xdi
noncomputable def xgt:=nR xgs
noncomputable def x8t:=nR xgt
noncomputable def xta:=nL x8t
noncomputable def xtb:=nR x8t
theorem xtc:x19d call hs u xt9 r_7 eNil=j3 (x2h call hs u) 2 3 4:=by kernel_rfl
theorem xtd{lid:Id}:x1j9 lid call hs u xtb (fun s=>sLpN lid s.m) (fun i s=>sLpX lid (.exit i) s.m)=j5 (x6v call hs u lid) 1 2 3 4 7:=by kernel_rfl
theorem xte{lid:Id}:x1ja call hs u xta (fun s=>(sLpN lid s.m).bind fun _=>(j5 (x6v call hs u lid) 1 2 3 4 7) s) eNil=j5 (x6w call hs u lid) 1 2 3 4 21:=by kernel_rfl
theorem xtf:x19d call hs u x8t (j3 (x2h call hs u) 2 3 4) (setE 0 (j3 (x2h call hs u) 2 3 4) eNil)=j5 (x6x call hs u) 1 2 3 4 20:=tr (rg2 (C:=x8t) (c:={f:=x13,u:=u,nt:=31,hs:=hs}) (f:=(.tmp 20)) (ps:=#[21]) (fun l u=>xtd) (fun l u=>xte))
theorem xtg:x19d call hs u xgt (j3 (x2h call hs u) 2 3 4) eNil=j5 (x6x call hs u) 1 2 3 4 20:=bk xtf
theorem xth:x19d call hs u xgs (j3 (x2h call hs u) 2 3 4) eNil=j5 (x6y call hs u) 1 2 3 4 6:=tr (sqN 1 xtg)
theorem xti:x19d call hs u xdi r_7 eNil=j5 (x6y call hs u) 1 2 3 4 6:=sq2 xtc xth
theorem xnz:x19d call hs u xgr r_7 eNil=j1 (x6z call hs u) 0:=tr (sqN 3 xti)
noncomputable abbrev x1jb:=VX x1y 36 r_1
noncomputable def xtj:=x13k x1y
theorem xo0:x1jb call hs u xtj r_1 eNil=j1 (xbb call hs u) 0:=by kernel_rfl
noncomputable abbrev x18h:=VX x3i 41 r_8
noncomputable def xgu:=x13k x3i
noncomputable def xdj:=nRs 3 xgu
noncomputable def xgv:=nL xdj
noncomputable def xtk:=nR xdj
noncomputable def xgw:=nR xgv
noncomputable def xgx:=nR xgw
noncomputable def xtl:=nR xgx
theorem xtm:x18h call hs u xtk r_8 eNil=j0 (x2i call hs u):=by kernel_rfl
theorem xtn{rec0:AV->AV->AV->Mem->Nat->O2}:x18h call hs u xtl (j3 rec0 1 7 8) (setE 0 (j0 (x2i call hs u)) eNil)=j3 (x70 call hs u rec0) 1 7 8:=by kernel_rfl
theorem xto:x18h call hs u xgx (j0 (x2i call hs u)) (setE 0 (j0 (x2i call hs u)) eNil)=j3 (x2j call hs u NN) 1 7 8:=lp (Ln:=fun n=>j3 (x2j call hs u n) 1 7 8) fun n=>tr xtn
theorem xtp:x18h call hs u xgw (j0 (x2i call hs u)) eNil=j3 (x2j call hs u NN) 1 7 8:=bk xto
theorem xtq:x18h call hs u xgv (j0 (x2i call hs u)) eNil=j2 (x71 call hs u) 1 7:=tr (sqN 1 xtp)
theorem xtr:x18h call hs u xdj r_8 eNil=j2 (x71 call hs u) 1 7:=sq2 xtm xtq
theorem xo1:x18h call hs u xgu r_8 eNil=j1 (xbc call hs u) 0:=tr (sqN 3 xtr)
noncomputable abbrev x18i:=VX x4f 26 r_0
noncomputable def xgy:=x13k x4f
noncomputable def xdk:=nRs 2 xgy
noncomputable def xgz:=nL xdk
noncomputable def xts:=nR xdk
noncomputable def xh0:=nR xgz
noncomputable def xh1:=nR xh0
noncomputable def xtt:=nR xh1
theorem xtu:x18i call hs u xts r_0 eNil=j0 (x2k call hs u):=by kernel_rfl
theorem xtv{rec0:AV->AV->AV->Mem->Nat->O2}:x18i call hs u xtt (j3 rec0 0 1 5) (setE 0 (j0 (x2k call hs u)) eNil)=j3 (x72 call hs u rec0) 0 1 5:=by kernel_rfl
theorem xtw:x18i call hs u xh1 (j0 (x2k call hs u)) (setE 0 (j0 (x2k call hs u)) eNil)=j3 (x2l call hs u NN) 0 1 5:=lp (Ln:=fun n=>j3 (x2l call hs u n) 0 1 5) fun n=>tr xtv
theorem xtx:x18i call hs u xh0 (j0 (x2k call hs u)) eNil=j3 (x2l call hs u NN) 0 1 5:=bk xtw
theorem xty:x18i call hs u xgz (j0 (x2k call hs u)) eNil=j2 (x73 call hs u) 0 1:=tr (sqN 1 xtx)
theorem xtz:x18i call hs u xdk r_0 eNil=j2 (x73 call hs u) 0 1:=sq2 xtu xty
theorem xo2:x18i call hs u xgy r_0 eNil=j2 (xbd call hs u) 0 1:=tr (sqN 2 xtz)
noncomputable abbrev x18j:=VX x3j 30 r_0
noncomputable def xh2:=x13k x3j
noncomputable def xdl:=nRs 2 xh2
noncomputable def xh3:=nL xdl
noncomputable def xu0:=nR xdl
noncomputable def xh4:=nR xh3
noncomputable def xh5:=nR xh4
noncomputable def xu1:=nR xh5
theorem xu2:x18j call hs u xu0 r_0 eNil=j1 (x2m call hs u) 5:=by kernel_rfl
theorem xu3{rec0:AV->AV->AV->AV->Mem->Nat->O2}:x18j call hs u xu1 (j4 rec0 0 1 5 6) (setE 0 (j1 (x2m call hs u) 5) eNil)=j4 (x74 call hs u rec0) 0 1 5 6:=by kernel_rfl
theorem xu4:x18j call hs u xh5 (j1 (x2m call hs u) 5) (setE 0 (j1 (x2m call hs u) 5) eNil)=j4 (x2n call hs u NN) 0 1 5 6:=lp (Ln:=fun n=>j4 (x2n call hs u n) 0 1 5 6) fun n=>tr xu3
theorem xu5:x18j call hs u xh4 (j1 (x2m call hs u) 5) eNil=j4 (x2n call hs u NN) 0 1 5 6:=bk xu4
theorem xu6:x18j call hs u xh3 (j1 (x2m call hs u) 5) eNil=j3 (x75 call hs u) 0 1 5:=tr (sqN 1 xu5)
theorem xu7:x18j call hs u xdl r_0 eNil=j3 (x75 call hs u) 0 1 5:=sq2 xu2 xu6
theorem xo3:x18j call hs u xh2 r_0 eNil=j2 (xbe call hs u) 0 1:=tr (sqN 2 xu7)
noncomputable abbrev x16p:=VX x4g 26 r_0
noncomputable def xh6:=x13k x4g
noncomputable def xdm:=nRs 2 xh6
noncomputable def xh7:=nL xdm
noncomputable def xu8:=nR xdm
noncomputable def xh8:=nR xh7
noncomputable def xh9:=nR xh8
noncomputable def xha:=nR xh9
noncomputable def xdn:=nR xha
noncomputable def xu9:=nL xdn
noncomputable def xua:=nR xdn
theorem xub:x16p call hs u xu8 r_0 eNil=j1 (x10 call hs u) 5:=by kernel_rfl
theorem xuc{rec0:AV->AV->AV->AV->Mem->Nat->O2}:x16p call hs u xua (j4 rec0 1 2 5 6) (setE 0 (j1 (x10 call hs u) 5) eNil)=j4 (x5l call hs u rec0) 1 2 5 6:=by kernel_rfl
theorem xud{rec0:AV->AV->AV->AV->Mem->Nat->O2}:x16p call hs u xu9 (j4 (x5l call hs u rec0) 1 2 5 6) (setE 0 (j1 (x10 call hs u) 5) eNil)=j4 (x76 call hs u rec0) 1 2 5 6:=by kernel_rfl
theorem xue{rec0:AV->AV->AV->AV->Mem->Nat->O2}:x16p call hs u xdn (j4 rec0 1 2 5 6) (setE 0 (j1 (x10 call hs u) 5) eNil)=j4 (x76 call hs u rec0) 1 2 5 6:=sq2 xuc xud
theorem xuf{rec0:AV->AV->AV->AV->Mem->Nat->O2}:x16p call hs u xha (j4 rec0 1 2 5 6) (setE 0 (j1 (x10 call hs u) 5) eNil)=j4 (x77 call hs u rec0) 1 2 5 6:=tr (sqN 1 xue)
theorem xug:x16p call hs u xh9 (j1 (x10 call hs u) 5) (setE 0 (j1 (x10 call hs u) 5) eNil)=j4 (x2o call hs u NN) 1 2 5 6:=lp (Ln:=fun n=>j4 (x2o call hs u n) 1 2 5 6) fun n=>tr xuf
theorem xuh:x16p call hs u xh8 (j1 (x10 call hs u) 5) eNil=j4 (x2o call hs u NN) 1 2 5 6:=bk xug
theorem xui:x16p call hs u xh7 (j1 (x10 call hs u) 5) eNil=j3 (x78 call hs u) 1 2 5:=tr (sqN 1 xuh)
theorem xuj:x16p call hs u xdm r_0 eNil=j3 (x78 call hs u) 1 2 5:=sq2 xub xui
theorem xo4:x16p call hs u xh6 r_0 eNil=j2 (xbf call hs u) 0 1:=tr (sqN 2 xuj)
noncomputable abbrev x1jc:=VX x4h 26 r_3
noncomputable def xuk:=x13k x4h
theorem xo5:x1jc call hs u xuk r_3 eNil=j3 (xbg call hs u) 0 1 2:=by kernel_rfl
noncomputable abbrev x1jd:=VX x1z 7 r_1
noncomputable def xul:=x13k x1z
theorem xo6:x1jd call hs u xul r_1 eNil=j1 (xbh call hs u) 0:=by kernel_rfl
noncomputable abbrev x1je:=VX xw 15 r_3
noncomputable def xum:=x13k xw
theorem xo7:x1je call hs u xum r_3 eNil=j3 (xbi call hs u) 0 1 2:=by kernel_rfl
noncomputable abbrev x18k:=VX x3k 42 r_4
noncomputable def xhb:=x13k x3k
noncomputable def xdo:=nRs 2 xhb
noncomputable def xhc:=nL xdo
noncomputable def xun:=nR xdo
noncomputable def xhd:=nR xhc
noncomputable def xhe:=nR xhd
noncomputable def xuo:=nR xhe
theorem xup:x18k call hs u xun r_4 eNil=j0 (x2p call hs u):=by kernel_rfl
theorem xuq{rec0:AV->AV->AV->AV->Mem->Nat->O2}:x18k call hs u xuo (j4 rec0 0 9 10 11) (setE 0 (j0 (x2p call hs u)) eNil)=j4 (x79 call hs u rec0) 0 9 10 11:=by kernel_rfl
theorem xur:x18k call hs u xhe (j0 (x2p call hs u)) (setE 0 (j0 (x2p call hs u)) eNil)=j4 (x1l call hs u NN) 0 9 10 11:=lp (Ln:=fun n=>j4 (x1l call hs u n) 0 9 10 11) fun n=>tr xuq
theorem xus:x18k call hs u xhd (j0 (x2p call hs u)) eNil=j4 (x1l call hs u NN) 0 9 10 11:=bk xur
theorem xut:x18k call hs u xhc (j0 (x2p call hs u)) eNil=j1 (x7a call hs u) 0:=tr (sqN 1 xus)
theorem xuu:x18k call hs u xdo r_4 eNil=j1 (x7a call hs u) 0:=sq2 xup xut
theorem xo8:x18k call hs u xhb r_4 eNil=j1 (xbj call hs u) 0:=tr (sqN 2 xuu)
noncomputable abbrev x1jf:=VX x3l 10 r_0
noncomputable def xuv:=x13k x3l
theorem xo9:x1jf call hs u xuv r_0 eNil=j2 (xbk call hs u) 0 1:=by kernel_rfl
noncomputable abbrev x18l:=VX x4i 55 r_1
noncomputable def xhf:=x13k x4i
noncomputable def xdp:=nRs 2 xhf
noncomputable def xhg:=nL xdp
noncomputable def xuw:=nR xdp
noncomputable def xhh:=nR xhg
noncomputable def xhi:=nR xhh
noncomputable def xux:=nR xhi
theorem xuy:x18l call hs u xuw r_1 eNil=j0 (x2q call hs u):=by kernel_rfl
theorem xuz{rec0:AV->AV->Mem->Nat->O2}:x18l call hs u xux (j2 rec0 0 3) (setE 0 (j0 (x2q call hs u)) eNil)=j2 (x7b call hs u rec0) 0 3:=by kernel_rfl
theorem xv0:x18l call hs u xhi (j0 (x2q call hs u)) (setE 0 (j0 (x2q call hs u)) eNil)=j2 (x1m call hs u NN) 0 3:=lp (Ln:=fun n=>j2 (x1m call hs u n) 0 3) fun n=>tr xuz
theorem xv1:x18l call hs u xhh (j0 (x2q call hs u)) eNil=j2 (x1m call hs u NN) 0 3:=bk xv0
theorem xv2:x18l call hs u xhg (j0 (x2q call hs u)) eNil=j1 (x7c call hs u) 0:=tr (sqN 1 xv1)
theorem xv3:x18l call hs u xdp r_1 eNil=j1 (x7c call hs u) 0:=sq2 xuy xv2
theorem xoa:x18l call hs u xhf r_1 eNil=j1 (xbl call hs u) 0:=tr (sqN 2 xv3)
noncomputable abbrev x1jg:=VX x3m 11 r_1
noncomputable def xv4:=x13k x3m
theorem xob:x1jg call hs u xv4 r_1 eNil=j1 (xbm call hs u) 0:=by kernel_rfl
noncomputable abbrev x18m:=VX x3n 15 r_1
noncomputable def xhj:=x13k x3n
noncomputable def xdq:=nRs 2 xhj
noncomputable def xhk:=nL xdq
noncomputable def xv5:=nR xdq
noncomputable def xhl:=nR xhk
noncomputable def xhm:=nR xhl
noncomputable def xv6:=nR xhm
theorem xv7:x18m call hs u xv5 r_1 eNil=j1 (x2r call hs u) 3:=by kernel_rfl
theorem xv8{rec0:AV->AV->AV->Mem->Nat->O2}:x18m call hs u xv6 (j3 rec0 3 5 6) (setE 0 (j1 (x2r call hs u) 3) eNil)=j3 (x7d call hs u rec0) 3 5 6:=by kernel_rfl
theorem xv9:x18m call hs u xhm (j1 (x2r call hs u) 3) (setE 0 (j1 (x2r call hs u) 3) eNil)=j3 (x2s call hs u NN) 3 5 6:=lp (Ln:=fun n=>j3 (x2s call hs u n) 3 5 6) fun n=>tr xv8
theorem xva:x18m call hs u xhl (j1 (x2r call hs u) 3) eNil=j3 (x2s call hs u NN) 3 5 6:=bk xv9
theorem xvb:x18m call hs u xhk (j1 (x2r call hs u) 3) eNil=j2 (x7e call hs u) 0 3:=tr (sqN 1 xva)
theorem xvc:x18m call hs u xdq r_1 eNil=j2 (x7e call hs u) 0 3:=sq2 xv7 xvb
theorem xoc:x18m call hs u xhj r_1 eNil=j1 (xbn call hs u) 0:=tr (sqN 2 xvc)
noncomputable abbrev x16q:=VX x4j 44 r_0
noncomputable def xhn:=x13k x4j
noncomputable def xdr:=nRs 2 xhn
noncomputable def xho:=nL xdr
noncomputable def xvd:=nR xdr
noncomputable def xhp:=nR xho
noncomputable def xhq:=nR xhp
noncomputable def xhr:=nR xhq
noncomputable def xds:=nRs 2 xhr
noncomputable def xve:=nL xds
noncomputable def xvf:=nR xds
theorem xvg:x16q call hs u xvd r_0 eNil=j2 (x11 call hs u) 5 6:=by kernel_rfl
theorem xvh{rec0:AV->AV->AV->AV->AV->AV->Mem->Nat->O2}:x16q call hs u xvf (j6 rec0 0 5 6 19 20 21) (setE 0 (j2 (x11 call hs u) 5 6) eNil)=j6 (x5m call hs u rec0) 0 5 6 19 20 21:=by kernel_rfl
theorem xvi{rec0:AV->AV->AV->AV->AV->AV->Mem->Nat->O2}:x16q call hs u xve (j6 (x5m call hs u rec0) 0 5 6 19 20 21) (setE 0 (j2 (x11 call hs u) 5 6) eNil)=j6 (x7f call hs u rec0) 0 5 6 19 20 21:=by kernel_rfl
theorem xvj{rec0:AV->AV->AV->AV->AV->AV->Mem->Nat->O2}:x16q call hs u xds (j6 rec0 0 5 6 19 20 21) (setE 0 (j2 (x11 call hs u) 5 6) eNil)=j6 (x7f call hs u rec0) 0 5 6 19 20 21:=sq2 xvh xvi
theorem xvk{rec0:AV->AV->AV->AV->AV->AV->Mem->Nat->O2}:x16q call hs u xhr (j6 rec0 0 5 6 19 20 21) (setE 0 (j2 (x11 call hs u) 5 6) eNil)=j6 (x7g call hs u rec0) 0 5 6 19 20 21:=tr (sqN 2 xvj)
theorem xvl:x16q call hs u xhq (j2 (x11 call hs u) 5 6) (setE 0 (j2 (x11 call hs u) 5 6) eNil)=j6 (x2t call hs u NN) 0 5 6 19 20 21:=lp (Ln:=fun n=>j6 (x2t call hs u n) 0 5 6 19 20 21) fun n=>tr xvk
theorem xvm:x16q call hs u xhp (j2 (x11 call hs u) 5 6) eNil=j6 (x2t call hs u NN) 0 5 6 19 20 21:=bk xvl
theorem xvn:x16q call hs u xho (j2 (x11 call hs u) 5 6) eNil=j3 (x7h call hs u) 0 5 6:=tr (sqN 1 xvm)
theorem xvo:x16q call hs u xdr r_0 eNil=j3 (x7h call hs u) 0 5 6:=sq2 xvg xvn
theorem xod:x16q call hs u xhn r_0 eNil=j2 (xbo call hs u) 0 1:=tr (sqN 2 xvo)
noncomputable abbrev x15k:=VX x4k 73 r_4
noncomputable def xhs:=x13k x4k
noncomputable def xdt:=nRs 3 xhs
noncomputable def xht:=nL xdt
noncomputable def xvp:=nR xdt
noncomputable def xhu:=nR xht
noncomputable def xhv:=nR xhu
noncomputable def xhw:=nR xhv
noncomputable def xdu:=nR xhw
noncomputable def xhx:=nL xdu
noncomputable def xvq:=nR xdu
noncomputable def xhy:=nR xhx
noncomputable def xhz:=nRs 4 xhy
noncomputable def xi0:=nR xhz
noncomputable def xvr:=nR xi0
theorem xvs:x15k call hs u xvp r_4 eNil=j0 (xn call hs u):=by kernel_rfl
theorem xvt{rec0:AV->AV->Mem->Nat->O2}:x15k call hs u xvq (j2 rec0 1 6) (setE 0 (j0 (xn call hs u)) eNil)=j2 (xr call hs u rec0) 1 6:=by kernel_rfl
theorem xvu{rec0:AV->AV->Mem->Nat->O2}{rec1:AV->AV->AV->AV->Mem->Nat->O2}:x15k call hs u xvr (j4 rec1 1 6 7 8) (setE 2 (j2 (xr call hs u rec0) 1 6) (setE 1 (j2 (xr call hs u rec0) 1 6) (setE 0 (j0 (xn call hs u)) eNil)))=j4 (x7i call hs u rec0 rec1) 1 6 7 8:=by kernel_rfl
theorem xvv{rec0:AV->AV->Mem->Nat->O2}:x15k call hs u xi0 (j2 (xr call hs u rec0) 1 6) (setE 2 (j2 (xr call hs u rec0) 1 6) (setE 1 (j2 (xr call hs u rec0) 1 6) (setE 0 (j0 (xn call hs u)) eNil)))=j4 (x1n call hs u rec0 NN) 1 6 7 8:=lp (Ln:=fun n=>j4 (x1n call hs u rec0 n) 1 6 7 8) fun n=>tr xvu
theorem xvw{rec0:AV->AV->Mem->Nat->O2}:x15k call hs u xhz (j2 (xr call hs u rec0) 1 6) (setE 1 (j2 (xr call hs u rec0) 1 6) (setE 0 (j0 (xn call hs u)) eNil))=j4 (x1n call hs u rec0 NN) 1 6 7 8:=bk xvv
theorem xvx{rec0:AV->AV->Mem->Nat->O2}:x15k call hs u xhy (j2 (xr call hs u rec0) 1 6) (setE 1 (j2 (xr call hs u rec0) 1 6) (setE 0 (j0 (xn call hs u)) eNil))=j2 (x5n call hs u rec0) 1 6:=tr (sqN 4 xvw)
theorem xvy{rec0:AV->AV->Mem->Nat->O2}:x15k call hs u xhx (j2 (xr call hs u rec0) 1 6) (setE 0 (j0 (xn call hs u)) eNil)=j2 (x5n call hs u rec0) 1 6:=bk xvx
theorem xvz{rec0:AV->AV->Mem->Nat->O2}:x15k call hs u xdu (j2 rec0 1 6) (setE 0 (j0 (xn call hs u)) eNil)=j2 (x5n call hs u rec0) 1 6:=sq2 xvt xvy
theorem xw0{rec0:AV->AV->Mem->Nat->O2}:x15k call hs u xhw (j2 rec0 1 6) (setE 0 (j0 (xn call hs u)) eNil)=j2 (x7j call hs u rec0) 1 6:=tr (sqN 1 xvz)
theorem xw1:x15k call hs u xhv (j0 (xn call hs u)) (setE 0 (j0 (xn call hs u)) eNil)=j2 (x17 call hs u NN) 1 6:=lp (Ln:=fun n=>j2 (x17 call hs u n) 1 6) fun n=>tr xw0
theorem xw2:x15k call hs u xhu (j0 (xn call hs u)) eNil=j2 (x17 call hs u NN) 1 6:=bk xw1
theorem xw3:x15k call hs u xht (j0 (xn call hs u)) eNil=j1 (x7k call hs u) 1:=tr (sqN 1 xw2)
theorem xw4:x15k call hs u xdt r_4 eNil=j1 (x7k call hs u) 1:=sq2 xvs xw3
theorem xoe:x15k call hs u xhs r_4 eNil=j1 (xbp call hs u) 0:=tr (sqN 3 xw4)
noncomputable abbrev x14q:=VX x4l 68 r_0
noncomputable def xi1:=x13k x4l
noncomputable def xdv:=nRs 2 xi1
noncomputable def xi2:=nL xdv
noncomputable def xdw:=nR xdv
noncomputable def xi3:=nL xdw
noncomputable def xw5:=nR xdw
noncomputable def xi4:=nR xi3
noncomputable def xi5:=nR xi4
noncomputable def xi6:=nR xi5
noncomputable def xdx:=nR xi6
noncomputable def xi7:=nL xdx
noncomputable def xw6:=nR xdx
noncomputable def xi8:=nR xi7
noncomputable def xi9:=nRs 3 xi8
noncomputable def xia:=nR xi9
noncomputable def xib:=nR xia
noncomputable def xdy:=nR xib
noncomputable def xw7:=nL xdy
noncomputable def xw8:=nR xdy
noncomputable def xic:=nR xi2
noncomputable def xid:=nR xic
noncomputable def xw9:=nR xid
theorem xwa:x14q call hs u xw5 r_0 eNil=j1 (xg call hs u) 5:=by kernel_rfl
theorem xwb{rec0:AV->AV->AV->AV->Mem->Nat->O2}:x14q call hs u xw6 (j4 rec0 1 2 5 7) (setE 2 (j1 (xg call hs u) 5) eNil)=j4 (xd call hs u rec0) 1 2 5 7:=by kernel_rfl
theorem xwc{rec0:AV->AV->AV->AV->Mem->Nat->O2}{rec1:AV->AV->AV->AV->AV->AV->AV->Mem->Nat->O2}:x14q call hs u xw8 (j7 rec1 1 2 5 7 9 10 11) (setE 4 (j4 (xd call hs u rec0) 1 2 5 7) (setE 3 (j4 (xd call hs u rec0) 1 2 5 7) (setE 2 (j1 (xg call hs u) 5) eNil)))=j7 (x5o call hs u rec0 rec1) 1 2 5 7 9 10 11:=by kernel_rfl
theorem xwd{rec0:AV->AV->AV->AV->Mem->Nat->O2}{rec1:AV->AV->AV->AV->AV->AV->AV->Mem->Nat->O2}:x14q call hs u xw7 (j7 (x5o call hs u rec0 rec1) 1 2 5 7 9 10 11) (setE 4 (j4 (xd call hs u rec0) 1 2 5 7) (setE 3 (j4 (xd call hs u rec0) 1 2 5 7) (setE 2 (j1 (xg call hs u) 5) eNil)))=j7 (x7l call hs u rec0 rec1) 1 2 5 7 9 10 11:=by kernel_rfl
theorem xwe{rec0:AV->AV->AV->AV->Mem->Nat->O2}{rec1:AV->AV->AV->AV->AV->AV->AV->Mem->Nat->O2}:x14q call hs u xdy (j7 rec1 1 2 5 7 9 10 11) (setE 4 (j4 (xd call hs u rec0) 1 2 5 7) (setE 3 (j4 (xd call hs u rec0) 1 2 5 7) (setE 2 (j1 (xg call hs u) 5) eNil)))=j7 (x7l call hs u rec0 rec1) 1 2 5 7 9 10 11:=sq2 xwc xwd
theorem xwf{rec0:AV->AV->AV->AV->Mem->Nat->O2}{rec1:AV->AV->AV->AV->AV->AV->AV->Mem->Nat->O2}:x14q call hs u xib (j7 rec1 1 2 5 7 9 10 11) (setE 4 (j4 (xd call hs u rec0) 1 2 5 7) (setE 3 (j4 (xd call hs u rec0) 1 2 5 7) (setE 2 (j1 (xg call hs u) 5) eNil)))=j7 (x7m call hs u rec0 rec1) 1 2 5 7 9 10 11:=tr (sqN 1 xwe)
theorem xwg{rec0:AV->AV->AV->AV->Mem->Nat->O2}:x14q call hs u xia (j4 (xd call hs u rec0) 1 2 5 7) (setE 4 (j4 (xd call hs u rec0) 1 2 5 7) (setE 3 (j4 (xd call hs u rec0) 1 2 5 7) (setE 2 (j1 (xg call hs u) 5) eNil)))=j7 (x1o call hs u rec0 NN) 1 2 5 7 9 10 11:=lp (Ln:=fun n=>j7 (x1o call hs u rec0 n) 1 2 5 7 9 10 11) fun n=>tr xwf
theorem xwh{rec0:AV->AV->AV->AV->Mem->Nat->O2}:x14q call hs u xi9 (j4 (xd call hs u rec0) 1 2 5 7) (setE 3 (j4 (xd call hs u rec0) 1 2 5 7) (setE 2 (j1 (xg call hs u) 5) eNil))=j7 (x1o call hs u rec0 NN) 1 2 5 7 9 10 11:=bk xwg
theorem xwi{rec0:AV->AV->AV->AV->Mem->Nat->O2}:x14q call hs u xi8 (j4 (xd call hs u rec0) 1 2 5 7) (setE 3 (j4 (xd call hs u rec0) 1 2 5 7) (setE 2 (j1 (xg call hs u) 5) eNil))=j4 (x5p call hs u rec0) 1 2 5 7:=tr (sqN 3 xwh)
theorem xwj{rec0:AV->AV->AV->AV->Mem->Nat->O2}:x14q call hs u xi7 (j4 (xd call hs u rec0) 1 2 5 7) (setE 2 (j1 (xg call hs u) 5) eNil)=j4 (x5p call hs u rec0) 1 2 5 7:=bk xwi
theorem xwk{rec0:AV->AV->AV->AV->Mem->Nat->O2}:x14q call hs u xdx (j4 rec0 1 2 5 7) (setE 2 (j1 (xg call hs u) 5) eNil)=j4 (x5p call hs u rec0) 1 2 5 7:=sq2 xwb xwj
theorem xwl{rec0:AV->AV->AV->AV->Mem->Nat->O2}:x14q call hs u xi6 (j4 rec0 1 2 5 7) (setE 2 (j1 (xg call hs u) 5) eNil)=j4 (x7n call hs u rec0) 1 2 5 7:=tr (sqN 1 xwk)
theorem xwm:x14q call hs u xi5 (j1 (xg call hs u) 5) (setE 2 (j1 (xg call hs u) 5) eNil)=j4 (x1p call hs u NN) 1 2 5 7:=lp (Ln:=fun n=>j4 (x1p call hs u n) 1 2 5 7) fun n=>tr xwl
theorem xwn:x14q call hs u xi4 (j1 (xg call hs u) 5) eNil=j4 (x1p call hs u NN) 1 2 5 7:=bk xwm
theorem xwo:x14q call hs u xi3 (j1 (xg call hs u) 5) eNil=j3 (x1q call hs u) 1 2 5:=tr (sqN 1 xwn)
theorem xwp:x14q call hs u xdw r_0 eNil=j3 (x1q call hs u) 1 2 5:=sq2 xwa xwo
theorem xwq{rec2:AV->AV->AV->AV->Mem->Nat->O2}:x14q call hs u xw9 (j4 rec2 1 2 5 6) (setE 0 (j3 (x1q call hs u) 1 2 5) eNil)=j4 (x7o call hs u rec2) 1 2 5 6:=by kernel_rfl
theorem xwr:x14q call hs u xid (j3 (x1q call hs u) 1 2 5) (setE 0 (j3 (x1q call hs u) 1 2 5) eNil)=j4 (x2u call hs u NN) 1 2 5 6:=lp (Ln:=fun n=>j4 (x2u call hs u n) 1 2 5 6) fun n=>tr xwq
theorem xws:x14q call hs u xic (j3 (x1q call hs u) 1 2 5) eNil=j4 (x2u call hs u NN) 1 2 5 6:=bk xwr
theorem xwt:x14q call hs u xi2 (j3 (x1q call hs u) 1 2 5) eNil=j3 (x7p call hs u) 1 2 5:=tr (sqN 1 xws)
theorem xwu:x14q call hs u xdv r_0 eNil=j3 (x7p call hs u) 1 2 5:=sq2 xwp xwt
theorem xof:x14q call hs u xi1 r_0 eNil=j2 (xbq call hs u) 0 1:=tr (sqN 2 xwu)
noncomputable abbrev x1jh:=VX x20 9 r_0
noncomputable def xwv:=x13k x20
theorem xog:x1jh call hs u xwv r_0 eNil=j2 (xbr call hs u) 0 1:=by kernel_rfl
noncomputable abbrev x1bf:=VX x4m 14 r_0
noncomputable def xie:=x13k x4m
noncomputable def xdz:=nRs 2 xie
noncomputable def xww:=nL xdz
noncomputable def xwx:=nR xdz
theorem xwy:x1bf call hs u xwx r_0 eNil=j1 (x53 call hs u) 0:=by kernel_rfl
theorem xwz:x1bf call hs u xww (j1 (x53 call hs u) 0) eNil=j2 (x7q call hs u) 0 1:=by kernel_rfl
theorem xx0:x1bf call hs u xdz r_0 eNil=j2 (x7q call hs u) 0 1:=sq2 xwy xwz
theorem xoh:x1bf call hs u xie r_0 eNil=j2 (xbs call hs u) 0 1:=tr (sqN 2 xx0)
noncomputable abbrev x1ji:=VX x3o 7 r_1
noncomputable def xx1:=x13k x3o
theorem xoi:x1ji call hs u xx1 r_1 eNil=j1 (xbt call hs u) 0:=by kernel_rfl
noncomputable abbrev x1jj:=VX x3p 25 r_6
noncomputable def xx2:=x13k x3p
theorem xoj:x1jj call hs u xx2 r_6 eNil=j2 (xbu call hs u) 0 1:=by kernel_rfl
noncomputable abbrev x1jk:=VX x21 24 r_6
noncomputable def xx3:=x13k x21
theorem xok:x1jk call hs u xx3 r_6 eNil=j2 (xbv call hs u) 0 1:=by kernel_rfl
noncomputable abbrev x156:=VX x3q 51 r_1
noncomputable def xif:=x13k x3q
noncomputable def xe0:=nRs 2 xif
noncomputable def xig:=nL xe0
noncomputable def xih:=nR xe0
noncomputable def xe1:=nRs 2 xih
noncomputable def xii:=nL xe1
noncomputable def xx4:=nR xe1
noncomputable def xij:=nR xii
noncomputable def xik:=nR xij
noncomputable def xil:=nR xik
noncomputable def xe2:=nRs 2 xil
noncomputable def xx5:=nL xe2
noncomputable def xx6:=nR xe2
noncomputable def xim:=nR xig
noncomputable def xin:=nR xim
noncomputable def xx7:=nR xin
theorem xx8:x156 call hs u xx4 r_1 eNil=j1 (x12 call hs u) 4:=by kernel_rfl
theorem xx9{rec0:AV->AV->AV->AV->AV->AV->Mem->Nat->O2}:x156 call hs u xx6 (j6 rec0 1 4 6 29 30 31) (setE 2 (j1 (x12 call hs u) 4) eNil)=j6 (x54 call hs u rec0) 1 4 6 29 30 31:=by kernel_rfl
theorem xxa{rec0:AV->AV->AV->AV->AV->AV->Mem->Nat->O2}:x156 call hs u xx5 (j6 (x54 call hs u rec0) 1 4 6 29 30 31) (setE 2 (j1 (x12 call hs u) 4) eNil)=j6 (x7r call hs u rec0) 1 4 6 29 30 31:=by kernel_rfl
theorem xxb{rec0:AV->AV->AV->AV->AV->AV->Mem->Nat->O2}:x156 call hs u xe2 (j6 rec0 1 4 6 29 30 31) (setE 2 (j1 (x12 call hs u) 4) eNil)=j6 (x7r call hs u rec0) 1 4 6 29 30 31:=sq2 xx9 xxa
theorem xxc{rec0:AV->AV->AV->AV->AV->AV->Mem->Nat->O2}:x156 call hs u xil (j6 rec0 1 4 6 29 30 31) (setE 2 (j1 (x12 call hs u) 4) eNil)=j6 (x7s call hs u rec0) 1 4 6 29 30 31:=tr (sqN 2 xxb)
theorem xxd:x156 call hs u xik (j1 (x12 call hs u) 4) (setE 2 (j1 (x12 call hs u) 4) eNil)=j6 (x2v call hs u NN) 1 4 6 29 30 31:=lp (Ln:=fun n=>j6 (x2v call hs u n) 1 4 6 29 30 31) fun n=>tr xxc
theorem xxe:x156 call hs u xij (j1 (x12 call hs u) 4) eNil=j6 (x2v call hs u NN) 1 4 6 29 30 31:=bk xxd
theorem xxf:x156 call hs u xii (j1 (x12 call hs u) 4) eNil=j4 (x7t call hs u) 1 3 4 6:=tr (sqN 1 xxe)
theorem xxg:x156 call hs u xe1 r_1 eNil=j4 (x7t call hs u) 1 3 4 6:=sq2 xx8 xxf
theorem xxh:x156 call hs u xih r_1 eNil=j3 (x2w call hs u) 1 3 4:=tr (sqN 2 xxg)
theorem xxi{rec1:AV->AV->AV->AV->AV->Mem->Nat->O2}:x156 call hs u xx7 (j5 rec1 1 3 4 12 13) (setE 0 (j3 (x2w call hs u) 1 3 4) eNil)=j5 (x7u call hs u rec1) 1 3 4 12 13:=by kernel_rfl
theorem xxj:x156 call hs u xin (j3 (x2w call hs u) 1 3 4) (setE 0 (j3 (x2w call hs u) 1 3 4) eNil)=j5 (x2x call hs u NN) 1 3 4 12 13:=lp (Ln:=fun n=>j5 (x2x call hs u n) 1 3 4 12 13) fun n=>tr xxi
theorem xxk:x156 call hs u xim (j3 (x2w call hs u) 1 3 4) eNil=j5 (x2x call hs u NN) 1 3 4 12 13:=bk xxj
theorem xxl:x156 call hs u xig (j3 (x2w call hs u) 1 3 4) eNil=j3 (x7v call hs u) 1 3 4:=tr (sqN 1 xxk)
theorem xxm:x156 call hs u xe0 r_1 eNil=j3 (x7v call hs u) 1 3 4:=sq2 xxh xxl
theorem xol:x156 call hs u xif r_1 eNil=j1 (xbw call hs u) 0:=tr (sqN 2 xxm)
noncomputable abbrev x1jl:=VX x4n 6 r_0
noncomputable def xxn:=x13k x4n
theorem xom:x1jl call hs u xxn r_0 eNil=j2 (xbx call hs u) 0 1:=by kernel_rfl
noncomputable abbrev x18n:=VX x3r 26 r_0
noncomputable def xio:=x13k x3r
noncomputable def xe3:=nRs 2 xio
noncomputable def xip:=nL xe3
noncomputable def xxo:=nR xe3
noncomputable def xiq:=nR xip
noncomputable def xir:=nR xiq
noncomputable def xxp:=nR xir
theorem xxq:x18n call hs u xxo r_0 eNil=j1 (x2y call hs u) 5:=by kernel_rfl
theorem xxr{rec0:AV->AV->AV->AV->AV->Mem->Nat->O2}:x18n call hs u xxp (j5 rec0 0 5 8 9 10) (setE 0 (j1 (x2y call hs u) 5) eNil)=j5 (x7w call hs u rec0) 0 5 8 9 10:=by kernel_rfl
theorem xxs:x18n call hs u xir (j1 (x2y call hs u) 5) (setE 0 (j1 (x2y call hs u) 5) eNil)=j5 (x2z call hs u NN) 0 5 8 9 10:=lp (Ln:=fun n=>j5 (x2z call hs u n) 0 5 8 9 10) fun n=>tr xxr
theorem xxt:x18n call hs u xiq (j1 (x2y call hs u) 5) eNil=j5 (x2z call hs u NN) 0 5 8 9 10:=bk xxs
theorem xxu:x18n call hs u xip (j1 (x2y call hs u) 5) eNil=j3 (x7x call hs u) 0 1 5:=tr (sqN 1 xxt)
theorem xxv:x18n call hs u xe3 r_0 eNil=j3 (x7x call hs u) 0 1 5:=sq2 xxq xxu
theorem xon:x18n call hs u xio r_0 eNil=j2 (xby call hs u) 0 1:=tr (sqN 2 xxv)
noncomputable abbrev x1jm:=VX x3s 6 r_1
noncomputable def xxw:=x13k x3s
theorem xoo:x1jm call hs u xxw r_1 eNil=j1 (xbz call hs u) 0:=by kernel_rfl
noncomputable abbrev x1jn:=VX x3t 6 r_1
noncomputable def xxx:=x13k x3t
theorem xop:x1jn call hs u xxx r_1 eNil=j1 (xc0 call hs u) 0:=by kernel_rfl
noncomputable abbrev x1jo:=VX x4o 9 r_0
noncomputable def xxy:=x13k x4o
theorem xoq:x1jo call hs u xxy r_0 eNil=j2 (xc1 call hs u) 0 1:=by kernel_rfl
noncomputable abbrev x1jp:=VX x3u 31 r_3
noncomputable def xxz:=x13k x3u
theorem xor:x1jp call hs u xxz r_3 eNil=j3 (xc2 call hs u) 0 1 2:=by kernel_rfl
noncomputable abbrev x145:=VX x4p 96 r_9
noncomputable def xis:=x13k x4p
noncomputable def xe4:=nRs 4 xis
noncomputable def xit:=nL xe4
noncomputable def xiu:=nR xe4
noncomputable def xe5:=nR xiu
noncomputable def xiv:=nL xe5
noncomputable def xy0:=nR xe5
noncomputable def xiw:=nR xiv
noncomputable def xix:=nR xiw
noncomputable def xy1:=nR xix
noncomputable def xiy:=nR xit
noncomputable def xiz:=nR xiy
noncomputable def xj0:=nR xiz
noncomputable def xe6:=nRs 2 xj0
noncomputable def xj1:=nL xe6
noncomputable def xy2:=nR xe6
noncomputable def xj2:=nR xj1
noncomputable def xj3:=nR xj2
noncomputable def xj4:=nR xj3
noncomputable def xj5:=nR xj4
noncomputable def xe7:=nR xj5
noncomputable def xj6:=nL xe7
noncomputable def xy3:=nR xe7
noncomputable def xj7:=nR xj6
noncomputable def xj8:=nR xj7
noncomputable def xj9:=nR xj8
noncomputable def xja:=nR xj9
noncomputable def xe8:=nR xja
noncomputable def xy4:=nL xe8
noncomputable def xy5:=nR xe8
theorem xy6:x145 call hs u xy0 r_9 eNil=j1 (x30 call hs u) 16:=by kernel_rfl
theorem xy7{rec0:AV->AV->AV->AV->AV->Mem->Nat->O2}:x145 call hs u xy1 (j5 rec0 2 4 9 16 17) (setE 6 (j1 (x30 call hs u) 16) eNil)=j5 (x7y call hs u rec0) 2 4 9 16 17:=by kernel_rfl
theorem xy8:x145 call hs u xix (j1 (x30 call hs u) 16) (setE 6 (j1 (x30 call hs u) 16) eNil)=j5 (x31 call hs u NN) 2 4 9 16 17:=lp (Ln:=fun n=>j5 (x31 call hs u n) 2 4 9 16 17) fun n=>tr xy7
theorem xy9:x145 call hs u xiw (j1 (x30 call hs u) 16) eNil=j5 (x31 call hs u NN) 2 4 9 16 17:=bk xy8
theorem xya:x145 call hs u xiv (j1 (x30 call hs u) 16) eNil=j5 (x7z call hs u) 2 3 4 9 16:=tr (sqN 1 xy9)
theorem xyb:x145 call hs u xe5 r_9 eNil=j5 (x7z call hs u) 2 3 4 9 16:=sq2 xy6 xya
theorem xyc:x145 call hs u xiu r_9 eNil=j4 (x4 call hs u) 2 3 4 9:=tr (sqN 1 xyb)
theorem xyd{rec1:AV->AV->AV->AV->AV->AV->AV->AV->Mem->Nat->O2}:x145 call hs u xy2 (j8 rec1 1 2 3 4 9 10 31 32) (setE 0 (j4 (x4 call hs u) 2 3 4 9) eNil)=j8 (x3 call hs u rec1) 1 2 3 4 9 10 31 32:=by kernel_rfl
theorem xye{rec1:AV->AV->AV->AV->AV->AV->AV->AV->Mem->Nat->O2}{rec2:AV->AV->AV->AV->AV->AV->AV->AV->AV->Mem->Nat->O2}:x145 call hs u xy3 (j9 rec2 1 2 3 4 9 10 11 31 32) (setE 2 (j8 (x3 call hs u rec1) 1 2 3 4 9 10 31 32) (setE 1 (j8 (x3 call hs u rec1) 1 2 3 4 9 10 31 32) (setE 0 (j4 (x4 call hs u) 2 3 4 9) eNil)))=j9 (xe call hs u rec1 rec2) 1 2 3 4 9 10 11 31 32:=by kernel_rfl
theorem xyf{rec1:AV->AV->AV->AV->AV->AV->AV->AV->Mem->Nat->O2}{rec2:AV->AV->AV->AV->AV->AV->AV->AV->AV->Mem->Nat->O2}{rec3:AV->AV->AV->AV->AV->AV->AV->AV->AV->AV->Mem->Nat->O2}:x145 call hs u xy5 (j10 rec3 1 2 3 4 9 10 11 12 31 32) (setE 4 (j9 (xe call hs u rec1 rec2) 1 2 3 4 9 10 11 31 32) (setE 3 (j9 (xe call hs u rec1 rec2) 1 2 3 4 9 10 11 31 32) (setE 2 (j8 (x3 call hs u rec1) 1 2 3 4 9 10 31 32) (setE 1 (j8 (x3 call hs u rec1) 1 2 3 4 9 10 31 32) (setE 0 (j4 (x4 call hs u) 2 3 4 9) eNil)))))=j10 (x41 call hs u rec1 rec2 rec3) 1 2 3 4 9 10 11 12 31 32:=by kernel_rfl
theorem xyg{rec1:AV->AV->AV->AV->AV->AV->AV->AV->Mem->Nat->O2}{rec2:AV->AV->AV->AV->AV->AV->AV->AV->AV->Mem->Nat->O2}{rec3:AV->AV->AV->AV->AV->AV->AV->AV->AV->AV->Mem->Nat->O2}:x145 call hs u xy4 (j10 (x41 call hs u rec1 rec2 rec3) 1 2 3 4 9 10 11 12 31 32) (setE 4 (j9 (xe call hs u rec1 rec2) 1 2 3 4 9 10 11 31 32) (setE 3 (j9 (xe call hs u rec1 rec2) 1 2 3 4 9 10 11 31 32) (setE 2 (j8 (x3 call hs u rec1) 1 2 3 4 9 10 31 32) (setE 1 (j8 (x3 call hs u rec1) 1 2 3 4 9 10 31 32) (setE 0 (j4 (x4 call hs u) 2 3 4 9) eNil)))))=j10 (x80 call hs u rec1 rec2 rec3) 1 2 3 4 9 10 11 12 31 32:=by kernel_rfl
theorem xyh{rec1:AV->AV->AV->AV->AV->AV->AV->AV->Mem->Nat->O2}{rec2:AV->AV->AV->AV->AV->AV->AV->AV->AV->Mem->Nat->O2}{rec3:AV->AV->AV->AV->AV->AV->AV->AV->AV->AV->Mem->Nat->O2}:x145 call hs u xe8 (j10 rec3 1 2 3 4 9 10 11 12 31 32) (setE 4 (j9 (xe call hs u rec1 rec2) 1 2 3 4 9 10 11 31 32) (setE 3 (j9 (xe call hs u rec1 rec2) 1 2 3 4 9 10 11 31 32) (setE 2 (j8 (x3 call hs u rec1) 1 2 3 4 9 10 31 32) (setE 1 (j8 (x3 call hs u rec1) 1 2 3 4 9 10 31 32) (setE 0 (j4 (x4 call hs u) 2 3 4 9) eNil)))))=j10 (x80 call hs u rec1 rec2 rec3) 1 2 3 4 9 10 11 12 31 32:=sq2 xyf xyg
theorem xyi{rec1:AV->AV->AV->AV->AV->AV->AV->AV->Mem->Nat->O2}{rec2:AV->AV->AV->AV->AV->AV->AV->AV->AV->Mem->Nat->O2}{rec3:AV->AV->AV->AV->AV->AV->AV->AV->AV->AV->Mem->Nat->O2}:x145 call hs u xja (j10 rec3 1 2 3 4 9 10 11 12 31 32) (setE 4 (j9 (xe call hs u rec1 rec2) 1 2 3 4 9 10 11 31 32) (setE 3 (j9 (xe call hs u rec1 rec2) 1 2 3 4 9 10 11 31 32) (setE 2 (j8 (x3 call hs u rec1) 1 2 3 4 9 10 31 32) (setE 1 (j8 (x3 call hs u rec1) 1 2 3 4 9 10 31 32) (setE 0 (j4 (x4 call hs u) 2 3 4 9) eNil)))))=j10 (x81 call hs u rec1 rec2 rec3) 1 2 3 4 9 10 11 12 31 32:=tr (sqN 1 xyh)
theorem xyj{rec1:AV->AV->AV->AV->AV->AV->AV->AV->Mem->Nat->O2}{rec2:AV->AV->AV->AV->AV->AV->AV->AV->AV->Mem->Nat->O2}:x145 call hs u xj9 (j9 (xe call hs u rec1 rec2) 1 2 3 4 9 10 11 31 32) (setE 4 (j9 (xe call hs u rec1 rec2) 1 2 3 4 9 10 11 31 32) (setE 3 (j9 (xe call hs u rec1 rec2) 1 2 3 4 9 10 11 31 32) (setE 2 (j8 (x3 call hs u rec1) 1 2 3 4 9 10 31 32) (setE 1 (j8 (x3 call hs u rec1) 1 2 3 4 9 10 31 32) (setE 0 (j4 (x4 call hs u) 2 3 4 9) eNil)))))=j10 (x18 call hs u rec1 rec2 NN) 1 2 3 4 9 10 11 12 31 32:=lp (Ln:=fun n=>j10 (x18 call hs u rec1 rec2 n) 1 2 3 4 9 10 11 12 31 32) fun n=>tr xyi
theorem xyk{rec1:AV->AV->AV->AV->AV->AV->AV->AV->Mem->Nat->O2}{rec2:AV->AV->AV->AV->AV->AV->AV->AV->AV->Mem->Nat->O2}:x145 call hs u xj8 (j9 (xe call hs u rec1 rec2) 1 2 3 4 9 10 11 31 32) (setE 3 (j9 (xe call hs u rec1 rec2) 1 2 3 4 9 10 11 31 32) (setE 2 (j8 (x3 call hs u rec1) 1 2 3 4 9 10 31 32) (setE 1 (j8 (x3 call hs u rec1) 1 2 3 4 9 10 31 32) (setE 0 (j4 (x4 call hs u) 2 3 4 9) eNil))))=j10 (x18 call hs u rec1 rec2 NN) 1 2 3 4 9 10 11 12 31 32:=bk xyj
theorem xyl{rec1:AV->AV->AV->AV->AV->AV->AV->AV->Mem->Nat->O2}{rec2:AV->AV->AV->AV->AV->AV->AV->AV->AV->Mem->Nat->O2}:x145 call hs u xj7 (j9 (xe call hs u rec1 rec2) 1 2 3 4 9 10 11 31 32) (setE 3 (j9 (xe call hs u rec1 rec2) 1 2 3 4 9 10 11 31 32) (setE 2 (j8 (x3 call hs u rec1) 1 2 3 4 9 10 31 32) (setE 1 (j8 (x3 call hs u rec1) 1 2 3 4 9 10 31 32) (setE 0 (j4 (x4 call hs u) 2 3 4 9) eNil))))=j9 (x5q call hs u rec1 rec2) 1 2 3 4 9 10 11 31 32:=tr (sqN 1 xyk)
theorem xym{rec1:AV->AV->AV->AV->AV->AV->AV->AV->Mem->Nat->O2}{rec2:AV->AV->AV->AV->AV->AV->AV->AV->AV->Mem->Nat->O2}:x145 call hs u xj6 (j9 (xe call hs u rec1 rec2) 1 2 3 4 9 10 11 31 32) (setE 2 (j8 (x3 call hs u rec1) 1 2 3 4 9 10 31 32) (setE 1 (j8 (x3 call hs u rec1) 1 2 3 4 9 10 31 32) (setE 0 (j4 (x4 call hs u) 2 3 4 9) eNil)))=j9 (x5q call hs u rec1 rec2) 1 2 3 4 9 10 11 31 32:=bk xyl
theorem xyn{rec1:AV->AV->AV->AV->AV->AV->AV->AV->Mem->Nat->O2}{rec2:AV->AV->AV->AV->AV->AV->AV->AV->AV->Mem->Nat->O2}:x145 call hs u xe7 (j9 rec2 1 2 3 4 9 10 11 31 32) (setE 2 (j8 (x3 call hs u rec1) 1 2 3 4 9 10 31 32) (setE 1 (j8 (x3 call hs u rec1) 1 2 3 4 9 10 31 32) (setE 0 (j4 (x4 call hs u) 2 3 4 9) eNil)))=j9 (x5q call hs u rec1 rec2) 1 2 3 4 9 10 11 31 32:=sq2 xye xym
theorem xyo{rec1:AV->AV->AV->AV->AV->AV->AV->AV->Mem->Nat->O2}{rec2:AV->AV->AV->AV->AV->AV->AV->AV->AV->Mem->Nat->O2}:x145 call hs u xj5 (j9 rec2 1 2 3 4 9 10 11 31 32) (setE 2 (j8 (x3 call hs u rec1) 1 2 3 4 9 10 31 32) (setE 1 (j8 (x3 call hs u rec1) 1 2 3 4 9 10 31 32) (setE 0 (j4 (x4 call hs u) 2 3 4 9) eNil)))=j9 (x82 call hs u rec1 rec2) 1 2 3 4 9 10 11 31 32:=tr (sqN 1 xyn)
theorem xyp{rec1:AV->AV->AV->AV->AV->AV->AV->AV->Mem->Nat->O2}:x145 call hs u xj4 (j8 (x3 call hs u rec1) 1 2 3 4 9 10 31 32) (setE 2 (j8 (x3 call hs u rec1) 1 2 3 4 9 10 31 32) (setE 1 (j8 (x3 call hs u rec1) 1 2 3 4 9 10 31 32) (setE 0 (j4 (x4 call hs u) 2 3 4 9) eNil)))=j9 (x32 call hs u rec1 NN) 1 2 3 4 9 10 11 31 32:=lp (Ln:=fun n=>j9 (x32 call hs u rec1 n) 1 2 3 4 9 10 11 31 32) fun n=>tr xyo
theorem xyq{rec1:AV->AV->AV->AV->AV->AV->AV->AV->Mem->Nat->O2}:x145 call hs u xj3 (j8 (x3 call hs u rec1) 1 2 3 4 9 10 31 32) (setE 1 (j8 (x3 call hs u rec1) 1 2 3 4 9 10 31 32) (setE 0 (j4 (x4 call hs u) 2 3 4 9) eNil))=j9 (x32 call hs u rec1 NN) 1 2 3 4 9 10 11 31 32:=bk xyp
theorem xyr{rec1:AV->AV->AV->AV->AV->AV->AV->AV->Mem->Nat->O2}:x145 call hs u xj2 (j8 (x3 call hs u rec1) 1 2 3 4 9 10 31 32) (setE 1 (j8 (x3 call hs u rec1) 1 2 3 4 9 10 31 32) (setE 0 (j4 (x4 call hs u) 2 3 4 9) eNil))=j8 (x5r call hs u rec1) 1 2 3 4 9 10 31 32:=tr (sqN 1 xyq)
theorem xys{rec1:AV->AV->AV->AV->AV->AV->AV->AV->Mem->Nat->O2}:x145 call hs u xj1 (j8 (x3 call hs u rec1) 1 2 3 4 9 10 31 32) (setE 0 (j4 (x4 call hs u) 2 3 4 9) eNil)=j8 (x5r call hs u rec1) 1 2 3 4 9 10 31 32:=bk xyr
theorem xyt{rec1:AV->AV->AV->AV->AV->AV->AV->AV->Mem->Nat->O2}:x145 call hs u xe6 (j8 rec1 1 2 3 4 9 10 31 32) (setE 0 (j4 (x4 call hs u) 2 3 4 9) eNil)=j8 (x5r call hs u rec1) 1 2 3 4 9 10 31 32:=sq2 xyd xys
theorem xyu{rec1:AV->AV->AV->AV->AV->AV->AV->AV->Mem->Nat->O2}:x145 call hs u xj0 (j8 rec1 1 2 3 4 9 10 31 32) (setE 0 (j4 (x4 call hs u) 2 3 4 9) eNil)=j8 (x83 call hs u rec1) 1 2 3 4 9 10 31 32:=tr (sqN 2 xyt)
theorem xyv:x145 call hs u xiz (j4 (x4 call hs u) 2 3 4 9) (setE 0 (j4 (x4 call hs u) 2 3 4 9) eNil)=j8 (x1r call hs u NN) 1 2 3 4 9 10 31 32:=lp (Ln:=fun n=>j8 (x1r call hs u n) 1 2 3 4 9 10 31 32) fun n=>tr xyu
theorem xyw:x145 call hs u xiy (j4 (x4 call hs u) 2 3 4 9) eNil=j8 (x1r call hs u NN) 1 2 3 4 9 10 31 32:=bk xyv
theorem xyx:x145 call hs u xit (j4 (x4 call hs u) 2 3 4 9) eNil=j6 (x84 call hs u) 1 2 3 4 9 10:=tr (sqN 1 xyw)
theorem xyy:x145 call hs u xe4 r_9 eNil=j6 (x84 call hs u) 1 2 3 4 9 10:=sq2 xyc xyx
theorem xos:x145 call hs u xis r_9 eNil=j4 (xc3 call hs u) 0 1 2 3:=tr (sqN 4 xyy)
noncomputable abbrev x1jq:=VX x4q 8 r_3
noncomputable def xyz:=x13k x4q
theorem xot:x1jq call hs u xyz r_3 eNil=j3 (xc4 call hs u) 0 1 2:=by kernel_rfl
noncomputable abbrev x15e:=VX x4r 49 r_1
noncomputable def xjb:=x13k x4r
noncomputable def xe9:=nRs 2 xjb
noncomputable def xjc:=nL xe9
noncomputable def xz0:=nR xe9
noncomputable def xjd:=nR xjc
noncomputable def xje:=nR xjd
noncomputable def xjf:=nR xje
noncomputable def xea:=nRs 2 xjf
noncomputable def xjg:=nL xea
noncomputable def xz1:=nR xea
noncomputable def xjh:=nR xjg
noncomputable def xji:=nR xjh
noncomputable def xeb:=nR xji
noncomputable def xz2:=nL xeb
noncomputable def xz3:=nR xeb
theorem xz4:x15e call hs u xz0 r_1 eNil=j0 (xk call hs u):=by kernel_rfl
theorem xz5{rec0:AV->AV->AV->Mem->Nat->O2}:x15e call hs u xz1 (j3 rec0 13 14 15) (setE 0 (j0 (xk call hs u)) eNil)=j3 (xi call hs u rec0) 13 14 15:=by kernel_rfl
theorem xz6{rec0:AV->AV->AV->Mem->Nat->O2}:x15e call hs u xz3 (j3 (xi call hs u rec0) 13 14 15) (setE 2 (j3 (xi call hs u rec0) 13 14 15) (setE 1 (j3 (xi call hs u rec0) 13 14 15) (setE 0 (j0 (xk call hs u)) eNil)))=j6 (x5s call hs u rec0) 3 4 13 14 15 20:=by kernel_rfl
theorem xz7{rec0:AV->AV->AV->Mem->Nat->O2}:x15e call hs u xz2 (j6 (x5s call hs u rec0) 3 4 13 14 15 20) (setE 2 (j3 (xi call hs u rec0) 13 14 15) (setE 1 (j3 (xi call hs u rec0) 13 14 15) (setE 0 (j0 (xk call hs u)) eNil)))=j5 (x5t call hs u rec0) 3 4 13 14 15:=by kernel_rfl
theorem xz8{rec0:AV->AV->AV->Mem->Nat->O2}:x15e call hs u xeb (j3 (xi call hs u rec0) 13 14 15) (setE 2 (j3 (xi call hs u rec0) 13 14 15) (setE 1 (j3 (xi call hs u rec0) 13 14 15) (setE 0 (j0 (xk call hs u)) eNil)))=j5 (x5t call hs u rec0) 3 4 13 14 15:=sq2 xz6 xz7
theorem xz9{rec0:AV->AV->AV->Mem->Nat->O2}:x15e call hs u xji (j3 (xi call hs u rec0) 13 14 15) (setE 1 (j3 (xi call hs u rec0) 13 14 15) (setE 0 (j0 (xk call hs u)) eNil))=j5 (x5t call hs u rec0) 3 4 13 14 15:=bk xz8
theorem xza{rec0:AV->AV->AV->Mem->Nat->O2}:x15e call hs u xjh (j3 (xi call hs u rec0) 13 14 15) (setE 1 (j3 (xi call hs u rec0) 13 14 15) (setE 0 (j0 (xk call hs u)) eNil))=j3 (x5u call hs u rec0) 13 14 15:=tr (sqN 1 xz9)
theorem xzb{rec0:AV->AV->AV->Mem->Nat->O2}:x15e call hs u xjg (j3 (xi call hs u rec0) 13 14 15) (setE 0 (j0 (xk call hs u)) eNil)=j3 (x5u call hs u rec0) 13 14 15:=bk xza
theorem xzc{rec0:AV->AV->AV->Mem->Nat->O2}:x15e call hs u xea (j3 rec0 13 14 15) (setE 0 (j0 (xk call hs u)) eNil)=j3 (x5u call hs u rec0) 13 14 15:=sq2 xz5 xzb
theorem xzd{rec0:AV->AV->AV->Mem->Nat->O2}:x15e call hs u xjf (j3 rec0 13 14 15) (setE 0 (j0 (xk call hs u)) eNil)=j3 (x85 call hs u rec0) 13 14 15:=tr (sqN 2 xzc)
theorem xze:x15e call hs u xje (j0 (xk call hs u)) (setE 0 (j0 (xk call hs u)) eNil)=j3 (x1s call hs u NN) 13 14 15:=lp (Ln:=fun n=>j3 (x1s call hs u n) 13 14 15) fun n=>tr xzd
theorem xzf:x15e call hs u xjd (j0 (xk call hs u)) eNil=j3 (x1s call hs u NN) 13 14 15:=bk xze
theorem xzg:x15e call hs u xjc (j0 (xk call hs u)) eNil=j1 (x86 call hs u) 0:=tr (sqN 1 xzf)
theorem xzh:x15e call hs u xe9 r_1 eNil=j1 (x86 call hs u) 0:=sq2 xz4 xzg
theorem xou:x15e call hs u xjb r_1 eNil=j1 (xc5 call hs u) 0:=tr (sqN 2 xzh)
noncomputable abbrev x1jr:=VX x4s 9 r_0
noncomputable def xzi:=x13k x4s
theorem xov:x1jr call hs u xzi r_0 eNil=j2 (xc6 call hs u) 0 1:=by kernel_rfl
noncomputable abbrev x1js:=VX xj 9 r_10
noncomputable def xzj:=x13k xj
theorem xow:x1js call hs u xzj r_10 eNil=j2 (xc7 call hs u) 0 1:=by kernel_rfl
noncomputable abbrev x18o:=VX x4t 66 r_4
noncomputable def xjj:=x13k x4t
noncomputable def xec:=nRs 4 xjj
noncomputable def xjk:=nL xec
noncomputable def xzk:=nR xec
noncomputable def xjl:=nR xjk
noncomputable def xjm:=nR xjl
noncomputable def xzl:=nR xjm
theorem xzm:x18o call hs u xzk r_4 eNil=j0 (x33 call hs u):=by kernel_rfl
theorem xzn{rec0:AV->AV->AV->AV->AV->Mem->Nat->O2}:x18o call hs u xzl (j5 rec0 1 6 26 27 28) (setE 0 (j0 (x33 call hs u)) eNil)=j5 (x87 call hs u rec0) 1 6 26 27 28:=by kernel_rfl
theorem xzo:x18o call hs u xjm (j0 (x33 call hs u)) (setE 0 (j0 (x33 call hs u)) eNil)=j5 (x1t call hs u NN) 1 6 26 27 28:=lp (Ln:=fun n=>j5 (x1t call hs u n) 1 6 26 27 28) fun n=>tr xzn
theorem xzp:x18o call hs u xjl (j0 (x33 call hs u)) eNil=j5 (x1t call hs u NN) 1 6 26 27 28:=bk xzo
theorem xzq:x18o call hs u xjk (j0 (x33 call hs u)) eNil=j2 (x88 call hs u) 1 6:=tr (sqN 1 xzp)
theorem xzr:x18o call hs u xec r_4 eNil=j2 (x88 call hs u) 1 6:=sq2 xzm xzq
theorem xox:x18o call hs u xjj r_4 eNil=j1 (xc9 call hs u) 0:=tr (sqN 4 xzr)
noncomputable abbrev x1jt:=VX x3v 41 r_0
noncomputable def xzs:=x13k x3v
theorem xoy:x1jt call hs u xzs r_0 eNil=j2 (xca call hs u) 0 1:=by kernel_rfl
noncomputable abbrev x18p:=VX x48 19 r_0
noncomputable def xjn:=x13k x48
noncomputable def xed:=nR xjn
noncomputable def xjo:=nL xed
noncomputable def xzt:=nR xed
noncomputable def xjp:=nR xjo
noncomputable def xjq:=nR xjp
noncomputable def xzu:=nR xjq
theorem xzv:x18p call hs u xzt r_0 eNil=j0 (x34 call hs u):=by kernel_rfl
theorem xzw{rec0:AV->AV->AV->AV->Mem->Nat->O2}:x18p call hs u xzu (j4 rec0 0 1 7 8) (setE 0 (j0 (x34 call hs u)) eNil)=j4 (x89 call hs u rec0) 0 1 7 8:=by kernel_rfl
theorem xzx:x18p call hs u xjq (j0 (x34 call hs u)) (setE 0 (j0 (x34 call hs u)) eNil)=j4 (x35 call hs u NN) 0 1 7 8:=lp (Ln:=fun n=>j4 (x35 call hs u n) 0 1 7 8) fun n=>tr xzw
theorem xzy:x18p call hs u xjp (j0 (x34 call hs u)) eNil=j4 (x35 call hs u NN) 0 1 7 8:=bk xzx
theorem xzz:x18p call hs u xjo (j0 (x34 call hs u)) eNil=j2 (x8a call hs u) 0 1:=tr (sqN 1 xzy)
theorem x100:x18p call hs u xed r_0 eNil=j2 (x8a call hs u) 0 1:=sq2 xzv xzz
theorem xnh:x18p call hs u xjn r_0 eNil=j2 (xcb call hs u) 0 1:=tr (sqN 1 x100)
noncomputable abbrev x1ju:=VX x4u 9 r_11
noncomputable def x101:=x13k x4u
theorem xoz:x1ju call hs u x101 r_11 eNil=j2 (xcc call hs u) 0 1:=by kernel_rfl
noncomputable abbrev x1jv:=VX x3w 13 r_12
noncomputable def x102:=x13k x3w
theorem xp0:x1jv call hs u x102 r_12 eNil=j3 (xcd call hs u) 0 1 2:=by kernel_rfl
noncomputable abbrev x1jw:=VX x4v 11 r_11
noncomputable def x103:=x13k x4v
theorem xp1:x1jw call hs u x103 r_11 eNil=j1 (xce call hs u) 0:=by kernel_rfl
noncomputable abbrev x1bg:=VX x22 26 r_11
noncomputable def xjr:=x13k x22
noncomputable def xjs:=nR xjr
noncomputable def xjt:=nR xjs
noncomputable def x104:=nR xjt
theorem x105{rec0:AV->AV->AV->AV->AV->Mem->Nat->O2}:x1bg call hs u x104 (j5 rec0 0 1 2 8 9) (setE 0 r_11 eNil)=j5 (x8b call hs u rec0) 0 1 2 8 9:=by kernel_rfl
theorem x106:x1bg call hs u xjt r_11 (setE 0 r_11 eNil)=j5 (x36 call hs u NN) 0 1 2 8 9:=lp (Ln:=fun n=>j5 (x36 call hs u n) 0 1 2 8 9) fun n=>tr x105
theorem x107:x1bg call hs u xjs r_11 eNil=j5 (x36 call hs u NN) 0 1 2 8 9:=bk x106
theorem xp2:x1bg call hs u xjr r_11 eNil=j3 (xcg call hs u) 0 1 2:=tr (sqN 1 x107)
noncomputable abbrev x18q:=VX x4w 19 r_0
noncomputable def xju:=x13k x4w
noncomputable def xee:=nR xju
noncomputable def xjv:=nL xee
noncomputable def x108:=nR xee
noncomputable def xjw:=nR xjv
noncomputable def xjx:=nR xjw
noncomputable def x109:=nR xjx
theorem x10a:x18q call hs u x108 r_0 eNil=j0 (x37 call hs u):=by kernel_rfl
theorem x10b{rec0:AV->AV->AV->AV->Mem->Nat->O2}:x18q call hs u x109 (j4 rec0 0 1 7 8) (setE 0 (j0 (x37 call hs u)) eNil)=j4 (x8c call hs u rec0) 0 1 7 8:=by kernel_rfl
theorem x10c:x18q call hs u xjx (j0 (x37 call hs u)) (setE 0 (j0 (x37 call hs u)) eNil)=j4 (x38 call hs u NN) 0 1 7 8:=lp (Ln:=fun n=>j4 (x38 call hs u n) 0 1 7 8) fun n=>tr x10b
theorem x10d:x18q call hs u xjw (j0 (x37 call hs u)) eNil=j4 (x38 call hs u NN) 0 1 7 8:=bk x10c
theorem x10e:x18q call hs u xjv (j0 (x37 call hs u)) eNil=j2 (x8d call hs u) 0 1:=tr (sqN 1 x10d)
theorem x10f:x18q call hs u xee r_0 eNil=j2 (x8d call hs u) 0 1:=sq2 x10a x10e
theorem xp3:x18q call hs u xju r_0 eNil=j2 (xch call hs u) 0 1:=tr (sqN 1 x10f)
noncomputable abbrev x19e:=VX x14 42 r_13
noncomputable abbrev x1jx(lid:Id):=VX (R:=Mem) x14 42 (fun s=>sLpX lid .ret s.m)
noncomputable abbrev x1jy:=VX (R:=Mem) x14 42 fNil
noncomputable def xjy:=x13k x14
noncomputable def xef:=nRs 2 xjy
noncomputable def xjz:=nL xef
noncomputable def x10g:=nR xef
noncomputable def xk0:=nR xjz
noncomputable def x8u:=nR xk0
noncomputable def x10h:=nL x8u
noncomputable def x10i:=nR x8u
theorem x10j:x19e call hs u x10g r_13 eNil=j2 (x39 call hs u) 10 11:=by kernel_rfl
theorem x10k{lid:Id}:x1jx lid call hs u x10i (fun s=>sLpN lid s.m) (fun i s=>sLpX lid (.exit i) s.m)=j9 (x8e call hs u lid) 5 6 7 8 9 10 11 12 13:=by kernel_rfl
theorem x10l{lid:Id}:x1jy call hs u x10h (fun s=>(sLpN lid s.m).bind fun _=>(j9 (x8e call hs u lid) 5 6 7 8 9 10 11 12 13) s) eNil=j9 (x8f call hs u lid) 5 6 7 8 9 10 11 23 24:=by kernel_rfl
theorem x10m:x19e call hs u x8u (j2 (x39 call hs u) 10 11) (setE 0 (j2 (x39 call hs u) 10 11) eNil)=j8 (x8g call hs u) 5 6 7 8 9 10 11 22:=tr (rg2 (C:=x8u) (c:={f:=x14,u:=u,nt:=42,hs:=hs}) (f:=(.tmp 22)) (ps:=#[23,24]) (fun l u=>x10k) (fun l u=>x10l))
theorem x10n:x19e call hs u xk0 (j2 (x39 call hs u) 10 11) eNil=j8 (x8g call hs u) 5 6 7 8 9 10 11 22:=bk x10m
theorem x10o:x19e call hs u xjz (j2 (x39 call hs u) 10 11) eNil=j7 (x8h call hs u) 5 6 7 8 9 10 11:=tr (sqN 1 x10n)
theorem x10p:x19e call hs u xef r_13 eNil=j7 (x8h call hs u) 5 6 7 8 9 10 11:=sq2 x10j x10o
theorem xp4:x19e call hs u xjy r_13 eNil=j5 (xci call hs u) 0 1 2 3 4:=tr (sqN 2 x10p)
noncomputable abbrev x16a:=VX x23 43 r_11
noncomputable def xk1:=x13k x23
noncomputable def xk2:=nR xk1
noncomputable def xk3:=nR xk2
noncomputable def xk4:=nR xk3
noncomputable def xeg:=nRs 2 xk4
noncomputable def xk5:=nL xeg
noncomputable def x10q:=nR xeg
noncomputable def xk6:=nR xk5
noncomputable def xk7:=nRs 2 xk6
noncomputable def xk8:=nR xk7
noncomputable def x10r:=nR xk8
theorem x10s{rec0:AV->AV->AV->AV->AV->AV->Mem->Nat->O2}:x16a call hs u x10q (j6 rec0 0 2 3 12 13 14) (setE 0 r_11 eNil)=j6 (xt call hs u rec0) 0 2 3 12 13 14:=by kernel_rfl
theorem x10t{rec0:AV->AV->AV->AV->AV->AV->Mem->Nat->O2}{rec1:AV->AV->AV->AV->AV->AV->AV->AV->AV->Mem->Nat->O2}:x16a call hs u x10r (j9 rec1 0 2 3 6 12 13 14 18 19) (setE 2 (j6 (xt call hs u rec0) 0 2 3 12 13 14) (setE 1 (j6 (xt call hs u rec0) 0 2 3 12 13 14) (setE 0 r_11 eNil)))=j9 (x8i call hs u rec0 rec1) 0 2 3 6 12 13 14 18 19:=by kernel_rfl
theorem x10u{rec0:AV->AV->AV->AV->AV->AV->Mem->Nat->O2}:x16a call hs u xk8 (j6 (xt call hs u rec0) 0 2 3 12 13 14) (setE 2 (j6 (xt call hs u rec0) 0 2 3 12 13 14) (setE 1 (j6 (xt call hs u rec0) 0 2 3 12 13 14) (setE 0 r_11 eNil)))=j9 (x1u call hs u rec0 NN) 0 2 3 6 12 13 14 18 19:=lp (Ln:=fun n=>j9 (x1u call hs u rec0 n) 0 2 3 6 12 13 14 18 19) fun n=>tr x10t
theorem x10v{rec0:AV->AV->AV->AV->AV->AV->Mem->Nat->O2}:x16a call hs u xk7 (j6 (xt call hs u rec0) 0 2 3 12 13 14) (setE 1 (j6 (xt call hs u rec0) 0 2 3 12 13 14) (setE 0 r_11 eNil))=j9 (x1u call hs u rec0 NN) 0 2 3 6 12 13 14 18 19:=bk x10u
theorem x10w{rec0:AV->AV->AV->AV->AV->AV->Mem->Nat->O2}:x16a call hs u xk6 (j6 (xt call hs u rec0) 0 2 3 12 13 14) (setE 1 (j6 (xt call hs u rec0) 0 2 3 12 13 14) (setE 0 r_11 eNil))=j6 (x5x call hs u rec0) 0 2 3 12 13 14:=tr (sqN 2 x10v)
theorem x10x{rec0:AV->AV->AV->AV->AV->AV->Mem->Nat->O2}:x16a call hs u xk5 (j6 (xt call hs u rec0) 0 2 3 12 13 14) (setE 0 r_11 eNil)=j6 (x5x call hs u rec0) 0 2 3 12 13 14:=bk x10w
theorem x10y{rec0:AV->AV->AV->AV->AV->AV->Mem->Nat->O2}:x16a call hs u xeg (j6 rec0 0 2 3 12 13 14) (setE 0 r_11 eNil)=j6 (x5x call hs u rec0) 0 2 3 12 13 14:=sq2 x10s x10x
theorem x10z{rec0:AV->AV->AV->AV->AV->AV->Mem->Nat->O2}:x16a call hs u xk4 (j6 rec0 0 2 3 12 13 14) (setE 0 r_11 eNil)=j6 (x8j call hs u rec0) 0 2 3 12 13 14:=tr (sqN 2 x10y)
theorem x110:x16a call hs u xk3 r_11 (setE 0 r_11 eNil)=j6 (x19 call hs u NN) 0 2 3 12 13 14:=lp (Ln:=fun n=>j6 (x19 call hs u n) 0 2 3 12 13 14) fun n=>tr x10z
theorem x111:x16a call hs u xk2 r_11 eNil=j6 (x19 call hs u NN) 0 2 3 12 13 14:=bk x110
theorem xp5:x16a call hs u xk1 r_11 eNil=j4 (xcj call hs u) 0 1 2 3:=tr (sqN 1 x111)
noncomputable abbrev x18r:=VX x4x 19 r_0
noncomputable def xk9:=x13k x4x
noncomputable def xeh:=nR xk9
noncomputable def xka:=nL xeh
noncomputable def x112:=nR xeh
noncomputable def xkb:=nR xka
noncomputable def xkc:=nR xkb
noncomputable def x113:=nR xkc
theorem x114:x18r call hs u x112 r_0 eNil=j0 (x3a call hs u):=by kernel_rfl
theorem x115{rec0:AV->AV->AV->AV->Mem->Nat->O2}:x18r call hs u x113 (j4 rec0 0 1 7 8) (setE 0 (j0 (x3a call hs u)) eNil)=j4 (x8k call hs u rec0) 0 1 7 8:=by kernel_rfl
theorem x116:x18r call hs u xkc (j0 (x3a call hs u)) (setE 0 (j0 (x3a call hs u)) eNil)=j4 (x3b call hs u NN) 0 1 7 8:=lp (Ln:=fun n=>j4 (x3b call hs u n) 0 1 7 8) fun n=>tr x115
theorem x117:x18r call hs u xkb (j0 (x3a call hs u)) eNil=j4 (x3b call hs u NN) 0 1 7 8:=bk x116
theorem x118:x18r call hs u xka (j0 (x3a call hs u)) eNil=j2 (x8l call hs u) 0 1:=tr (sqN 1 x117)
theorem x119:x18r call hs u xeh r_0 eNil=j2 (x8l call hs u) 0 1:=sq2 x114 x118
theorem xp6:x18r call hs u xk9 r_0 eNil=j2 (xck call hs u) 0 1:=tr (sqN 1 x119)
noncomputable abbrev x14y:=VX x59 63 r_11
noncomputable def xkd:=x13k x59
noncomputable def xei:=nRs 2 xkd
noncomputable def xke:=nL xei
noncomputable def xkf:=nR xei
noncomputable def xkg:=nR xkf
noncomputable def xkh:=nR xkg
noncomputable def xki:=nR xkh
noncomputable def xkj:=nR xki
noncomputable def xkk:=nR xkj
noncomputable def xej:=nR xkk
noncomputable def xkl:=nL xej
noncomputable def xek:=nR xej
noncomputable def x11a:=nL xek
noncomputable def x11b:=nR xek
noncomputable def xkm:=nR xkl
noncomputable def x11c:=nR xkm
noncomputable def xkn:=nR xke
noncomputable def x11d:=nR xkn
theorem x11e{rec0:AV->AV->AV->AV->Mem->Nat->O2}:x14y call hs u x11b (j4 rec0 0 1 2 6) (setE 3 (j4 rec0 0 1 2 6) (setE 2 r_11 eNil))=j4 (x8m call hs u rec0) 0 1 2 6:=by kernel_rfl
theorem x11f{rec0:AV->AV->AV->AV->Mem->Nat->O2}:x14y call hs u x11a (j4 (x8m call hs u rec0) 0 1 2 6) (setE 3 (j4 rec0 0 1 2 6) (setE 2 r_11 eNil))=j5 (x42 call hs u rec0) 0 1 2 6 7:=by kernel_rfl
theorem x11g{rec0:AV->AV->AV->AV->Mem->Nat->O2}:x14y call hs u xek (j4 rec0 0 1 2 6) (setE 3 (j4 rec0 0 1 2 6) (setE 2 r_11 eNil))=j5 (x42 call hs u rec0) 0 1 2 6 7:=sq2 x11e x11f
theorem x11h{rec0:AV->AV->AV->AV->Mem->Nat->O2}{rec1:AV->AV->AV->AV->AV->AV->Mem->Nat->O2}:x14y call hs u x11c (j6 rec1 0 1 2 6 7 8) (setE 4 (j5 (x42 call hs u rec0) 0 1 2 6 7) (setE 3 (j4 rec0 0 1 2 6) (setE 2 r_11 eNil)))=j6 (xf1 call hs u rec0 rec1) 0 1 2 6 7 8:=by kernel_rfl
theorem x11i{rec0:AV->AV->AV->AV->Mem->Nat->O2}:x14y call hs u xkm (j5 (x42 call hs u rec0) 0 1 2 6 7) (setE 4 (j5 (x42 call hs u rec0) 0 1 2 6 7) (setE 3 (j4 rec0 0 1 2 6) (setE 2 r_11 eNil)))=j6 (x55 call hs u rec0 NN) 0 1 2 6 7 8:=lp (Ln:=fun n=>j6 (x55 call hs u rec0 n) 0 1 2 6 7 8) fun n=>tr x11h
theorem x11j{rec0:AV->AV->AV->AV->Mem->Nat->O2}:x14y call hs u xkl (j5 (x42 call hs u rec0) 0 1 2 6 7) (setE 3 (j4 rec0 0 1 2 6) (setE 2 r_11 eNil))=j6 (x55 call hs u rec0 NN) 0 1 2 6 7 8:=bk x11i
theorem x11k{rec0:AV->AV->AV->AV->Mem->Nat->O2}:x14y call hs u xej (j4 rec0 0 1 2 6) (setE 3 (j4 rec0 0 1 2 6) (setE 2 r_11 eNil))=j6 (x55 call hs u rec0 NN) 0 1 2 6 7 8:=sq2 x11g x11j
theorem x11l{rec0:AV->AV->AV->AV->Mem->Nat->O2}:x14y call hs u xkk (j4 rec0 0 1 2 6) (setE 3 (j4 rec0 0 1 2 6) (setE 2 r_11 eNil))=j4 (xcl call hs u rec0) 0 1 2 6:=tr (sqN 1 x11k)
theorem x11m{rec0:AV->AV->AV->AV->Mem->Nat->O2}:x14y call hs u xkj (j4 rec0 0 1 2 6) (setE 2 r_11 eNil)=j4 (xcl call hs u rec0) 0 1 2 6:=bk x11l
theorem x11n{rec0:AV->AV->AV->AV->Mem->Nat->O2}:x14y call hs u xki (j4 rec0 0 1 2 6) (setE 2 r_11 eNil)=j4 (xcm call hs u rec0) 0 1 2 6:=tr (sqN 1 x11m)
theorem x11o:x14y call hs u xkh r_11 (setE 2 r_11 eNil)=j4 (x56 call hs u NN) 0 1 2 6:=lp (Ln:=fun n=>j4 (x56 call hs u n) 0 1 2 6) fun n=>tr x11n
theorem x11p:x14y call hs u xkg r_11 eNil=j4 (x56 call hs u NN) 0 1 2 6:=bk x11o
theorem x11q:x14y call hs u xkf r_11 eNil=j5 (x43 call hs u) 0 1 2 6 7:=tr (sqN 1 x11p)
theorem x11r{rec2:AV->AV->AV->AV->AV->AV->Mem->Nat->O2}:x14y call hs u x11d (j6 rec2 0 1 2 6 7 8) (setE 0 (j5 (x43 call hs u) 0 1 2 6 7) eNil)=j6 (xcn call hs u rec2) 0 1 2 6 7 8:=by kernel_rfl
theorem x11s:x14y call hs u xkn (j5 (x43 call hs u) 0 1 2 6 7) (setE 0 (j5 (x43 call hs u) 0 1 2 6 7) eNil)=j6 (x44 call hs u NN) 0 1 2 6 7 8:=lp (Ln:=fun n=>j6 (x44 call hs u n) 0 1 2 6 7 8) fun n=>tr x11r
theorem x11t:x14y call hs u xke (j5 (x43 call hs u) 0 1 2 6 7) eNil=j6 (x44 call hs u NN) 0 1 2 6 7 8:=bk x11s
theorem x11u:x14y call hs u xei r_11 eNil=j6 (x44 call hs u NN) 0 1 2 6 7 8:=sq2 x11q x11t
theorem xp7:x14y call hs u xkd r_11 eNil=j3 (xco call hs u) 0 1 2:=tr (sqN 2 x11u)
noncomputable abbrev x15p:=VX x3x 134 r_11
noncomputable def xko:=x13k x3x
noncomputable def xkp:=nRs 2 xko
noncomputable def xkq:=nR xkp
noncomputable def xkr:=nR xkq
noncomputable def xks:=nR xkr
noncomputable def xel:=nRs 3 xks
noncomputable def x11v:=nL xel
noncomputable def xkt:=nR xel
noncomputable def xem:=nR xkt
noncomputable def x11w:=nL xem
noncomputable def xen:=nR xem
noncomputable def x11x:=nL xen
noncomputable def x11y:=nR xen
theorem x11z{rec0:AV->AV->AV->AV->AV->AV->Mem->Nat->O2}:x15p call hs u x11y (j6 rec0 0 1 2 3 8 9) (setE 1 (j6 rec0 0 1 2 3 8 9) (setE 0 r_11 eNil))=j8 (x8n call hs u rec0) 0 1 2 3 8 9 10 11:=by kernel_rfl
theorem x120{rec0:AV->AV->AV->AV->AV->AV->Mem->Nat->O2}:x15p call hs u x11x (j8 (x8n call hs u rec0) 0 1 2 3 8 9 10 11) (setE 1 (j6 rec0 0 1 2 3 8 9) (setE 0 r_11 eNil))=j9 (x5y call hs u rec0) 0 1 2 3 8 9 10 11 12:=by kernel_rfl
theorem x121{rec0:AV->AV->AV->AV->AV->AV->Mem->Nat->O2}:x15p call hs u xen (j6 rec0 0 1 2 3 8 9) (setE 1 (j6 rec0 0 1 2 3 8 9) (setE 0 r_11 eNil))=j9 (x5y call hs u rec0) 0 1 2 3 8 9 10 11 12:=sq2 x11z x120
theorem x122{rec0:AV->AV->AV->AV->AV->AV->Mem->Nat->O2}:x15p call hs u x11w (j9 (x5y call hs u rec0) 0 1 2 3 8 9 10 11 12) (setE 1 (j6 rec0 0 1 2 3 8 9) (setE 0 r_11 eNil))=j9 (xcp call hs u rec0) 0 1 2 3 8 9 10 11 12:=by kernel_rfl
theorem x123{rec0:AV->AV->AV->AV->AV->AV->Mem->Nat->O2}:x15p call hs u xem (j6 rec0 0 1 2 3 8 9) (setE 1 (j6 rec0 0 1 2 3 8 9) (setE 0 r_11 eNil))=j9 (xcp call hs u rec0) 0 1 2 3 8 9 10 11 12:=sq2 x121 x122
theorem x124{rec0:AV->AV->AV->AV->AV->AV->Mem->Nat->O2}:x15p call hs u xkt (j6 rec0 0 1 2 3 8 9) (setE 1 (j6 rec0 0 1 2 3 8 9) (setE 0 r_11 eNil))=j7 (x8o call hs u rec0) 0 1 2 3 8 9 10:=tr (sqN 1 x123)
theorem x125{rec0:AV->AV->AV->AV->AV->AV->Mem->Nat->O2}:x15p call hs u x11v (j7 (x8o call hs u rec0) 0 1 2 3 8 9 10) (setE 1 (j6 rec0 0 1 2 3 8 9) (setE 0 r_11 eNil))=j7 (xcq call hs u rec0) 0 1 2 3 8 9 10:=by kernel_rfl
theorem x126{rec0:AV->AV->AV->AV->AV->AV->Mem->Nat->O2}:x15p call hs u xel (j6 rec0 0 1 2 3 8 9) (setE 1 (j6 rec0 0 1 2 3 8 9) (setE 0 r_11 eNil))=j7 (xcq call hs u rec0) 0 1 2 3 8 9 10:=sq2 x124 x125
theorem x127{rec0:AV->AV->AV->AV->AV->AV->Mem->Nat->O2}:x15p call hs u xks (j6 rec0 0 1 2 3 8 9) (setE 1 (j6 rec0 0 1 2 3 8 9) (setE 0 r_11 eNil))=j6 (x8p call hs u rec0) 0 1 2 3 8 9:=tr (sqN 3 x126)
theorem x128{rec0:AV->AV->AV->AV->AV->AV->Mem->Nat->O2}:x15p call hs u xkr (j6 rec0 0 1 2 3 8 9) (setE 0 r_11 eNil)=j6 (x8p call hs u rec0) 0 1 2 3 8 9:=bk x127
theorem x129:x15p call hs u xkq r_11 (setE 0 r_11 eNil)=j6 (x57 call hs u NN) 0 1 2 3 8 9:=lp (Ln:=fun n=>j6 (x57 call hs u n) 0 1 2 3 8 9) fun n=>tr x128
theorem x12a:x15p call hs u xkp r_11 eNil=j6 (x57 call hs u NN) 0 1 2 3 8 9:=bk x129
theorem xp8:x15p call hs u xko r_11 eNil=j4 (xcr call hs u) 0 1 2 3:=tr (sqN 2 x12a)
noncomputable abbrev x1jz:=VX x4y 8 r_1
noncomputable def x12b:=x13k x4y
theorem xp9:x1jz call hs u x12b r_1 eNil=j1 (xcs call hs u) 0:=by kernel_rfl
noncomputable abbrev x16b:=VX x3y 53 r_11
noncomputable def xku:=x13k x3y
noncomputable def xkv:=nR xku
noncomputable def xkw:=nR xkv
noncomputable def xkx:=nR xkw
noncomputable def xeo:=nR xkx
noncomputable def xky:=nL xeo
noncomputable def x12c:=nR xeo
noncomputable def xkz:=nR xky
noncomputable def xl0:=nR xkz
noncomputable def xl1:=nR xl0
noncomputable def x12d:=nR xl1
theorem x12e{rec0:AV->AV->AV->AV->AV->Mem->Nat->O2}:x16b call hs u x12c (j5 rec0 0 1 2 3 8) (setE 0 r_11 eNil)=j5 (xp call hs u rec0) 0 1 2 3 8:=by kernel_rfl
theorem x12f{rec0:AV->AV->AV->AV->AV->Mem->Nat->O2}{rec1:AV->AV->AV->AV->AV->AV->Mem->Nat->O2}:x16b call hs u x12d (j6 rec1 0 1 2 3 8 9) (setE 2 (j5 (xp call hs u rec0) 0 1 2 3 8) (setE 1 (j5 (xp call hs u rec0) 0 1 2 3 8) (setE 0 r_11 eNil)))=j6 (x8q call hs u rec0 rec1) 0 1 2 3 8 9:=by kernel_rfl
theorem x12g{rec0:AV->AV->AV->AV->AV->Mem->Nat->O2}:x16b call hs u xl1 (j5 (xp call hs u rec0) 0 1 2 3 8) (setE 2 (j5 (xp call hs u rec0) 0 1 2 3 8) (setE 1 (j5 (xp call hs u rec0) 0 1 2 3 8) (setE 0 r_11 eNil)))=j6 (x3c call hs u rec0 NN) 0 1 2 3 8 9:=lp (Ln:=fun n=>j6 (x3c call hs u rec0 n) 0 1 2 3 8 9) fun n=>tr x12f
theorem x12h{rec0:AV->AV->AV->AV->AV->Mem->Nat->O2}:x16b call hs u xl0 (j5 (xp call hs u rec0) 0 1 2 3 8) (setE 1 (j5 (xp call hs u rec0) 0 1 2 3 8) (setE 0 r_11 eNil))=j6 (x3c call hs u rec0 NN) 0 1 2 3 8 9:=bk x12g
theorem x12i{rec0:AV->AV->AV->AV->AV->Mem->Nat->O2}:x16b call hs u xkz (j5 (xp call hs u rec0) 0 1 2 3 8) (setE 1 (j5 (xp call hs u rec0) 0 1 2 3 8) (setE 0 r_11 eNil))=j5 (x5z call hs u rec0) 0 1 2 3 8:=tr (sqN 1 x12h)
theorem x12j{rec0:AV->AV->AV->AV->AV->Mem->Nat->O2}:x16b call hs u xky (j5 (xp call hs u rec0) 0 1 2 3 8) (setE 0 r_11 eNil)=j5 (x5z call hs u rec0) 0 1 2 3 8:=bk x12i
theorem x12k{rec0:AV->AV->AV->AV->AV->Mem->Nat->O2}:x16b call hs u xeo (j5 rec0 0 1 2 3 8) (setE 0 r_11 eNil)=j5 (x5z call hs u rec0) 0 1 2 3 8:=sq2 x12e x12j
theorem x12l{rec0:AV->AV->AV->AV->AV->Mem->Nat->O2}:x16b call hs u xkx (j5 rec0 0 1 2 3 8) (setE 0 r_11 eNil)=j5 (x60 call hs u rec0) 0 1 2 3 8:=tr (sqN 1 x12k)
theorem x12m:x16b call hs u xkw r_11 (setE 0 r_11 eNil)=j5 (x1a call hs u NN) 0 1 2 3 8:=lp (Ln:=fun n=>j5 (x1a call hs u n) 0 1 2 3 8) fun n=>tr x12l
theorem x12n:x16b call hs u xkv r_11 eNil=j5 (x1a call hs u NN) 0 1 2 3 8:=bk x12m
theorem xpa:x16b call hs u xku r_11 eNil=j4 (xct call hs u) 0 1 2 3:=tr (sqN 1 x12n)
noncomputable abbrev x16c:=VX x4z 49 r_11
noncomputable def xl2:=x13k x4z
noncomputable def xl3:=nR xl2
noncomputable def xl4:=nR xl3
noncomputable def xl5:=nR xl4
noncomputable def xep:=nR xl5
noncomputable def xl6:=nL xep
noncomputable def x12o:=nR xep
noncomputable def xl7:=nR xl6
noncomputable def xl8:=nR xl7
noncomputable def xl9:=nR xl8
noncomputable def x12p:=nR xl9
theorem x12q{rec0:AV->AV->AV->AV->Mem->Nat->O2}:x16c call hs u x12o (j4 rec0 0 1 2 6) (setE 0 r_11 eNil)=j4 (xq call hs u rec0) 0 1 2 6:=by kernel_rfl
theorem x12r{rec0:AV->AV->AV->AV->Mem->Nat->O2}{rec1:AV->AV->AV->AV->AV->Mem->Nat->O2}:x16c call hs u x12p (j5 rec1 0 1 2 6 7) (setE 2 (j4 (xq call hs u rec0) 0 1 2 6) (setE 1 (j4 (xq call hs u rec0) 0 1 2 6) (setE 0 r_11 eNil)))=j5 (x8r call hs u rec0 rec1) 0 1 2 6 7:=by kernel_rfl
theorem x12s{rec0:AV->AV->AV->AV->Mem->Nat->O2}:x16c call hs u xl9 (j4 (xq call hs u rec0) 0 1 2 6) (setE 2 (j4 (xq call hs u rec0) 0 1 2 6) (setE 1 (j4 (xq call hs u rec0) 0 1 2 6) (setE 0 r_11 eNil)))=j5 (x3d call hs u rec0 NN) 0 1 2 6 7:=lp (Ln:=fun n=>j5 (x3d call hs u rec0 n) 0 1 2 6 7) fun n=>tr x12r
theorem x12t{rec0:AV->AV->AV->AV->Mem->Nat->O2}:x16c call hs u xl8 (j4 (xq call hs u rec0) 0 1 2 6) (setE 1 (j4 (xq call hs u rec0) 0 1 2 6) (setE 0 r_11 eNil))=j5 (x3d call hs u rec0 NN) 0 1 2 6 7:=bk x12s
theorem x12u{rec0:AV->AV->AV->AV->Mem->Nat->O2}:x16c call hs u xl7 (j4 (xq call hs u rec0) 0 1 2 6) (setE 1 (j4 (xq call hs u rec0) 0 1 2 6) (setE 0 r_11 eNil))=j4 (x61 call hs u rec0) 0 1 2 6:=tr (sqN 1 x12t)
theorem x12v{rec0:AV->AV->AV->AV->Mem->Nat->O2}:x16c call hs u xl6 (j4 (xq call hs u rec0) 0 1 2 6) (setE 0 r_11 eNil)=j4 (x61 call hs u rec0) 0 1 2 6:=bk x12u
theorem x12w{rec0:AV->AV->AV->AV->Mem->Nat->O2}:x16c call hs u xep (j4 rec0 0 1 2 6) (setE 0 r_11 eNil)=j4 (x61 call hs u rec0) 0 1 2 6:=sq2 x12q x12v
theorem x12x{rec0:AV->AV->AV->AV->Mem->Nat->O2}:x16c call hs u xl5 (j4 rec0 0 1 2 6) (setE 0 r_11 eNil)=j4 (x62 call hs u rec0) 0 1 2 6:=tr (sqN 1 x12w)
theorem x12y:x16c call hs u xl4 r_11 (setE 0 r_11 eNil)=j4 (x1b call hs u NN) 0 1 2 6:=lp (Ln:=fun n=>j4 (x1b call hs u n) 0 1 2 6) fun n=>tr x12x
theorem x12z:x16c call hs u xl3 r_11 eNil=j4 (x1b call hs u NN) 0 1 2 6:=bk x12y
theorem xpb:x16c call hs u xl2 r_11 eNil=j3 (xcu call hs u) 0 1 2:=tr (sqN 1 x12z)
noncomputable abbrev x1k0:=VX x3z 17 r_0
noncomputable def x130:=x13k x3z
theorem xpc:x1k0 call hs u x130 r_0 eNil=j2 (xcv call hs u) 0 1:=by kernel_rfl
noncomputable abbrev x17o:=VX x50 25 r_1
noncomputable def xla:=x13k x50
noncomputable def xeq:=nR xla
noncomputable def x131:=nL xeq
noncomputable def xer:=nR xeq
noncomputable def x132:=nL xer
noncomputable def xes:=nR xer
noncomputable def x133:=nL xes
noncomputable def x134:=nR xes
theorem x135:x17o call hs u x134 r_1 eNil=j2 (x8s call hs u) 0 2:=by kernel_rfl
theorem x136:x17o call hs u x133 (j2 (x8s call hs u) 0 2) eNil=j2 (x63 call hs u) 0 2:=by kernel_rfl
theorem x137:x17o call hs u xes r_1 eNil=j2 (x63 call hs u) 0 2:=sq2 x135 x136
theorem x138:x17o call hs u x132 (j2 (x63 call hs u) 0 2) eNil=j2 (x64 call hs u) 0 2:=by kernel_rfl
theorem x139:x17o call hs u xer r_1 eNil=j2 (x64 call hs u) 0 2:=sq2 x137 x138
theorem x13a:x17o call hs u x131 (j2 (x64 call hs u) 0 2) eNil=j2 (xcw call hs u) 0 2:=by kernel_rfl
theorem x13b:x17o call hs u xeq r_1 eNil=j2 (xcw call hs u) 0 2:=sq2 x139 x13a
theorem xpd:x17o call hs u xla r_1 eNil=j1 (xf2 call hs u) 0:=tr (sqN 1 x13b)
noncomputable abbrev x1k1:=VX x40 6 r_1
noncomputable def x13c:=x13k x40
theorem xpe:x1k1 call hs u x13c r_1 eNil=j1 (xcx call hs u) 0:=by kernel_rfl
end Go.Ix
