import Derived.Test.YtpeakdjfagbpcaaGreatFxText0
import Derived.Test.YtpeakdjfagbpcaaGreatFxText1
import Derived.Test.YtpeakdjfagbpcaaGreatFxEnt
import Derived.Test.YtpeakdjfagbpcaaGreatFxRules
import Derived.Test.YtpeakdjfagbpcaaGreatFxProj
import Derived.ProofKit
set_option linter.unusedVariables false
namespace Go.Ix
open Go.Proofs
variable{call:x2cj}{hs:FHs}{u:Nat}
noncomputable abbrev x2ej:=VX x8c 63 r_17
noncomputable def xuh:=x2co x8c
noncomputable def xle:=nRs 2 xuh
noncomputable def xui:=nL xle
noncomputable def xuj:=nR xle
noncomputable def xuk:=nR xuj
noncomputable def xul:=nR xuk
noncomputable def xum:=nR xul
noncomputable def xun:=nR xum
noncomputable def xuo:=nR xun
noncomputable def xlf:=nR xuo
noncomputable def xup:=nL xlf
noncomputable def xlg:=nR xlf
noncomputable def x1gg:=nL xlg
noncomputable def x1gh:=nR xlg
noncomputable def xuq:=nR xup
noncomputable def x1gi:=nR xuq
noncomputable def xur:=nR xui
noncomputable def x1gj:=nR xur
theorem x1gk{rec0:AV->AV->AV->AV->Mem->Nat->O2}:x2ej call hs u x1gh (j4 rec0 0 1 2 6) (setE 3 (j4 rec0 0 1 2 6) (setE 2 r_17 eNil))=j4 (xf3 call hs u rec0) 0 1 2 6:=by kernel_rfl
theorem x1gl{rec0:AV->AV->AV->AV->Mem->Nat->O2}:x2ej call hs u x1gg (j4 (xf3 call hs u rec0) 0 1 2 6) (setE 3 (j4 rec0 0 1 2 6) (setE 2 r_17 eNil))=j5 (x6d call hs u rec0) 0 1 2 6 7:=by kernel_rfl
theorem x1gm{rec0:AV->AV->AV->AV->Mem->Nat->O2}:x2ej call hs u xlg (j4 rec0 0 1 2 6) (setE 3 (j4 rec0 0 1 2 6) (setE 2 r_17 eNil))=j5 (x6d call hs u rec0) 0 1 2 6 7:=sq2 x1gk x1gl
theorem x1gn{rec0:AV->AV->AV->AV->Mem->Nat->O2}{rec1:AV->AV->AV->AV->AV->AV->Mem->Nat->O2}:x2ej call hs u x1gi (j6 rec1 0 1 2 6 7 8) (setE 4 (j5 (x6d call hs u rec0) 0 1 2 6 7) (setE 3 (j4 rec0 0 1 2 6) (setE 2 r_17 eNil)))=j6 (xsc call hs u rec0 rec1) 0 1 2 6 7 8:=by kernel_rfl
theorem x1go{rec0:AV->AV->AV->AV->Mem->Nat->O2}:x2ej call hs u xuq (j5 (x6d call hs u rec0) 0 1 2 6 7) (setE 4 (j5 (x6d call hs u rec0) 0 1 2 6 7) (setE 3 (j4 rec0 0 1 2 6) (setE 2 r_17 eNil)))=j6 (x7n call hs u rec0 NN) 0 1 2 6 7 8:=lp (Ln:=fun n=>j6 (x7n call hs u rec0 n) 0 1 2 6 7 8) fun n=>tr x1gn
theorem x1gp{rec0:AV->AV->AV->AV->Mem->Nat->O2}:x2ej call hs u xup (j5 (x6d call hs u rec0) 0 1 2 6 7) (setE 3 (j4 rec0 0 1 2 6) (setE 2 r_17 eNil))=j6 (x7n call hs u rec0 NN) 0 1 2 6 7 8:=bk x1go
theorem x1gq{rec0:AV->AV->AV->AV->Mem->Nat->O2}:x2ej call hs u xlf (j4 rec0 0 1 2 6) (setE 3 (j4 rec0 0 1 2 6) (setE 2 r_17 eNil))=j6 (x7n call hs u rec0 NN) 0 1 2 6 7 8:=sq2 x1gm x1gp
theorem x1gr{rec0:AV->AV->AV->AV->Mem->Nat->O2}:x2ej call hs u xuo (j4 rec0 0 1 2 6) (setE 3 (j4 rec0 0 1 2 6) (setE 2 r_17 eNil))=j4 (xkf call hs u rec0) 0 1 2 6:=tr (sqN 1 x1gq)
theorem x1gs{rec0:AV->AV->AV->AV->Mem->Nat->O2}:x2ej call hs u xun (j4 rec0 0 1 2 6) (setE 2 r_17 eNil)=j4 (xkf call hs u rec0) 0 1 2 6:=bk x1gr
theorem x1gt{rec0:AV->AV->AV->AV->Mem->Nat->O2}:x2ej call hs u xum (j4 rec0 0 1 2 6) (setE 2 r_17 eNil)=j4 (xkg call hs u rec0) 0 1 2 6:=tr (sqN 1 x1gs)
theorem x1gu:x2ej call hs u xul r_17 (setE 2 r_17 eNil)=j4 (x7o call hs u NN) 0 1 2 6:=lp (Ln:=fun n=>j4 (x7o call hs u n) 0 1 2 6) fun n=>tr x1gt
theorem x1gv:x2ej call hs u xuk r_17 eNil=j4 (x7o call hs u NN) 0 1 2 6:=bk x1gu
theorem x1gw:x2ej call hs u xuj r_17 eNil=j5 (x6e call hs u) 0 1 2 6 7:=tr (sqN 1 x1gv)
theorem x1gx{rec2:AV->AV->AV->AV->AV->AV->Mem->Nat->O2}:x2ej call hs u x1gj (j6 rec2 0 1 2 6 7 8) (setE 0 (j5 (x6e call hs u) 0 1 2 6 7) eNil)=j6 (xkh call hs u rec2) 0 1 2 6 7 8:=by kernel_rfl
theorem x1gy:x2ej call hs u xur (j5 (x6e call hs u) 0 1 2 6 7) (setE 0 (j5 (x6e call hs u) 0 1 2 6 7) eNil)=j6 (x6f call hs u NN) 0 1 2 6 7 8:=lp (Ln:=fun n=>j6 (x6f call hs u n) 0 1 2 6 7 8) fun n=>tr x1gx
theorem x1gz:x2ej call hs u xui (j5 (x6e call hs u) 0 1 2 6 7) eNil=j6 (x6f call hs u NN) 0 1 2 6 7 8:=bk x1gy
theorem x1h0:x2ej call hs u xle r_17 eNil=j6 (x6f call hs u NN) 0 1 2 6 7 8:=sq2 x1gw x1gz
theorem x1ff:x2ej call hs u xuh r_17 eNil=j3 (xki call hs u) 0 1 2:=tr (sqN 2 x1h0)
noncomputable abbrev x2fg:=VX x5r 134 r_17
noncomputable def xus:=x2co x5r
noncomputable def xut:=nRs 2 xus
noncomputable def xuu:=nR xut
noncomputable def xuv:=nR xuu
noncomputable def xuw:=nR xuv
noncomputable def xlh:=nRs 3 xuw
noncomputable def x1h1:=nL xlh
noncomputable def xux:=nR xlh
noncomputable def xli:=nR xux
noncomputable def x1h2:=nL xli
noncomputable def xlj:=nR xli
noncomputable def x1h3:=nL xlj
noncomputable def x1h4:=nR xlj
theorem x1h5{rec0:AV->AV->AV->AV->AV->AV->Mem->Nat->O2}:x2fg call hs u x1h4 (j6 rec0 0 1 2 3 8 9) (setE 1 (j6 rec0 0 1 2 3 8 9) (setE 0 r_17 eNil))=j8 (xf4 call hs u rec0) 0 1 2 3 8 9 10 11:=by kernel_rfl
theorem x1h6{rec0:AV->AV->AV->AV->AV->AV->Mem->Nat->O2}:x2fg call hs u x1h3 (j8 (xf4 call hs u rec0) 0 1 2 3 8 9 10 11) (setE 1 (j6 rec0 0 1 2 3 8 9) (setE 0 r_17 eNil))=j9 (x9z call hs u rec0) 0 1 2 3 8 9 10 11 12:=by kernel_rfl
theorem x1h7{rec0:AV->AV->AV->AV->AV->AV->Mem->Nat->O2}:x2fg call hs u xlj (j6 rec0 0 1 2 3 8 9) (setE 1 (j6 rec0 0 1 2 3 8 9) (setE 0 r_17 eNil))=j9 (x9z call hs u rec0) 0 1 2 3 8 9 10 11 12:=sq2 x1h5 x1h6
theorem x1h8{rec0:AV->AV->AV->AV->AV->AV->Mem->Nat->O2}:x2fg call hs u x1h2 (j9 (x9z call hs u rec0) 0 1 2 3 8 9 10 11 12) (setE 1 (j6 rec0 0 1 2 3 8 9) (setE 0 r_17 eNil))=j9 (xkj call hs u rec0) 0 1 2 3 8 9 10 11 12:=by kernel_rfl
theorem x1h9{rec0:AV->AV->AV->AV->AV->AV->Mem->Nat->O2}:x2fg call hs u xli (j6 rec0 0 1 2 3 8 9) (setE 1 (j6 rec0 0 1 2 3 8 9) (setE 0 r_17 eNil))=j9 (xkj call hs u rec0) 0 1 2 3 8 9 10 11 12:=sq2 x1h7 x1h8
theorem x1ha{rec0:AV->AV->AV->AV->AV->AV->Mem->Nat->O2}:x2fg call hs u xux (j6 rec0 0 1 2 3 8 9) (setE 1 (j6 rec0 0 1 2 3 8 9) (setE 0 r_17 eNil))=j7 (xf5 call hs u rec0) 0 1 2 3 8 9 10:=tr (sqN 1 x1h9)
theorem x1hb{rec0:AV->AV->AV->AV->AV->AV->Mem->Nat->O2}:x2fg call hs u x1h1 (j7 (xf5 call hs u rec0) 0 1 2 3 8 9 10) (setE 1 (j6 rec0 0 1 2 3 8 9) (setE 0 r_17 eNil))=j7 (xkk call hs u rec0) 0 1 2 3 8 9 10:=by kernel_rfl
theorem x1hc{rec0:AV->AV->AV->AV->AV->AV->Mem->Nat->O2}:x2fg call hs u xlh (j6 rec0 0 1 2 3 8 9) (setE 1 (j6 rec0 0 1 2 3 8 9) (setE 0 r_17 eNil))=j7 (xkk call hs u rec0) 0 1 2 3 8 9 10:=sq2 x1ha x1hb
theorem x1hd{rec0:AV->AV->AV->AV->AV->AV->Mem->Nat->O2}:x2fg call hs u xuw (j6 rec0 0 1 2 3 8 9) (setE 1 (j6 rec0 0 1 2 3 8 9) (setE 0 r_17 eNil))=j6 (xf6 call hs u rec0) 0 1 2 3 8 9:=tr (sqN 3 x1hc)
theorem x1he{rec0:AV->AV->AV->AV->AV->AV->Mem->Nat->O2}:x2fg call hs u xuv (j6 rec0 0 1 2 3 8 9) (setE 0 r_17 eNil)=j6 (xf6 call hs u rec0) 0 1 2 3 8 9:=bk x1hd
theorem x1hf:x2fg call hs u xuu r_17 (setE 0 r_17 eNil)=j6 (x7p call hs u NN) 0 1 2 3 8 9:=lp (Ln:=fun n=>j6 (x7p call hs u n) 0 1 2 3 8 9) fun n=>tr x1he
theorem x1hg:x2fg call hs u xut r_17 eNil=j6 (x7p call hs u NN) 0 1 2 3 8 9:=bk x1hf
theorem x1fg:x2fg call hs u xus r_17 eNil=j4 (xkl call hs u) 0 1 2 3:=tr (sqN 2 x1hg)
noncomputable abbrev x2sz:=VX x5s 8 r_3
noncomputable def x1hh:=x2co x5s
theorem x1fh:x2sz call hs u x1hh r_3 eNil=j1 (xkm call hs u) 0:=by kernel_rfl
noncomputable abbrev x2t0:=VX x2m 15 r_1
noncomputable def x1hi:=x2co x2m
theorem x1ci:x2t0 call hs u x1hi r_1 eNil=j3 (xsd call hs u) 0 1 2:=by kernel_rfl
noncomputable abbrev x2t1:=VX xbi 5 r_3
noncomputable def x1hj:=x2co xbi
theorem x1fi:x2t1 call hs u x1hj r_3 eNil=j1 (xse call hs u) 0:=by kernel_rfl
noncomputable abbrev x2t2:=VX xbj 5 r_3
noncomputable def x1hk:=x2co xbj
theorem x1fj:x2t2 call hs u x1hk r_3 eNil=j1 (xsf call hs u) 0:=by kernel_rfl
noncomputable abbrev x2et:=VX x58 139 r_20
noncomputable abbrev x2qo:=VX (R:=Mem) x58 139 fNil
noncomputable def xuy:=x2co x58
noncomputable def xuz:=nRs 4 xuy
noncomputable def xv0:=nR xuz
noncomputable def xv1:=nR xv0
noncomputable def xv2:=nR xv1
noncomputable def xlk:=nR xv2
noncomputable def xv3:=nL xlk
noncomputable def xv4:=nR xlk
noncomputable def xv5:=nRs 3 xv4
noncomputable def xfk:=nR xv5
noncomputable def x1hl:=nL xfk
noncomputable def x1hm:=nR xfk
noncomputable def xv6:=nR xv3
noncomputable def xv7:=nR xv6
noncomputable def xv8:=nR xv7
noncomputable def xll:=nRs 2 xv8
noncomputable def x1hn:=nL xll
noncomputable def x1ho:=nR xll
theorem x1hp:x2qo call hs u x1hm (fun s=>some s.m) eNil=j4 (xkn call hs u) 2 5 7 10:=by kernel_rfl
theorem x1hq:x2qo call hs u x1hl (j4 (xkn call hs u) 2 5 7 10) eNil=j4 (xsg call hs u) 2 5 7 87:=by kernel_rfl
theorem x1hr{rec0:AV->AV->AV->AV->Mem->Nat->O2}:x2et call hs u xfk (j4 rec0 2 4 5 6) (setE 4 (j4 rec0 2 4 5 6) (setE 1 (j4 rec0 2 4 5 6) (setE 0 r_20 eNil)))=j6 (xko call hs u rec0) 2 4 5 6 7 86:=tr (rg (C:=xfk) (c:={f:=x58,u:=u,nt:=139,hs:=hs}) (f:=(.tmp 86)) (ps:=#[87]) (fun u=>x1hp) (fun u=>x1hq))
theorem x1hs{rec0:AV->AV->AV->AV->Mem->Nat->O2}:x2et call hs u xv5 (j4 rec0 2 4 5 6) (setE 1 (j4 rec0 2 4 5 6) (setE 0 r_20 eNil))=j6 (xko call hs u rec0) 2 4 5 6 7 86:=bk x1hr
theorem x1ht{rec0:AV->AV->AV->AV->Mem->Nat->O2}:x2et call hs u xv4 (j4 rec0 2 4 5 6) (setE 1 (j4 rec0 2 4 5 6) (setE 0 r_20 eNil))=j5 (x2d call hs u rec0) 2 4 5 6 7:=tr (sqN 3 x1hs)
theorem x1hu{rec0:AV->AV->AV->AV->Mem->Nat->O2}{rec1:AV->AV->AV->AV->AV->AV->AV->AV->Mem->Nat->O2}:x2et call hs u x1ho (j8 rec1 2 4 5 6 7 47 48 49) (setE 2 (j5 (x2d call hs u rec0) 2 4 5 6 7) (setE 1 (j4 rec0 2 4 5 6) (setE 0 r_20 eNil)))=j8 (xf7 call hs u rec0 rec1) 2 4 5 6 7 47 48 49:=by kernel_rfl
theorem x1hv{rec0:AV->AV->AV->AV->Mem->Nat->O2}{rec1:AV->AV->AV->AV->AV->AV->AV->AV->Mem->Nat->O2}:x2et call hs u x1hn (j8 (xf7 call hs u rec0 rec1) 2 4 5 6 7 47 48 49) (setE 2 (j5 (x2d call hs u rec0) 2 4 5 6 7) (setE 1 (j4 rec0 2 4 5 6) (setE 0 r_20 eNil)))=j8 (xkp call hs u rec0 rec1) 2 4 5 6 7 47 48 49:=by kernel_rfl
theorem x1hw{rec0:AV->AV->AV->AV->Mem->Nat->O2}{rec1:AV->AV->AV->AV->AV->AV->AV->AV->Mem->Nat->O2}:x2et call hs u xll (j8 rec1 2 4 5 6 7 47 48 49) (setE 2 (j5 (x2d call hs u rec0) 2 4 5 6 7) (setE 1 (j4 rec0 2 4 5 6) (setE 0 r_20 eNil)))=j8 (xkp call hs u rec0 rec1) 2 4 5 6 7 47 48 49:=sq2 x1hu x1hv
theorem x1hx{rec0:AV->AV->AV->AV->Mem->Nat->O2}{rec1:AV->AV->AV->AV->AV->AV->AV->AV->Mem->Nat->O2}:x2et call hs u xv8 (j8 rec1 2 4 5 6 7 47 48 49) (setE 2 (j5 (x2d call hs u rec0) 2 4 5 6 7) (setE 1 (j4 rec0 2 4 5 6) (setE 0 r_20 eNil)))=j8 (xsh call hs u rec0 rec1) 2 4 5 6 7 47 48 49:=tr (sqN 2 x1hw)
theorem x1hy{rec0:AV->AV->AV->AV->Mem->Nat->O2}:x2et call hs u xv7 (j5 (x2d call hs u rec0) 2 4 5 6 7) (setE 2 (j5 (x2d call hs u rec0) 2 4 5 6 7) (setE 1 (j4 rec0 2 4 5 6) (setE 0 r_20 eNil)))=j8 (xa1 call hs u rec0 NN) 2 4 5 6 7 47 48 49:=lp (Ln:=fun n=>j8 (xa1 call hs u rec0 n) 2 4 5 6 7 47 48 49) fun n=>tr x1hx
theorem x1hz{rec0:AV->AV->AV->AV->Mem->Nat->O2}:x2et call hs u xv6 (j5 (x2d call hs u rec0) 2 4 5 6 7) (setE 1 (j4 rec0 2 4 5 6) (setE 0 r_20 eNil))=j8 (xa1 call hs u rec0 NN) 2 4 5 6 7 47 48 49:=bk x1hy
theorem x1i0{rec0:AV->AV->AV->AV->Mem->Nat->O2}:x2et call hs u xv3 (j5 (x2d call hs u rec0) 2 4 5 6 7) (setE 1 (j4 rec0 2 4 5 6) (setE 0 r_20 eNil))=j5 (xkq call hs u rec0) 2 4 5 6 7:=tr (sqN 1 x1hz)
theorem x1i1{rec0:AV->AV->AV->AV->Mem->Nat->O2}:x2et call hs u xlk (j4 rec0 2 4 5 6) (setE 1 (j4 rec0 2 4 5 6) (setE 0 r_20 eNil))=j5 (xkq call hs u rec0) 2 4 5 6 7:=sq2 x1ht x1i0
theorem x1i2{rec0:AV->AV->AV->AV->Mem->Nat->O2}:x2et call hs u xv2 (j4 rec0 2 4 5 6) (setE 1 (j4 rec0 2 4 5 6) (setE 0 r_20 eNil))=j4 (xkr call hs u rec0) 2 4 5 6:=tr (sqN 1 x1i1)
theorem x1i3{rec0:AV->AV->AV->AV->Mem->Nat->O2}:x2et call hs u xv1 (j4 rec0 2 4 5 6) (setE 0 r_20 eNil)=j4 (xkr call hs u rec0) 2 4 5 6:=bk x1i2
theorem x1i4:x2et call hs u xv0 r_20 (setE 0 r_20 eNil)=j4 (xa2 call hs u NN) 2 4 5 6:=lp (Ln:=fun n=>j4 (xa2 call hs u n) 2 4 5 6) fun n=>tr x1i3
theorem x1i5:x2et call hs u xuz r_20 eNil=j4 (xa2 call hs u NN) 2 4 5 6:=bk x1i4
theorem x1ck:x2et call hs u xuy r_20 eNil=j2 (xsi call hs u) 0 1:=tr (sqN 4 x1i5)
noncomputable abbrev x2fq:=VX x8d 48 r_0
noncomputable def xv9:=x2co x8d
noncomputable def xlm:=nR xv9
noncomputable def x1i6:=nL xlm
noncomputable def xva:=nR xlm
noncomputable def xln:=nR xva
noncomputable def x1i7:=nL xln
noncomputable def xvb:=nR xln
noncomputable def xlo:=nRs 2 xvb
noncomputable def xvc:=nL xlo
noncomputable def x1i8:=nR xlo
noncomputable def xvd:=nR xvc
noncomputable def x1i9:=nR xvd
theorem x1ia:x2fq call hs u x1i8 r_0 eNil=j1 (x7q call hs u) 7:=by kernel_rfl
theorem x1ib{rec0:AV->AV->Mem->Nat->O2}:x2fq call hs u x1i9 (j2 rec0 7 8) (setE 0 (j1 (x7q call hs u) 7) eNil)=j2 (xsj call hs u rec0) 7 8:=by kernel_rfl
theorem x1ic:x2fq call hs u xvd (j1 (x7q call hs u) 7) (setE 0 (j1 (x7q call hs u) 7) eNil)=j2 (x7r call hs u NN) 7 8:=lp (Ln:=fun n=>j2 (x7r call hs u n) 7 8) fun n=>tr x1ib
theorem x1id:x2fq call hs u xvc (j1 (x7q call hs u) 7) eNil=j2 (x7r call hs u NN) 7 8:=bk x1ic
theorem x1ie:x2fq call hs u xlo r_0 eNil=j2 (x7r call hs u NN) 7 8:=sq2 x1ia x1id
theorem x1if:x2fq call hs u xvb r_0 eNil=j2 (xks call hs u) 0 6:=tr (sqN 2 x1ie)
theorem x1ig:x2fq call hs u x1i7 (j2 (xks call hs u) 0 6) eNil=j3 (xkt call hs u) 0 5 6:=by kernel_rfl
theorem x1ih:x2fq call hs u xln r_0 eNil=j3 (xkt call hs u) 0 5 6:=sq2 x1if x1ig
theorem x1ii:x2fq call hs u xva r_0 eNil=j2 (xku call hs u) 0 1:=tr (sqN 1 x1ih)
theorem x1ij:x2fq call hs u x1i6 (j2 (xku call hs u) 0 1) eNil=j2 (xkv call hs u) 0 1:=by kernel_rfl
theorem x1ik:x2fq call hs u xlm r_0 eNil=j2 (xkv call hs u) 0 1:=sq2 x1ii x1ij
theorem x1fk:x2fq call hs u xv9 r_0 eNil=j2 (xsk call hs u) 0 1:=tr (sqN 1 x1ik)
noncomputable abbrev x2t3:=VX xap 18 r_17
noncomputable def x1il:=x2co xap
theorem x1cj:x2t3 call hs u x1il r_17 eNil=j4 (xsl call hs u) 0 1 2 3:=by kernel_rfl
noncomputable abbrev x2lm:=VX xar 20 r_17
noncomputable def xve:=x2co xar
noncomputable def xvf:=nR xve
noncomputable def xvg:=nR xvf
noncomputable def x1im:=nR xvg
theorem x1in{rec0:AV->AV->AV->AV->Mem->Nat->O2}:x2lm call hs u x1im (j4 rec0 1 10 11 12) (setE 0 r_17 eNil)=j4 (xsm call hs u rec0) 1 10 11 12:=by kernel_rfl
theorem x1io:x2lm call hs u xvg r_17 (setE 0 r_17 eNil)=j4 (xa3 call hs u NN) 1 10 11 12:=lp (Ln:=fun n=>j4 (xa3 call hs u n) 1 10 11 12) fun n=>tr x1in
theorem x1ip:x2lm call hs u xvf r_17 eNil=j4 (xa3 call hs u NN) 1 10 11 12:=bk x1io
theorem x1cm:x2lm call hs u xve r_17 eNil=j3 (xsn call hs u) 0 1 2:=tr (sqN 1 x1ip)
noncomputable abbrev x2g4:=VX x5t 53 r_17
noncomputable def xvh:=x2co x5t
noncomputable def xvi:=nR xvh
noncomputable def xvj:=nR xvi
noncomputable def xvk:=nR xvj
noncomputable def xlp:=nR xvk
noncomputable def xvl:=nL xlp
noncomputable def x1iq:=nR xlp
noncomputable def xvm:=nR xvl
noncomputable def xvn:=nR xvm
noncomputable def xvo:=nR xvn
noncomputable def x1ir:=nR xvo
theorem x1is{rec0:AV->AV->AV->AV->AV->Mem->Nat->O2}:x2g4 call hs u x1iq (j5 rec0 0 1 2 3 8) (setE 0 r_17 eNil)=j5 (x19 call hs u rec0) 0 1 2 3 8:=by kernel_rfl
theorem x1it{rec0:AV->AV->AV->AV->AV->Mem->Nat->O2}{rec1:AV->AV->AV->AV->AV->AV->Mem->Nat->O2}:x2g4 call hs u x1ir (j6 rec1 0 1 2 3 8 9) (setE 2 (j5 (x19 call hs u rec0) 0 1 2 3 8) (setE 1 (j5 (x19 call hs u rec0) 0 1 2 3 8) (setE 0 r_17 eNil)))=j6 (xf8 call hs u rec0 rec1) 0 1 2 3 8 9:=by kernel_rfl
theorem x1iu{rec0:AV->AV->AV->AV->AV->Mem->Nat->O2}:x2g4 call hs u xvo (j5 (x19 call hs u rec0) 0 1 2 3 8) (setE 2 (j5 (x19 call hs u rec0) 0 1 2 3 8) (setE 1 (j5 (x19 call hs u rec0) 0 1 2 3 8) (setE 0 r_17 eNil)))=j6 (x52 call hs u rec0 NN) 0 1 2 3 8 9:=lp (Ln:=fun n=>j6 (x52 call hs u rec0 n) 0 1 2 3 8 9) fun n=>tr x1it
theorem x1iv{rec0:AV->AV->AV->AV->AV->Mem->Nat->O2}:x2g4 call hs u xvn (j5 (x19 call hs u rec0) 0 1 2 3 8) (setE 1 (j5 (x19 call hs u rec0) 0 1 2 3 8) (setE 0 r_17 eNil))=j6 (x52 call hs u rec0 NN) 0 1 2 3 8 9:=bk x1iu
theorem x1iw{rec0:AV->AV->AV->AV->AV->Mem->Nat->O2}:x2g4 call hs u xvm (j5 (x19 call hs u rec0) 0 1 2 3 8) (setE 1 (j5 (x19 call hs u rec0) 0 1 2 3 8) (setE 0 r_17 eNil))=j5 (xa4 call hs u rec0) 0 1 2 3 8:=tr (sqN 1 x1iv)
theorem x1ix{rec0:AV->AV->AV->AV->AV->Mem->Nat->O2}:x2g4 call hs u xvl (j5 (x19 call hs u rec0) 0 1 2 3 8) (setE 0 r_17 eNil)=j5 (xa4 call hs u rec0) 0 1 2 3 8:=bk x1iw
theorem x1iy{rec0:AV->AV->AV->AV->AV->Mem->Nat->O2}:x2g4 call hs u xlp (j5 rec0 0 1 2 3 8) (setE 0 r_17 eNil)=j5 (xa4 call hs u rec0) 0 1 2 3 8:=sq2 x1is x1ix
theorem x1iz{rec0:AV->AV->AV->AV->AV->Mem->Nat->O2}:x2g4 call hs u xvk (j5 rec0 0 1 2 3 8) (setE 0 r_17 eNil)=j5 (xa5 call hs u rec0) 0 1 2 3 8:=tr (sqN 1 x1iy)
theorem x1j0:x2g4 call hs u xvj r_17 (setE 0 r_17 eNil)=j5 (x2e call hs u NN) 0 1 2 3 8:=lp (Ln:=fun n=>j5 (x2e call hs u n) 0 1 2 3 8) fun n=>tr x1iz
theorem x1j1:x2g4 call hs u xvi r_17 eNil=j5 (x2e call hs u NN) 0 1 2 3 8:=bk x1j0
theorem x1fl:x2g4 call hs u xvh r_17 eNil=j4 (xkw call hs u) 0 1 2 3:=tr (sqN 1 x1j1)
noncomputable abbrev x2d6:=VX x5u 220 r_17
noncomputable def xlq:=x2co x5u
noncomputable def xvp:=nL xlq
noncomputable def xlr:=nR xlq
noncomputable def xvq:=nL xlr
noncomputable def xvr:=nR xlr
noncomputable def xls:=nRs 3 xvr
noncomputable def x1j2:=nL xls
noncomputable def xvs:=nR xls
noncomputable def xlt:=nR xvs
noncomputable def xvt:=nL xlt
noncomputable def xvu:=nR xlt
noncomputable def xlu:=nR xvu
noncomputable def x1j3:=nL xlu
noncomputable def xlv:=nR xlu
noncomputable def x1j4:=nL xlv
noncomputable def x1j5:=nR xlv
noncomputable def xvv:=nR xvt
noncomputable def x1j6:=nR xvv
noncomputable def xlw:=nR xvq
noncomputable def xvw:=nL xlw
noncomputable def x1j7:=nR xlw
noncomputable def xlx:=nRs 2 xvw
noncomputable def xvx:=nL xlx
noncomputable def xly:=nR xlx
noncomputable def xvy:=nL xly
noncomputable def x1j8:=nR xly
noncomputable def xvz:=nR xvy
noncomputable def xw0:=nR xvz
noncomputable def x1j9:=nR xw0
noncomputable def xw1:=nR xvx
noncomputable def x1ja:=nR xw1
noncomputable def xlz:=nR xvp
noncomputable def xw2:=nL xlz
noncomputable def x1jb:=nR xlz
noncomputable def xm0:=nRs 2 xw2
noncomputable def xw3:=nL xm0
noncomputable def xm1:=nR xm0
noncomputable def xw4:=nL xm1
noncomputable def x1jc:=nR xm1
noncomputable def xw5:=nR xw4
noncomputable def xw6:=nR xw5
noncomputable def x1jd:=nR xw6
noncomputable def xw7:=nR xw3
noncomputable def x1je:=nR xw7
theorem x1jf:x2d6 call hs u x1j5 r_17 eNil=j5 (xf9 call hs u) 0 3 4 18 24:=by kernel_rfl
theorem x1jg:x2d6 call hs u x1j4 (j5 (xf9 call hs u) 0 3 4 18 24) eNil=j7 (xa6 call hs u) 0 1 3 4 18 20 24:=by kernel_rfl
theorem x1jh:x2d6 call hs u xlv r_17 eNil=j7 (xa6 call hs u) 0 1 3 4 18 20 24:=sq2 x1jf x1jg
theorem x1ji:x2d6 call hs u x1j3 (j7 (xa6 call hs u) 0 1 3 4 18 20 24) eNil=j8 (xkx call hs u) 0 1 2 3 4 18 20 24:=by kernel_rfl
theorem x1jj:x2d6 call hs u xlu r_17 eNil=j8 (xkx call hs u) 0 1 2 3 4 18 20 24:=sq2 x1jh x1ji
theorem x1jk:x2d6 call hs u xvu r_17 eNil=j8 (x7s call hs u) 0 1 2 3 4 18 19 20:=tr (sqN 1 x1jj)
theorem x1jl{rec0:AV->AV->AV->AV->AV->AV->AV->AV->AV->AV->Mem->Nat->O2}:x2d6 call hs u x1j6 (j10 rec0 0 1 2 3 4 18 19 20 21 22) (setE 8 (j8 (x7s call hs u) 0 1 2 3 4 18 19 20) eNil)=j10 (xso call hs u rec0) 0 1 2 3 4 18 19 20 21 22:=by kernel_rfl
theorem x1jm:x2d6 call hs u xvv (j8 (x7s call hs u) 0 1 2 3 4 18 19 20) (setE 8 (j8 (x7s call hs u) 0 1 2 3 4 18 19 20) eNil)=j10 (x7t call hs u NN) 0 1 2 3 4 18 19 20 21 22:=lp (Ln:=fun n=>j10 (x7t call hs u n) 0 1 2 3 4 18 19 20 21 22) fun n=>tr x1jl
theorem x1jn:x2d6 call hs u xvt (j8 (x7s call hs u) 0 1 2 3 4 18 19 20) eNil=j10 (x7t call hs u NN) 0 1 2 3 4 18 19 20 21 22:=bk x1jm
theorem x1jo:x2d6 call hs u xlt r_17 eNil=j10 (x7t call hs u NN) 0 1 2 3 4 18 19 20 21 22:=sq2 x1jk x1jn
theorem x1jp:x2d6 call hs u xvs r_17 eNil=j9 (xfa call hs u) 0 1 2 3 4 18 19 20 21:=tr (sqN 1 x1jo)
theorem x1jq:x2d6 call hs u x1j2 (j9 (xfa call hs u) 0 1 2 3 4 18 19 20 21) eNil=j7 (xky call hs u) 0 1 2 3 4 18 19:=by kernel_rfl
theorem x1jr:x2d6 call hs u xls r_17 eNil=j7 (xky call hs u) 0 1 2 3 4 18 19:=sq2 x1jp x1jq
theorem x1js:x2d6 call hs u xvr r_17 eNil=j5 (x35 call hs u) 0 1 2 3 4:=tr (sqN 3 x1jr)
theorem x1jt:x2d6 call hs u x1j8 (j5 (x35 call hs u) 0 1 2 3 4) eNil=j0 (x6g call hs u):=by kernel_rfl
theorem x1ju{rec1:AV->AV->AV->Mem->Nat->O2}:x2d6 call hs u x1j9 (j3 rec1 0 14 17) (setE 6 (j0 (x6g call hs u)) eNil)=j3 (xsp call hs u rec1) 0 14 17:=by kernel_rfl
theorem x1jv:x2d6 call hs u xw0 (j0 (x6g call hs u)) (setE 6 (j0 (x6g call hs u)) eNil)=j3 (xa7 call hs u NN) 0 14 17:=lp (Ln:=fun n=>j3 (xa7 call hs u n) 0 14 17) fun n=>tr x1ju
theorem x1jw:x2d6 call hs u xvz (j0 (x6g call hs u)) eNil=j3 (xa7 call hs u NN) 0 14 17:=bk x1jv
theorem x1jx:x2d6 call hs u xvy (j0 (x6g call hs u)) eNil=j3 (x6h call hs u) 0 2 14:=tr (sqN 1 x1jw)
theorem x1jy:x2d6 call hs u xly (j5 (x35 call hs u) 0 1 2 3 4) eNil=j3 (x6h call hs u) 0 2 14:=sq2 x1jt x1jx
theorem x1jz{rec2:AV->AV->AV->AV->AV->Mem->Nat->O2}:x2d6 call hs u x1ja (j5 rec2 0 2 4 14 15) (setE 4 (j3 (x6h call hs u) 0 2 14) eNil)=j5 (xsq call hs u rec2) 0 2 4 14 15:=by kernel_rfl
theorem x1k0:x2d6 call hs u xw1 (j3 (x6h call hs u) 0 2 14) (setE 4 (j3 (x6h call hs u) 0 2 14) eNil)=j5 (x7u call hs u NN) 0 2 4 14 15:=lp (Ln:=fun n=>j5 (x7u call hs u n) 0 2 4 14 15) fun n=>tr x1jz
theorem x1k1:x2d6 call hs u xvx (j3 (x6h call hs u) 0 2 14) eNil=j5 (x7u call hs u NN) 0 2 4 14 15:=bk x1k0
theorem x1k2:x2d6 call hs u xlx (j5 (x35 call hs u) 0 1 2 3 4) eNil=j5 (x7u call hs u NN) 0 2 4 14 15:=sq2 x1jy x1k1
theorem x1k3:x2d6 call hs u xvw (j5 (x35 call hs u) 0 1 2 3 4) eNil=j4 (xsr call hs u) 0 1 2 4:=tr (sqN 2 x1k2)
theorem x1k4:x2d6 call hs u x1j7 (j5 (x35 call hs u) 0 1 2 3 4) eNil=j5 (xss call hs u) 0 1 2 3 4:=by kernel_rfl
theorem x1k5:x2d6 call hs u xlw (j5 (x35 call hs u) 0 1 2 3 4) eNil=j6 (xst call hs u) 0 1 2 3 4 80:=tr (cd x1k3 x1k4)
theorem x1k6:x2d6 call hs u xvq (j5 (x35 call hs u) 0 1 2 3 4) eNil=j5 (x2f call hs u) 0 1 2 3 4:=tr (sqN 1 x1k5)
theorem x1k7:x2d6 call hs u xlr r_17 eNil=j5 (x2f call hs u) 0 1 2 3 4:=sq2 x1js x1k6
theorem x1k8:x2d6 call hs u x1jc (j5 (x2f call hs u) 0 1 2 3 4) eNil=j0 (x6i call hs u):=by kernel_rfl
theorem x1k9{rec3:AV->AV->AV->Mem->Nat->O2}:x2d6 call hs u x1jd (j3 rec3 0 10 13) (setE 2 (j0 (x6i call hs u)) eNil)=j3 (xsu call hs u rec3) 0 10 13:=by kernel_rfl
theorem x1ka:x2d6 call hs u xw6 (j0 (x6i call hs u)) (setE 2 (j0 (x6i call hs u)) eNil)=j3 (xa8 call hs u NN) 0 10 13:=lp (Ln:=fun n=>j3 (xa8 call hs u n) 0 10 13) fun n=>tr x1k9
theorem x1kb:x2d6 call hs u xw5 (j0 (x6i call hs u)) eNil=j3 (xa8 call hs u NN) 0 10 13:=bk x1ka
theorem x1kc:x2d6 call hs u xw4 (j0 (x6i call hs u)) eNil=j3 (x6j call hs u) 0 1 10:=tr (sqN 1 x1kb)
theorem x1kd:x2d6 call hs u xm1 (j5 (x2f call hs u) 0 1 2 3 4) eNil=j3 (x6j call hs u) 0 1 10:=sq2 x1k8 x1kc
theorem x1ke{rec4:AV->AV->AV->AV->AV->Mem->Nat->O2}:x2d6 call hs u x1je (j5 rec4 0 1 4 10 11) (setE 0 (j3 (x6j call hs u) 0 1 10) eNil)=j5 (xsv call hs u rec4) 0 1 4 10 11:=by kernel_rfl
theorem x1kf:x2d6 call hs u xw7 (j3 (x6j call hs u) 0 1 10) (setE 0 (j3 (x6j call hs u) 0 1 10) eNil)=j5 (x7v call hs u NN) 0 1 4 10 11:=lp (Ln:=fun n=>j5 (x7v call hs u n) 0 1 4 10 11) fun n=>tr x1ke
theorem x1kg:x2d6 call hs u xw3 (j3 (x6j call hs u) 0 1 10) eNil=j5 (x7v call hs u NN) 0 1 4 10 11:=bk x1kf
theorem x1kh:x2d6 call hs u xm0 (j5 (x2f call hs u) 0 1 2 3 4) eNil=j5 (x7v call hs u NN) 0 1 4 10 11:=sq2 x1kd x1kg
theorem x1ki:x2d6 call hs u xw2 (j5 (x2f call hs u) 0 1 2 3 4) eNil=j5 (xsw call hs u) 0 1 2 3 4:=tr (sqN 2 x1kh)
theorem x1kj:x2d6 call hs u x1jb (j5 (x2f call hs u) 0 1 2 3 4) eNil=j5 (xsx call hs u) 0 1 2 3 4:=by kernel_rfl
theorem x1kk:x2d6 call hs u xlz (j5 (x2f call hs u) 0 1 2 3 4) eNil=j6 (xsy call hs u) 0 1 2 3 4 28:=tr (cd x1ki x1kj)
theorem x1kl:x2d6 call hs u xvp (j5 (x2f call hs u) 0 1 2 3 4) eNil=j5 (xkz call hs u) 0 1 2 3 4:=tr (sqN 1 x1kk)
theorem x1fm:x2d6 call hs u xlq r_17 eNil=j5 (xkz call hs u) 0 1 2 3 4:=sq2 x1k7 x1kl
noncomputable abbrev x2g5:=VX x72 49 r_17
noncomputable def xw8:=x2co x72
noncomputable def xw9:=nR xw8
noncomputable def xwa:=nR xw9
noncomputable def xwb:=nR xwa
noncomputable def xm2:=nR xwb
noncomputable def xwc:=nL xm2
noncomputable def x1km:=nR xm2
noncomputable def xwd:=nR xwc
noncomputable def xwe:=nR xwd
noncomputable def xwf:=nR xwe
noncomputable def x1kn:=nR xwf
theorem x1ko{rec0:AV->AV->AV->AV->Mem->Nat->O2}:x2g5 call hs u x1km (j4 rec0 0 1 2 6) (setE 0 r_17 eNil)=j4 (x1a call hs u rec0) 0 1 2 6:=by kernel_rfl
theorem x1kp{rec0:AV->AV->AV->AV->Mem->Nat->O2}{rec1:AV->AV->AV->AV->AV->Mem->Nat->O2}:x2g5 call hs u x1kn (j5 rec1 0 1 2 6 7) (setE 2 (j4 (x1a call hs u rec0) 0 1 2 6) (setE 1 (j4 (x1a call hs u rec0) 0 1 2 6) (setE 0 r_17 eNil)))=j5 (xfb call hs u rec0 rec1) 0 1 2 6 7:=by kernel_rfl
theorem x1kq{rec0:AV->AV->AV->AV->Mem->Nat->O2}:x2g5 call hs u xwf (j4 (x1a call hs u rec0) 0 1 2 6) (setE 2 (j4 (x1a call hs u rec0) 0 1 2 6) (setE 1 (j4 (x1a call hs u rec0) 0 1 2 6) (setE 0 r_17 eNil)))=j5 (x53 call hs u rec0 NN) 0 1 2 6 7:=lp (Ln:=fun n=>j5 (x53 call hs u rec0 n) 0 1 2 6 7) fun n=>tr x1kp
theorem x1kr{rec0:AV->AV->AV->AV->Mem->Nat->O2}:x2g5 call hs u xwe (j4 (x1a call hs u rec0) 0 1 2 6) (setE 1 (j4 (x1a call hs u rec0) 0 1 2 6) (setE 0 r_17 eNil))=j5 (x53 call hs u rec0 NN) 0 1 2 6 7:=bk x1kq
theorem x1ks{rec0:AV->AV->AV->AV->Mem->Nat->O2}:x2g5 call hs u xwd (j4 (x1a call hs u rec0) 0 1 2 6) (setE 1 (j4 (x1a call hs u rec0) 0 1 2 6) (setE 0 r_17 eNil))=j4 (xa9 call hs u rec0) 0 1 2 6:=tr (sqN 1 x1kr)
theorem x1kt{rec0:AV->AV->AV->AV->Mem->Nat->O2}:x2g5 call hs u xwc (j4 (x1a call hs u rec0) 0 1 2 6) (setE 0 r_17 eNil)=j4 (xa9 call hs u rec0) 0 1 2 6:=bk x1ks
theorem x1ku{rec0:AV->AV->AV->AV->Mem->Nat->O2}:x2g5 call hs u xm2 (j4 rec0 0 1 2 6) (setE 0 r_17 eNil)=j4 (xa9 call hs u rec0) 0 1 2 6:=sq2 x1ko x1kt
theorem x1kv{rec0:AV->AV->AV->AV->Mem->Nat->O2}:x2g5 call hs u xwb (j4 rec0 0 1 2 6) (setE 0 r_17 eNil)=j4 (xaa call hs u rec0) 0 1 2 6:=tr (sqN 1 x1ku)
theorem x1kw:x2g5 call hs u xwa r_17 (setE 0 r_17 eNil)=j4 (x2g call hs u NN) 0 1 2 6:=lp (Ln:=fun n=>j4 (x2g call hs u n) 0 1 2 6) fun n=>tr x1kv
theorem x1kx:x2g5 call hs u xw9 r_17 eNil=j4 (x2g call hs u NN) 0 1 2 6:=bk x1kw
theorem x1fn:x2g5 call hs u xw8 r_17 eNil=j3 (xl0 call hs u) 0 1 2:=tr (sqN 1 x1kx)
noncomputable abbrev x2gj:=VX xbk 56 r_17
noncomputable def xwg:=x2co xbk
noncomputable def xm3:=nRs 3 xwg
noncomputable def xwh:=nL xm3
noncomputable def xwi:=nR xm3
noncomputable def xwj:=nR xwi
noncomputable def xwk:=nR xwj
noncomputable def x1ky:=nR xwk
noncomputable def xwl:=nR xwh
noncomputable def xwm:=nR xwl
noncomputable def x1kz:=nR xwm
theorem x1l0{rec0:AV->AV->AV->AV->Mem->Nat->O2}:x2gj call hs u x1ky (j4 rec0 0 6 7 10) (setE 2 r_17 eNil)=j4 (xsz call hs u rec0) 0 6 7 10:=by kernel_rfl
theorem x1l1:x2gj call hs u xwk r_17 (setE 2 r_17 eNil)=j4 (xab call hs u NN) 0 6 7 10:=lp (Ln:=fun n=>j4 (xab call hs u n) 0 6 7 10) fun n=>tr x1l0
theorem x1l2:x2gj call hs u xwj r_17 eNil=j4 (xab call hs u NN) 0 6 7 10:=bk x1l1
theorem x1l3:x2gj call hs u xwi r_17 eNil=j4 (x6k call hs u) 0 6 7 8:=tr (sqN 1 x1l2)
theorem x1l4{rec1:AV->AV->AV->AV->AV->Mem->Nat->O2}:x2gj call hs u x1kz (j5 rec1 0 6 7 8 9) (setE 0 (j4 (x6k call hs u) 0 6 7 8) eNil)=j5 (xt0 call hs u rec1) 0 6 7 8 9:=by kernel_rfl
theorem x1l5:x2gj call hs u xwm (j4 (x6k call hs u) 0 6 7 8) (setE 0 (j4 (x6k call hs u) 0 6 7 8) eNil)=j5 (xac call hs u NN) 0 6 7 8 9:=lp (Ln:=fun n=>j5 (xac call hs u n) 0 6 7 8 9) fun n=>tr x1l4
theorem x1l6:x2gj call hs u xwl (j4 (x6k call hs u) 0 6 7 8) eNil=j5 (xac call hs u NN) 0 6 7 8 9:=bk x1l5
theorem x1l7:x2gj call hs u xwh (j4 (x6k call hs u) 0 6 7 8) eNil=j4 (xl1 call hs u) 0 6 7 8:=tr (sqN 1 x1l6)
theorem x1l8:x2gj call hs u xm3 r_17 eNil=j4 (xl1 call hs u) 0 6 7 8:=sq2 x1l3 x1l7
theorem x1fo:x2gj call hs u xwg r_17 eNil=j3 (xt1 call hs u) 0 1 2:=tr (sqN 3 x1l8)
noncomputable abbrev x2f7:=VX xbl 65 r_17
noncomputable def xwn:=x2co xbl
noncomputable def xm4:=nRs 2 xwn
noncomputable def xwo:=nL xm4
noncomputable def x1l9:=nR xm4
noncomputable def xwp:=nRs 3 xwo
noncomputable def xwq:=nR xwp
noncomputable def xwr:=nR xwq
noncomputable def xm5:=nR xwr
noncomputable def xws:=nL xm5
noncomputable def x1la:=nR xm5
noncomputable def xwt:=nR xws
noncomputable def xm6:=nR xwt
noncomputable def x1lb:=nL xm6
noncomputable def x1lc:=nR xm6
theorem x1ld{rec0:AV->AV->AV->AV->AV->AV->Mem->Nat->O2}:x2f7 call hs u x1la (j6 rec0 0 1 6 7 8 9) (setE 0 r_17 eNil)=j6 (x2h call hs u rec0) 0 1 6 7 8 9:=by kernel_rfl
theorem x1le{rec0:AV->AV->AV->AV->AV->AV->Mem->Nat->O2}:x2f7 call hs u x1lc (j6 (x2h call hs u rec0) 0 1 6 7 8 9) (setE 1 (j6 (x2h call hs u rec0) 0 1 6 7 8 9) (setE 0 r_17 eNil))=j7 (xfc call hs u rec0) 0 1 6 7 8 9 10:=by kernel_rfl
theorem x1lf{rec0:AV->AV->AV->AV->AV->AV->Mem->Nat->O2}:x2f7 call hs u x1lb (j7 (xfc call hs u rec0) 0 1 6 7 8 9 10) (setE 1 (j6 (x2h call hs u rec0) 0 1 6 7 8 9) (setE 0 r_17 eNil))=j7 (xl2 call hs u rec0) 0 1 6 7 8 9 10:=by kernel_rfl
theorem x1lg{rec0:AV->AV->AV->AV->AV->AV->Mem->Nat->O2}:x2f7 call hs u xm6 (j6 (x2h call hs u rec0) 0 1 6 7 8 9) (setE 1 (j6 (x2h call hs u rec0) 0 1 6 7 8 9) (setE 0 r_17 eNil))=j7 (xl2 call hs u rec0) 0 1 6 7 8 9 10:=sq2 x1le x1lf
theorem x1lh{rec0:AV->AV->AV->AV->AV->AV->Mem->Nat->O2}:x2f7 call hs u xwt (j6 (x2h call hs u rec0) 0 1 6 7 8 9) (setE 1 (j6 (x2h call hs u rec0) 0 1 6 7 8 9) (setE 0 r_17 eNil))=j6 (xfd call hs u rec0) 0 1 6 7 8 9:=tr (sqN 1 x1lg)
theorem x1li{rec0:AV->AV->AV->AV->AV->AV->Mem->Nat->O2}:x2f7 call hs u xws (j6 (x2h call hs u rec0) 0 1 6 7 8 9) (setE 0 r_17 eNil)=j6 (xfd call hs u rec0) 0 1 6 7 8 9:=bk x1lh
theorem x1lj{rec0:AV->AV->AV->AV->AV->AV->Mem->Nat->O2}:x2f7 call hs u xm5 (j6 rec0 0 1 6 7 8 9) (setE 0 r_17 eNil)=j6 (xfd call hs u rec0) 0 1 6 7 8 9:=sq2 x1ld x1li
theorem x1lk{rec0:AV->AV->AV->AV->AV->AV->Mem->Nat->O2}:x2f7 call hs u xwr (j6 rec0 0 1 6 7 8 9) (setE 0 r_17 eNil)=j6 (xt2 call hs u rec0) 0 1 6 7 8 9:=tr (sqN 1 x1lj)
theorem x1ll:x2f7 call hs u xwq r_17 (setE 0 r_17 eNil)=j6 (xad call hs u NN) 0 1 6 7 8 9:=lp (Ln:=fun n=>j6 (xad call hs u n) 0 1 6 7 8 9) fun n=>tr x1lk
theorem x1lm:x2f7 call hs u xwp r_17 eNil=j6 (xad call hs u NN) 0 1 6 7 8 9:=bk x1ll
theorem x1ln:x2f7 call hs u xwo r_17 eNil=j3 (xt3 call hs u) 0 1 6:=tr (sqN 3 x1lm)
theorem x1lo:x2f7 call hs u x1l9 r_17 eNil=j0 (xt4 call hs u):=by kernel_rfl
theorem x1lp:x2f7 call hs u xm4 r_17 eNil=j4 (xt5 call hs u) 0 1 6 15:=tr (cd x1ln x1lo)
theorem x1fp:x2f7 call hs u xwn r_17 eNil=j3 (xt6 call hs u) 0 1 2:=tr (sqN 2 x1lp)
noncomputable abbrev x2h6:=VX xbm 57 r_7
noncomputable def xwu:=x2co xbm
noncomputable def xm7:=nRs 6 xwu
noncomputable def xwv:=nL xm7
noncomputable def x1lq:=nR xm7
noncomputable def xm8:=nR xwv
noncomputable def xm9:=nL xm8
noncomputable def x1lr:=nR xm8
noncomputable def x1ls:=nL xm9
noncomputable def x1lt:=nR xm9
theorem x1lu:x2h6 call hs u x1lq r_7 eNil=j2 (x55 call hs u) 9 11:=by kernel_rfl
theorem x1lv:x2h6 call hs u x1lt (j2 (x55 call hs u) 9 11) eNil=j5 (xfe call hs u) 0 9 10 11 12:=by kernel_rfl
theorem x1lw:x2h6 call hs u x1ls (j5 (xfe call hs u) 0 9 10 11 12) eNil=j6 (xl3 call hs u) 0 8 9 10 11 12:=by kernel_rfl
theorem x1lx:x2h6 call hs u xm9 (j2 (x55 call hs u) 9 11) eNil=j6 (xl3 call hs u) 0 8 9 10 11 12:=sq2 x1lv x1lw
theorem x1ly:x2h6 call hs u x1lr (j2 (x55 call hs u) 9 11) eNil=j2 (xt7 call hs u) 9 11:=by kernel_rfl
theorem x1lz:x2h6 call hs u xm8 (j2 (x55 call hs u) 9 11) eNil=j7 (xt8 call hs u) 0 8 9 10 11 12 32:=tr (cd x1lx x1ly)
theorem x1m0:x2h6 call hs u xwv (j2 (x55 call hs u) 9 11) eNil=j6 (xl4 call hs u) 0 8 9 10 11 12:=tr (sqN 1 x1lz)
theorem x1m1:x2h6 call hs u xm7 r_7 eNil=j6 (xl4 call hs u) 0 8 9 10 11 12:=sq2 x1lu x1m0
theorem x1fq:x2h6 call hs u xwu r_7 eNil=j3 (xt9 call hs u) 0 1 2:=tr (sqN 6 x1m1)
noncomputable abbrev x2ln:=VX xbn 32 r_17
noncomputable def xww:=x2co xbn
noncomputable def xwx:=nRs 2 xww
noncomputable def xwy:=nR xwx
noncomputable def x1m2:=nR xwy
theorem x1m3{rec0:AV->AV->AV->Mem->Nat->O2}:x2ln call hs u x1m2 (j3 rec0 0 6 7) (setE 0 r_17 eNil)=j3 (xta call hs u rec0) 0 6 7:=by kernel_rfl
theorem x1m4:x2ln call hs u xwy r_17 (setE 0 r_17 eNil)=j3 (xae call hs u NN) 0 6 7:=lp (Ln:=fun n=>j3 (xae call hs u n) 0 6 7) fun n=>tr x1m3
theorem x1m5:x2ln call hs u xwx r_17 eNil=j3 (xae call hs u NN) 0 6 7:=bk x1m4
theorem x1fr:x2ln call hs u xww r_17 eNil=j3 (xtb call hs u) 0 1 2:=tr (sqN 2 x1m5)
noncomputable abbrev x2dk:=VX xbo 133 r_1
noncomputable def xwz:=x2co xbo
noncomputable def xma:=nRs 2 xwz
noncomputable def xx0:=nL xma
noncomputable def x1m6:=nR xma
noncomputable def xx1:=nR xx0
noncomputable def xx2:=nR xx1
noncomputable def xx3:=nR xx2
noncomputable def xmb:=nR xx3
noncomputable def xx4:=nL xmb
noncomputable def x1m7:=nR xmb
noncomputable def xmc:=nR xx4
noncomputable def xx5:=nL xmc
noncomputable def xx6:=nR xmc
noncomputable def xmd:=nRs 3 xx6
noncomputable def xx7:=nL xmd
noncomputable def xx8:=nR xmd
noncomputable def xme:=nR xx8
noncomputable def xx9:=nL xme
noncomputable def x1m8:=nR xme
noncomputable def xxa:=nR xx9
noncomputable def xxb:=nR xxa
noncomputable def x1m9:=nR xxb
noncomputable def xmf:=nR xx7
noncomputable def xxc:=nL xmf
noncomputable def x1ma:=nR xmf
noncomputable def xxd:=nR xxc
noncomputable def xxe:=nR xxd
noncomputable def x1mb:=nR xxe
noncomputable def xxf:=nR xx5
noncomputable def x1mc:=nR xxf
theorem x1md:x2dk call hs u x1m6 r_1 eNil=j0 (x7 call hs u):=by kernel_rfl
theorem x1me{rec0:AV->AV->AV->AV->AV->Mem->Nat->O2}:x2dk call hs u x1m7 (j5 rec0 0 1 2 7 8) (setE 0 (j0 (x7 call hs u)) eNil)=j5 (x5 call hs u rec0) 0 1 2 7 8:=by kernel_rfl
theorem x1mf{rec0:AV->AV->AV->AV->AV->Mem->Nat->O2}{rec1:AV->AV->AV->AV->AV->AV->Mem->Nat->O2}:x2dk call hs u x1m9 (j6 rec1 0 1 2 7 8 10) (setE 6 (j5 (x5 call hs u rec0) 0 1 2 7 8) (setE 1 (j5 (x5 call hs u rec0) 0 1 2 7 8) (setE 0 (j0 (x7 call hs u)) eNil)))=j6 (xtc call hs u rec0 rec1) 0 1 2 7 8 10:=by kernel_rfl
theorem x1mg{rec0:AV->AV->AV->AV->AV->Mem->Nat->O2}:x2dk call hs u xxb (j5 (x5 call hs u rec0) 0 1 2 7 8) (setE 6 (j5 (x5 call hs u rec0) 0 1 2 7 8) (setE 1 (j5 (x5 call hs u rec0) 0 1 2 7 8) (setE 0 (j0 (x7 call hs u)) eNil)))=j6 (xaf call hs u rec0 NN) 0 1 2 7 8 10:=lp (Ln:=fun n=>j6 (xaf call hs u rec0 n) 0 1 2 7 8 10) fun n=>tr x1mf
theorem x1mh{rec0:AV->AV->AV->AV->AV->Mem->Nat->O2}:x2dk call hs u xxa (j5 (x5 call hs u rec0) 0 1 2 7 8) (setE 1 (j5 (x5 call hs u rec0) 0 1 2 7 8) (setE 0 (j0 (x7 call hs u)) eNil))=j6 (xaf call hs u rec0 NN) 0 1 2 7 8 10:=bk x1mg
theorem x1mi{rec0:AV->AV->AV->AV->AV->Mem->Nat->O2}:x2dk call hs u xx9 (j5 (x5 call hs u rec0) 0 1 2 7 8) (setE 1 (j5 (x5 call hs u rec0) 0 1 2 7 8) (setE 0 (j0 (x7 call hs u)) eNil))=j5 (xtd call hs u rec0) 0 1 2 7 8:=tr (sqN 1 x1mh)
theorem x1mj{rec0:AV->AV->AV->AV->AV->Mem->Nat->O2}:x2dk call hs u x1m8 (j5 (x5 call hs u rec0) 0 1 2 7 8) (setE 1 (j5 (x5 call hs u rec0) 0 1 2 7 8) (setE 0 (j0 (x7 call hs u)) eNil))=j5 (xte call hs u rec0) 0 1 2 7 8:=by kernel_rfl
theorem x1mk{rec0:AV->AV->AV->AV->AV->Mem->Nat->O2}:x2dk call hs u xme (j5 (x5 call hs u rec0) 0 1 2 7 8) (setE 1 (j5 (x5 call hs u rec0) 0 1 2 7 8) (setE 0 (j0 (x7 call hs u)) eNil))=j6 (xtf call hs u rec0) 0 1 2 7 8 98:=tr (cd x1mi x1mj)
theorem x1ml{rec0:AV->AV->AV->AV->AV->Mem->Nat->O2}:x2dk call hs u xx8 (j5 (x5 call hs u rec0) 0 1 2 7 8) (setE 1 (j5 (x5 call hs u rec0) 0 1 2 7 8) (setE 0 (j0 (x7 call hs u)) eNil))=j5 (x1i call hs u rec0) 0 1 2 7 8:=tr (sqN 1 x1mk)
theorem x1mm{rec0:AV->AV->AV->AV->AV->Mem->Nat->O2}{rec2:AV->AV->AV->AV->AV->AV->Mem->Nat->O2}:x2dk call hs u x1mb (j6 rec2 0 1 2 7 8 9) (setE 4 (j5 (x1i call hs u rec0) 0 1 2 7 8) (setE 1 (j5 (x5 call hs u rec0) 0 1 2 7 8) (setE 0 (j0 (x7 call hs u)) eNil)))=j6 (xtg call hs u rec0 rec2) 0 1 2 7 8 9:=by kernel_rfl
theorem x1mn{rec0:AV->AV->AV->AV->AV->Mem->Nat->O2}:x2dk call hs u xxe (j5 (x1i call hs u rec0) 0 1 2 7 8) (setE 4 (j5 (x1i call hs u rec0) 0 1 2 7 8) (setE 1 (j5 (x5 call hs u rec0) 0 1 2 7 8) (setE 0 (j0 (x7 call hs u)) eNil)))=j6 (xag call hs u rec0 NN) 0 1 2 7 8 9:=lp (Ln:=fun n=>j6 (xag call hs u rec0 n) 0 1 2 7 8 9) fun n=>tr x1mm
theorem x1mo{rec0:AV->AV->AV->AV->AV->Mem->Nat->O2}:x2dk call hs u xxd (j5 (x1i call hs u rec0) 0 1 2 7 8) (setE 1 (j5 (x5 call hs u rec0) 0 1 2 7 8) (setE 0 (j0 (x7 call hs u)) eNil))=j6 (xag call hs u rec0 NN) 0 1 2 7 8 9:=bk x1mn
theorem x1mp{rec0:AV->AV->AV->AV->AV->Mem->Nat->O2}:x2dk call hs u xxc (j5 (x1i call hs u rec0) 0 1 2 7 8) (setE 1 (j5 (x5 call hs u rec0) 0 1 2 7 8) (setE 0 (j0 (x7 call hs u)) eNil))=j5 (xth call hs u rec0) 0 1 2 7 8:=tr (sqN 1 x1mo)
theorem x1mq{rec0:AV->AV->AV->AV->AV->Mem->Nat->O2}:x2dk call hs u x1ma (j5 (x1i call hs u rec0) 0 1 2 7 8) (setE 1 (j5 (x5 call hs u rec0) 0 1 2 7 8) (setE 0 (j0 (x7 call hs u)) eNil))=j5 (xti call hs u rec0) 0 1 2 7 8:=by kernel_rfl
theorem x1mr{rec0:AV->AV->AV->AV->AV->Mem->Nat->O2}:x2dk call hs u xmf (j5 (x1i call hs u rec0) 0 1 2 7 8) (setE 1 (j5 (x5 call hs u rec0) 0 1 2 7 8) (setE 0 (j0 (x7 call hs u)) eNil))=j6 (xtj call hs u rec0) 0 1 2 7 8 61:=tr (cd x1mp x1mq)
theorem x1ms{rec0:AV->AV->AV->AV->AV->Mem->Nat->O2}:x2dk call hs u xx7 (j5 (x1i call hs u rec0) 0 1 2 7 8) (setE 1 (j5 (x5 call hs u rec0) 0 1 2 7 8) (setE 0 (j0 (x7 call hs u)) eNil))=j5 (xl5 call hs u rec0) 0 1 2 7 8:=tr (sqN 1 x1mr)
theorem x1mt{rec0:AV->AV->AV->AV->AV->Mem->Nat->O2}:x2dk call hs u xmd (j5 (x5 call hs u rec0) 0 1 2 7 8) (setE 1 (j5 (x5 call hs u rec0) 0 1 2 7 8) (setE 0 (j0 (x7 call hs u)) eNil))=j5 (xl5 call hs u rec0) 0 1 2 7 8:=sq2 x1ml x1ms
theorem x1mu{rec0:AV->AV->AV->AV->AV->Mem->Nat->O2}:x2dk call hs u xx6 (j5 (x5 call hs u rec0) 0 1 2 7 8) (setE 1 (j5 (x5 call hs u rec0) 0 1 2 7 8) (setE 0 (j0 (x7 call hs u)) eNil))=j5 (x7w call hs u rec0) 0 1 2 7 8:=tr (sqN 3 x1mt)
theorem x1mv{rec0:AV->AV->AV->AV->AV->Mem->Nat->O2}{rec3:AV->AV->AV->AV->AV->Mem->Nat->O2}:x2dk call hs u x1mc (j5 rec3 0 1 2 7 8) (setE 2 (j5 (x7w call hs u rec0) 0 1 2 7 8) (setE 1 (j5 (x5 call hs u rec0) 0 1 2 7 8) (setE 0 (j0 (x7 call hs u)) eNil)))=j5 (xtk call hs u rec0 rec3) 0 1 2 7 8:=by kernel_rfl
theorem x1mw{rec0:AV->AV->AV->AV->AV->Mem->Nat->O2}:x2dk call hs u xxf (j5 (x7w call hs u rec0) 0 1 2 7 8) (setE 2 (j5 (x7w call hs u rec0) 0 1 2 7 8) (setE 1 (j5 (x5 call hs u rec0) 0 1 2 7 8) (setE 0 (j0 (x7 call hs u)) eNil)))=j5 (x56 call hs u rec0 NN) 0 1 2 7 8:=lp (Ln:=fun n=>j5 (x56 call hs u rec0 n) 0 1 2 7 8) fun n=>tr x1mv
theorem x1mx{rec0:AV->AV->AV->AV->AV->Mem->Nat->O2}:x2dk call hs u xx5 (j5 (x7w call hs u rec0) 0 1 2 7 8) (setE 1 (j5 (x5 call hs u rec0) 0 1 2 7 8) (setE 0 (j0 (x7 call hs u)) eNil))=j5 (x56 call hs u rec0 NN) 0 1 2 7 8:=bk x1mw
theorem x1my{rec0:AV->AV->AV->AV->AV->Mem->Nat->O2}:x2dk call hs u xmc (j5 (x5 call hs u rec0) 0 1 2 7 8) (setE 1 (j5 (x5 call hs u rec0) 0 1 2 7 8) (setE 0 (j0 (x7 call hs u)) eNil))=j5 (x56 call hs u rec0 NN) 0 1 2 7 8:=sq2 x1mu x1mx
theorem x1mz{rec0:AV->AV->AV->AV->AV->Mem->Nat->O2}:x2dk call hs u xx4 (j5 (x5 call hs u rec0) 0 1 2 7 8) (setE 0 (j0 (x7 call hs u)) eNil)=j5 (x56 call hs u rec0 NN) 0 1 2 7 8:=bk x1my
theorem x1n0{rec0:AV->AV->AV->AV->AV->Mem->Nat->O2}:x2dk call hs u xmb (j5 rec0 0 1 2 7 8) (setE 0 (j0 (x7 call hs u)) eNil)=j5 (x56 call hs u rec0 NN) 0 1 2 7 8:=sq2 x1me x1mz
theorem x1n1{rec0:AV->AV->AV->AV->AV->Mem->Nat->O2}:x2dk call hs u xx3 (j5 rec0 0 1 2 7 8) (setE 0 (j0 (x7 call hs u)) eNil)=j5 (xtl call hs u rec0) 0 1 2 7 8:=tr (sqN 1 x1n0)
theorem x1n2:x2dk call hs u xx2 (j0 (x7 call hs u)) (setE 0 (j0 (x7 call hs u)) eNil)=j5 (xah call hs u NN) 0 1 2 7 8:=lp (Ln:=fun n=>j5 (xah call hs u n) 0 1 2 7 8) fun n=>tr x1n1
theorem x1n3:x2dk call hs u xx1 (j0 (x7 call hs u)) eNil=j5 (xah call hs u NN) 0 1 2 7 8:=bk x1n2
theorem x1n4:x2dk call hs u xx0 (j0 (x7 call hs u)) eNil=j4 (xl6 call hs u) 0 1 2 7:=tr (sqN 1 x1n3)
theorem x1n5:x2dk call hs u xma r_1 eNil=j4 (xl6 call hs u) 0 1 2 7:=sq2 x1md x1n4
theorem x1fs:x2dk call hs u xwz r_1 eNil=j3 (xtm call hs u) 0 1 2:=tr (sqN 2 x1n5)
noncomputable abbrev x2t4:=VX xi 17 r_0
noncomputable def x1n6:=x2co xi
theorem x1ft:x2t4 call hs u x1n6 r_0 eNil=j2 (xl7 call hs u) 0 1:=by kernel_rfl
noncomputable abbrev x2f0:=VX xbp 84 r_16
noncomputable def xxg:=x2co xbp
noncomputable def xmg:=nRs 3 xxg
noncomputable def xxh:=nL xmg
noncomputable def x1n7:=nR xmg
noncomputable def xxi:=nR xxh
noncomputable def xxj:=nR xxi
noncomputable def xmh:=nR xxj
noncomputable def xxk:=nL xmh
noncomputable def xmi:=nR xmh
noncomputable def xxl:=nL xmi
noncomputable def x1n8:=nR xmi
noncomputable def xxm:=nR xxl
noncomputable def x1n9:=nR xxm
noncomputable def xxn:=nR xxk
noncomputable def x1na:=nR xxn
theorem x1nb:x2f0 call hs u x1n7 r_16 eNil=j1 (x11 call hs u) 9:=by kernel_rfl
theorem x1nc{rec0:AV->AV->AV->AV->Mem->Nat->O2}:x2f0 call hs u x1n8 (j4 rec0 0 1 9 10) (setE 1 (j4 rec0 0 1 9 10) (setE 0 (j1 (x11 call hs u) 9) eNil))=j4 (x7x call hs u rec0) 0 1 9 10:=by kernel_rfl
theorem x1nd{rec0:AV->AV->AV->AV->Mem->Nat->O2}{rec1:AV->AV->AV->AV->Mem->Nat->O2}:x2f0 call hs u x1n9 (j4 rec1 0 1 9 10) (setE 4 (j4 (x7x call hs u rec0) 0 1 9 10) (setE 1 (j4 rec0 0 1 9 10) (setE 0 (j1 (x11 call hs u) 9) eNil)))=j4 (xtn call hs u rec0 rec1) 0 1 9 10:=by kernel_rfl
theorem x1ne{rec0:AV->AV->AV->AV->Mem->Nat->O2}:x2f0 call hs u xxm (j4 (x7x call hs u rec0) 0 1 9 10) (setE 4 (j4 (x7x call hs u rec0) 0 1 9 10) (setE 1 (j4 rec0 0 1 9 10) (setE 0 (j1 (x11 call hs u) 9) eNil)))=j4 (x2i call hs u rec0 NN) 0 1 9 10:=lp (Ln:=fun n=>j4 (x2i call hs u rec0 n) 0 1 9 10) fun n=>tr x1nd
theorem x1nf{rec0:AV->AV->AV->AV->Mem->Nat->O2}:x2f0 call hs u xxl (j4 (x7x call hs u rec0) 0 1 9 10) (setE 1 (j4 rec0 0 1 9 10) (setE 0 (j1 (x11 call hs u) 9) eNil))=j4 (x2i call hs u rec0 NN) 0 1 9 10:=bk x1ne
theorem x1ng{rec0:AV->AV->AV->AV->Mem->Nat->O2}:x2f0 call hs u xmi (j4 rec0 0 1 9 10) (setE 1 (j4 rec0 0 1 9 10) (setE 0 (j1 (x11 call hs u) 9) eNil))=j4 (x2i call hs u rec0 NN) 0 1 9 10:=sq2 x1nc x1nf
theorem x1nh{rec0:AV->AV->AV->AV->Mem->Nat->O2}{rec2:AV->AV->AV->AV->Mem->Nat->O2}:x2f0 call hs u x1na (j4 rec2 0 1 9 10) (setE 2 (j4 (x2i call hs u rec0 NN) 0 1 9 10) (setE 1 (j4 rec0 0 1 9 10) (setE 0 (j1 (x11 call hs u) 9) eNil)))=j4 (xto call hs u rec0 rec2) 0 1 9 10:=by kernel_rfl
theorem x1ni{rec0:AV->AV->AV->AV->Mem->Nat->O2}:x2f0 call hs u xxn (j4 (x2i call hs u rec0 NN) 0 1 9 10) (setE 2 (j4 (x2i call hs u rec0 NN) 0 1 9 10) (setE 1 (j4 rec0 0 1 9 10) (setE 0 (j1 (x11 call hs u) 9) eNil)))=j4 (x6l call hs u rec0 NN) 0 1 9 10:=lp (Ln:=fun n=>j4 (x6l call hs u rec0 n) 0 1 9 10) fun n=>tr x1nh
theorem x1nj{rec0:AV->AV->AV->AV->Mem->Nat->O2}:x2f0 call hs u xxk (j4 (x2i call hs u rec0 NN) 0 1 9 10) (setE 1 (j4 rec0 0 1 9 10) (setE 0 (j1 (x11 call hs u) 9) eNil))=j4 (x6l call hs u rec0 NN) 0 1 9 10:=bk x1ni
theorem x1nk{rec0:AV->AV->AV->AV->Mem->Nat->O2}:x2f0 call hs u xmh (j4 rec0 0 1 9 10) (setE 1 (j4 rec0 0 1 9 10) (setE 0 (j1 (x11 call hs u) 9) eNil))=j4 (x6l call hs u rec0 NN) 0 1 9 10:=sq2 x1ng x1nj
theorem x1nl{rec0:AV->AV->AV->AV->Mem->Nat->O2}:x2f0 call hs u xxj (j4 rec0 0 1 9 10) (setE 0 (j1 (x11 call hs u) 9) eNil)=j4 (x6l call hs u rec0 NN) 0 1 9 10:=bk x1nk
theorem x1nm:x2f0 call hs u xxi (j1 (x11 call hs u) 9) (setE 0 (j1 (x11 call hs u) 9) eNil)=j4 (x7y call hs u NN) 0 1 9 10:=lp (Ln:=fun n=>j4 (x7y call hs u n) 0 1 9 10) fun n=>tr x1nl
theorem x1nn:x2f0 call hs u xxh (j1 (x11 call hs u) 9) eNil=j4 (x7y call hs u NN) 0 1 9 10:=bk x1nm
theorem x1no:x2f0 call hs u xmg r_16 eNil=j4 (x7y call hs u NN) 0 1 9 10:=sq2 x1nb x1nn
theorem x1fu:x2f0 call hs u xxg r_16 eNil=j4 (xtp call hs u) 0 1 2 3:=tr (sqN 3 x1no)
noncomputable abbrev x2dy:=VX xbq 168 r_21
noncomputable def xxo:=x2co xbq
noncomputable def xmj:=nRs 3 xxo
noncomputable def xxp:=nL xmj
noncomputable def xmk:=nR xmj
noncomputable def xxq:=nL xmk
noncomputable def xxr:=nR xmk
noncomputable def xml:=nRs 4 xxr
noncomputable def xxs:=nL xml
noncomputable def x1np:=nR xml
noncomputable def xxt:=nR xxs
noncomputable def xxu:=nR xxt
noncomputable def xmm:=nR xxu
noncomputable def xxv:=nL xmm
noncomputable def xmn:=nR xmm
noncomputable def xxw:=nL xmn
noncomputable def x1nq:=nR xmn
noncomputable def xxx:=nR xxw
noncomputable def x1nr:=nR xxx
noncomputable def xxy:=nR xxv
noncomputable def x1ns:=nR xxy
noncomputable def xxz:=nR xxq
noncomputable def x1nt:=nR xxz
noncomputable def xy0:=nR xxp
noncomputable def x1nu:=nR xy0
theorem x1nv:x2dy call hs u x1np r_21 eNil=j3 (x12 call hs u) 0 1 11:=by kernel_rfl
theorem x1nw{rec0:AV->AV->AV->AV->Mem->Nat->O2}:x2dy call hs u x1nq (j4 rec0 0 1 10 11) (setE 5 (j4 rec0 0 1 10 11) (setE 4 (j3 (x12 call hs u) 0 1 11) eNil))=j4 (x7z call hs u rec0) 0 1 10 11:=by kernel_rfl
theorem x1nx{rec0:AV->AV->AV->AV->Mem->Nat->O2}{rec1:AV->AV->AV->AV->Mem->Nat->O2}:x2dy call hs u x1nr (j4 rec1 0 1 10 11) (setE 8 (j4 (x7z call hs u rec0) 0 1 10 11) (setE 5 (j4 rec0 0 1 10 11) (setE 4 (j3 (x12 call hs u) 0 1 11) eNil)))=j4 (xtq call hs u rec0 rec1) 0 1 10 11:=by kernel_rfl
theorem x1ny{rec0:AV->AV->AV->AV->Mem->Nat->O2}:x2dy call hs u xxx (j4 (x7z call hs u rec0) 0 1 10 11) (setE 8 (j4 (x7z call hs u rec0) 0 1 10 11) (setE 5 (j4 rec0 0 1 10 11) (setE 4 (j3 (x12 call hs u) 0 1 11) eNil)))=j4 (x2j call hs u rec0 NN) 0 1 10 11:=lp (Ln:=fun n=>j4 (x2j call hs u rec0 n) 0 1 10 11) fun n=>tr x1nx
theorem x1nz{rec0:AV->AV->AV->AV->Mem->Nat->O2}:x2dy call hs u xxw (j4 (x7z call hs u rec0) 0 1 10 11) (setE 5 (j4 rec0 0 1 10 11) (setE 4 (j3 (x12 call hs u) 0 1 11) eNil))=j4 (x2j call hs u rec0 NN) 0 1 10 11:=bk x1ny
theorem x1o0{rec0:AV->AV->AV->AV->Mem->Nat->O2}:x2dy call hs u xmn (j4 rec0 0 1 10 11) (setE 5 (j4 rec0 0 1 10 11) (setE 4 (j3 (x12 call hs u) 0 1 11) eNil))=j4 (x2j call hs u rec0 NN) 0 1 10 11:=sq2 x1nw x1nz
theorem x1o1{rec0:AV->AV->AV->AV->Mem->Nat->O2}{rec2:AV->AV->AV->AV->Mem->Nat->O2}:x2dy call hs u x1ns (j4 rec2 0 1 10 11) (setE 6 (j4 (x2j call hs u rec0 NN) 0 1 10 11) (setE 5 (j4 rec0 0 1 10 11) (setE 4 (j3 (x12 call hs u) 0 1 11) eNil)))=j4 (xtr call hs u rec0 rec2) 0 1 10 11:=by kernel_rfl
theorem x1o2{rec0:AV->AV->AV->AV->Mem->Nat->O2}:x2dy call hs u xxy (j4 (x2j call hs u rec0 NN) 0 1 10 11) (setE 6 (j4 (x2j call hs u rec0 NN) 0 1 10 11) (setE 5 (j4 rec0 0 1 10 11) (setE 4 (j3 (x12 call hs u) 0 1 11) eNil)))=j4 (x6m call hs u rec0 NN) 0 1 10 11:=lp (Ln:=fun n=>j4 (x6m call hs u rec0 n) 0 1 10 11) fun n=>tr x1o1
theorem x1o3{rec0:AV->AV->AV->AV->Mem->Nat->O2}:x2dy call hs u xxv (j4 (x2j call hs u rec0 NN) 0 1 10 11) (setE 5 (j4 rec0 0 1 10 11) (setE 4 (j3 (x12 call hs u) 0 1 11) eNil))=j4 (x6m call hs u rec0 NN) 0 1 10 11:=bk x1o2
theorem x1o4{rec0:AV->AV->AV->AV->Mem->Nat->O2}:x2dy call hs u xmm (j4 rec0 0 1 10 11) (setE 5 (j4 rec0 0 1 10 11) (setE 4 (j3 (x12 call hs u) 0 1 11) eNil))=j4 (x6m call hs u rec0 NN) 0 1 10 11:=sq2 x1o0 x1o3
theorem x1o5{rec0:AV->AV->AV->AV->Mem->Nat->O2}:x2dy call hs u xxu (j4 rec0 0 1 10 11) (setE 4 (j3 (x12 call hs u) 0 1 11) eNil)=j4 (x6m call hs u rec0 NN) 0 1 10 11:=bk x1o4
theorem x1o6:x2dy call hs u xxt (j3 (x12 call hs u) 0 1 11) (setE 4 (j3 (x12 call hs u) 0 1 11) eNil)=j4 (x80 call hs u NN) 0 1 10 11:=lp (Ln:=fun n=>j4 (x80 call hs u n) 0 1 10 11) fun n=>tr x1o5
theorem x1o7:x2dy call hs u xxs (j3 (x12 call hs u) 0 1 11) eNil=j4 (x80 call hs u NN) 0 1 10 11:=bk x1o6
theorem x1o8:x2dy call hs u xml r_21 eNil=j4 (x80 call hs u NN) 0 1 10 11:=sq2 x1nv x1o7
theorem x1o9:x2dy call hs u xxr r_21 eNil=j4 (x81 call hs u) 0 1 10 11:=tr (sqN 4 x1o8)
theorem x1oa{rec3:AV->AV->AV->AV->Mem->Nat->O2}:x2dy call hs u x1nt (j4 rec3 0 1 10 11) (setE 2 (j4 (x81 call hs u) 0 1 10 11) eNil)=j4 (xts call hs u rec3) 0 1 10 11:=by kernel_rfl
theorem x1ob:x2dy call hs u xxz (j4 (x81 call hs u) 0 1 10 11) (setE 2 (j4 (x81 call hs u) 0 1 10 11) eNil)=j4 (x2k call hs u NN) 0 1 10 11:=lp (Ln:=fun n=>j4 (x2k call hs u n) 0 1 10 11) fun n=>tr x1oa
theorem x1oc:x2dy call hs u xxq (j4 (x81 call hs u) 0 1 10 11) eNil=j4 (x2k call hs u NN) 0 1 10 11:=bk x1ob
theorem x1od:x2dy call hs u xmk r_21 eNil=j4 (x2k call hs u NN) 0 1 10 11:=sq2 x1o9 x1oc
theorem x1oe{rec4:AV->AV->AV->AV->Mem->Nat->O2}:x2dy call hs u x1nu (j4 rec4 0 1 10 11) (setE 0 (j4 (x2k call hs u NN) 0 1 10 11) eNil)=j4 (xtt call hs u rec4) 0 1 10 11:=by kernel_rfl
theorem x1of:x2dy call hs u xy0 (j4 (x2k call hs u NN) 0 1 10 11) (setE 0 (j4 (x2k call hs u NN) 0 1 10 11) eNil)=j4 (x82 call hs u NN) 0 1 10 11:=lp (Ln:=fun n=>j4 (x82 call hs u n) 0 1 10 11) fun n=>tr x1oe
theorem x1og:x2dy call hs u xxp (j4 (x2k call hs u NN) 0 1 10 11) eNil=j4 (x82 call hs u NN) 0 1 10 11:=bk x1of
theorem x1oh:x2dy call hs u xmj r_21 eNil=j4 (x82 call hs u NN) 0 1 10 11:=sq2 x1od x1og
theorem x1fv:x2dy call hs u xxo r_21 eNil=j4 (xtu call hs u) 0 1 2 3:=tr (sqN 3 x1oh)
noncomputable abbrev x2jp:=VX xbr 19 r_3
noncomputable def xy1:=x2co xbr
noncomputable def xmo:=nR xy1
noncomputable def x1oi:=nL xmo
noncomputable def xmp:=nR xmo
noncomputable def x1oj:=nL xmp
noncomputable def x1ok:=nR xmp
theorem x1ol:x2jp call hs u x1ok r_3 eNil=j2 (xff call hs u) 0 2:=by kernel_rfl
theorem x1om:x2jp call hs u x1oj (j2 (xff call hs u) 0 2) eNil=j2 (xai call hs u) 0 2:=by kernel_rfl
theorem x1on:x2jp call hs u xmp r_3 eNil=j2 (xai call hs u) 0 2:=sq2 x1ol x1om
theorem x1oo:x2jp call hs u x1oi (j2 (xai call hs u) 0 2) eNil=j2 (xl8 call hs u) 0 2:=by kernel_rfl
theorem x1op:x2jp call hs u xmo r_3 eNil=j2 (xl8 call hs u) 0 2:=sq2 x1on x1oo
theorem x1fw:x2jp call hs u xy1 r_3 eNil=j1 (xtv call hs u) 0:=tr (sqN 1 x1op)
noncomputable abbrev x2hv:=VX x73 25 r_3
noncomputable def xy2:=x2co x73
noncomputable def xmq:=nR xy2
noncomputable def x1oq:=nL xmq
noncomputable def xmr:=nR xmq
noncomputable def x1or:=nL xmr
noncomputable def xms:=nR xmr
noncomputable def x1os:=nL xms
noncomputable def x1ot:=nR xms
theorem x1ou:x2hv call hs u x1ot r_3 eNil=j2 (xfg call hs u) 0 2:=by kernel_rfl
theorem x1ov:x2hv call hs u x1os (j2 (xfg call hs u) 0 2) eNil=j2 (xaj call hs u) 0 2:=by kernel_rfl
theorem x1ow:x2hv call hs u xms r_3 eNil=j2 (xaj call hs u) 0 2:=sq2 x1ou x1ov
theorem x1ox:x2hv call hs u x1or (j2 (xaj call hs u) 0 2) eNil=j2 (xak call hs u) 0 2:=by kernel_rfl
theorem x1oy:x2hv call hs u xmr r_3 eNil=j2 (xak call hs u) 0 2:=sq2 x1ow x1ox
theorem x1oz:x2hv call hs u x1oq (j2 (xak call hs u) 0 2) eNil=j2 (xl9 call hs u) 0 2:=by kernel_rfl
theorem x1p0:x2hv call hs u xmq r_3 eNil=j2 (xl9 call hs u) 0 2:=sq2 x1oy x1oz
theorem x1fx:x2hv call hs u xy2 r_3 eNil=j1 (xtw call hs u) 0:=tr (sqN 1 x1p0)
noncomputable abbrev x2t5:=VX xaq 6 r_0
noncomputable def x1p1:=x2co xaq
theorem x1cl:x2t5 call hs u x1p1 r_0 eNil=j2 (xtx call hs u) 0 1:=by kernel_rfl
noncomputable abbrev x2t6:=VX xbs 30 r_6
noncomputable def x1p2:=x2co xbs
theorem x1fy:x2t6 call hs u x1p2 r_6 eNil=j2 (xty call hs u) 0 1:=by kernel_rfl
noncomputable abbrev x2jq:=VX xbt 58 r_17
noncomputable def xy3:=x2co xbt
noncomputable def xmt:=nRs 2 xy3
noncomputable def xy4:=nL xmt
noncomputable def x1p3:=nR xmt
noncomputable def xy5:=nR xy4
noncomputable def x1p4:=nR xy5
theorem x1p5:x2jq call hs u x1p3 r_17 eNil=j4 (x83 call hs u) 0 2 4 10:=by kernel_rfl
theorem x1p6{rec0:AV->AV->AV->AV->AV->Mem->Nat->O2}:x2jq call hs u x1p4 (j5 rec0 0 2 4 10 11) (setE 0 (j4 (x83 call hs u) 0 2 4 10) eNil)=j5 (xtz call hs u rec0) 0 2 4 10 11:=by kernel_rfl
theorem x1p7:x2jq call hs u xy5 (j4 (x83 call hs u) 0 2 4 10) (setE 0 (j4 (x83 call hs u) 0 2 4 10) eNil)=j5 (x84 call hs u NN) 0 2 4 10 11:=lp (Ln:=fun n=>j5 (x84 call hs u n) 0 2 4 10 11) fun n=>tr x1p6
theorem x1p8:x2jq call hs u xy4 (j4 (x83 call hs u) 0 2 4 10) eNil=j5 (x84 call hs u NN) 0 2 4 10 11:=bk x1p7
theorem x1p9:x2jq call hs u xmt r_17 eNil=j5 (x84 call hs u NN) 0 2 4 10 11:=sq2 x1p5 x1p8
theorem x1fz:x2jq call hs u xy3 r_17 eNil=j5 (xu0 call hs u) 0 1 2 3 4:=tr (sqN 2 x1p9)
noncomputable abbrev x2hw:=VX x8e 76 r_17
noncomputable def xy6:=x2co x8e
noncomputable def xy7:=nR xy6
noncomputable def xy8:=nR xy7
noncomputable def xy9:=nR xy8
noncomputable def xya:=nR xy9
noncomputable def xmu:=nRs 2 xya
noncomputable def x1pa:=nL xmu
noncomputable def x1pb:=nR xmu
theorem x1pc{rec0:AV->AV->AV->AV->Mem->Nat->O2}:x2hw call hs u x1pb (j4 rec0 0 2 3 8) (setE 1 (j4 rec0 0 2 3 8) (setE 0 r_17 eNil))=j5 (xfh call hs u rec0) 0 2 3 8 9:=by kernel_rfl
theorem x1pd{rec0:AV->AV->AV->AV->Mem->Nat->O2}:x2hw call hs u x1pa (j5 (xfh call hs u rec0) 0 2 3 8 9) (setE 1 (j4 rec0 0 2 3 8) (setE 0 r_17 eNil))=j5 (xla call hs u rec0) 0 2 3 8 9:=by kernel_rfl
theorem x1pe{rec0:AV->AV->AV->AV->Mem->Nat->O2}:x2hw call hs u xmu (j4 rec0 0 2 3 8) (setE 1 (j4 rec0 0 2 3 8) (setE 0 r_17 eNil))=j5 (xla call hs u rec0) 0 2 3 8 9:=sq2 x1pc x1pd
theorem x1pf{rec0:AV->AV->AV->AV->Mem->Nat->O2}:x2hw call hs u xya (j4 rec0 0 2 3 8) (setE 1 (j4 rec0 0 2 3 8) (setE 0 r_17 eNil))=j4 (xlb call hs u rec0) 0 2 3 8:=tr (sqN 2 x1pe)
theorem x1pg{rec0:AV->AV->AV->AV->Mem->Nat->O2}:x2hw call hs u xy9 (j4 rec0 0 2 3 8) (setE 0 r_17 eNil)=j4 (xlb call hs u rec0) 0 2 3 8:=bk x1pf
theorem x1ph:x2hw call hs u xy8 r_17 (setE 0 r_17 eNil)=j4 (xal call hs u NN) 0 2 3 8:=lp (Ln:=fun n=>j4 (xal call hs u n) 0 2 3 8) fun n=>tr x1pg
theorem x1pi:x2hw call hs u xy7 r_17 eNil=j4 (xal call hs u NN) 0 2 3 8:=bk x1ph
theorem x1g0:x2hw call hs u xy6 r_17 eNil=j4 (xu1 call hs u) 0 1 2 3:=tr (sqN 1 x1pi)
noncomputable abbrev x2t7:=VX xbu 7 r_3
noncomputable def x1pj:=x2co xbu
theorem x1g1:x2t7 call hs u x1pj r_3 eNil=j1 (xu2 call hs u) 0:=by kernel_rfl
noncomputable abbrev x2t8:=VX xbv 33 r_3
noncomputable def x1pk:=x2co xbv
theorem x1g2:x2t8 call hs u x1pk r_3 eNil=j1 (xu3 call hs u) 0:=by kernel_rfl
noncomputable abbrev x2t9:=VX x74 15 r_1
noncomputable def x1pl:=x2co x74
theorem x1g3:x2t9 call hs u x1pl r_1 eNil=j3 (xu4 call hs u) 0 1 2:=by kernel_rfl
noncomputable abbrev x2ta:=VX x8f 36 r_22
noncomputable def x1pm:=x2co x8f
theorem x1g4:x2ta call hs u x1pm r_22 eNil=j5 (xu5 call hs u) 0 1 2 3 4:=by kernel_rfl
noncomputable abbrev x2tb:=VX x5v 6 r_3
noncomputable def x1pn:=x2co x5v
theorem x1g5:x2tb call hs u x1pn r_3 eNil=j1 (xlc call hs u) 0:=by kernel_rfl
noncomputable abbrev x2g6:=VX xao 76 r_17
noncomputable def xyb:=x2co xao
noncomputable def xyc:=nR xyb
noncomputable def xyd:=nR xyc
noncomputable def xye:=nR xyd
noncomputable def xmv:=nRs 2 xye
noncomputable def xyf:=nL xmv
noncomputable def x1po:=nR xmv
noncomputable def xyg:=nR xyf
noncomputable def xmw:=nRs 3 xyg
noncomputable def x1pp:=nL xmw
noncomputable def x1pq:=nR xmw
theorem x1pr{rec0:AV->AV->AV->AV->AV->AV->Mem->Nat->O2}:x2g6 call hs u x1po (j6 rec0 0 1 2 14 15 16) (setE 0 r_17 eNil)=j6 (x2l call hs u rec0) 0 1 2 14 15 16:=by kernel_rfl
theorem x1ps{rec0:AV->AV->AV->AV->AV->AV->Mem->Nat->O2}:x2g6 call hs u x1pq (j6 (x2l call hs u rec0) 0 1 2 14 15 16) (setE 1 (j6 (x2l call hs u rec0) 0 1 2 14 15 16) (setE 0 r_17 eNil))=j7 (xfi call hs u rec0) 0 1 2 7 14 15 16:=by kernel_rfl
theorem x1pt{rec0:AV->AV->AV->AV->AV->AV->Mem->Nat->O2}:x2g6 call hs u x1pp (j7 (xfi call hs u rec0) 0 1 2 7 14 15 16) (setE 1 (j6 (x2l call hs u rec0) 0 1 2 14 15 16) (setE 0 r_17 eNil))=j9 (xld call hs u rec0) 0 1 2 5 6 7 14 15 16:=by kernel_rfl
theorem x1pu{rec0:AV->AV->AV->AV->AV->AV->Mem->Nat->O2}:x2g6 call hs u xmw (j6 (x2l call hs u rec0) 0 1 2 14 15 16) (setE 1 (j6 (x2l call hs u rec0) 0 1 2 14 15 16) (setE 0 r_17 eNil))=j9 (xld call hs u rec0) 0 1 2 5 6 7 14 15 16:=sq2 x1ps x1pt
theorem x1pv{rec0:AV->AV->AV->AV->AV->AV->Mem->Nat->O2}:x2g6 call hs u xyg (j6 (x2l call hs u rec0) 0 1 2 14 15 16) (setE 1 (j6 (x2l call hs u rec0) 0 1 2 14 15 16) (setE 0 r_17 eNil))=j6 (xfj call hs u rec0) 0 1 2 14 15 16:=tr (sqN 3 x1pu)
theorem x1pw{rec0:AV->AV->AV->AV->AV->AV->Mem->Nat->O2}:x2g6 call hs u xyf (j6 (x2l call hs u rec0) 0 1 2 14 15 16) (setE 0 r_17 eNil)=j6 (xfj call hs u rec0) 0 1 2 14 15 16:=bk x1pv
theorem x1px{rec0:AV->AV->AV->AV->AV->AV->Mem->Nat->O2}:x2g6 call hs u xmv (j6 rec0 0 1 2 14 15 16) (setE 0 r_17 eNil)=j6 (xfj call hs u rec0) 0 1 2 14 15 16:=sq2 x1pr x1pw
theorem x1py{rec0:AV->AV->AV->AV->AV->AV->Mem->Nat->O2}:x2g6 call hs u xye (j6 rec0 0 1 2 14 15 16) (setE 0 r_17 eNil)=j6 (xu6 call hs u rec0) 0 1 2 14 15 16:=tr (sqN 2 x1px)
theorem x1pz:x2g6 call hs u xyd r_17 (setE 0 r_17 eNil)=j6 (xam call hs u NN) 0 1 2 14 15 16:=lp (Ln:=fun n=>j6 (xam call hs u n) 0 1 2 14 15 16) fun n=>tr x1py
theorem x1q0:x2g6 call hs u xyc r_17 eNil=j6 (xam call hs u NN) 0 1 2 14 15 16:=bk x1pz
theorem x1ch:x2g6 call hs u xyb r_17 eNil=j3 (xu7 call hs u) 0 1 2:=tr (sqN 1 x1q0)
noncomputable abbrev x2tc:=VX xbw 17 r_6
noncomputable def x1q1:=x2co xbw
theorem x1g6:x2tc call hs u x1q1 r_6 eNil=j2 (xu8 call hs u) 0 1:=by kernel_rfl
noncomputable abbrev x2td:=VX xas 51 r_6
noncomputable def x1q2:=x2co xas
theorem x1cn:x2td call hs u x1q2 r_6 eNil=j2 (xu9 call hs u) 0 1:=by kernel_rfl
noncomputable abbrev x2lo:=VX x75 38 r_17
noncomputable def xyh:=x2co x75
noncomputable def xyi:=nR xyh
noncomputable def xyj:=nR xyi
noncomputable def x1q3:=nR xyj
theorem x1q4{rec0:AV->AV->AV->AV->AV->Mem->Nat->O2}:x2lo call hs u x1q3 (j5 rec0 0 1 2 3 10) (setE 0 r_17 eNil)=j5 (xua call hs u rec0) 0 1 2 3 10:=by kernel_rfl
theorem x1q5:x2lo call hs u xyj r_17 (setE 0 r_17 eNil)=j5 (xan call hs u NN) 0 1 2 3 10:=lp (Ln:=fun n=>j5 (xan call hs u n) 0 1 2 3 10) fun n=>tr x1q4
theorem x1q6:x2lo call hs u xyi r_17 eNil=j5 (xan call hs u NN) 0 1 2 3 10:=bk x1q5
theorem x1g7:x2lo call hs u xyh r_17 eNil=j4 (xub call hs u) 0 1 2 3:=tr (sqN 1 x1q6)
noncomputable abbrev x2te:=VX x76 28 r_21
noncomputable def x1q7:=x2co x76
theorem x1g8:x2te call hs u x1q7 r_21 eNil=j4 (xuc call hs u) 0 1 2 3:=by kernel_rfl
end Go.Ix
