import Derived.Test.YtpeakdjfagbpcaaGreatFxText0
import Derived.Test.YtpeakdjfagbpcaaGreatFxText1
import Derived.Test.YtpeakdjfagbpcaaGreatFxEnt
import Derived.Test.YtpeakdjfagbpcaaGreatFxRules
import Derived.Test.YtpeakdjfagbpcaaGreatFxProj
import Derived.ProofKit
set_option linter.unusedVariables false
namespace Go.Ix
open Go.Proofs
variable{call:x2ee}{hs:FHs}{u:Nat}
noncomputable abbrev x2fe:=VX xb3 160 r_17
noncomputable def xua:=x2ei xb3
noncomputable def xj3:=nRs 2 xua
noncomputable def xub:=nL xj3
noncomputable def xuc:=nR xj3
noncomputable def xj4:=nR xuc
noncomputable def xud:=nL xj4
noncomputable def xj5:=nR xj4
noncomputable def xue:=nL xj5
noncomputable def xuf:=nR xj5
noncomputable def xug:=nRs 3 xuf
noncomputable def xuh:=nR xug
noncomputable def x1h4:=nR xuh
noncomputable def xui:=nR xue
noncomputable def xuj:=nR xui
noncomputable def x1h5:=nR xuj
noncomputable def xuk:=nR xud
noncomputable def xul:=nR xuk
noncomputable def x1h6:=nR xul
noncomputable def xum:=nR xub
noncomputable def xun:=nR xum
noncomputable def xuo:=nR xun
noncomputable def xj6:=nRs 2 xuo
noncomputable def x1h7:=nL xj6
noncomputable def x1h8:=nR xj6
theorem x1h9{rec0:AV->AV->AV->AV->AV->AV->Mem->Nat->O2}:x2fe call hs u x1h4 (j6 rec0 0 4 5 136 137 138) (setE 6 r_17 eNil)=j6 (xrk call hs u rec0) 0 4 5 136 137 138:=by kernel_rfl
theorem x1ha:x2fe call hs u xuh r_17 (setE 6 r_17 eNil)=j6 (x91 call hs u NN) 0 4 5 136 137 138:=lp (Ln:=fun n=>j6 (x91 call hs u n) 0 4 5 136 137 138) fun n=>tr x1h9
theorem x1hb:x2fe call hs u xug r_17 eNil=j6 (x91 call hs u NN) 0 4 5 136 137 138:=bk x1ha
theorem x1hc:x2fe call hs u xuf r_17 eNil=j5 (x4w call hs u) 0 1 4 5 8:=tr (sqN 3 x1hb)
theorem x1hd{rec1:AV->AV->AV->AV->AV->AV->Mem->Nat->O2}:x2fe call hs u x1h5 (j6 rec1 0 1 4 5 8 10) (setE 4 (j5 (x4w call hs u) 0 1 4 5 8) eNil)=j6 (xrl call hs u rec1) 0 1 4 5 8 10:=by kernel_rfl
theorem x1he:x2fe call hs u xuj (j5 (x4w call hs u) 0 1 4 5 8) (setE 4 (j5 (x4w call hs u) 0 1 4 5 8) eNil)=j6 (x92 call hs u NN) 0 1 4 5 8 10:=lp (Ln:=fun n=>j6 (x92 call hs u n) 0 1 4 5 8 10) fun n=>tr x1hd
theorem x1hf:x2fe call hs u xui (j5 (x4w call hs u) 0 1 4 5 8) eNil=j6 (x92 call hs u NN) 0 1 4 5 8 10:=bk x1he
theorem x1hg:x2fe call hs u xue (j5 (x4w call hs u) 0 1 4 5 8) eNil=j5 (x3p call hs u) 0 1 4 5 8:=tr (sqN 1 x1hf)
theorem x1hh:x2fe call hs u xj5 r_17 eNil=j5 (x3p call hs u) 0 1 4 5 8:=sq2 x1hc x1hg
theorem x1hi{rec2:AV->AV->AV->AV->AV->AV->Mem->Nat->O2}:x2fe call hs u x1h6 (j6 rec2 0 1 4 5 8 9) (setE 2 (j5 (x3p call hs u) 0 1 4 5 8) eNil)=j6 (xrm call hs u rec2) 0 1 4 5 8 9:=by kernel_rfl
theorem x1hj:x2fe call hs u xul (j5 (x3p call hs u) 0 1 4 5 8) (setE 2 (j5 (x3p call hs u) 0 1 4 5 8) eNil)=j6 (x93 call hs u NN) 0 1 4 5 8 9:=lp (Ln:=fun n=>j6 (x93 call hs u n) 0 1 4 5 8 9) fun n=>tr x1hi
theorem x1hk:x2fe call hs u xuk (j5 (x3p call hs u) 0 1 4 5 8) eNil=j6 (x93 call hs u NN) 0 1 4 5 8 9:=bk x1hj
theorem x1hl:x2fe call hs u xud (j5 (x3p call hs u) 0 1 4 5 8) eNil=j5 (xi6 call hs u) 0 1 4 5 8:=tr (sqN 1 x1hk)
theorem x1hm:x2fe call hs u xj4 r_17 eNil=j5 (xi6 call hs u) 0 1 4 5 8:=sq2 x1hh x1hl
theorem x1hn:x2fe call hs u xuc r_17 eNil=j4 (x26 call hs u) 0 1 4 5:=tr (sqN 1 x1hm)
theorem x1ho{rec3:AV->AV->AV->AV->AV->AV->AV->Mem->Nat->O2}:x2fe call hs u x1h8 (j7 rec3 0 1 4 5 17 18 19) (setE 0 (j4 (x26 call hs u) 0 1 4 5) eNil)=j7 (xdu call hs u rec3) 0 1 4 5 17 18 19:=by kernel_rfl
theorem x1hp{rec3:AV->AV->AV->AV->AV->AV->AV->Mem->Nat->O2}:x2fe call hs u x1h7 (j7 (xdu call hs u rec3) 0 1 4 5 17 18 19) (setE 0 (j4 (x26 call hs u) 0 1 4 5) eNil)=j7 (xi7 call hs u rec3) 0 1 4 5 17 18 19:=by kernel_rfl
theorem x1hq{rec3:AV->AV->AV->AV->AV->AV->AV->Mem->Nat->O2}:x2fe call hs u xj6 (j7 rec3 0 1 4 5 17 18 19) (setE 0 (j4 (x26 call hs u) 0 1 4 5) eNil)=j7 (xi7 call hs u rec3) 0 1 4 5 17 18 19:=sq2 x1ho x1hp
theorem x1hr{rec3:AV->AV->AV->AV->AV->AV->AV->Mem->Nat->O2}:x2fe call hs u xuo (j7 rec3 0 1 4 5 17 18 19) (setE 0 (j4 (x26 call hs u) 0 1 4 5) eNil)=j7 (xrn call hs u rec3) 0 1 4 5 17 18 19:=tr (sqN 2 x1hq)
theorem x1hs:x2fe call hs u xun (j4 (x26 call hs u) 0 1 4 5) (setE 0 (j4 (x26 call hs u) 0 1 4 5) eNil)=j7 (x94 call hs u NN) 0 1 4 5 17 18 19:=lp (Ln:=fun n=>j7 (x94 call hs u n) 0 1 4 5 17 18 19) fun n=>tr x1hr
theorem x1ht:x2fe call hs u xum (j4 (x26 call hs u) 0 1 4 5) eNil=j7 (x94 call hs u NN) 0 1 4 5 17 18 19:=bk x1hs
theorem x1hu:x2fe call hs u xub (j4 (x26 call hs u) 0 1 4 5) eNil=j4 (xi8 call hs u) 0 1 4 5:=tr (sqN 1 x1ht)
theorem x1hv:x2fe call hs u xj3 r_17 eNil=j4 (xi8 call hs u) 0 1 4 5:=sq2 x1hn x1hu
theorem x1g0:x2fe call hs u xua r_17 eNil=j2 (xro call hs u) 0 1:=tr (sqN 2 x1hv)
noncomputable abbrev x2hl:=VX xb4 53 r_2
noncomputable def xup:=x2ei xb4
noncomputable def xj7:=nRs 2 xup
noncomputable def xuq:=nL xj7
noncomputable def x1hw:=nR xj7
noncomputable def xur:=nR xuq
noncomputable def xus:=nR xur
noncomputable def xut:=nR xus
noncomputable def xj8:=nRs 2 xut
noncomputable def x1hx:=nL xj8
noncomputable def x1hy:=nR xj8
theorem x1hz:x2hl call hs u x1hw r_2 eNil=j2 (x27 call hs u) 1 3:=by kernel_rfl
theorem x1i0{rec0:AV->AV->AV->AV->AV->Mem->Nat->O2}:x2hl call hs u x1hy (j5 rec0 1 3 12 13 14) (setE 0 (j2 (x27 call hs u) 1 3) eNil)=j5 (xdv call hs u rec0) 1 3 12 13 14:=by kernel_rfl
theorem x1i1{rec0:AV->AV->AV->AV->AV->Mem->Nat->O2}:x2hl call hs u x1hx (j5 (xdv call hs u rec0) 1 3 12 13 14) (setE 0 (j2 (x27 call hs u) 1 3) eNil)=j5 (xi9 call hs u rec0) 1 3 12 13 14:=by kernel_rfl
theorem x1i2{rec0:AV->AV->AV->AV->AV->Mem->Nat->O2}:x2hl call hs u xj8 (j5 rec0 1 3 12 13 14) (setE 0 (j2 (x27 call hs u) 1 3) eNil)=j5 (xi9 call hs u rec0) 1 3 12 13 14:=sq2 x1i0 x1i1
theorem x1i3{rec0:AV->AV->AV->AV->AV->Mem->Nat->O2}:x2hl call hs u xut (j5 rec0 1 3 12 13 14) (setE 0 (j2 (x27 call hs u) 1 3) eNil)=j5 (xrp call hs u rec0) 1 3 12 13 14:=tr (sqN 2 x1i2)
theorem x1i4:x2hl call hs u xus (j2 (x27 call hs u) 1 3) (setE 0 (j2 (x27 call hs u) 1 3) eNil)=j5 (x95 call hs u NN) 1 3 12 13 14:=lp (Ln:=fun n=>j5 (x95 call hs u n) 1 3 12 13 14) fun n=>tr x1i3
theorem x1i5:x2hl call hs u xur (j2 (x27 call hs u) 1 3) eNil=j5 (x95 call hs u NN) 1 3 12 13 14:=bk x1i4
theorem x1i6:x2hl call hs u xuq (j2 (x27 call hs u) 1 3) eNil=j2 (xia call hs u) 1 3:=tr (sqN 1 x1i5)
theorem x1i7:x2hl call hs u xj7 r_2 eNil=j2 (xia call hs u) 1 3:=sq2 x1hz x1i6
theorem x1g1:x2hl call hs u xup r_2 eNil=j1 (xrq call hs u) 0:=tr (sqN 2 x1i7)
noncomputable abbrev x2s7:=VX xa4 7 r_2
noncomputable def x1i8:=x2ei xa4
theorem x1d8:x2s7 call hs u x1i8 r_2 eNil=j1 (xrr call hs u) 0:=by kernel_rfl
noncomputable abbrev x2s8:=VX xa3 19 r_0
noncomputable def x1i9:=x2ei xa3
theorem x1d7:x2s8 call hs u x1i9 r_0 eNil=j2 (xrs call hs u) 0 1:=by kernel_rfl
noncomputable abbrev x2fv:=VX xb5 63 r_17
noncomputable def xuu:=x2ei xb5
noncomputable def xj9:=nRs 2 xuu
noncomputable def xuv:=nL xj9
noncomputable def xuw:=nR xj9
noncomputable def xux:=nR xuw
noncomputable def xuy:=nR xux
noncomputable def xuz:=nR xuy
noncomputable def xv0:=nR xuz
noncomputable def xv1:=nR xv0
noncomputable def xja:=nR xv1
noncomputable def xv2:=nL xja
noncomputable def xjb:=nR xja
noncomputable def x1ia:=nL xjb
noncomputable def x1ib:=nR xjb
noncomputable def xv3:=nR xv2
noncomputable def x1ic:=nR xv3
noncomputable def xv4:=nR xuv
noncomputable def x1id:=nR xv4
theorem x1ie{rec0:AV->AV->AV->AV->Mem->Nat->O2}:x2fv call hs u x1ib (j4 rec0 0 1 2 6) (setE 3 (j4 rec0 0 1 2 6) (setE 2 r_17 eNil))=j4 (xdw call hs u rec0) 0 1 2 6:=by kernel_rfl
theorem x1if{rec0:AV->AV->AV->AV->Mem->Nat->O2}:x2fv call hs u x1ia (j4 (xdw call hs u rec0) 0 1 2 6) (setE 3 (j4 rec0 0 1 2 6) (setE 2 r_17 eNil))=j5 (x4x call hs u rec0) 0 1 2 6 7:=by kernel_rfl
theorem x1ig{rec0:AV->AV->AV->AV->Mem->Nat->O2}:x2fv call hs u xjb (j4 rec0 0 1 2 6) (setE 3 (j4 rec0 0 1 2 6) (setE 2 r_17 eNil))=j5 (x4x call hs u rec0) 0 1 2 6 7:=sq2 x1ie x1if
theorem x1ih{rec0:AV->AV->AV->AV->Mem->Nat->O2}{rec1:AV->AV->AV->AV->AV->AV->Mem->Nat->O2}:x2fv call hs u x1ic (j6 rec1 0 1 2 6 7 8) (setE 4 (j5 (x4x call hs u rec0) 0 1 2 6 7) (setE 3 (j4 rec0 0 1 2 6) (setE 2 r_17 eNil)))=j6 (xrt call hs u rec0 rec1) 0 1 2 6 7 8:=by kernel_rfl
theorem x1ii{rec0:AV->AV->AV->AV->Mem->Nat->O2}:x2fv call hs u xv3 (j5 (x4x call hs u rec0) 0 1 2 6 7) (setE 4 (j5 (x4x call hs u rec0) 0 1 2 6 7) (setE 3 (j4 rec0 0 1 2 6) (setE 2 r_17 eNil)))=j6 (x5v call hs u rec0 NN) 0 1 2 6 7 8:=lp (Ln:=fun n=>j6 (x5v call hs u rec0 n) 0 1 2 6 7 8) fun n=>tr x1ih
theorem x1ij{rec0:AV->AV->AV->AV->Mem->Nat->O2}:x2fv call hs u xv2 (j5 (x4x call hs u rec0) 0 1 2 6 7) (setE 3 (j4 rec0 0 1 2 6) (setE 2 r_17 eNil))=j6 (x5v call hs u rec0 NN) 0 1 2 6 7 8:=bk x1ii
theorem x1ik{rec0:AV->AV->AV->AV->Mem->Nat->O2}:x2fv call hs u xja (j4 rec0 0 1 2 6) (setE 3 (j4 rec0 0 1 2 6) (setE 2 r_17 eNil))=j6 (x5v call hs u rec0 NN) 0 1 2 6 7 8:=sq2 x1ig x1ij
theorem x1il{rec0:AV->AV->AV->AV->Mem->Nat->O2}:x2fv call hs u xv1 (j4 rec0 0 1 2 6) (setE 3 (j4 rec0 0 1 2 6) (setE 2 r_17 eNil))=j4 (xib call hs u rec0) 0 1 2 6:=tr (sqN 1 x1ik)
theorem x1im{rec0:AV->AV->AV->AV->Mem->Nat->O2}:x2fv call hs u xv0 (j4 rec0 0 1 2 6) (setE 2 r_17 eNil)=j4 (xib call hs u rec0) 0 1 2 6:=bk x1il
theorem x1in{rec0:AV->AV->AV->AV->Mem->Nat->O2}:x2fv call hs u xuz (j4 rec0 0 1 2 6) (setE 2 r_17 eNil)=j4 (xru call hs u rec0) 0 1 2 6:=tr (sqN 1 x1im)
theorem x1io:x2fv call hs u xuy r_17 (setE 2 r_17 eNil)=j4 (x96 call hs u NN) 0 1 2 6:=lp (Ln:=fun n=>j4 (x96 call hs u n) 0 1 2 6) fun n=>tr x1in
theorem x1ip:x2fv call hs u xux r_17 eNil=j4 (x96 call hs u NN) 0 1 2 6:=bk x1io
theorem x1iq:x2fv call hs u xuw r_17 eNil=j5 (x5w call hs u) 0 1 2 6 7:=tr (sqN 1 x1ip)
theorem x1ir{rec2:AV->AV->AV->AV->AV->AV->Mem->Nat->O2}:x2fv call hs u x1id (j6 rec2 0 1 2 6 7 8) (setE 0 (j5 (x5w call hs u) 0 1 2 6 7) eNil)=j6 (xrv call hs u rec2) 0 1 2 6 7 8:=by kernel_rfl
theorem x1is:x2fv call hs u xv4 (j5 (x5w call hs u) 0 1 2 6 7) (setE 0 (j5 (x5w call hs u) 0 1 2 6 7) eNil)=j6 (x5x call hs u NN) 0 1 2 6 7 8:=lp (Ln:=fun n=>j6 (x5x call hs u n) 0 1 2 6 7 8) fun n=>tr x1ir
theorem x1it:x2fv call hs u xuv (j5 (x5w call hs u) 0 1 2 6 7) eNil=j6 (x5x call hs u NN) 0 1 2 6 7 8:=bk x1is
theorem x1iu:x2fv call hs u xj9 r_17 eNil=j6 (x5x call hs u NN) 0 1 2 6 7 8:=sq2 x1iq x1it
theorem x1g2:x2fv call hs u xuu r_17 eNil=j3 (xrw call hs u) 0 1 2:=tr (sqN 2 x1iu)
noncomputable abbrev x2gn:=VX x5h 134 r_17
noncomputable def xv5:=x2ei x5h
noncomputable def xv6:=nRs 2 xv5
noncomputable def xv7:=nR xv6
noncomputable def xv8:=nR xv7
noncomputable def xv9:=nR xv8
noncomputable def xjc:=nRs 3 xv9
noncomputable def x1iv:=nL xjc
noncomputable def xva:=nR xjc
noncomputable def xjd:=nR xva
noncomputable def x1iw:=nL xjd
noncomputable def xje:=nR xjd
noncomputable def x1ix:=nL xje
noncomputable def x1iy:=nR xje
theorem x1iz{rec0:AV->AV->AV->AV->AV->AV->Mem->Nat->O2}:x2gn call hs u x1iy (j6 rec0 0 1 2 3 8 9) (setE 1 (j6 rec0 0 1 2 3 8 9) (setE 0 r_17 eNil))=j8 (xdx call hs u rec0) 0 1 2 3 8 9 10 11:=by kernel_rfl
theorem x1j0{rec0:AV->AV->AV->AV->AV->AV->Mem->Nat->O2}:x2gn call hs u x1ix (j8 (xdx call hs u rec0) 0 1 2 3 8 9 10 11) (setE 1 (j6 rec0 0 1 2 3 8 9) (setE 0 r_17 eNil))=j9 (x97 call hs u rec0) 0 1 2 3 8 9 10 11 12:=by kernel_rfl
theorem x1j1{rec0:AV->AV->AV->AV->AV->AV->Mem->Nat->O2}:x2gn call hs u xje (j6 rec0 0 1 2 3 8 9) (setE 1 (j6 rec0 0 1 2 3 8 9) (setE 0 r_17 eNil))=j9 (x97 call hs u rec0) 0 1 2 3 8 9 10 11 12:=sq2 x1iz x1j0
theorem x1j2{rec0:AV->AV->AV->AV->AV->AV->Mem->Nat->O2}:x2gn call hs u x1iw (j9 (x97 call hs u rec0) 0 1 2 3 8 9 10 11 12) (setE 1 (j6 rec0 0 1 2 3 8 9) (setE 0 r_17 eNil))=j9 (xic call hs u rec0) 0 1 2 3 8 9 10 11 12:=by kernel_rfl
theorem x1j3{rec0:AV->AV->AV->AV->AV->AV->Mem->Nat->O2}:x2gn call hs u xjd (j6 rec0 0 1 2 3 8 9) (setE 1 (j6 rec0 0 1 2 3 8 9) (setE 0 r_17 eNil))=j9 (xic call hs u rec0) 0 1 2 3 8 9 10 11 12:=sq2 x1j1 x1j2
theorem x1j4{rec0:AV->AV->AV->AV->AV->AV->Mem->Nat->O2}:x2gn call hs u xva (j6 rec0 0 1 2 3 8 9) (setE 1 (j6 rec0 0 1 2 3 8 9) (setE 0 r_17 eNil))=j7 (xdy call hs u rec0) 0 1 2 3 8 9 10:=tr (sqN 1 x1j3)
theorem x1j5{rec0:AV->AV->AV->AV->AV->AV->Mem->Nat->O2}:x2gn call hs u x1iv (j7 (xdy call hs u rec0) 0 1 2 3 8 9 10) (setE 1 (j6 rec0 0 1 2 3 8 9) (setE 0 r_17 eNil))=j7 (xid call hs u rec0) 0 1 2 3 8 9 10:=by kernel_rfl
theorem x1j6{rec0:AV->AV->AV->AV->AV->AV->Mem->Nat->O2}:x2gn call hs u xjc (j6 rec0 0 1 2 3 8 9) (setE 1 (j6 rec0 0 1 2 3 8 9) (setE 0 r_17 eNil))=j7 (xid call hs u rec0) 0 1 2 3 8 9 10:=sq2 x1j4 x1j5
theorem x1j7{rec0:AV->AV->AV->AV->AV->AV->Mem->Nat->O2}:x2gn call hs u xv9 (j6 rec0 0 1 2 3 8 9) (setE 1 (j6 rec0 0 1 2 3 8 9) (setE 0 r_17 eNil))=j6 (xie call hs u rec0) 0 1 2 3 8 9:=tr (sqN 3 x1j6)
theorem x1j8{rec0:AV->AV->AV->AV->AV->AV->Mem->Nat->O2}:x2gn call hs u xv8 (j6 rec0 0 1 2 3 8 9) (setE 0 r_17 eNil)=j6 (xie call hs u rec0) 0 1 2 3 8 9:=bk x1j7
theorem x1j9:x2gn call hs u xv7 r_17 (setE 0 r_17 eNil)=j6 (x98 call hs u NN) 0 1 2 3 8 9:=lp (Ln:=fun n=>j6 (x98 call hs u n) 0 1 2 3 8 9) fun n=>tr x1j8
theorem x1ja:x2gn call hs u xv6 r_17 eNil=j6 (x98 call hs u NN) 0 1 2 3 8 9:=bk x1j9
theorem x1g3:x2gn call hs u xv5 r_17 eNil=j4 (xrx call hs u) 0 1 2 3:=tr (sqN 2 x1ja)
noncomputable abbrev x2s9:=VX x6v 8 r_2
noncomputable def x1jb:=x2ei x6v
theorem x1g4:x2s9 call hs u x1jb r_2 eNil=j1 (xry call hs u) 0:=by kernel_rfl
noncomputable abbrev x2sa:=VX x2f 15 r_1
noncomputable def x1jc:=x2ei x2f
theorem x1d0:x2sa call hs u x1jc r_1 eNil=j3 (xrz call hs u) 0 1 2:=by kernel_rfl
noncomputable abbrev x2sb:=VX xb6 5 r_2
noncomputable def x1jd:=x2ei xb6
theorem x1g5:x2sb call hs u x1jd r_2 eNil=j1 (xs0 call hs u) 0:=by kernel_rfl
noncomputable abbrev x2sc:=VX xb7 5 r_2
noncomputable def x1je:=x2ei xb7
theorem x1g6:x2sc call hs u x1je r_2 eNil=j1 (xs1 call hs u) 0:=by kernel_rfl
noncomputable abbrev x2g3:=VX x3u 139 r_20
noncomputable abbrev x2q8:=VX (R:=Mem) x3u 139 fNil
noncomputable def xvb:=x2ei x3u
noncomputable def xvc:=nRs 4 xvb
noncomputable def xvd:=nR xvc
noncomputable def xve:=nR xvd
noncomputable def xvf:=nR xve
noncomputable def xjf:=nR xvf
noncomputable def xvg:=nL xjf
noncomputable def xvh:=nR xjf
noncomputable def xvi:=nRs 3 xvh
noncomputable def xec:=nR xvi
noncomputable def x1jf:=nL xec
noncomputable def x1jg:=nR xec
noncomputable def xvj:=nR xvg
noncomputable def xvk:=nR xvj
noncomputable def xvl:=nR xvk
noncomputable def xjg:=nRs 2 xvl
noncomputable def x1jh:=nL xjg
noncomputable def x1ji:=nR xjg
theorem x1jj:x2q8 call hs u x1jg (fun s=>some s.m) eNil=j4 (xif call hs u) 2 5 7 10:=by kernel_rfl
theorem x1jk:x2q8 call hs u x1jf (j4 (xif call hs u) 2 5 7 10) eNil=j4 (xs2 call hs u) 2 5 7 87:=by kernel_rfl
theorem x1jl{rec0:AV->AV->AV->AV->Mem->Nat->O2}:x2g3 call hs u xec (j4 rec0 2 4 5 6) (setE 4 (j4 rec0 2 4 5 6) (setE 1 (j4 rec0 2 4 5 6) (setE 0 r_20 eNil)))=j6 (xig call hs u rec0) 2 4 5 6 7 86:=tr (rg (C:=xec) (c:={f:=x3u,u:=u,nt:=139,hs:=hs}) (f:=(.tmp 86)) (ps:=#[87]) (fun u=>x1jj) (fun u=>x1jk))
theorem x1jm{rec0:AV->AV->AV->AV->Mem->Nat->O2}:x2g3 call hs u xvi (j4 rec0 2 4 5 6) (setE 1 (j4 rec0 2 4 5 6) (setE 0 r_20 eNil))=j6 (xig call hs u rec0) 2 4 5 6 7 86:=bk x1jl
theorem x1jn{rec0:AV->AV->AV->AV->Mem->Nat->O2}:x2g3 call hs u xvh (j4 rec0 2 4 5 6) (setE 1 (j4 rec0 2 4 5 6) (setE 0 r_20 eNil))=j5 (x28 call hs u rec0) 2 4 5 6 7:=tr (sqN 3 x1jm)
theorem x1jo{rec0:AV->AV->AV->AV->Mem->Nat->O2}{rec1:AV->AV->AV->AV->AV->AV->AV->AV->Mem->Nat->O2}:x2g3 call hs u x1ji (j8 rec1 2 4 5 6 7 47 48 49) (setE 2 (j5 (x28 call hs u rec0) 2 4 5 6 7) (setE 1 (j4 rec0 2 4 5 6) (setE 0 r_20 eNil)))=j8 (xdz call hs u rec0 rec1) 2 4 5 6 7 47 48 49:=by kernel_rfl
theorem x1jp{rec0:AV->AV->AV->AV->Mem->Nat->O2}{rec1:AV->AV->AV->AV->AV->AV->AV->AV->Mem->Nat->O2}:x2g3 call hs u x1jh (j8 (xdz call hs u rec0 rec1) 2 4 5 6 7 47 48 49) (setE 2 (j5 (x28 call hs u rec0) 2 4 5 6 7) (setE 1 (j4 rec0 2 4 5 6) (setE 0 r_20 eNil)))=j8 (xih call hs u rec0 rec1) 2 4 5 6 7 47 48 49:=by kernel_rfl
theorem x1jq{rec0:AV->AV->AV->AV->Mem->Nat->O2}{rec1:AV->AV->AV->AV->AV->AV->AV->AV->Mem->Nat->O2}:x2g3 call hs u xjg (j8 rec1 2 4 5 6 7 47 48 49) (setE 2 (j5 (x28 call hs u rec0) 2 4 5 6 7) (setE 1 (j4 rec0 2 4 5 6) (setE 0 r_20 eNil)))=j8 (xih call hs u rec0 rec1) 2 4 5 6 7 47 48 49:=sq2 x1jo x1jp
theorem x1jr{rec0:AV->AV->AV->AV->Mem->Nat->O2}{rec1:AV->AV->AV->AV->AV->AV->AV->AV->Mem->Nat->O2}:x2g3 call hs u xvl (j8 rec1 2 4 5 6 7 47 48 49) (setE 2 (j5 (x28 call hs u rec0) 2 4 5 6 7) (setE 1 (j4 rec0 2 4 5 6) (setE 0 r_20 eNil)))=j8 (xs3 call hs u rec0 rec1) 2 4 5 6 7 47 48 49:=tr (sqN 2 x1jq)
theorem x1js{rec0:AV->AV->AV->AV->Mem->Nat->O2}:x2g3 call hs u xvk (j5 (x28 call hs u rec0) 2 4 5 6 7) (setE 2 (j5 (x28 call hs u rec0) 2 4 5 6 7) (setE 1 (j4 rec0 2 4 5 6) (setE 0 r_20 eNil)))=j8 (x9a call hs u rec0 NN) 2 4 5 6 7 47 48 49:=lp (Ln:=fun n=>j8 (x9a call hs u rec0 n) 2 4 5 6 7 47 48 49) fun n=>tr x1jr
theorem x1jt{rec0:AV->AV->AV->AV->Mem->Nat->O2}:x2g3 call hs u xvj (j5 (x28 call hs u rec0) 2 4 5 6 7) (setE 1 (j4 rec0 2 4 5 6) (setE 0 r_20 eNil))=j8 (x9a call hs u rec0 NN) 2 4 5 6 7 47 48 49:=bk x1js
theorem x1ju{rec0:AV->AV->AV->AV->Mem->Nat->O2}:x2g3 call hs u xvg (j5 (x28 call hs u rec0) 2 4 5 6 7) (setE 1 (j4 rec0 2 4 5 6) (setE 0 r_20 eNil))=j5 (xii call hs u rec0) 2 4 5 6 7:=tr (sqN 1 x1jt)
theorem x1jv{rec0:AV->AV->AV->AV->Mem->Nat->O2}:x2g3 call hs u xjf (j4 rec0 2 4 5 6) (setE 1 (j4 rec0 2 4 5 6) (setE 0 r_20 eNil))=j5 (xii call hs u rec0) 2 4 5 6 7:=sq2 x1jn x1ju
theorem x1jw{rec0:AV->AV->AV->AV->Mem->Nat->O2}:x2g3 call hs u xvf (j4 rec0 2 4 5 6) (setE 1 (j4 rec0 2 4 5 6) (setE 0 r_20 eNil))=j4 (xij call hs u rec0) 2 4 5 6:=tr (sqN 1 x1jv)
theorem x1jx{rec0:AV->AV->AV->AV->Mem->Nat->O2}:x2g3 call hs u xve (j4 rec0 2 4 5 6) (setE 0 r_20 eNil)=j4 (xij call hs u rec0) 2 4 5 6:=bk x1jw
theorem x1jy:x2g3 call hs u xvd r_20 (setE 0 r_20 eNil)=j4 (x9b call hs u NN) 2 4 5 6:=lp (Ln:=fun n=>j4 (x9b call hs u n) 2 4 5 6) fun n=>tr x1jx
theorem x1jz:x2g3 call hs u xvc r_20 eNil=j4 (x9b call hs u NN) 2 4 5 6:=bk x1jy
theorem x1d2:x2g3 call hs u xvb r_20 eNil=j2 (xs4 call hs u) 0 1:=tr (sqN 4 x1jz)
noncomputable abbrev x2gw:=VX x6w 48 r_0
noncomputable def xvm:=x2ei x6w
noncomputable def xjh:=nR xvm
noncomputable def x1k0:=nL xjh
noncomputable def xvn:=nR xjh
noncomputable def xji:=nR xvn
noncomputable def x1k1:=nL xji
noncomputable def xvo:=nR xji
noncomputable def xjj:=nRs 2 xvo
noncomputable def xvp:=nL xjj
noncomputable def x1k2:=nR xjj
noncomputable def xvq:=nR xvp
noncomputable def x1k3:=nR xvq
theorem x1k4:x2gw call hs u x1k2 r_0 eNil=j1 (x5y call hs u) 7:=by kernel_rfl
theorem x1k5{rec0:AV->AV->Mem->Nat->O2}:x2gw call hs u x1k3 (j2 rec0 7 8) (setE 0 (j1 (x5y call hs u) 7) eNil)=j2 (xs5 call hs u rec0) 7 8:=by kernel_rfl
theorem x1k6:x2gw call hs u xvq (j1 (x5y call hs u) 7) (setE 0 (j1 (x5y call hs u) 7) eNil)=j2 (x5z call hs u NN) 7 8:=lp (Ln:=fun n=>j2 (x5z call hs u n) 7 8) fun n=>tr x1k5
theorem x1k7:x2gw call hs u xvp (j1 (x5y call hs u) 7) eNil=j2 (x5z call hs u NN) 7 8:=bk x1k6
theorem x1k8:x2gw call hs u xjj r_0 eNil=j2 (x5z call hs u NN) 7 8:=sq2 x1k4 x1k7
theorem x1k9:x2gw call hs u xvo r_0 eNil=j2 (xik call hs u) 0 6:=tr (sqN 2 x1k8)
theorem x1ka:x2gw call hs u x1k1 (j2 (xik call hs u) 0 6) eNil=j3 (xil call hs u) 0 5 6:=by kernel_rfl
theorem x1kb:x2gw call hs u xji r_0 eNil=j3 (xil call hs u) 0 5 6:=sq2 x1k9 x1ka
theorem x1kc:x2gw call hs u xvn r_0 eNil=j2 (xim call hs u) 0 1:=tr (sqN 1 x1kb)
theorem x1kd:x2gw call hs u x1k0 (j2 (xim call hs u) 0 1) eNil=j2 (xin call hs u) 0 1:=by kernel_rfl
theorem x1ke:x2gw call hs u xjh r_0 eNil=j2 (xin call hs u) 0 1:=sq2 x1kc x1kd
theorem x1g7:x2gw call hs u xvm r_0 eNil=j2 (xs6 call hs u) 0 1:=tr (sqN 1 x1ke)
noncomputable abbrev x2sd:=VX x9y 18 r_17
noncomputable def x1kf:=x2ei x9y
theorem x1d1:x2sd call hs u x1kf r_17 eNil=j4 (xs7 call hs u) 0 1 2 3:=by kernel_rfl
noncomputable abbrev x2m2:=VX xa0 20 r_17
noncomputable def xvr:=x2ei xa0
noncomputable def xvs:=nR xvr
noncomputable def xvt:=nR xvs
noncomputable def x1kg:=nR xvt
theorem x1kh{rec0:AV->AV->AV->AV->Mem->Nat->O2}:x2m2 call hs u x1kg (j4 rec0 1 10 11 12) (setE 0 r_17 eNil)=j4 (xs8 call hs u rec0) 1 10 11 12:=by kernel_rfl
theorem x1ki:x2m2 call hs u xvt r_17 (setE 0 r_17 eNil)=j4 (x9c call hs u NN) 1 10 11 12:=lp (Ln:=fun n=>j4 (x9c call hs u n) 1 10 11 12) fun n=>tr x1kh
theorem x1kj:x2m2 call hs u xvs r_17 eNil=j4 (x9c call hs u NN) 1 10 11 12:=bk x1ki
theorem x1d4:x2m2 call hs u xvr r_17 eNil=j3 (xs9 call hs u) 0 1 2:=tr (sqN 1 x1kj)
noncomputable abbrev x2h7:=VX x6x 53 r_17
noncomputable def xvu:=x2ei x6x
noncomputable def xvv:=nR xvu
noncomputable def xvw:=nR xvv
noncomputable def xvx:=nR xvw
noncomputable def xjk:=nR xvx
noncomputable def xvy:=nL xjk
noncomputable def x1kk:=nR xjk
noncomputable def xvz:=nR xvy
noncomputable def xw0:=nR xvz
noncomputable def xw1:=nR xw0
noncomputable def x1kl:=nR xw1
theorem x1km{rec0:AV->AV->AV->AV->AV->Mem->Nat->O2}:x2h7 call hs u x1kk (j5 rec0 0 1 2 3 8) (setE 0 r_17 eNil)=j5 (x1c call hs u rec0) 0 1 2 3 8:=by kernel_rfl
theorem x1kn{rec0:AV->AV->AV->AV->AV->Mem->Nat->O2}{rec1:AV->AV->AV->AV->AV->AV->Mem->Nat->O2}:x2h7 call hs u x1kl (j6 rec1 0 1 2 3 8 9) (setE 2 (j5 (x1c call hs u rec0) 0 1 2 3 8) (setE 1 (j5 (x1c call hs u rec0) 0 1 2 3 8) (setE 0 r_17 eNil)))=j6 (xsa call hs u rec0 rec1) 0 1 2 3 8 9:=by kernel_rfl
theorem x1ko{rec0:AV->AV->AV->AV->AV->Mem->Nat->O2}:x2h7 call hs u xw1 (j5 (x1c call hs u rec0) 0 1 2 3 8) (setE 2 (j5 (x1c call hs u rec0) 0 1 2 3 8) (setE 1 (j5 (x1c call hs u rec0) 0 1 2 3 8) (setE 0 r_17 eNil)))=j6 (x9d call hs u rec0 NN) 0 1 2 3 8 9:=lp (Ln:=fun n=>j6 (x9d call hs u rec0 n) 0 1 2 3 8 9) fun n=>tr x1kn
theorem x1kp{rec0:AV->AV->AV->AV->AV->Mem->Nat->O2}:x2h7 call hs u xw0 (j5 (x1c call hs u rec0) 0 1 2 3 8) (setE 1 (j5 (x1c call hs u rec0) 0 1 2 3 8) (setE 0 r_17 eNil))=j6 (x9d call hs u rec0 NN) 0 1 2 3 8 9:=bk x1ko
theorem x1kq{rec0:AV->AV->AV->AV->AV->Mem->Nat->O2}:x2h7 call hs u xvz (j5 (x1c call hs u rec0) 0 1 2 3 8) (setE 1 (j5 (x1c call hs u rec0) 0 1 2 3 8) (setE 0 r_17 eNil))=j5 (xe0 call hs u rec0) 0 1 2 3 8:=tr (sqN 1 x1kp)
theorem x1kr{rec0:AV->AV->AV->AV->AV->Mem->Nat->O2}:x2h7 call hs u xvy (j5 (x1c call hs u rec0) 0 1 2 3 8) (setE 0 r_17 eNil)=j5 (xe0 call hs u rec0) 0 1 2 3 8:=bk x1kq
theorem x1ks{rec0:AV->AV->AV->AV->AV->Mem->Nat->O2}:x2h7 call hs u xjk (j5 rec0 0 1 2 3 8) (setE 0 r_17 eNil)=j5 (xe0 call hs u rec0) 0 1 2 3 8:=sq2 x1km x1kr
theorem x1kt{rec0:AV->AV->AV->AV->AV->Mem->Nat->O2}:x2h7 call hs u xvx (j5 rec0 0 1 2 3 8) (setE 0 r_17 eNil)=j5 (xsb call hs u rec0) 0 1 2 3 8:=tr (sqN 1 x1ks)
theorem x1ku:x2h7 call hs u xvw r_17 (setE 0 r_17 eNil)=j5 (x9e call hs u NN) 0 1 2 3 8:=lp (Ln:=fun n=>j5 (x9e call hs u n) 0 1 2 3 8) fun n=>tr x1kt
theorem x1kv:x2h7 call hs u xvv r_17 eNil=j5 (x9e call hs u NN) 0 1 2 3 8:=bk x1ku
theorem x1g8:x2h7 call hs u xvu r_17 eNil=j4 (xsc call hs u) 0 1 2 3:=tr (sqN 1 x1kv)
noncomputable abbrev x2ev:=VX x44 220 r_17
noncomputable def xjl:=x2ei x44
noncomputable def xw2:=nL xjl
noncomputable def xjm:=nR xjl
noncomputable def xw3:=nL xjm
noncomputable def xw4:=nR xjm
noncomputable def xjn:=nRs 3 xw4
noncomputable def x1kw:=nL xjn
noncomputable def xw5:=nR xjn
noncomputable def xjo:=nR xw5
noncomputable def xw6:=nL xjo
noncomputable def xw7:=nR xjo
noncomputable def xjp:=nR xw7
noncomputable def x1kx:=nL xjp
noncomputable def xjq:=nR xjp
noncomputable def x1ky:=nL xjq
noncomputable def x1kz:=nR xjq
noncomputable def xw8:=nR xw6
noncomputable def x1l0:=nR xw8
noncomputable def xjr:=nR xw3
noncomputable def xw9:=nL xjr
noncomputable def x1l1:=nR xjr
noncomputable def xjs:=nRs 2 xw9
noncomputable def xwa:=nL xjs
noncomputable def xjt:=nR xjs
noncomputable def xwb:=nL xjt
noncomputable def x1l2:=nR xjt
noncomputable def xwc:=nR xwb
noncomputable def xwd:=nR xwc
noncomputable def x1l3:=nR xwd
noncomputable def xwe:=nR xwa
noncomputable def x1l4:=nR xwe
noncomputable def xju:=nR xw2
noncomputable def xwf:=nL xju
noncomputable def x1l5:=nR xju
noncomputable def xjv:=nRs 2 xwf
noncomputable def xwg:=nL xjv
noncomputable def xjw:=nR xjv
noncomputable def xwh:=nL xjw
noncomputable def x1l6:=nR xjw
noncomputable def xwi:=nR xwh
noncomputable def xwj:=nR xwi
noncomputable def x1l7:=nR xwj
noncomputable def xwk:=nR xwg
noncomputable def x1l8:=nR xwk
theorem x1l9:x2ev call hs u x1kz r_17 eNil=j5 (xe1 call hs u) 0 3 4 18 24:=by kernel_rfl
theorem x1la:x2ev call hs u x1ky (j5 (xe1 call hs u) 0 3 4 18 24) eNil=j7 (x9f call hs u) 0 1 3 4 18 20 24:=by kernel_rfl
theorem x1lb:x2ev call hs u xjq r_17 eNil=j7 (x9f call hs u) 0 1 3 4 18 20 24:=sq2 x1l9 x1la
theorem x1lc:x2ev call hs u x1kx (j7 (x9f call hs u) 0 1 3 4 18 20 24) eNil=j8 (xio call hs u) 0 1 2 3 4 18 20 24:=by kernel_rfl
theorem x1ld:x2ev call hs u xjp r_17 eNil=j8 (xio call hs u) 0 1 2 3 4 18 20 24:=sq2 x1lb x1lc
theorem x1le:x2ev call hs u xw7 r_17 eNil=j8 (x60 call hs u) 0 1 2 3 4 18 19 20:=tr (sqN 1 x1ld)
theorem x1lf{rec0:AV->AV->AV->AV->AV->AV->AV->AV->AV->AV->Mem->Nat->O2}:x2ev call hs u x1l0 (j10 rec0 0 1 2 3 4 18 19 20 21 22) (setE 8 (j8 (x60 call hs u) 0 1 2 3 4 18 19 20) eNil)=j10 (xsd call hs u rec0) 0 1 2 3 4 18 19 20 21 22:=by kernel_rfl
theorem x1lg:x2ev call hs u xw8 (j8 (x60 call hs u) 0 1 2 3 4 18 19 20) (setE 8 (j8 (x60 call hs u) 0 1 2 3 4 18 19 20) eNil)=j10 (x61 call hs u NN) 0 1 2 3 4 18 19 20 21 22:=lp (Ln:=fun n=>j10 (x61 call hs u n) 0 1 2 3 4 18 19 20 21 22) fun n=>tr x1lf
theorem x1lh:x2ev call hs u xw6 (j8 (x60 call hs u) 0 1 2 3 4 18 19 20) eNil=j10 (x61 call hs u NN) 0 1 2 3 4 18 19 20 21 22:=bk x1lg
theorem x1li:x2ev call hs u xjo r_17 eNil=j10 (x61 call hs u NN) 0 1 2 3 4 18 19 20 21 22:=sq2 x1le x1lh
theorem x1lj:x2ev call hs u xw5 r_17 eNil=j9 (xe2 call hs u) 0 1 2 3 4 18 19 20 21:=tr (sqN 1 x1li)
theorem x1lk:x2ev call hs u x1kw (j9 (xe2 call hs u) 0 1 2 3 4 18 19 20 21) eNil=j7 (xip call hs u) 0 1 2 3 4 18 19:=by kernel_rfl
theorem x1ll:x2ev call hs u xjn r_17 eNil=j7 (xip call hs u) 0 1 2 3 4 18 19:=sq2 x1lj x1lk
theorem x1lm:x2ev call hs u xw4 r_17 eNil=j5 (x2v call hs u) 0 1 2 3 4:=tr (sqN 3 x1ll)
theorem x1ln:x2ev call hs u x1l2 (j5 (x2v call hs u) 0 1 2 3 4) eNil=j0 (x4y call hs u):=by kernel_rfl
theorem x1lo{rec1:AV->AV->AV->Mem->Nat->O2}:x2ev call hs u x1l3 (j3 rec1 0 14 17) (setE 6 (j0 (x4y call hs u)) eNil)=j3 (xse call hs u rec1) 0 14 17:=by kernel_rfl
theorem x1lp:x2ev call hs u xwd (j0 (x4y call hs u)) (setE 6 (j0 (x4y call hs u)) eNil)=j3 (x9g call hs u NN) 0 14 17:=lp (Ln:=fun n=>j3 (x9g call hs u n) 0 14 17) fun n=>tr x1lo
theorem x1lq:x2ev call hs u xwc (j0 (x4y call hs u)) eNil=j3 (x9g call hs u NN) 0 14 17:=bk x1lp
theorem x1lr:x2ev call hs u xwb (j0 (x4y call hs u)) eNil=j3 (x4z call hs u) 0 2 14:=tr (sqN 1 x1lq)
theorem x1ls:x2ev call hs u xjt (j5 (x2v call hs u) 0 1 2 3 4) eNil=j3 (x4z call hs u) 0 2 14:=sq2 x1ln x1lr
theorem x1lt{rec2:AV->AV->AV->AV->AV->Mem->Nat->O2}:x2ev call hs u x1l4 (j5 rec2 0 2 4 14 15) (setE 4 (j3 (x4z call hs u) 0 2 14) eNil)=j5 (xsf call hs u rec2) 0 2 4 14 15:=by kernel_rfl
theorem x1lu:x2ev call hs u xwe (j3 (x4z call hs u) 0 2 14) (setE 4 (j3 (x4z call hs u) 0 2 14) eNil)=j5 (x62 call hs u NN) 0 2 4 14 15:=lp (Ln:=fun n=>j5 (x62 call hs u n) 0 2 4 14 15) fun n=>tr x1lt
theorem x1lv:x2ev call hs u xwa (j3 (x4z call hs u) 0 2 14) eNil=j5 (x62 call hs u NN) 0 2 4 14 15:=bk x1lu
theorem x1lw:x2ev call hs u xjs (j5 (x2v call hs u) 0 1 2 3 4) eNil=j5 (x62 call hs u NN) 0 2 4 14 15:=sq2 x1ls x1lv
theorem x1lx:x2ev call hs u xw9 (j5 (x2v call hs u) 0 1 2 3 4) eNil=j4 (xsg call hs u) 0 1 2 4:=tr (sqN 2 x1lw)
theorem x1ly:x2ev call hs u x1l1 (j5 (x2v call hs u) 0 1 2 3 4) eNil=j5 (xsh call hs u) 0 1 2 3 4:=by kernel_rfl
theorem x1lz:x2ev call hs u xjr (j5 (x2v call hs u) 0 1 2 3 4) eNil=j6 (xsi call hs u) 0 1 2 3 4 80:=tr (cd x1lx x1ly)
theorem x1m0:x2ev call hs u xw3 (j5 (x2v call hs u) 0 1 2 3 4) eNil=j5 (x29 call hs u) 0 1 2 3 4:=tr (sqN 1 x1lz)
theorem x1m1:x2ev call hs u xjm r_17 eNil=j5 (x29 call hs u) 0 1 2 3 4:=sq2 x1lm x1m0
theorem x1m2:x2ev call hs u x1l6 (j5 (x29 call hs u) 0 1 2 3 4) eNil=j0 (x50 call hs u):=by kernel_rfl
theorem x1m3{rec3:AV->AV->AV->Mem->Nat->O2}:x2ev call hs u x1l7 (j3 rec3 0 10 13) (setE 2 (j0 (x50 call hs u)) eNil)=j3 (xsj call hs u rec3) 0 10 13:=by kernel_rfl
theorem x1m4:x2ev call hs u xwj (j0 (x50 call hs u)) (setE 2 (j0 (x50 call hs u)) eNil)=j3 (x9h call hs u NN) 0 10 13:=lp (Ln:=fun n=>j3 (x9h call hs u n) 0 10 13) fun n=>tr x1m3
theorem x1m5:x2ev call hs u xwi (j0 (x50 call hs u)) eNil=j3 (x9h call hs u NN) 0 10 13:=bk x1m4
theorem x1m6:x2ev call hs u xwh (j0 (x50 call hs u)) eNil=j3 (x51 call hs u) 0 1 10:=tr (sqN 1 x1m5)
theorem x1m7:x2ev call hs u xjw (j5 (x29 call hs u) 0 1 2 3 4) eNil=j3 (x51 call hs u) 0 1 10:=sq2 x1m2 x1m6
theorem x1m8{rec4:AV->AV->AV->AV->AV->Mem->Nat->O2}:x2ev call hs u x1l8 (j5 rec4 0 1 4 10 11) (setE 0 (j3 (x51 call hs u) 0 1 10) eNil)=j5 (xsk call hs u rec4) 0 1 4 10 11:=by kernel_rfl
theorem x1m9:x2ev call hs u xwk (j3 (x51 call hs u) 0 1 10) (setE 0 (j3 (x51 call hs u) 0 1 10) eNil)=j5 (x63 call hs u NN) 0 1 4 10 11:=lp (Ln:=fun n=>j5 (x63 call hs u n) 0 1 4 10 11) fun n=>tr x1m8
theorem x1ma:x2ev call hs u xwg (j3 (x51 call hs u) 0 1 10) eNil=j5 (x63 call hs u NN) 0 1 4 10 11:=bk x1m9
theorem x1mb:x2ev call hs u xjv (j5 (x29 call hs u) 0 1 2 3 4) eNil=j5 (x63 call hs u NN) 0 1 4 10 11:=sq2 x1m7 x1ma
theorem x1mc:x2ev call hs u xwf (j5 (x29 call hs u) 0 1 2 3 4) eNil=j5 (xsl call hs u) 0 1 2 3 4:=tr (sqN 2 x1mb)
theorem x1md:x2ev call hs u x1l5 (j5 (x29 call hs u) 0 1 2 3 4) eNil=j5 (xsm call hs u) 0 1 2 3 4:=by kernel_rfl
theorem x1me:x2ev call hs u xju (j5 (x29 call hs u) 0 1 2 3 4) eNil=j6 (xsn call hs u) 0 1 2 3 4 28:=tr (cd x1mc x1md)
theorem x1mf:x2ev call hs u xw2 (j5 (x29 call hs u) 0 1 2 3 4) eNil=j5 (xiq call hs u) 0 1 2 3 4:=tr (sqN 1 x1me)
theorem x1g9:x2ev call hs u xjl r_17 eNil=j5 (xiq call hs u) 0 1 2 3 4:=sq2 x1m1 x1mf
noncomputable abbrev x2h8:=VX xb8 49 r_17
noncomputable def xwl:=x2ei xb8
noncomputable def xwm:=nR xwl
noncomputable def xwn:=nR xwm
noncomputable def xwo:=nR xwn
noncomputable def xjx:=nR xwo
noncomputable def xwp:=nL xjx
noncomputable def x1mg:=nR xjx
noncomputable def xwq:=nR xwp
noncomputable def xwr:=nR xwq
noncomputable def xws:=nR xwr
noncomputable def x1mh:=nR xws
theorem x1mi{rec0:AV->AV->AV->AV->Mem->Nat->O2}:x2h8 call hs u x1mg (j4 rec0 0 1 2 6) (setE 0 r_17 eNil)=j4 (x1d call hs u rec0) 0 1 2 6:=by kernel_rfl
theorem x1mj{rec0:AV->AV->AV->AV->Mem->Nat->O2}{rec1:AV->AV->AV->AV->AV->Mem->Nat->O2}:x2h8 call hs u x1mh (j5 rec1 0 1 2 6 7) (setE 2 (j4 (x1d call hs u rec0) 0 1 2 6) (setE 1 (j4 (x1d call hs u rec0) 0 1 2 6) (setE 0 r_17 eNil)))=j5 (xso call hs u rec0 rec1) 0 1 2 6 7:=by kernel_rfl
theorem x1mk{rec0:AV->AV->AV->AV->Mem->Nat->O2}:x2h8 call hs u xws (j4 (x1d call hs u rec0) 0 1 2 6) (setE 2 (j4 (x1d call hs u rec0) 0 1 2 6) (setE 1 (j4 (x1d call hs u rec0) 0 1 2 6) (setE 0 r_17 eNil)))=j5 (x9i call hs u rec0 NN) 0 1 2 6 7:=lp (Ln:=fun n=>j5 (x9i call hs u rec0 n) 0 1 2 6 7) fun n=>tr x1mj
theorem x1ml{rec0:AV->AV->AV->AV->Mem->Nat->O2}:x2h8 call hs u xwr (j4 (x1d call hs u rec0) 0 1 2 6) (setE 1 (j4 (x1d call hs u rec0) 0 1 2 6) (setE 0 r_17 eNil))=j5 (x9i call hs u rec0 NN) 0 1 2 6 7:=bk x1mk
theorem x1mm{rec0:AV->AV->AV->AV->Mem->Nat->O2}:x2h8 call hs u xwq (j4 (x1d call hs u rec0) 0 1 2 6) (setE 1 (j4 (x1d call hs u rec0) 0 1 2 6) (setE 0 r_17 eNil))=j4 (xe3 call hs u rec0) 0 1 2 6:=tr (sqN 1 x1ml)
theorem x1mn{rec0:AV->AV->AV->AV->Mem->Nat->O2}:x2h8 call hs u xwp (j4 (x1d call hs u rec0) 0 1 2 6) (setE 0 r_17 eNil)=j4 (xe3 call hs u rec0) 0 1 2 6:=bk x1mm
theorem x1mo{rec0:AV->AV->AV->AV->Mem->Nat->O2}:x2h8 call hs u xjx (j4 rec0 0 1 2 6) (setE 0 r_17 eNil)=j4 (xe3 call hs u rec0) 0 1 2 6:=sq2 x1mi x1mn
theorem x1mp{rec0:AV->AV->AV->AV->Mem->Nat->O2}:x2h8 call hs u xwo (j4 rec0 0 1 2 6) (setE 0 r_17 eNil)=j4 (xsp call hs u rec0) 0 1 2 6:=tr (sqN 1 x1mo)
theorem x1mq:x2h8 call hs u xwn r_17 (setE 0 r_17 eNil)=j4 (x9j call hs u NN) 0 1 2 6:=lp (Ln:=fun n=>j4 (x9j call hs u n) 0 1 2 6) fun n=>tr x1mp
theorem x1mr:x2h8 call hs u xwm r_17 eNil=j4 (x9j call hs u NN) 0 1 2 6:=bk x1mq
theorem x1ga:x2h8 call hs u xwl r_17 eNil=j3 (xsq call hs u) 0 1 2:=tr (sqN 1 x1mr)
noncomputable abbrev x2hm:=VX xb9 56 r_17
noncomputable def xwt:=x2ei xb9
noncomputable def xjy:=nRs 3 xwt
noncomputable def xwu:=nL xjy
noncomputable def xwv:=nR xjy
noncomputable def xww:=nR xwv
noncomputable def xwx:=nR xww
noncomputable def x1ms:=nR xwx
noncomputable def xwy:=nR xwu
noncomputable def xwz:=nR xwy
noncomputable def x1mt:=nR xwz
theorem x1mu{rec0:AV->AV->AV->AV->Mem->Nat->O2}:x2hm call hs u x1ms (j4 rec0 0 6 7 10) (setE 2 r_17 eNil)=j4 (xsr call hs u rec0) 0 6 7 10:=by kernel_rfl
theorem x1mv:x2hm call hs u xwx r_17 (setE 2 r_17 eNil)=j4 (x9k call hs u NN) 0 6 7 10:=lp (Ln:=fun n=>j4 (x9k call hs u n) 0 6 7 10) fun n=>tr x1mu
theorem x1mw:x2hm call hs u xww r_17 eNil=j4 (x9k call hs u NN) 0 6 7 10:=bk x1mv
theorem x1mx:x2hm call hs u xwv r_17 eNil=j4 (x52 call hs u) 0 6 7 8:=tr (sqN 1 x1mw)
theorem x1my{rec1:AV->AV->AV->AV->AV->Mem->Nat->O2}:x2hm call hs u x1mt (j5 rec1 0 6 7 8 9) (setE 0 (j4 (x52 call hs u) 0 6 7 8) eNil)=j5 (xss call hs u rec1) 0 6 7 8 9:=by kernel_rfl
theorem x1mz:x2hm call hs u xwz (j4 (x52 call hs u) 0 6 7 8) (setE 0 (j4 (x52 call hs u) 0 6 7 8) eNil)=j5 (x9l call hs u NN) 0 6 7 8 9:=lp (Ln:=fun n=>j5 (x9l call hs u n) 0 6 7 8 9) fun n=>tr x1my
theorem x1n0:x2hm call hs u xwy (j4 (x52 call hs u) 0 6 7 8) eNil=j5 (x9l call hs u NN) 0 6 7 8 9:=bk x1mz
theorem x1n1:x2hm call hs u xwu (j4 (x52 call hs u) 0 6 7 8) eNil=j4 (xir call hs u) 0 6 7 8:=tr (sqN 1 x1n0)
theorem x1n2:x2hm call hs u xjy r_17 eNil=j4 (xir call hs u) 0 6 7 8:=sq2 x1mx x1n1
theorem x1gb:x2hm call hs u xwt r_17 eNil=j3 (xst call hs u) 0 1 2:=tr (sqN 3 x1n2)
noncomputable abbrev x2gg:=VX xba 65 r_17
noncomputable def xx0:=x2ei xba
noncomputable def xjz:=nRs 2 xx0
noncomputable def xx1:=nL xjz
noncomputable def x1n3:=nR xjz
noncomputable def xx2:=nRs 3 xx1
noncomputable def xx3:=nR xx2
noncomputable def xx4:=nR xx3
noncomputable def xk0:=nR xx4
noncomputable def xx5:=nL xk0
noncomputable def x1n4:=nR xk0
noncomputable def xx6:=nR xx5
noncomputable def xk1:=nR xx6
noncomputable def x1n5:=nL xk1
noncomputable def x1n6:=nR xk1
theorem x1n7{rec0:AV->AV->AV->AV->AV->AV->Mem->Nat->O2}:x2gg call hs u x1n4 (j6 rec0 0 1 6 7 8 9) (setE 0 r_17 eNil)=j6 (x2a call hs u rec0) 0 1 6 7 8 9:=by kernel_rfl
theorem x1n8{rec0:AV->AV->AV->AV->AV->AV->Mem->Nat->O2}:x2gg call hs u x1n6 (j6 (x2a call hs u rec0) 0 1 6 7 8 9) (setE 1 (j6 (x2a call hs u rec0) 0 1 6 7 8 9) (setE 0 r_17 eNil))=j7 (xe4 call hs u rec0) 0 1 6 7 8 9 10:=by kernel_rfl
theorem x1n9{rec0:AV->AV->AV->AV->AV->AV->Mem->Nat->O2}:x2gg call hs u x1n5 (j7 (xe4 call hs u rec0) 0 1 6 7 8 9 10) (setE 1 (j6 (x2a call hs u rec0) 0 1 6 7 8 9) (setE 0 r_17 eNil))=j7 (xis call hs u rec0) 0 1 6 7 8 9 10:=by kernel_rfl
theorem x1na{rec0:AV->AV->AV->AV->AV->AV->Mem->Nat->O2}:x2gg call hs u xk1 (j6 (x2a call hs u rec0) 0 1 6 7 8 9) (setE 1 (j6 (x2a call hs u rec0) 0 1 6 7 8 9) (setE 0 r_17 eNil))=j7 (xis call hs u rec0) 0 1 6 7 8 9 10:=sq2 x1n8 x1n9
theorem x1nb{rec0:AV->AV->AV->AV->AV->AV->Mem->Nat->O2}:x2gg call hs u xx6 (j6 (x2a call hs u rec0) 0 1 6 7 8 9) (setE 1 (j6 (x2a call hs u rec0) 0 1 6 7 8 9) (setE 0 r_17 eNil))=j6 (xe5 call hs u rec0) 0 1 6 7 8 9:=tr (sqN 1 x1na)
theorem x1nc{rec0:AV->AV->AV->AV->AV->AV->Mem->Nat->O2}:x2gg call hs u xx5 (j6 (x2a call hs u rec0) 0 1 6 7 8 9) (setE 0 r_17 eNil)=j6 (xe5 call hs u rec0) 0 1 6 7 8 9:=bk x1nb
theorem x1nd{rec0:AV->AV->AV->AV->AV->AV->Mem->Nat->O2}:x2gg call hs u xk0 (j6 rec0 0 1 6 7 8 9) (setE 0 r_17 eNil)=j6 (xe5 call hs u rec0) 0 1 6 7 8 9:=sq2 x1n7 x1nc
theorem x1ne{rec0:AV->AV->AV->AV->AV->AV->Mem->Nat->O2}:x2gg call hs u xx4 (j6 rec0 0 1 6 7 8 9) (setE 0 r_17 eNil)=j6 (xsu call hs u rec0) 0 1 6 7 8 9:=tr (sqN 1 x1nd)
theorem x1nf:x2gg call hs u xx3 r_17 (setE 0 r_17 eNil)=j6 (x9m call hs u NN) 0 1 6 7 8 9:=lp (Ln:=fun n=>j6 (x9m call hs u n) 0 1 6 7 8 9) fun n=>tr x1ne
theorem x1ng:x2gg call hs u xx2 r_17 eNil=j6 (x9m call hs u NN) 0 1 6 7 8 9:=bk x1nf
theorem x1nh:x2gg call hs u xx1 r_17 eNil=j3 (xsv call hs u) 0 1 6:=tr (sqN 3 x1ng)
theorem x1ni:x2gg call hs u x1n3 r_17 eNil=j0 (xsw call hs u):=by kernel_rfl
theorem x1nj:x2gg call hs u xjz r_17 eNil=j4 (xsx call hs u) 0 1 6 15:=tr (cd x1nh x1ni)
theorem x1gc:x2gg call hs u xx0 r_17 eNil=j3 (xsy call hs u) 0 1 2:=tr (sqN 2 x1nj)
noncomputable abbrev x2id:=VX xbb 57 r_7
noncomputable def xx7:=x2ei xbb
noncomputable def xk2:=nRs 6 xx7
noncomputable def xx8:=nL xk2
noncomputable def x1nk:=nR xk2
noncomputable def xk3:=nR xx8
noncomputable def xk4:=nL xk3
noncomputable def x1nl:=nR xk3
noncomputable def x1nm:=nL xk4
noncomputable def x1nn:=nR xk4
theorem x1no:x2id call hs u x1nk r_7 eNil=j2 (x3r call hs u) 9 11:=by kernel_rfl
theorem x1np:x2id call hs u x1nn (j2 (x3r call hs u) 9 11) eNil=j5 (xe6 call hs u) 0 9 10 11 12:=by kernel_rfl
theorem x1nq:x2id call hs u x1nm (j5 (xe6 call hs u) 0 9 10 11 12) eNil=j6 (xit call hs u) 0 8 9 10 11 12:=by kernel_rfl
theorem x1nr:x2id call hs u xk4 (j2 (x3r call hs u) 9 11) eNil=j6 (xit call hs u) 0 8 9 10 11 12:=sq2 x1np x1nq
theorem x1ns:x2id call hs u x1nl (j2 (x3r call hs u) 9 11) eNil=j2 (xsz call hs u) 9 11:=by kernel_rfl
theorem x1nt:x2id call hs u xk3 (j2 (x3r call hs u) 9 11) eNil=j7 (xt0 call hs u) 0 8 9 10 11 12 32:=tr (cd x1nr x1ns)
theorem x1nu:x2id call hs u xx8 (j2 (x3r call hs u) 9 11) eNil=j6 (xiu call hs u) 0 8 9 10 11 12:=tr (sqN 1 x1nt)
theorem x1nv:x2id call hs u xk2 r_7 eNil=j6 (xiu call hs u) 0 8 9 10 11 12:=sq2 x1no x1nu
theorem x1gd:x2id call hs u xx7 r_7 eNil=j3 (xt1 call hs u) 0 1 2:=tr (sqN 6 x1nv)
noncomputable abbrev x2m3:=VX xbc 32 r_17
noncomputable def xx9:=x2ei xbc
noncomputable def xxa:=nRs 2 xx9
noncomputable def xxb:=nR xxa
noncomputable def x1nw:=nR xxb
theorem x1nx{rec0:AV->AV->AV->Mem->Nat->O2}:x2m3 call hs u x1nw (j3 rec0 0 6 7) (setE 0 r_17 eNil)=j3 (xt2 call hs u rec0) 0 6 7:=by kernel_rfl
theorem x1ny:x2m3 call hs u xxb r_17 (setE 0 r_17 eNil)=j3 (x9n call hs u NN) 0 6 7:=lp (Ln:=fun n=>j3 (x9n call hs u n) 0 6 7) fun n=>tr x1nx
theorem x1nz:x2m3 call hs u xxa r_17 eNil=j3 (x9n call hs u NN) 0 6 7:=bk x1ny
theorem x1ge:x2m3 call hs u xx9 r_17 eNil=j3 (xt3 call hs u) 0 1 2:=tr (sqN 2 x1nz)
noncomputable abbrev x2f4:=VX xbd 133 r_1
noncomputable def xxc:=x2ei xbd
noncomputable def xk5:=nRs 2 xxc
noncomputable def xxd:=nL xk5
noncomputable def x1o0:=nR xk5
noncomputable def xxe:=nR xxd
noncomputable def xxf:=nR xxe
noncomputable def xxg:=nR xxf
noncomputable def xk6:=nR xxg
noncomputable def xxh:=nL xk6
noncomputable def x1o1:=nR xk6
noncomputable def xk7:=nR xxh
noncomputable def xxi:=nL xk7
noncomputable def xxj:=nR xk7
noncomputable def xk8:=nRs 3 xxj
noncomputable def xxk:=nL xk8
noncomputable def xxl:=nR xk8
noncomputable def xk9:=nR xxl
noncomputable def xxm:=nL xk9
noncomputable def x1o2:=nR xk9
noncomputable def xxn:=nR xxm
noncomputable def xxo:=nR xxn
noncomputable def x1o3:=nR xxo
noncomputable def xka:=nR xxk
noncomputable def xxp:=nL xka
noncomputable def x1o4:=nR xka
noncomputable def xxq:=nR xxp
noncomputable def xxr:=nR xxq
noncomputable def x1o5:=nR xxr
noncomputable def xxs:=nR xxi
noncomputable def x1o6:=nR xxs
theorem x1o7:x2f4 call hs u x1o0 r_1 eNil=j0 (x5 call hs u):=by kernel_rfl
theorem x1o8{rec0:AV->AV->AV->AV->AV->Mem->Nat->O2}:x2f4 call hs u x1o1 (j5 rec0 0 1 2 7 8) (setE 0 (j0 (x5 call hs u)) eNil)=j5 (x3 call hs u rec0) 0 1 2 7 8:=by kernel_rfl
theorem x1o9{rec0:AV->AV->AV->AV->AV->Mem->Nat->O2}{rec1:AV->AV->AV->AV->AV->AV->Mem->Nat->O2}:x2f4 call hs u x1o3 (j6 rec1 0 1 2 7 8 10) (setE 6 (j5 (x3 call hs u rec0) 0 1 2 7 8) (setE 1 (j5 (x3 call hs u rec0) 0 1 2 7 8) (setE 0 (j0 (x5 call hs u)) eNil)))=j6 (xt4 call hs u rec0 rec1) 0 1 2 7 8 10:=by kernel_rfl
theorem x1oa{rec0:AV->AV->AV->AV->AV->Mem->Nat->O2}:x2f4 call hs u xxo (j5 (x3 call hs u rec0) 0 1 2 7 8) (setE 6 (j5 (x3 call hs u rec0) 0 1 2 7 8) (setE 1 (j5 (x3 call hs u rec0) 0 1 2 7 8) (setE 0 (j0 (x5 call hs u)) eNil)))=j6 (x9o call hs u rec0 NN) 0 1 2 7 8 10:=lp (Ln:=fun n=>j6 (x9o call hs u rec0 n) 0 1 2 7 8 10) fun n=>tr x1o9
theorem x1ob{rec0:AV->AV->AV->AV->AV->Mem->Nat->O2}:x2f4 call hs u xxn (j5 (x3 call hs u rec0) 0 1 2 7 8) (setE 1 (j5 (x3 call hs u rec0) 0 1 2 7 8) (setE 0 (j0 (x5 call hs u)) eNil))=j6 (x9o call hs u rec0 NN) 0 1 2 7 8 10:=bk x1oa
theorem x1oc{rec0:AV->AV->AV->AV->AV->Mem->Nat->O2}:x2f4 call hs u xxm (j5 (x3 call hs u rec0) 0 1 2 7 8) (setE 1 (j5 (x3 call hs u rec0) 0 1 2 7 8) (setE 0 (j0 (x5 call hs u)) eNil))=j5 (xt5 call hs u rec0) 0 1 2 7 8:=tr (sqN 1 x1ob)
theorem x1od{rec0:AV->AV->AV->AV->AV->Mem->Nat->O2}:x2f4 call hs u x1o2 (j5 (x3 call hs u rec0) 0 1 2 7 8) (setE 1 (j5 (x3 call hs u rec0) 0 1 2 7 8) (setE 0 (j0 (x5 call hs u)) eNil))=j5 (xt6 call hs u rec0) 0 1 2 7 8:=by kernel_rfl
theorem x1oe{rec0:AV->AV->AV->AV->AV->Mem->Nat->O2}:x2f4 call hs u xk9 (j5 (x3 call hs u rec0) 0 1 2 7 8) (setE 1 (j5 (x3 call hs u rec0) 0 1 2 7 8) (setE 0 (j0 (x5 call hs u)) eNil))=j6 (xt7 call hs u rec0) 0 1 2 7 8 98:=tr (cd x1oc x1od)
theorem x1of{rec0:AV->AV->AV->AV->AV->Mem->Nat->O2}:x2f4 call hs u xxl (j5 (x3 call hs u rec0) 0 1 2 7 8) (setE 1 (j5 (x3 call hs u rec0) 0 1 2 7 8) (setE 0 (j0 (x5 call hs u)) eNil))=j5 (x1e call hs u rec0) 0 1 2 7 8:=tr (sqN 1 x1oe)
theorem x1og{rec0:AV->AV->AV->AV->AV->Mem->Nat->O2}{rec2:AV->AV->AV->AV->AV->AV->Mem->Nat->O2}:x2f4 call hs u x1o5 (j6 rec2 0 1 2 7 8 9) (setE 4 (j5 (x1e call hs u rec0) 0 1 2 7 8) (setE 1 (j5 (x3 call hs u rec0) 0 1 2 7 8) (setE 0 (j0 (x5 call hs u)) eNil)))=j6 (xt8 call hs u rec0 rec2) 0 1 2 7 8 9:=by kernel_rfl
theorem x1oh{rec0:AV->AV->AV->AV->AV->Mem->Nat->O2}:x2f4 call hs u xxr (j5 (x1e call hs u rec0) 0 1 2 7 8) (setE 4 (j5 (x1e call hs u rec0) 0 1 2 7 8) (setE 1 (j5 (x3 call hs u rec0) 0 1 2 7 8) (setE 0 (j0 (x5 call hs u)) eNil)))=j6 (x9p call hs u rec0 NN) 0 1 2 7 8 9:=lp (Ln:=fun n=>j6 (x9p call hs u rec0 n) 0 1 2 7 8 9) fun n=>tr x1og
theorem x1oi{rec0:AV->AV->AV->AV->AV->Mem->Nat->O2}:x2f4 call hs u xxq (j5 (x1e call hs u rec0) 0 1 2 7 8) (setE 1 (j5 (x3 call hs u rec0) 0 1 2 7 8) (setE 0 (j0 (x5 call hs u)) eNil))=j6 (x9p call hs u rec0 NN) 0 1 2 7 8 9:=bk x1oh
theorem x1oj{rec0:AV->AV->AV->AV->AV->Mem->Nat->O2}:x2f4 call hs u xxp (j5 (x1e call hs u rec0) 0 1 2 7 8) (setE 1 (j5 (x3 call hs u rec0) 0 1 2 7 8) (setE 0 (j0 (x5 call hs u)) eNil))=j5 (xt9 call hs u rec0) 0 1 2 7 8:=tr (sqN 1 x1oi)
theorem x1ok{rec0:AV->AV->AV->AV->AV->Mem->Nat->O2}:x2f4 call hs u x1o4 (j5 (x1e call hs u rec0) 0 1 2 7 8) (setE 1 (j5 (x3 call hs u rec0) 0 1 2 7 8) (setE 0 (j0 (x5 call hs u)) eNil))=j5 (xta call hs u rec0) 0 1 2 7 8:=by kernel_rfl
theorem x1ol{rec0:AV->AV->AV->AV->AV->Mem->Nat->O2}:x2f4 call hs u xka (j5 (x1e call hs u rec0) 0 1 2 7 8) (setE 1 (j5 (x3 call hs u rec0) 0 1 2 7 8) (setE 0 (j0 (x5 call hs u)) eNil))=j6 (xtb call hs u rec0) 0 1 2 7 8 61:=tr (cd x1oj x1ok)
theorem x1om{rec0:AV->AV->AV->AV->AV->Mem->Nat->O2}:x2f4 call hs u xxk (j5 (x1e call hs u rec0) 0 1 2 7 8) (setE 1 (j5 (x3 call hs u rec0) 0 1 2 7 8) (setE 0 (j0 (x5 call hs u)) eNil))=j5 (xiv call hs u rec0) 0 1 2 7 8:=tr (sqN 1 x1ol)
theorem x1on{rec0:AV->AV->AV->AV->AV->Mem->Nat->O2}:x2f4 call hs u xk8 (j5 (x3 call hs u rec0) 0 1 2 7 8) (setE 1 (j5 (x3 call hs u rec0) 0 1 2 7 8) (setE 0 (j0 (x5 call hs u)) eNil))=j5 (xiv call hs u rec0) 0 1 2 7 8:=sq2 x1of x1om
theorem x1oo{rec0:AV->AV->AV->AV->AV->Mem->Nat->O2}:x2f4 call hs u xxj (j5 (x3 call hs u rec0) 0 1 2 7 8) (setE 1 (j5 (x3 call hs u rec0) 0 1 2 7 8) (setE 0 (j0 (x5 call hs u)) eNil))=j5 (x64 call hs u rec0) 0 1 2 7 8:=tr (sqN 3 x1on)
theorem x1op{rec0:AV->AV->AV->AV->AV->Mem->Nat->O2}{rec3:AV->AV->AV->AV->AV->Mem->Nat->O2}:x2f4 call hs u x1o6 (j5 rec3 0 1 2 7 8) (setE 2 (j5 (x64 call hs u rec0) 0 1 2 7 8) (setE 1 (j5 (x3 call hs u rec0) 0 1 2 7 8) (setE 0 (j0 (x5 call hs u)) eNil)))=j5 (xtc call hs u rec0 rec3) 0 1 2 7 8:=by kernel_rfl
theorem x1oq{rec0:AV->AV->AV->AV->AV->Mem->Nat->O2}:x2f4 call hs u xxs (j5 (x64 call hs u rec0) 0 1 2 7 8) (setE 2 (j5 (x64 call hs u rec0) 0 1 2 7 8) (setE 1 (j5 (x3 call hs u rec0) 0 1 2 7 8) (setE 0 (j0 (x5 call hs u)) eNil)))=j5 (x3s call hs u rec0 NN) 0 1 2 7 8:=lp (Ln:=fun n=>j5 (x3s call hs u rec0 n) 0 1 2 7 8) fun n=>tr x1op
theorem x1or{rec0:AV->AV->AV->AV->AV->Mem->Nat->O2}:x2f4 call hs u xxi (j5 (x64 call hs u rec0) 0 1 2 7 8) (setE 1 (j5 (x3 call hs u rec0) 0 1 2 7 8) (setE 0 (j0 (x5 call hs u)) eNil))=j5 (x3s call hs u rec0 NN) 0 1 2 7 8:=bk x1oq
theorem x1os{rec0:AV->AV->AV->AV->AV->Mem->Nat->O2}:x2f4 call hs u xk7 (j5 (x3 call hs u rec0) 0 1 2 7 8) (setE 1 (j5 (x3 call hs u rec0) 0 1 2 7 8) (setE 0 (j0 (x5 call hs u)) eNil))=j5 (x3s call hs u rec0 NN) 0 1 2 7 8:=sq2 x1oo x1or
theorem x1ot{rec0:AV->AV->AV->AV->AV->Mem->Nat->O2}:x2f4 call hs u xxh (j5 (x3 call hs u rec0) 0 1 2 7 8) (setE 0 (j0 (x5 call hs u)) eNil)=j5 (x3s call hs u rec0 NN) 0 1 2 7 8:=bk x1os
theorem x1ou{rec0:AV->AV->AV->AV->AV->Mem->Nat->O2}:x2f4 call hs u xk6 (j5 rec0 0 1 2 7 8) (setE 0 (j0 (x5 call hs u)) eNil)=j5 (x3s call hs u rec0 NN) 0 1 2 7 8:=sq2 x1o8 x1ot
theorem x1ov{rec0:AV->AV->AV->AV->AV->Mem->Nat->O2}:x2f4 call hs u xxg (j5 rec0 0 1 2 7 8) (setE 0 (j0 (x5 call hs u)) eNil)=j5 (xtd call hs u rec0) 0 1 2 7 8:=tr (sqN 1 x1ou)
theorem x1ow:x2f4 call hs u xxf (j0 (x5 call hs u)) (setE 0 (j0 (x5 call hs u)) eNil)=j5 (x9q call hs u NN) 0 1 2 7 8:=lp (Ln:=fun n=>j5 (x9q call hs u n) 0 1 2 7 8) fun n=>tr x1ov
theorem x1ox:x2f4 call hs u xxe (j0 (x5 call hs u)) eNil=j5 (x9q call hs u NN) 0 1 2 7 8:=bk x1ow
theorem x1oy:x2f4 call hs u xxd (j0 (x5 call hs u)) eNil=j4 (xiw call hs u) 0 1 2 7:=tr (sqN 1 x1ox)
theorem x1oz:x2f4 call hs u xk5 r_1 eNil=j4 (xiw call hs u) 0 1 2 7:=sq2 x1o7 x1oy
theorem x1gf:x2f4 call hs u xxc r_1 eNil=j3 (xte call hs u) 0 1 2:=tr (sqN 2 x1oz)
noncomputable abbrev x2se:=VX xl 17 r_0
noncomputable def x1p0:=x2ei xl
theorem x1gg:x2se call hs u x1p0 r_0 eNil=j2 (xtf call hs u) 0 1:=by kernel_rfl
noncomputable abbrev x2gb:=VX xbe 84 r_16
noncomputable def xxt:=x2ei xbe
noncomputable def xkb:=nRs 3 xxt
noncomputable def xxu:=nL xkb
noncomputable def x1p1:=nR xkb
noncomputable def xxv:=nR xxu
noncomputable def xxw:=nR xxv
noncomputable def xkc:=nR xxw
noncomputable def xxx:=nL xkc
noncomputable def xkd:=nR xkc
noncomputable def xxy:=nL xkd
noncomputable def x1p2:=nR xkd
noncomputable def xxz:=nR xxy
noncomputable def x1p3:=nR xxz
noncomputable def xy0:=nR xxx
noncomputable def x1p4:=nR xy0
theorem x1p5:x2gb call hs u x1p1 r_16 eNil=j1 (xy call hs u) 9:=by kernel_rfl
theorem x1p6{rec0:AV->AV->AV->AV->Mem->Nat->O2}:x2gb call hs u x1p2 (j4 rec0 0 1 9 10) (setE 1 (j4 rec0 0 1 9 10) (setE 0 (j1 (xy call hs u) 9) eNil))=j4 (x65 call hs u rec0) 0 1 9 10:=by kernel_rfl
theorem x1p7{rec0:AV->AV->AV->AV->Mem->Nat->O2}{rec1:AV->AV->AV->AV->Mem->Nat->O2}:x2gb call hs u x1p3 (j4 rec1 0 1 9 10) (setE 4 (j4 (x65 call hs u rec0) 0 1 9 10) (setE 1 (j4 rec0 0 1 9 10) (setE 0 (j1 (xy call hs u) 9) eNil)))=j4 (xtg call hs u rec0 rec1) 0 1 9 10:=by kernel_rfl
theorem x1p8{rec0:AV->AV->AV->AV->Mem->Nat->O2}:x2gb call hs u xxz (j4 (x65 call hs u rec0) 0 1 9 10) (setE 4 (j4 (x65 call hs u rec0) 0 1 9 10) (setE 1 (j4 rec0 0 1 9 10) (setE 0 (j1 (xy call hs u) 9) eNil)))=j4 (x2b call hs u rec0 NN) 0 1 9 10:=lp (Ln:=fun n=>j4 (x2b call hs u rec0 n) 0 1 9 10) fun n=>tr x1p7
theorem x1p9{rec0:AV->AV->AV->AV->Mem->Nat->O2}:x2gb call hs u xxy (j4 (x65 call hs u rec0) 0 1 9 10) (setE 1 (j4 rec0 0 1 9 10) (setE 0 (j1 (xy call hs u) 9) eNil))=j4 (x2b call hs u rec0 NN) 0 1 9 10:=bk x1p8
theorem x1pa{rec0:AV->AV->AV->AV->Mem->Nat->O2}:x2gb call hs u xkd (j4 rec0 0 1 9 10) (setE 1 (j4 rec0 0 1 9 10) (setE 0 (j1 (xy call hs u) 9) eNil))=j4 (x2b call hs u rec0 NN) 0 1 9 10:=sq2 x1p6 x1p9
theorem x1pb{rec0:AV->AV->AV->AV->Mem->Nat->O2}{rec2:AV->AV->AV->AV->Mem->Nat->O2}:x2gb call hs u x1p4 (j4 rec2 0 1 9 10) (setE 2 (j4 (x2b call hs u rec0 NN) 0 1 9 10) (setE 1 (j4 rec0 0 1 9 10) (setE 0 (j1 (xy call hs u) 9) eNil)))=j4 (xth call hs u rec0 rec2) 0 1 9 10:=by kernel_rfl
theorem x1pc{rec0:AV->AV->AV->AV->Mem->Nat->O2}:x2gb call hs u xy0 (j4 (x2b call hs u rec0 NN) 0 1 9 10) (setE 2 (j4 (x2b call hs u rec0 NN) 0 1 9 10) (setE 1 (j4 rec0 0 1 9 10) (setE 0 (j1 (xy call hs u) 9) eNil)))=j4 (x53 call hs u rec0 NN) 0 1 9 10:=lp (Ln:=fun n=>j4 (x53 call hs u rec0 n) 0 1 9 10) fun n=>tr x1pb
theorem x1pd{rec0:AV->AV->AV->AV->Mem->Nat->O2}:x2gb call hs u xxx (j4 (x2b call hs u rec0 NN) 0 1 9 10) (setE 1 (j4 rec0 0 1 9 10) (setE 0 (j1 (xy call hs u) 9) eNil))=j4 (x53 call hs u rec0 NN) 0 1 9 10:=bk x1pc
theorem x1pe{rec0:AV->AV->AV->AV->Mem->Nat->O2}:x2gb call hs u xkc (j4 rec0 0 1 9 10) (setE 1 (j4 rec0 0 1 9 10) (setE 0 (j1 (xy call hs u) 9) eNil))=j4 (x53 call hs u rec0 NN) 0 1 9 10:=sq2 x1pa x1pd
theorem x1pf{rec0:AV->AV->AV->AV->Mem->Nat->O2}:x2gb call hs u xxw (j4 rec0 0 1 9 10) (setE 0 (j1 (xy call hs u) 9) eNil)=j4 (x53 call hs u rec0 NN) 0 1 9 10:=bk x1pe
theorem x1pg:x2gb call hs u xxv (j1 (xy call hs u) 9) (setE 0 (j1 (xy call hs u) 9) eNil)=j4 (x66 call hs u NN) 0 1 9 10:=lp (Ln:=fun n=>j4 (x66 call hs u n) 0 1 9 10) fun n=>tr x1pf
theorem x1ph:x2gb call hs u xxu (j1 (xy call hs u) 9) eNil=j4 (x66 call hs u NN) 0 1 9 10:=bk x1pg
theorem x1pi:x2gb call hs u xkb r_16 eNil=j4 (x66 call hs u NN) 0 1 9 10:=sq2 x1p5 x1ph
theorem x1gh:x2gb call hs u xxt r_16 eNil=j4 (xti call hs u) 0 1 2 3:=tr (sqN 3 x1pi)
noncomputable abbrev x2ff:=VX xbf 168 r_21
noncomputable def xy1:=x2ei xbf
noncomputable def xke:=nRs 3 xy1
noncomputable def xy2:=nL xke
noncomputable def xkf:=nR xke
noncomputable def xy3:=nL xkf
noncomputable def xy4:=nR xkf
noncomputable def xkg:=nRs 4 xy4
noncomputable def xy5:=nL xkg
noncomputable def x1pj:=nR xkg
noncomputable def xy6:=nR xy5
noncomputable def xy7:=nR xy6
noncomputable def xkh:=nR xy7
noncomputable def xy8:=nL xkh
noncomputable def xki:=nR xkh
noncomputable def xy9:=nL xki
noncomputable def x1pk:=nR xki
noncomputable def xya:=nR xy9
noncomputable def x1pl:=nR xya
noncomputable def xyb:=nR xy8
noncomputable def x1pm:=nR xyb
noncomputable def xyc:=nR xy3
noncomputable def x1pn:=nR xyc
noncomputable def xyd:=nR xy2
noncomputable def x1po:=nR xyd
theorem x1pp:x2ff call hs u x1pj r_21 eNil=j3 (xz call hs u) 0 1 11:=by kernel_rfl
theorem x1pq{rec0:AV->AV->AV->AV->Mem->Nat->O2}:x2ff call hs u x1pk (j4 rec0 0 1 10 11) (setE 5 (j4 rec0 0 1 10 11) (setE 4 (j3 (xz call hs u) 0 1 11) eNil))=j4 (x67 call hs u rec0) 0 1 10 11:=by kernel_rfl
theorem x1pr{rec0:AV->AV->AV->AV->Mem->Nat->O2}{rec1:AV->AV->AV->AV->Mem->Nat->O2}:x2ff call hs u x1pl (j4 rec1 0 1 10 11) (setE 8 (j4 (x67 call hs u rec0) 0 1 10 11) (setE 5 (j4 rec0 0 1 10 11) (setE 4 (j3 (xz call hs u) 0 1 11) eNil)))=j4 (xtj call hs u rec0 rec1) 0 1 10 11:=by kernel_rfl
theorem x1ps{rec0:AV->AV->AV->AV->Mem->Nat->O2}:x2ff call hs u xya (j4 (x67 call hs u rec0) 0 1 10 11) (setE 8 (j4 (x67 call hs u rec0) 0 1 10 11) (setE 5 (j4 rec0 0 1 10 11) (setE 4 (j3 (xz call hs u) 0 1 11) eNil)))=j4 (x2c call hs u rec0 NN) 0 1 10 11:=lp (Ln:=fun n=>j4 (x2c call hs u rec0 n) 0 1 10 11) fun n=>tr x1pr
theorem x1pt{rec0:AV->AV->AV->AV->Mem->Nat->O2}:x2ff call hs u xy9 (j4 (x67 call hs u rec0) 0 1 10 11) (setE 5 (j4 rec0 0 1 10 11) (setE 4 (j3 (xz call hs u) 0 1 11) eNil))=j4 (x2c call hs u rec0 NN) 0 1 10 11:=bk x1ps
theorem x1pu{rec0:AV->AV->AV->AV->Mem->Nat->O2}:x2ff call hs u xki (j4 rec0 0 1 10 11) (setE 5 (j4 rec0 0 1 10 11) (setE 4 (j3 (xz call hs u) 0 1 11) eNil))=j4 (x2c call hs u rec0 NN) 0 1 10 11:=sq2 x1pq x1pt
theorem x1pv{rec0:AV->AV->AV->AV->Mem->Nat->O2}{rec2:AV->AV->AV->AV->Mem->Nat->O2}:x2ff call hs u x1pm (j4 rec2 0 1 10 11) (setE 6 (j4 (x2c call hs u rec0 NN) 0 1 10 11) (setE 5 (j4 rec0 0 1 10 11) (setE 4 (j3 (xz call hs u) 0 1 11) eNil)))=j4 (xtk call hs u rec0 rec2) 0 1 10 11:=by kernel_rfl
theorem x1pw{rec0:AV->AV->AV->AV->Mem->Nat->O2}:x2ff call hs u xyb (j4 (x2c call hs u rec0 NN) 0 1 10 11) (setE 6 (j4 (x2c call hs u rec0 NN) 0 1 10 11) (setE 5 (j4 rec0 0 1 10 11) (setE 4 (j3 (xz call hs u) 0 1 11) eNil)))=j4 (x54 call hs u rec0 NN) 0 1 10 11:=lp (Ln:=fun n=>j4 (x54 call hs u rec0 n) 0 1 10 11) fun n=>tr x1pv
theorem x1px{rec0:AV->AV->AV->AV->Mem->Nat->O2}:x2ff call hs u xy8 (j4 (x2c call hs u rec0 NN) 0 1 10 11) (setE 5 (j4 rec0 0 1 10 11) (setE 4 (j3 (xz call hs u) 0 1 11) eNil))=j4 (x54 call hs u rec0 NN) 0 1 10 11:=bk x1pw
theorem x1py{rec0:AV->AV->AV->AV->Mem->Nat->O2}:x2ff call hs u xkh (j4 rec0 0 1 10 11) (setE 5 (j4 rec0 0 1 10 11) (setE 4 (j3 (xz call hs u) 0 1 11) eNil))=j4 (x54 call hs u rec0 NN) 0 1 10 11:=sq2 x1pu x1px
theorem x1pz{rec0:AV->AV->AV->AV->Mem->Nat->O2}:x2ff call hs u xy7 (j4 rec0 0 1 10 11) (setE 4 (j3 (xz call hs u) 0 1 11) eNil)=j4 (x54 call hs u rec0 NN) 0 1 10 11:=bk x1py
theorem x1q0:x2ff call hs u xy6 (j3 (xz call hs u) 0 1 11) (setE 4 (j3 (xz call hs u) 0 1 11) eNil)=j4 (x68 call hs u NN) 0 1 10 11:=lp (Ln:=fun n=>j4 (x68 call hs u n) 0 1 10 11) fun n=>tr x1pz
theorem x1q1:x2ff call hs u xy5 (j3 (xz call hs u) 0 1 11) eNil=j4 (x68 call hs u NN) 0 1 10 11:=bk x1q0
theorem x1q2:x2ff call hs u xkg r_21 eNil=j4 (x68 call hs u NN) 0 1 10 11:=sq2 x1pp x1q1
theorem x1q3:x2ff call hs u xy4 r_21 eNil=j4 (x69 call hs u) 0 1 10 11:=tr (sqN 4 x1q2)
theorem x1q4{rec3:AV->AV->AV->AV->Mem->Nat->O2}:x2ff call hs u x1pn (j4 rec3 0 1 10 11) (setE 2 (j4 (x69 call hs u) 0 1 10 11) eNil)=j4 (xtl call hs u rec3) 0 1 10 11:=by kernel_rfl
theorem x1q5:x2ff call hs u xyc (j4 (x69 call hs u) 0 1 10 11) (setE 2 (j4 (x69 call hs u) 0 1 10 11) eNil)=j4 (x2d call hs u NN) 0 1 10 11:=lp (Ln:=fun n=>j4 (x2d call hs u n) 0 1 10 11) fun n=>tr x1q4
theorem x1q6:x2ff call hs u xy3 (j4 (x69 call hs u) 0 1 10 11) eNil=j4 (x2d call hs u NN) 0 1 10 11:=bk x1q5
theorem x1q7:x2ff call hs u xkf r_21 eNil=j4 (x2d call hs u NN) 0 1 10 11:=sq2 x1q3 x1q6
theorem x1q8{rec4:AV->AV->AV->AV->Mem->Nat->O2}:x2ff call hs u x1po (j4 rec4 0 1 10 11) (setE 0 (j4 (x2d call hs u NN) 0 1 10 11) eNil)=j4 (xtm call hs u rec4) 0 1 10 11:=by kernel_rfl
theorem x1q9:x2ff call hs u xyd (j4 (x2d call hs u NN) 0 1 10 11) (setE 0 (j4 (x2d call hs u NN) 0 1 10 11) eNil)=j4 (x6a call hs u NN) 0 1 10 11:=lp (Ln:=fun n=>j4 (x6a call hs u n) 0 1 10 11) fun n=>tr x1q8
theorem x1qa:x2ff call hs u xy2 (j4 (x2d call hs u NN) 0 1 10 11) eNil=j4 (x6a call hs u NN) 0 1 10 11:=bk x1q9
theorem x1qb:x2ff call hs u xke r_21 eNil=j4 (x6a call hs u NN) 0 1 10 11:=sq2 x1q7 x1qa
theorem x1gi:x2ff call hs u xy1 r_21 eNil=j4 (xtn call hs u) 0 1 2 3:=tr (sqN 3 x1qb)
noncomputable abbrev x2kg:=VX xbg 19 r_2
noncomputable def xye:=x2ei xbg
noncomputable def xkj:=nR xye
noncomputable def x1qc:=nL xkj
noncomputable def xkk:=nR xkj
noncomputable def x1qd:=nL xkk
noncomputable def x1qe:=nR xkk
theorem x1qf:x2kg call hs u x1qe r_2 eNil=j2 (xe7 call hs u) 0 2:=by kernel_rfl
theorem x1qg:x2kg call hs u x1qd (j2 (xe7 call hs u) 0 2) eNil=j2 (x9r call hs u) 0 2:=by kernel_rfl
theorem x1qh:x2kg call hs u xkk r_2 eNil=j2 (x9r call hs u) 0 2:=sq2 x1qf x1qg
theorem x1qi:x2kg call hs u x1qc (j2 (x9r call hs u) 0 2) eNil=j2 (xix call hs u) 0 2:=by kernel_rfl
theorem x1qj:x2kg call hs u xkj r_2 eNil=j2 (xix call hs u) 0 2:=sq2 x1qh x1qi
theorem x1gj:x2kg call hs u xye r_2 eNil=j1 (xto call hs u) 0:=tr (sqN 1 x1qj)
noncomputable abbrev x2ir:=VX xbh 25 r_2
noncomputable def xyf:=x2ei xbh
noncomputable def xkl:=nR xyf
noncomputable def x1qk:=nL xkl
noncomputable def xkm:=nR xkl
noncomputable def x1ql:=nL xkm
noncomputable def xkn:=nR xkm
noncomputable def x1qm:=nL xkn
noncomputable def x1qn:=nR xkn
theorem x1qo:x2ir call hs u x1qn r_2 eNil=j2 (xe8 call hs u) 0 2:=by kernel_rfl
theorem x1qp:x2ir call hs u x1qm (j2 (xe8 call hs u) 0 2) eNil=j2 (x9s call hs u) 0 2:=by kernel_rfl
theorem x1qq:x2ir call hs u xkn r_2 eNil=j2 (x9s call hs u) 0 2:=sq2 x1qo x1qp
theorem x1qr:x2ir call hs u x1ql (j2 (x9s call hs u) 0 2) eNil=j2 (x9t call hs u) 0 2:=by kernel_rfl
theorem x1qs:x2ir call hs u xkm r_2 eNil=j2 (x9t call hs u) 0 2:=sq2 x1qq x1qr
theorem x1qt:x2ir call hs u x1qk (j2 (x9t call hs u) 0 2) eNil=j2 (xiy call hs u) 0 2:=by kernel_rfl
theorem x1qu:x2ir call hs u xkl r_2 eNil=j2 (xiy call hs u) 0 2:=sq2 x1qs x1qt
theorem x1gk:x2ir call hs u xyf r_2 eNil=j1 (xtp call hs u) 0:=tr (sqN 1 x1qu)
noncomputable abbrev x2sf:=VX x9z 6 r_0
noncomputable def x1qv:=x2ei x9z
theorem x1d3:x2sf call hs u x1qv r_0 eNil=j2 (xtq call hs u) 0 1:=by kernel_rfl
noncomputable abbrev x2sg:=VX xbi 30 r_6
noncomputable def x1qw:=x2ei xbi
theorem x1gl:x2sg call hs u x1qw r_6 eNil=j2 (xtr call hs u) 0 1:=by kernel_rfl
noncomputable abbrev x2kh:=VX xbj 58 r_17
noncomputable def xyg:=x2ei xbj
noncomputable def xko:=nRs 2 xyg
noncomputable def xyh:=nL xko
noncomputable def x1qx:=nR xko
noncomputable def xyi:=nR xyh
noncomputable def x1qy:=nR xyi
theorem x1qz:x2kh call hs u x1qx r_17 eNil=j4 (x6b call hs u) 0 2 4 10:=by kernel_rfl
theorem x1r0{rec0:AV->AV->AV->AV->AV->Mem->Nat->O2}:x2kh call hs u x1qy (j5 rec0 0 2 4 10 11) (setE 0 (j4 (x6b call hs u) 0 2 4 10) eNil)=j5 (xts call hs u rec0) 0 2 4 10 11:=by kernel_rfl
theorem x1r1:x2kh call hs u xyi (j4 (x6b call hs u) 0 2 4 10) (setE 0 (j4 (x6b call hs u) 0 2 4 10) eNil)=j5 (x6c call hs u NN) 0 2 4 10 11:=lp (Ln:=fun n=>j5 (x6c call hs u n) 0 2 4 10 11) fun n=>tr x1r0
theorem x1r2:x2kh call hs u xyh (j4 (x6b call hs u) 0 2 4 10) eNil=j5 (x6c call hs u NN) 0 2 4 10 11:=bk x1r1
theorem x1r3:x2kh call hs u xko r_17 eNil=j5 (x6c call hs u NN) 0 2 4 10 11:=sq2 x1qz x1r2
theorem x1gm:x2kh call hs u xyg r_17 eNil=j5 (xtt call hs u) 0 1 2 3 4:=tr (sqN 2 x1r3)
noncomputable abbrev x2is:=VX x6y 76 r_17
noncomputable def xyj:=x2ei x6y
noncomputable def xyk:=nR xyj
noncomputable def xyl:=nR xyk
noncomputable def xym:=nR xyl
noncomputable def xyn:=nR xym
noncomputable def xkp:=nRs 2 xyn
noncomputable def x1r4:=nL xkp
noncomputable def x1r5:=nR xkp
theorem x1r6{rec0:AV->AV->AV->AV->Mem->Nat->O2}:x2is call hs u x1r5 (j4 rec0 0 2 3 8) (setE 1 (j4 rec0 0 2 3 8) (setE 0 r_17 eNil))=j5 (xe9 call hs u rec0) 0 2 3 8 9:=by kernel_rfl
theorem x1r7{rec0:AV->AV->AV->AV->Mem->Nat->O2}:x2is call hs u x1r4 (j5 (xe9 call hs u rec0) 0 2 3 8 9) (setE 1 (j4 rec0 0 2 3 8) (setE 0 r_17 eNil))=j5 (xiz call hs u rec0) 0 2 3 8 9:=by kernel_rfl
theorem x1r8{rec0:AV->AV->AV->AV->Mem->Nat->O2}:x2is call hs u xkp (j4 rec0 0 2 3 8) (setE 1 (j4 rec0 0 2 3 8) (setE 0 r_17 eNil))=j5 (xiz call hs u rec0) 0 2 3 8 9:=sq2 x1r6 x1r7
theorem x1r9{rec0:AV->AV->AV->AV->Mem->Nat->O2}:x2is call hs u xyn (j4 rec0 0 2 3 8) (setE 1 (j4 rec0 0 2 3 8) (setE 0 r_17 eNil))=j4 (xj0 call hs u rec0) 0 2 3 8:=tr (sqN 2 x1r8)
theorem x1ra{rec0:AV->AV->AV->AV->Mem->Nat->O2}:x2is call hs u xym (j4 rec0 0 2 3 8) (setE 0 r_17 eNil)=j4 (xj0 call hs u rec0) 0 2 3 8:=bk x1r9
theorem x1rb:x2is call hs u xyl r_17 (setE 0 r_17 eNil)=j4 (x9u call hs u NN) 0 2 3 8:=lp (Ln:=fun n=>j4 (x9u call hs u n) 0 2 3 8) fun n=>tr x1ra
theorem x1rc:x2is call hs u xyk r_17 eNil=j4 (x9u call hs u NN) 0 2 3 8:=bk x1rb
theorem x1gn:x2is call hs u xyj r_17 eNil=j4 (xtu call hs u) 0 1 2 3:=tr (sqN 1 x1rc)
noncomputable abbrev x2sh:=VX xbk 7 r_2
noncomputable def x1rd:=x2ei xbk
theorem x1go:x2sh call hs u x1rd r_2 eNil=j1 (xtv call hs u) 0:=by kernel_rfl
noncomputable abbrev x2si:=VX xbl 33 r_2
noncomputable def x1re:=x2ei xbl
theorem x1gp:x2si call hs u x1re r_2 eNil=j1 (xtw call hs u) 0:=by kernel_rfl
noncomputable abbrev x2sj:=VX x5i 15 r_1
noncomputable def x1rf:=x2ei x5i
theorem x1gq:x2sj call hs u x1rf r_1 eNil=j3 (xtx call hs u) 0 1 2:=by kernel_rfl
noncomputable abbrev x2sk:=VX x6z 36 r_22
noncomputable def x1rg:=x2ei x6z
theorem x1gr:x2sk call hs u x1rg r_22 eNil=j5 (xty call hs u) 0 1 2 3 4:=by kernel_rfl
noncomputable abbrev x2sl:=VX x70 6 r_2
noncomputable def x1rh:=x2ei x70
theorem x1gs:x2sl call hs u x1rh r_2 eNil=j1 (xtz call hs u) 0:=by kernel_rfl
noncomputable abbrev x2h9:=VX x9x 76 r_17
noncomputable def xyo:=x2ei x9x
noncomputable def xyp:=nR xyo
noncomputable def xyq:=nR xyp
noncomputable def xyr:=nR xyq
noncomputable def xkq:=nRs 2 xyr
noncomputable def xys:=nL xkq
noncomputable def x1ri:=nR xkq
noncomputable def xyt:=nR xys
noncomputable def xkr:=nRs 3 xyt
noncomputable def x1rj:=nL xkr
noncomputable def x1rk:=nR xkr
theorem x1rl{rec0:AV->AV->AV->AV->AV->AV->Mem->Nat->O2}:x2h9 call hs u x1ri (j6 rec0 0 1 2 14 15 16) (setE 0 r_17 eNil)=j6 (x2e call hs u rec0) 0 1 2 14 15 16:=by kernel_rfl
theorem x1rm{rec0:AV->AV->AV->AV->AV->AV->Mem->Nat->O2}:x2h9 call hs u x1rk (j6 (x2e call hs u rec0) 0 1 2 14 15 16) (setE 1 (j6 (x2e call hs u rec0) 0 1 2 14 15 16) (setE 0 r_17 eNil))=j7 (xea call hs u rec0) 0 1 2 7 14 15 16:=by kernel_rfl
theorem x1rn{rec0:AV->AV->AV->AV->AV->AV->Mem->Nat->O2}:x2h9 call hs u x1rj (j7 (xea call hs u rec0) 0 1 2 7 14 15 16) (setE 1 (j6 (x2e call hs u rec0) 0 1 2 14 15 16) (setE 0 r_17 eNil))=j9 (xj1 call hs u rec0) 0 1 2 5 6 7 14 15 16:=by kernel_rfl
theorem x1ro{rec0:AV->AV->AV->AV->AV->AV->Mem->Nat->O2}:x2h9 call hs u xkr (j6 (x2e call hs u rec0) 0 1 2 14 15 16) (setE 1 (j6 (x2e call hs u rec0) 0 1 2 14 15 16) (setE 0 r_17 eNil))=j9 (xj1 call hs u rec0) 0 1 2 5 6 7 14 15 16:=sq2 x1rm x1rn
theorem x1rp{rec0:AV->AV->AV->AV->AV->AV->Mem->Nat->O2}:x2h9 call hs u xyt (j6 (x2e call hs u rec0) 0 1 2 14 15 16) (setE 1 (j6 (x2e call hs u rec0) 0 1 2 14 15 16) (setE 0 r_17 eNil))=j6 (xeb call hs u rec0) 0 1 2 14 15 16:=tr (sqN 3 x1ro)
theorem x1rq{rec0:AV->AV->AV->AV->AV->AV->Mem->Nat->O2}:x2h9 call hs u xys (j6 (x2e call hs u rec0) 0 1 2 14 15 16) (setE 0 r_17 eNil)=j6 (xeb call hs u rec0) 0 1 2 14 15 16:=bk x1rp
theorem x1rr{rec0:AV->AV->AV->AV->AV->AV->Mem->Nat->O2}:x2h9 call hs u xkq (j6 rec0 0 1 2 14 15 16) (setE 0 r_17 eNil)=j6 (xeb call hs u rec0) 0 1 2 14 15 16:=sq2 x1rl x1rq
theorem x1rs{rec0:AV->AV->AV->AV->AV->AV->Mem->Nat->O2}:x2h9 call hs u xyr (j6 rec0 0 1 2 14 15 16) (setE 0 r_17 eNil)=j6 (xu0 call hs u rec0) 0 1 2 14 15 16:=tr (sqN 2 x1rr)
theorem x1rt:x2h9 call hs u xyq r_17 (setE 0 r_17 eNil)=j6 (x9v call hs u NN) 0 1 2 14 15 16:=lp (Ln:=fun n=>j6 (x9v call hs u n) 0 1 2 14 15 16) fun n=>tr x1rs
theorem x1ru:x2h9 call hs u xyp r_17 eNil=j6 (x9v call hs u NN) 0 1 2 14 15 16:=bk x1rt
theorem x1cz:x2h9 call hs u xyo r_17 eNil=j3 (xu1 call hs u) 0 1 2:=tr (sqN 1 x1ru)
noncomputable abbrev x2sm:=VX xbm 17 r_6
noncomputable def x1rv:=x2ei xbm
theorem x1gt:x2sm call hs u x1rv r_6 eNil=j2 (xu2 call hs u) 0 1:=by kernel_rfl
noncomputable abbrev x2sn:=VX xa1 51 r_6
noncomputable def x1rw:=x2ei xa1
theorem x1d5:x2sn call hs u x1rw r_6 eNil=j2 (xu3 call hs u) 0 1:=by kernel_rfl
noncomputable abbrev x2m4:=VX x5j 38 r_17
noncomputable def xyu:=x2ei x5j
noncomputable def xyv:=nR xyu
noncomputable def xyw:=nR xyv
noncomputable def x1rx:=nR xyw
theorem x1ry{rec0:AV->AV->AV->AV->AV->Mem->Nat->O2}:x2m4 call hs u x1rx (j5 rec0 0 1 2 3 10) (setE 0 r_17 eNil)=j5 (xu4 call hs u rec0) 0 1 2 3 10:=by kernel_rfl
theorem x1rz:x2m4 call hs u xyw r_17 (setE 0 r_17 eNil)=j5 (x9w call hs u NN) 0 1 2 3 10:=lp (Ln:=fun n=>j5 (x9w call hs u n) 0 1 2 3 10) fun n=>tr x1ry
theorem x1s0:x2m4 call hs u xyv r_17 eNil=j5 (x9w call hs u NN) 0 1 2 3 10:=bk x1rz
theorem x1gu:x2m4 call hs u xyu r_17 eNil=j4 (xu5 call hs u) 0 1 2 3:=tr (sqN 1 x1s0)
noncomputable abbrev x2so:=VX x5k 28 r_21
noncomputable def x1s1:=x2ei x5k
theorem x1gv:x2so call hs u x1s1 r_21 eNil=j4 (xu6 call hs u) 0 1 2 3:=by kernel_rfl
end Go.Ix
