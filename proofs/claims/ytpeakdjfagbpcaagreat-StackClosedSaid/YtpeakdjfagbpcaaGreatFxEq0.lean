import Derived.Test.YtpeakdjfagbpcaaGreatFxText0
import Derived.Test.YtpeakdjfagbpcaaGreatFxText1
import Derived.Test.YtpeakdjfagbpcaaGreatFxEnt
import Derived.Test.YtpeakdjfagbpcaaGreatFxRules
import Derived.Test.YtpeakdjfagbpcaaGreatFxProj
import Derived.ProofKit
set_option linter.unusedVariables false
namespace Go.Ix
open Go.Proofs
variable{call:x2f5}{hs:FHs}{u:Nat}
noncomputable abbrev x2iz:=VX xf8 135 r_0
noncomputable def xzz:=x2fa xf8
noncomputable def xmz:=nRs 5 xzz
noncomputable def x1t2:=nL xmz
noncomputable def x100:=nR xmz
noncomputable def xn0:=nRs 4 x100
noncomputable def x101:=nL xn0
noncomputable def x1t3:=nR xn0
noncomputable def x102:=nR x101
noncomputable def x103:=nR x102
noncomputable def x1t4:=nR x103
theorem x1t5:x2iz call hs u x1t3 r_0 eNil=j0 (x59 call hs u):=by kernel_rfl
theorem x1t6{rec0:AV->AV->AV->Mem->Nat->O2}:x2iz call hs u x1t4 (j3 rec0 2 5 11) (setE 0 (j0 (x59 call hs u)) eNil)=j3 (xq4 call hs u rec0) 2 5 11:=by kernel_rfl
theorem x1t7:x2iz call hs u x103 (j0 (x59 call hs u)) (setE 0 (j0 (x59 call hs u)) eNil)=j3 (x7x call hs u NN) 2 5 11:=lp (Ln:=fun n=>j3 (x7x call hs u n) 2 5 11) fun n=>tr x1t6
theorem x1t8:x2iz call hs u x102 (j0 (x59 call hs u)) eNil=j3 (x7x call hs u NN) 2 5 11:=bk x1t7
theorem x1t9:x2iz call hs u x101 (j0 (x59 call hs u)) eNil=j2 (xh2 call hs u) 2 5:=tr (sqN 1 x1t8)
theorem x1ta:x2iz call hs u xn0 r_0 eNil=j2 (xh2 call hs u) 2 5:=sq2 x1t5 x1t9
theorem x1tb:x2iz call hs u x100 r_0 eNil=j6 (xc3 call hs u) 1 2 5 6 7 8:=tr (sqN 4 x1ta)
theorem x1tc:x2iz call hs u x1t2 (j6 (xc3 call hs u) 1 2 5 6 7 8) eNil=j6 (xh3 call hs u) 1 2 5 6 7 8:=by kernel_rfl
theorem x1td:x2iz call hs u xmz r_0 eNil=j6 (xh3 call hs u) 1 2 5 6 7 8:=sq2 x1tb x1tc
theorem x1e8:x2iz call hs u xzz r_0 eNil=j2 (xq5 call hs u) 0 1:=tr (sqN 5 x1td)
noncomputable abbrev x2j0:=VX xf9 88 r_1
noncomputable def x104:=x2fa xf9
noncomputable def xn1:=nRs 3 x104
noncomputable def x105:=nL xn1
noncomputable def x106:=nR xn1
noncomputable def xn2:=nRs 2 x106
noncomputable def x1te:=nL xn2
noncomputable def x1tf:=nR xn2
noncomputable def x107:=nR x105
noncomputable def x108:=nR x107
noncomputable def x1tg:=nR x108
theorem x1th:x2j0 call hs u x1tf r_1 eNil=j6 (xc4 call hs u) 0 1 2 8 9 11:=by kernel_rfl
theorem x1ti:x2j0 call hs u x1te (j6 (xc4 call hs u) 0 1 2 8 9 11) eNil=j6 (xh4 call hs u) 0 1 2 8 9 11:=by kernel_rfl
theorem x1tj:x2j0 call hs u xn2 r_1 eNil=j6 (xh4 call hs u) 0 1 2 8 9 11:=sq2 x1th x1ti
theorem x1tk:x2j0 call hs u x106 r_1 eNil=j3 (x5a call hs u) 0 1 2:=tr (sqN 2 x1tj)
theorem x1tl{rec0:AV->AV->AV->AV->Mem->Nat->O2}:x2j0 call hs u x1tg (j4 rec0 0 1 2 7) (setE 0 (j3 (x5a call hs u) 0 1 2) eNil)=j4 (xq6 call hs u rec0) 0 1 2 7:=by kernel_rfl
theorem x1tm:x2j0 call hs u x108 (j3 (x5a call hs u) 0 1 2) (setE 0 (j3 (x5a call hs u) 0 1 2) eNil)=j4 (x7y call hs u NN) 0 1 2 7:=lp (Ln:=fun n=>j4 (x7y call hs u n) 0 1 2 7) fun n=>tr x1tl
theorem x1tn:x2j0 call hs u x107 (j3 (x5a call hs u) 0 1 2) eNil=j4 (x7y call hs u NN) 0 1 2 7:=bk x1tm
theorem x1to:x2j0 call hs u x105 (j3 (x5a call hs u) 0 1 2) eNil=j3 (xh5 call hs u) 0 1 2:=tr (sqN 1 x1tn)
theorem x1tp:x2j0 call hs u xn1 r_1 eNil=j3 (xh5 call hs u) 0 1 2:=sq2 x1tk x1to
theorem x1e9:x2j0 call hs u x104 r_1 eNil=j3 (xq7 call hs u) 0 1 2:=tr (sqN 3 x1tp)
noncomputable abbrev x2o4:=VX xfa 42 r_0
noncomputable def x109:=x2fa xfa
noncomputable def xn3:=nRs 5 x109
noncomputable def x1tq:=nL xn3
noncomputable def x1tr:=nR xn3
theorem x1ts:x2o4 call hs u x1tr r_0 eNil=j2 (xc5 call hs u) 5 6:=by kernel_rfl
theorem x1tt:x2o4 call hs u x1tq (j2 (xc5 call hs u) 5 6) eNil=j4 (xh6 call hs u) 1 2 5 6:=by kernel_rfl
theorem x1tu:x2o4 call hs u xn3 r_0 eNil=j4 (xh6 call hs u) 1 2 5 6:=sq2 x1ts x1tt
theorem x1ea:x2o4 call hs u x109 r_0 eNil=j2 (xq8 call hs u) 0 1:=tr (sqN 5 x1tu)
noncomputable abbrev x2vp:=VX x7i 83 r_1
noncomputable def x1tv:=x2fa x7i
theorem x1eb:x2vp call hs u x1tv r_1 eNil=j3 (xh7 call hs u) 0 1 2:=by kernel_rfl
noncomputable abbrev x2vq:=VX x2l 82 r_2
noncomputable def x1tw:=x2fa x2l
theorem x1ec:x2vq call hs u x1tw r_2 eNil=j0 (xq9 call hs u):=by kernel_rfl
noncomputable abbrev x2kv:=VX x34 63 r_3
noncomputable def x10a:=x2fa x34
noncomputable def xn4:=nRs 3 x10a
noncomputable def x10b:=nL xn4
noncomputable def x1tx:=nR xn4
noncomputable def x10c:=nR x10b
noncomputable def x10d:=nR x10c
noncomputable def x1ty:=nR x10d
theorem x1tz:x2kv call hs u x1tx r_3 eNil=j0 (x3g call hs u):=by kernel_rfl
theorem x1u0{rec0:AV->AV->Mem->Nat->O2}:x2kv call hs u x1ty (j2 rec0 1 3) (setE 0 (j0 (x3g call hs u)) eNil)=j2 (xc6 call hs u rec0) 1 3:=by kernel_rfl
theorem x1u1:x2kv call hs u x10d (j0 (x3g call hs u)) (setE 0 (j0 (x3g call hs u)) eNil)=j2 (x3h call hs u NN) 1 3:=lp (Ln:=fun n=>j2 (x3h call hs u n) 1 3) fun n=>tr x1u0
theorem x1u2:x2kv call hs u x10c (j0 (x3g call hs u)) eNil=j2 (x3h call hs u NN) 1 3:=bk x1u1
theorem x1u3:x2kv call hs u x10b (j0 (x3g call hs u)) eNil=j1 (x7z call hs u) 1:=tr (sqN 1 x1u2)
theorem x1u4:x2kv call hs u xn4 r_3 eNil=j1 (x7z call hs u) 1:=sq2 x1tz x1u3
theorem x1ed:x2kv call hs u x10a r_3 eNil=j1 (xh8 call hs u) 0:=tr (sqN 3 x1u4)
noncomputable abbrev x2gs:=VX x2m 90 r_4
noncomputable def x10e:=x2fa x2m
noncomputable def xn5:=nRs 5 x10e
noncomputable def x10f:=nL xn5
noncomputable def x10g:=nR xn5
noncomputable def xn6:=nRs 3 x10g
noncomputable def x10h:=nL xn6
noncomputable def x1u5:=nR xn6
noncomputable def x10i:=nR x10h
noncomputable def x10j:=nR x10i
noncomputable def x10k:=nR x10j
noncomputable def xn7:=nRs 2 x10k
noncomputable def x1u6:=nL xn7
noncomputable def x1u7:=nR xn7
noncomputable def x10l:=nR x10f
noncomputable def x10m:=nR x10l
noncomputable def x10n:=nR x10m
noncomputable def xn8:=nRs 2 x10n
noncomputable def x1u8:=nL xn8
noncomputable def x1u9:=nR xn8
theorem x1ua:x2gs call hs u x1u5 r_4 eNil=j1 (x1j call hs u) 14:=by kernel_rfl
theorem x1ub{rec0:AV->AV->AV->AV->AV->AV->AV->Mem->Nat->O2}:x2gs call hs u x1u7 (j7 rec0 1 12 13 14 60 61 62) (setE 2 (j1 (x1j call hs u) 14) eNil)=j7 (x6p call hs u rec0) 1 12 13 14 60 61 62:=by kernel_rfl
theorem x1uc{rec0:AV->AV->AV->AV->AV->AV->AV->Mem->Nat->O2}:x2gs call hs u x1u6 (j7 (x6p call hs u rec0) 1 12 13 14 60 61 62) (setE 2 (j1 (x1j call hs u) 14) eNil)=j7 (xc7 call hs u rec0) 1 12 13 14 60 61 62:=by kernel_rfl
theorem x1ud{rec0:AV->AV->AV->AV->AV->AV->AV->Mem->Nat->O2}:x2gs call hs u xn7 (j7 rec0 1 12 13 14 60 61 62) (setE 2 (j1 (x1j call hs u) 14) eNil)=j7 (xc7 call hs u rec0) 1 12 13 14 60 61 62:=sq2 x1ub x1uc
theorem x1ue{rec0:AV->AV->AV->AV->AV->AV->AV->Mem->Nat->O2}:x2gs call hs u x10k (j7 rec0 1 12 13 14 60 61 62) (setE 2 (j1 (x1j call hs u) 14) eNil)=j7 (xc8 call hs u rec0) 1 12 13 14 60 61 62:=tr (sqN 2 x1ud)
theorem x1uf:x2gs call hs u x10j (j1 (x1j call hs u) 14) (setE 2 (j1 (x1j call hs u) 14) eNil)=j7 (x3i call hs u NN) 1 12 13 14 60 61 62:=lp (Ln:=fun n=>j7 (x3i call hs u n) 1 12 13 14 60 61 62) fun n=>tr x1ue
theorem x1ug:x2gs call hs u x10i (j1 (x1j call hs u) 14) eNil=j7 (x3i call hs u NN) 1 12 13 14 60 61 62:=bk x1uf
theorem x1uh:x2gs call hs u x10h (j1 (x1j call hs u) 14) eNil=j4 (xc9 call hs u) 1 12 13 14:=tr (sqN 1 x1ug)
theorem x1ui:x2gs call hs u xn6 r_4 eNil=j4 (xc9 call hs u) 1 12 13 14:=sq2 x1ua x1uh
theorem x1uj:x2gs call hs u x10g r_4 eNil=j4 (x1k call hs u) 1 2 8 9:=tr (sqN 3 x1ui)
theorem x1uk{rec1:AV->AV->AV->AV->AV->AV->AV->Mem->Nat->O2}:x2gs call hs u x1u9 (j7 rec1 1 2 8 9 36 37 38) (setE 0 (j4 (x1k call hs u) 1 2 8 9) eNil)=j7 (x6q call hs u rec1) 1 2 8 9 36 37 38:=by kernel_rfl
theorem x1ul{rec1:AV->AV->AV->AV->AV->AV->AV->Mem->Nat->O2}:x2gs call hs u x1u8 (j7 (x6q call hs u rec1) 1 2 8 9 36 37 38) (setE 0 (j4 (x1k call hs u) 1 2 8 9) eNil)=j7 (xca call hs u rec1) 1 2 8 9 36 37 38:=by kernel_rfl
theorem x1um{rec1:AV->AV->AV->AV->AV->AV->AV->Mem->Nat->O2}:x2gs call hs u xn8 (j7 rec1 1 2 8 9 36 37 38) (setE 0 (j4 (x1k call hs u) 1 2 8 9) eNil)=j7 (xca call hs u rec1) 1 2 8 9 36 37 38:=sq2 x1uk x1ul
theorem x1un{rec1:AV->AV->AV->AV->AV->AV->AV->Mem->Nat->O2}:x2gs call hs u x10n (j7 rec1 1 2 8 9 36 37 38) (setE 0 (j4 (x1k call hs u) 1 2 8 9) eNil)=j7 (xcb call hs u rec1) 1 2 8 9 36 37 38:=tr (sqN 2 x1um)
theorem x1uo:x2gs call hs u x10m (j4 (x1k call hs u) 1 2 8 9) (setE 0 (j4 (x1k call hs u) 1 2 8 9) eNil)=j7 (x3j call hs u NN) 1 2 8 9 36 37 38:=lp (Ln:=fun n=>j7 (x3j call hs u n) 1 2 8 9 36 37 38) fun n=>tr x1un
theorem x1up:x2gs call hs u x10l (j4 (x1k call hs u) 1 2 8 9) eNil=j7 (x3j call hs u NN) 1 2 8 9 36 37 38:=bk x1uo
theorem x1uq:x2gs call hs u x10f (j4 (x1k call hs u) 1 2 8 9) eNil=j4 (xcc call hs u) 1 2 8 9:=tr (sqN 1 x1up)
theorem x1ur:x2gs call hs u xn5 r_4 eNil=j4 (xcc call hs u) 1 2 8 9:=sq2 x1uj x1uq
theorem x1ee:x2gs call hs u x10e r_4 eNil=j2 (xh9 call hs u) 0 1:=tr (sqN 5 x1ur)
noncomputable abbrev x2vr:=VX x1a 13 r_5
noncomputable def x1us:=x2fa x1a
theorem x1ef:x2vr call hs u x1us r_5 eNil=j1 (xcd call hs u) 0:=by kernel_rfl
noncomputable abbrev x2i5:=VX x2n 58 r_3
noncomputable def x10o:=x2fa x2n
noncomputable def xn9:=nRs 3 x10o
noncomputable def x10p:=nL xn9
noncomputable def xna:=nR xn9
noncomputable def x10q:=nL xna
noncomputable def x1ut:=nR xna
noncomputable def x10r:=nR x10q
noncomputable def x10s:=nR x10r
noncomputable def x1uu:=nR x10s
noncomputable def x10t:=nR x10p
noncomputable def x10u:=nR x10t
noncomputable def x1uv:=nR x10u
theorem x1uw:x2i5 call hs u x1ut r_3 eNil=j0 (x3k call hs u):=by kernel_rfl
theorem x1ux{rec0:AV->AV->Mem->Nat->O2}:x2i5 call hs u x1uu (j2 rec0 1 5) (setE 2 (j0 (x3k call hs u)) eNil)=j2 (xce call hs u rec0) 1 5:=by kernel_rfl
theorem x1uy:x2i5 call hs u x10s (j0 (x3k call hs u)) (setE 2 (j0 (x3k call hs u)) eNil)=j2 (x3l call hs u NN) 1 5:=lp (Ln:=fun n=>j2 (x3l call hs u n) 1 5) fun n=>tr x1ux
theorem x1uz:x2i5 call hs u x10r (j0 (x3k call hs u)) eNil=j2 (x3l call hs u NN) 1 5:=bk x1uy
theorem x1v0:x2i5 call hs u x10q (j0 (x3k call hs u)) eNil=j1 (x2t call hs u) 1:=tr (sqN 1 x1uz)
theorem x1v1:x2i5 call hs u xna r_3 eNil=j1 (x2t call hs u) 1:=sq2 x1uw x1v0
theorem x1v2{rec1:AV->AV->Mem->Nat->O2}:x2i5 call hs u x1uv (j2 rec1 1 4) (setE 0 (j1 (x2t call hs u) 1) eNil)=j2 (xcf call hs u rec1) 1 4:=by kernel_rfl
theorem x1v3:x2i5 call hs u x10u (j1 (x2t call hs u) 1) (setE 0 (j1 (x2t call hs u) 1) eNil)=j2 (x3m call hs u NN) 1 4:=lp (Ln:=fun n=>j2 (x3m call hs u n) 1 4) fun n=>tr x1v2
theorem x1v4:x2i5 call hs u x10t (j1 (x2t call hs u) 1) eNil=j2 (x3m call hs u NN) 1 4:=bk x1v3
theorem x1v5:x2i5 call hs u x10p (j1 (x2t call hs u) 1) eNil=j1 (xcg call hs u) 1:=tr (sqN 1 x1v4)
theorem x1v6:x2i5 call hs u xn9 r_3 eNil=j1 (xcg call hs u) 1:=sq2 x1v1 x1v5
theorem x1eg:x2i5 call hs u x10o r_3 eNil=j1 (xha call hs u) 0:=tr (sqN 3 x1v6)
noncomputable abbrev x2vs:=VX xm 15 r_1
noncomputable def x1v7:=x2fa xm
theorem x1eh:x2vs call hs u x1v7 r_1 eNil=j3 (xhb call hs u) 0 1 2:=by kernel_rfl
noncomputable abbrev x2gt:=VX xav 79 r_6
noncomputable def x10v:=x2fa xav
noncomputable def xnb:=nRs 3 x10v
noncomputable def x10w:=nL xnb
noncomputable def x10x:=nR xnb
noncomputable def xnc:=nRs 4 x10x
noncomputable def x10y:=nL xnc
noncomputable def x1v8:=nR xnc
noncomputable def x10z:=nR x10y
noncomputable def x110:=nR x10z
noncomputable def x111:=nR x110
noncomputable def xnd:=nR x111
noncomputable def x1v9:=nL xnd
noncomputable def x1va:=nR xnd
noncomputable def x112:=nR x10w
noncomputable def x113:=nR x112
noncomputable def x114:=nR x113
noncomputable def xne:=nR x114
noncomputable def x1vb:=nL xne
noncomputable def x1vc:=nR xne
theorem x1vd:x2gt call hs u x1v8 r_6 eNil=j1 (x1v call hs u) 13:=by kernel_rfl
theorem x1ve{rec0:AV->AV->AV->AV->AV->Mem->Nat->O2}:x2gt call hs u x1va (j5 rec0 1 11 12 13 14) (setE 2 (j1 (x1v call hs u) 13) eNil)=j5 (xch call hs u rec0) 1 11 12 13 14:=by kernel_rfl
theorem x1vf{rec0:AV->AV->AV->AV->AV->Mem->Nat->O2}:x2gt call hs u x1v9 (j5 (xch call hs u rec0) 1 11 12 13 14) (setE 2 (j1 (x1v call hs u) 13) eNil)=j5 (xhc call hs u rec0) 1 11 12 13 14:=by kernel_rfl
theorem x1vg{rec0:AV->AV->AV->AV->AV->Mem->Nat->O2}:x2gt call hs u xnd (j5 rec0 1 11 12 13 14) (setE 2 (j1 (x1v call hs u) 13) eNil)=j5 (xhc call hs u rec0) 1 11 12 13 14:=sq2 x1ve x1vf
theorem x1vh{rec0:AV->AV->AV->AV->AV->Mem->Nat->O2}:x2gt call hs u x111 (j5 rec0 1 11 12 13 14) (setE 2 (j1 (x1v call hs u) 13) eNil)=j5 (xqa call hs u rec0) 1 11 12 13 14:=tr (sqN 1 x1vg)
theorem x1vi:x2gt call hs u x110 (j1 (x1v call hs u) 13) (setE 2 (j1 (x1v call hs u) 13) eNil)=j5 (x80 call hs u NN) 1 11 12 13 14:=lp (Ln:=fun n=>j5 (x80 call hs u n) 1 11 12 13 14) fun n=>tr x1vh
theorem x1vj:x2gt call hs u x10z (j1 (x1v call hs u) 13) eNil=j5 (x80 call hs u NN) 1 11 12 13 14:=bk x1vi
theorem x1vk:x2gt call hs u x10y (j1 (x1v call hs u) 13) eNil=j4 (xhd call hs u) 1 11 12 13:=tr (sqN 1 x1vj)
theorem x1vl:x2gt call hs u xnc r_6 eNil=j4 (xhd call hs u) 1 11 12 13:=sq2 x1vd x1vk
theorem x1vm:x2gt call hs u x10x r_6 eNil=j3 (x1w call hs u) 1 2 7:=tr (sqN 4 x1vl)
theorem x1vn{rec1:AV->AV->AV->AV->AV->Mem->Nat->O2}:x2gt call hs u x1vc (j5 rec1 1 2 6 7 8) (setE 0 (j3 (x1w call hs u) 1 2 7) eNil)=j5 (xci call hs u rec1) 1 2 6 7 8:=by kernel_rfl
theorem x1vo{rec1:AV->AV->AV->AV->AV->Mem->Nat->O2}:x2gt call hs u x1vb (j5 (xci call hs u rec1) 1 2 6 7 8) (setE 0 (j3 (x1w call hs u) 1 2 7) eNil)=j5 (xhe call hs u rec1) 1 2 6 7 8:=by kernel_rfl
theorem x1vp{rec1:AV->AV->AV->AV->AV->Mem->Nat->O2}:x2gt call hs u xne (j5 rec1 1 2 6 7 8) (setE 0 (j3 (x1w call hs u) 1 2 7) eNil)=j5 (xhe call hs u rec1) 1 2 6 7 8:=sq2 x1vn x1vo
theorem x1vq{rec1:AV->AV->AV->AV->AV->Mem->Nat->O2}:x2gt call hs u x114 (j5 rec1 1 2 6 7 8) (setE 0 (j3 (x1w call hs u) 1 2 7) eNil)=j5 (xqb call hs u rec1) 1 2 6 7 8:=tr (sqN 1 x1vp)
theorem x1vr:x2gt call hs u x113 (j3 (x1w call hs u) 1 2 7) (setE 0 (j3 (x1w call hs u) 1 2 7) eNil)=j5 (x81 call hs u NN) 1 2 6 7 8:=lp (Ln:=fun n=>j5 (x81 call hs u n) 1 2 6 7 8) fun n=>tr x1vq
theorem x1vs:x2gt call hs u x112 (j3 (x1w call hs u) 1 2 7) eNil=j5 (x81 call hs u NN) 1 2 6 7 8:=bk x1vr
theorem x1vt:x2gt call hs u x10w (j3 (x1w call hs u) 1 2 7) eNil=j4 (xhf call hs u) 1 2 6 7:=tr (sqN 1 x1vs)
theorem x1vu:x2gt call hs u xnb r_6 eNil=j4 (xhf call hs u) 1 2 6 7:=sq2 x1vm x1vt
theorem x1ei:x2gt call hs u x10v r_6 eNil=j2 (xqc call hs u) 0 1:=tr (sqN 3 x1vu)
noncomputable abbrev x2kw:=VX x2o 26 r_0
noncomputable def x115:=x2fa x2o
noncomputable def xnf:=nRs 2 x115
noncomputable def x116:=nL xnf
noncomputable def x1vv:=nR xnf
noncomputable def x117:=nR x116
noncomputable def x118:=nR x117
noncomputable def x1vw:=nR x118
theorem x1vx:x2kw call hs u x1vv r_0 eNil=j0 (x5b call hs u):=by kernel_rfl
theorem x1vy{rec0:AV->AV->AV->Mem->Nat->O2}:x2kw call hs u x1vw (j3 rec0 0 1 5) (setE 0 (j0 (x5b call hs u)) eNil)=j3 (xqd call hs u rec0) 0 1 5:=by kernel_rfl
theorem x1vz:x2kw call hs u x118 (j0 (x5b call hs u)) (setE 0 (j0 (x5b call hs u)) eNil)=j3 (x82 call hs u NN) 0 1 5:=lp (Ln:=fun n=>j3 (x82 call hs u n) 0 1 5) fun n=>tr x1vy
theorem x1w0:x2kw call hs u x117 (j0 (x5b call hs u)) eNil=j3 (x82 call hs u NN) 0 1 5:=bk x1vz
theorem x1w1:x2kw call hs u x116 (j0 (x5b call hs u)) eNil=j2 (xhg call hs u) 0 1:=tr (sqN 1 x1w0)
theorem x1w2:x2kw call hs u xnf r_0 eNil=j2 (xhg call hs u) 0 1:=sq2 x1vx x1w1
theorem x1ej:x2kw call hs u x115 r_0 eNil=j2 (xqe call hs u) 0 1:=tr (sqN 2 x1w2)
noncomputable abbrev x2h1:=VX xaw 77 r_7
noncomputable def x119:=x2fa xaw
noncomputable def xng:=nRs 4 x119
noncomputable def x11a:=nL xng
noncomputable def x1w3:=nR xng
noncomputable def x11b:=nR x11a
noncomputable def x11c:=nR x11b
noncomputable def x11d:=nR x11c
noncomputable def xnh:=nRs 2 x11d
noncomputable def x11e:=nL xnh
noncomputable def x1w4:=nR xnh
noncomputable def x11f:=nR x11e
noncomputable def x11g:=nRs 2 x11f
noncomputable def x11h:=nR x11g
noncomputable def x11i:=nR x11h
noncomputable def xni:=nR x11i
noncomputable def x1w5:=nL xni
noncomputable def x1w6:=nR xni
theorem x1w7:x2h1 call hs u x1w3 r_7 eNil=j1 (xn call hs u) 10:=by kernel_rfl
theorem x1w8{rec0:AV->AV->AV->AV->AV->AV->AV->Mem->Nat->O2}:x2h1 call hs u x1w4 (j7 rec0 0 1 2 10 31 32 33) (setE 0 (j1 (xn call hs u) 10) eNil)=j7 (xg call hs u rec0) 0 1 2 10 31 32 33:=by kernel_rfl
theorem x1w9{rec0:AV->AV->AV->AV->AV->AV->AV->Mem->Nat->O2}{rec1:AV->AV->AV->AV->AV->AV->AV->AV->AV->AV->Mem->Nat->O2}:x2h1 call hs u x1w6 (j10 rec1 0 1 2 10 11 12 13 31 32 33) (setE 2 (j7 (xg call hs u rec0) 0 1 2 10 31 32 33) (setE 1 (j7 (xg call hs u rec0) 0 1 2 10 31 32 33) (setE 0 (j1 (xn call hs u) 10) eNil)))=j10 (xcj call hs u rec0 rec1) 0 1 2 10 11 12 13 31 32 33:=by kernel_rfl
theorem x1wa{rec0:AV->AV->AV->AV->AV->AV->AV->Mem->Nat->O2}{rec1:AV->AV->AV->AV->AV->AV->AV->AV->AV->AV->Mem->Nat->O2}:x2h1 call hs u x1w5 (j10 (xcj call hs u rec0 rec1) 0 1 2 10 11 12 13 31 32 33) (setE 2 (j7 (xg call hs u rec0) 0 1 2 10 31 32 33) (setE 1 (j7 (xg call hs u rec0) 0 1 2 10 31 32 33) (setE 0 (j1 (xn call hs u) 10) eNil)))=j10 (xhh call hs u rec0 rec1) 0 1 2 10 11 12 13 31 32 33:=by kernel_rfl
theorem x1wb{rec0:AV->AV->AV->AV->AV->AV->AV->Mem->Nat->O2}{rec1:AV->AV->AV->AV->AV->AV->AV->AV->AV->AV->Mem->Nat->O2}:x2h1 call hs u xni (j10 rec1 0 1 2 10 11 12 13 31 32 33) (setE 2 (j7 (xg call hs u rec0) 0 1 2 10 31 32 33) (setE 1 (j7 (xg call hs u rec0) 0 1 2 10 31 32 33) (setE 0 (j1 (xn call hs u) 10) eNil)))=j10 (xhh call hs u rec0 rec1) 0 1 2 10 11 12 13 31 32 33:=sq2 x1w9 x1wa
theorem x1wc{rec0:AV->AV->AV->AV->AV->AV->AV->Mem->Nat->O2}{rec1:AV->AV->AV->AV->AV->AV->AV->AV->AV->AV->Mem->Nat->O2}:x2h1 call hs u x11i (j10 rec1 0 1 2 10 11 12 13 31 32 33) (setE 2 (j7 (xg call hs u rec0) 0 1 2 10 31 32 33) (setE 1 (j7 (xg call hs u rec0) 0 1 2 10 31 32 33) (setE 0 (j1 (xn call hs u) 10) eNil)))=j10 (xqf call hs u rec0 rec1) 0 1 2 10 11 12 13 31 32 33:=tr (sqN 1 x1wb)
theorem x1wd{rec0:AV->AV->AV->AV->AV->AV->AV->Mem->Nat->O2}:x2h1 call hs u x11h (j7 (xg call hs u rec0) 0 1 2 10 31 32 33) (setE 2 (j7 (xg call hs u rec0) 0 1 2 10 31 32 33) (setE 1 (j7 (xg call hs u rec0) 0 1 2 10 31 32 33) (setE 0 (j1 (xn call hs u) 10) eNil)))=j10 (x83 call hs u rec0 NN) 0 1 2 10 11 12 13 31 32 33:=lp (Ln:=fun n=>j10 (x83 call hs u rec0 n) 0 1 2 10 11 12 13 31 32 33) fun n=>tr x1wc
theorem x1we{rec0:AV->AV->AV->AV->AV->AV->AV->Mem->Nat->O2}:x2h1 call hs u x11g (j7 (xg call hs u rec0) 0 1 2 10 31 32 33) (setE 1 (j7 (xg call hs u rec0) 0 1 2 10 31 32 33) (setE 0 (j1 (xn call hs u) 10) eNil))=j10 (x83 call hs u rec0 NN) 0 1 2 10 11 12 13 31 32 33:=bk x1wd
theorem x1wf{rec0:AV->AV->AV->AV->AV->AV->AV->Mem->Nat->O2}:x2h1 call hs u x11f (j7 (xg call hs u rec0) 0 1 2 10 31 32 33) (setE 1 (j7 (xg call hs u rec0) 0 1 2 10 31 32 33) (setE 0 (j1 (xn call hs u) 10) eNil))=j7 (xck call hs u rec0) 0 1 2 10 31 32 33:=tr (sqN 2 x1we)
theorem x1wg{rec0:AV->AV->AV->AV->AV->AV->AV->Mem->Nat->O2}:x2h1 call hs u x11e (j7 (xg call hs u rec0) 0 1 2 10 31 32 33) (setE 0 (j1 (xn call hs u) 10) eNil)=j7 (xck call hs u rec0) 0 1 2 10 31 32 33:=bk x1wf
theorem x1wh{rec0:AV->AV->AV->AV->AV->AV->AV->Mem->Nat->O2}:x2h1 call hs u xnh (j7 rec0 0 1 2 10 31 32 33) (setE 0 (j1 (xn call hs u) 10) eNil)=j7 (xck call hs u rec0) 0 1 2 10 31 32 33:=sq2 x1w8 x1wg
theorem x1wi{rec0:AV->AV->AV->AV->AV->AV->AV->Mem->Nat->O2}:x2h1 call hs u x11d (j7 rec0 0 1 2 10 31 32 33) (setE 0 (j1 (xn call hs u) 10) eNil)=j7 (xqg call hs u rec0) 0 1 2 10 31 32 33:=tr (sqN 2 x1wh)
theorem x1wj:x2h1 call hs u x11c (j1 (xn call hs u) 10) (setE 0 (j1 (xn call hs u) 10) eNil)=j7 (x84 call hs u NN) 0 1 2 10 31 32 33:=lp (Ln:=fun n=>j7 (x84 call hs u n) 0 1 2 10 31 32 33) fun n=>tr x1wi
theorem x1wk:x2h1 call hs u x11b (j1 (xn call hs u) 10) eNil=j7 (x84 call hs u NN) 0 1 2 10 31 32 33:=bk x1wj
theorem x1wl:x2h1 call hs u x11a (j1 (xn call hs u) 10) eNil=j4 (xhi call hs u) 0 1 2 10:=tr (sqN 1 x1wk)
theorem x1wm:x2h1 call hs u xng r_7 eNil=j4 (xhi call hs u) 0 1 2 10:=sq2 x1w7 x1wl
theorem x1ek:x2h1 call hs u x119 r_7 eNil=j3 (xqh call hs u) 0 1 2:=tr (sqN 4 x1wm)
noncomputable abbrev x2h2:=VX x35 50 r_8
noncomputable def x11j:=x2fa x35
noncomputable def xnj:=nRs 2 x11j
noncomputable def x11k:=nL xnj
noncomputable def x1wn:=nR xnj
noncomputable def x11l:=nR x11k
noncomputable def x11m:=nR x11l
noncomputable def x11n:=nR x11m
noncomputable def xnk:=nR x11n
noncomputable def x11o:=nL xnk
noncomputable def x1wo:=nR xnk
noncomputable def x11p:=nR x11o
noncomputable def xnl:=nRs 2 x11p
noncomputable def x11q:=nL xnl
noncomputable def x1wp:=nR xnl
noncomputable def x11r:=nR x11q
noncomputable def x11s:=nR x11r
noncomputable def x1wq:=nR x11s
theorem x1wr:x2h2 call hs u x1wn r_8 eNil=j0 (xh call hs u):=by kernel_rfl
theorem x1ws{rec0:AV->AV->Mem->Nat->O2}:x2h2 call hs u x1wo (j2 rec0 0 4) (setE 0 (j0 (xh call hs u)) eNil)=j2 (x13 call hs u rec0) 0 4:=by kernel_rfl
theorem x1wt{rec0:AV->AV->Mem->Nat->O2}:x2h2 call hs u x1wp (j2 (x13 call hs u rec0) 0 4) (setE 1 (j2 (x13 call hs u rec0) 0 4) (setE 0 (j0 (xh call hs u)) eNil))=j3 (x2u call hs u rec0) 0 4 5:=by kernel_rfl
theorem x1wu{rec0:AV->AV->Mem->Nat->O2}{rec1:AV->AV->AV->AV->Mem->Nat->O2}:x2h2 call hs u x1wq (j4 rec1 0 4 5 6) (setE 2 (j3 (x2u call hs u rec0) 0 4 5) (setE 1 (j2 (x13 call hs u rec0) 0 4) (setE 0 (j0 (xh call hs u)) eNil)))=j4 (xcl call hs u rec0 rec1) 0 4 5 6:=by kernel_rfl
theorem x1wv{rec0:AV->AV->Mem->Nat->O2}:x2h2 call hs u x11s (j3 (x2u call hs u rec0) 0 4 5) (setE 2 (j3 (x2u call hs u rec0) 0 4 5) (setE 1 (j2 (x13 call hs u rec0) 0 4) (setE 0 (j0 (xh call hs u)) eNil)))=j4 (x3n call hs u rec0 NN) 0 4 5 6:=lp (Ln:=fun n=>j4 (x3n call hs u rec0 n) 0 4 5 6) fun n=>tr x1wu
theorem x1ww{rec0:AV->AV->Mem->Nat->O2}:x2h2 call hs u x11r (j3 (x2u call hs u rec0) 0 4 5) (setE 1 (j2 (x13 call hs u rec0) 0 4) (setE 0 (j0 (xh call hs u)) eNil))=j4 (x3n call hs u rec0 NN) 0 4 5 6:=bk x1wv
theorem x1wx{rec0:AV->AV->Mem->Nat->O2}:x2h2 call hs u x11q (j3 (x2u call hs u rec0) 0 4 5) (setE 1 (j2 (x13 call hs u rec0) 0 4) (setE 0 (j0 (xh call hs u)) eNil))=j3 (xcm call hs u rec0) 0 4 5:=tr (sqN 1 x1ww)
theorem x1wy{rec0:AV->AV->Mem->Nat->O2}:x2h2 call hs u xnl (j2 (x13 call hs u rec0) 0 4) (setE 1 (j2 (x13 call hs u rec0) 0 4) (setE 0 (j0 (xh call hs u)) eNil))=j3 (xcm call hs u rec0) 0 4 5:=sq2 x1wt x1wx
theorem x1wz{rec0:AV->AV->Mem->Nat->O2}:x2h2 call hs u x11p (j2 (x13 call hs u rec0) 0 4) (setE 1 (j2 (x13 call hs u rec0) 0 4) (setE 0 (j0 (xh call hs u)) eNil))=j2 (x85 call hs u rec0) 0 4:=tr (sqN 2 x1wy)
theorem x1x0{rec0:AV->AV->Mem->Nat->O2}:x2h2 call hs u x11o (j2 (x13 call hs u rec0) 0 4) (setE 0 (j0 (xh call hs u)) eNil)=j2 (x85 call hs u rec0) 0 4:=bk x1wz
theorem x1x1{rec0:AV->AV->Mem->Nat->O2}:x2h2 call hs u xnk (j2 rec0 0 4) (setE 0 (j0 (xh call hs u)) eNil)=j2 (x85 call hs u rec0) 0 4:=sq2 x1ws x1x0
theorem x1x2{rec0:AV->AV->Mem->Nat->O2}:x2h2 call hs u x11n (j2 rec0 0 4) (setE 0 (j0 (xh call hs u)) eNil)=j2 (xcn call hs u rec0) 0 4:=tr (sqN 1 x1x1)
theorem x1x3:x2h2 call hs u x11m (j0 (xh call hs u)) (setE 0 (j0 (xh call hs u)) eNil)=j2 (x1x call hs u NN) 0 4:=lp (Ln:=fun n=>j2 (x1x call hs u n) 0 4) fun n=>tr x1x2
theorem x1x4:x2h2 call hs u x11l (j0 (xh call hs u)) eNil=j2 (x1x call hs u NN) 0 4:=bk x1x3
theorem x1x5:x2h2 call hs u x11k (j0 (xh call hs u)) eNil=j1 (xco call hs u) 0:=tr (sqN 1 x1x4)
theorem x1x6:x2h2 call hs u xnj r_8 eNil=j1 (xco call hs u) 0:=sq2 x1wr x1x5
theorem x1el:x2h2 call hs u x11j r_8 eNil=j1 (xhj call hs u) 0:=tr (sqN 2 x1x6)
noncomputable abbrev x2h3:=VX xax 61 r_1
noncomputable def x11t:=x2fa xax
noncomputable def xnm:=nRs 2 x11t
noncomputable def x11u:=nL xnm
noncomputable def x1x7:=nR xnm
noncomputable def x11v:=nR x11u
noncomputable def x11w:=nR x11v
noncomputable def x11x:=nR x11w
noncomputable def xnn:=nR x11x
noncomputable def x11y:=nL xnn
noncomputable def x1x8:=nR xnn
noncomputable def x11z:=nR x11y
noncomputable def x120:=nR x11z
noncomputable def x121:=nR x120
noncomputable def x122:=nR x121
noncomputable def xno:=nR x122
noncomputable def x1x9:=nL xno
noncomputable def x1xa:=nR xno
theorem x1xb:x2h3 call hs u x1x7 r_1 eNil=j1 (xo call hs u) 7:=by kernel_rfl
theorem x1xc{rec0:AV->AV->AV->AV->AV->Mem->Nat->O2}:x2h3 call hs u x1x8 (j5 rec0 0 1 2 7 8) (setE 0 (j1 (xo call hs u) 7) eNil)=j5 (xj call hs u rec0) 0 1 2 7 8:=by kernel_rfl
theorem x1xd{rec0:AV->AV->AV->AV->AV->Mem->Nat->O2}{rec1:AV->AV->AV->AV->AV->AV->Mem->Nat->O2}:x2h3 call hs u x1xa (j6 rec1 0 1 2 7 8 9) (setE 2 (j5 (xj call hs u rec0) 0 1 2 7 8) (setE 1 (j5 (xj call hs u rec0) 0 1 2 7 8) (setE 0 (j1 (xo call hs u) 7) eNil)))=j6 (xcp call hs u rec0 rec1) 0 1 2 7 8 9:=by kernel_rfl
theorem x1xe{rec0:AV->AV->AV->AV->AV->Mem->Nat->O2}{rec1:AV->AV->AV->AV->AV->AV->Mem->Nat->O2}:x2h3 call hs u x1x9 (j6 (xcp call hs u rec0 rec1) 0 1 2 7 8 9) (setE 2 (j5 (xj call hs u rec0) 0 1 2 7 8) (setE 1 (j5 (xj call hs u rec0) 0 1 2 7 8) (setE 0 (j1 (xo call hs u) 7) eNil)))=j6 (xhk call hs u rec0 rec1) 0 1 2 7 8 9:=by kernel_rfl
theorem x1xf{rec0:AV->AV->AV->AV->AV->Mem->Nat->O2}{rec1:AV->AV->AV->AV->AV->AV->Mem->Nat->O2}:x2h3 call hs u xno (j6 rec1 0 1 2 7 8 9) (setE 2 (j5 (xj call hs u rec0) 0 1 2 7 8) (setE 1 (j5 (xj call hs u rec0) 0 1 2 7 8) (setE 0 (j1 (xo call hs u) 7) eNil)))=j6 (xhk call hs u rec0 rec1) 0 1 2 7 8 9:=sq2 x1xd x1xe
theorem x1xg{rec0:AV->AV->AV->AV->AV->Mem->Nat->O2}{rec1:AV->AV->AV->AV->AV->AV->Mem->Nat->O2}:x2h3 call hs u x122 (j6 rec1 0 1 2 7 8 9) (setE 2 (j5 (xj call hs u rec0) 0 1 2 7 8) (setE 1 (j5 (xj call hs u rec0) 0 1 2 7 8) (setE 0 (j1 (xo call hs u) 7) eNil)))=j6 (xqi call hs u rec0 rec1) 0 1 2 7 8 9:=tr (sqN 1 x1xf)
theorem x1xh{rec0:AV->AV->AV->AV->AV->Mem->Nat->O2}:x2h3 call hs u x121 (j5 (xj call hs u rec0) 0 1 2 7 8) (setE 2 (j5 (xj call hs u rec0) 0 1 2 7 8) (setE 1 (j5 (xj call hs u rec0) 0 1 2 7 8) (setE 0 (j1 (xo call hs u) 7) eNil)))=j6 (x86 call hs u rec0 NN) 0 1 2 7 8 9:=lp (Ln:=fun n=>j6 (x86 call hs u rec0 n) 0 1 2 7 8 9) fun n=>tr x1xg
theorem x1xi{rec0:AV->AV->AV->AV->AV->Mem->Nat->O2}:x2h3 call hs u x120 (j5 (xj call hs u rec0) 0 1 2 7 8) (setE 1 (j5 (xj call hs u rec0) 0 1 2 7 8) (setE 0 (j1 (xo call hs u) 7) eNil))=j6 (x86 call hs u rec0 NN) 0 1 2 7 8 9:=bk x1xh
theorem x1xj{rec0:AV->AV->AV->AV->AV->Mem->Nat->O2}:x2h3 call hs u x11z (j5 (xj call hs u rec0) 0 1 2 7 8) (setE 1 (j5 (xj call hs u rec0) 0 1 2 7 8) (setE 0 (j1 (xo call hs u) 7) eNil))=j5 (xcq call hs u rec0) 0 1 2 7 8:=tr (sqN 1 x1xi)
theorem x1xk{rec0:AV->AV->AV->AV->AV->Mem->Nat->O2}:x2h3 call hs u x11y (j5 (xj call hs u rec0) 0 1 2 7 8) (setE 0 (j1 (xo call hs u) 7) eNil)=j5 (xcq call hs u rec0) 0 1 2 7 8:=bk x1xj
theorem x1xl{rec0:AV->AV->AV->AV->AV->Mem->Nat->O2}:x2h3 call hs u xnn (j5 rec0 0 1 2 7 8) (setE 0 (j1 (xo call hs u) 7) eNil)=j5 (xcq call hs u rec0) 0 1 2 7 8:=sq2 x1xc x1xk
theorem x1xm{rec0:AV->AV->AV->AV->AV->Mem->Nat->O2}:x2h3 call hs u x11x (j5 rec0 0 1 2 7 8) (setE 0 (j1 (xo call hs u) 7) eNil)=j5 (xqj call hs u rec0) 0 1 2 7 8:=tr (sqN 1 x1xl)
theorem x1xn:x2h3 call hs u x11w (j1 (xo call hs u) 7) (setE 0 (j1 (xo call hs u) 7) eNil)=j5 (x87 call hs u NN) 0 1 2 7 8:=lp (Ln:=fun n=>j5 (x87 call hs u n) 0 1 2 7 8) fun n=>tr x1xm
theorem x1xo:x2h3 call hs u x11v (j1 (xo call hs u) 7) eNil=j5 (x87 call hs u NN) 0 1 2 7 8:=bk x1xn
theorem x1xp:x2h3 call hs u x11u (j1 (xo call hs u) 7) eNil=j4 (xhl call hs u) 0 1 2 7:=tr (sqN 1 x1xo)
theorem x1xq:x2h3 call hs u xnm r_1 eNil=j4 (xhl call hs u) 0 1 2 7:=sq2 x1xb x1xp
theorem x1em:x2h3 call hs u x11t r_1 eNil=j3 (xqk call hs u) 0 1 2:=tr (sqN 2 x1xq)
noncomputable abbrev x2kx:=VX xay 26 r_0
noncomputable def x123:=x2fa xay
noncomputable def xnp:=nRs 2 x123
noncomputable def x124:=nL xnp
noncomputable def x1xr:=nR xnp
noncomputable def x125:=nR x124
noncomputable def x126:=nR x125
noncomputable def x1xs:=nR x126
theorem x1xt:x2kx call hs u x1xr r_0 eNil=j0 (x5c call hs u):=by kernel_rfl
theorem x1xu{rec0:AV->AV->AV->Mem->Nat->O2}:x2kx call hs u x1xs (j3 rec0 0 1 5) (setE 0 (j0 (x5c call hs u)) eNil)=j3 (xql call hs u rec0) 0 1 5:=by kernel_rfl
theorem x1xv:x2kx call hs u x126 (j0 (x5c call hs u)) (setE 0 (j0 (x5c call hs u)) eNil)=j3 (x88 call hs u NN) 0 1 5:=lp (Ln:=fun n=>j3 (x88 call hs u n) 0 1 5) fun n=>tr x1xu
theorem x1xw:x2kx call hs u x125 (j0 (x5c call hs u)) eNil=j3 (x88 call hs u NN) 0 1 5:=bk x1xv
theorem x1xx:x2kx call hs u x124 (j0 (x5c call hs u)) eNil=j2 (xhm call hs u) 0 1:=tr (sqN 1 x1xw)
theorem x1xy:x2kx call hs u xnp r_0 eNil=j2 (xhm call hs u) 0 1:=sq2 x1xt x1xx
theorem x1en:x2kx call hs u x123 r_0 eNil=j2 (xqm call hs u) 0 1:=tr (sqN 2 x1xy)
noncomputable abbrev x2ky:=VX x4p 53 r_3
noncomputable def x127:=x2fa x4p
noncomputable def xnq:=nRs 2 x127
noncomputable def x128:=nL xnq
noncomputable def x1xz:=nR xnq
noncomputable def x129:=nR x128
noncomputable def x12a:=nR x129
noncomputable def x1y0:=nR x12a
theorem x1y1:x2ky call hs u x1xz r_3 eNil=j0 (x3o call hs u):=by kernel_rfl
theorem x1y2{rec0:AV->AV->Mem->Nat->O2}:x2ky call hs u x1y0 (j2 rec0 1 3) (setE 0 (j0 (x3o call hs u)) eNil)=j2 (xcr call hs u rec0) 1 3:=by kernel_rfl
theorem x1y3:x2ky call hs u x12a (j0 (x3o call hs u)) (setE 0 (j0 (x3o call hs u)) eNil)=j2 (x3p call hs u NN) 1 3:=lp (Ln:=fun n=>j2 (x3p call hs u n) 1 3) fun n=>tr x1y2
theorem x1y4:x2ky call hs u x129 (j0 (x3o call hs u)) eNil=j2 (x3p call hs u NN) 1 3:=bk x1y3
theorem x1y5:x2ky call hs u x128 (j0 (x3o call hs u)) eNil=j1 (x89 call hs u) 1:=tr (sqN 1 x1y4)
theorem x1y6:x2ky call hs u xnq r_3 eNil=j1 (x89 call hs u) 1:=sq2 x1y1 x1y5
theorem x1eo:x2ky call hs u x127 r_3 eNil=j1 (xhn call hs u) 0:=tr (sqN 2 x1y6)
noncomputable abbrev x2kz:=VX xfi 64 r_6
noncomputable def x12b:=x2fa xfi
noncomputable def xnr:=nRs 3 x12b
noncomputable def x12c:=nL xnr
noncomputable def x1y7:=nR xnr
noncomputable def x12d:=nR x12c
noncomputable def x12e:=nR x12d
noncomputable def x1y8:=nR x12e
theorem x1y9:x2kz call hs u x1y7 r_6 eNil=j3 (x5d call hs u) 1 2 7:=by kernel_rfl
theorem x1ya{rec0:AV->AV->AV->AV->AV->AV->Mem->Nat->O2}:x2kz call hs u x1y8 (j6 rec0 1 2 7 19 20 21) (setE 0 (j3 (x5d call hs u) 1 2 7) eNil)=j6 (xqn call hs u rec0) 1 2 7 19 20 21:=by kernel_rfl
theorem x1yb:x2kz call hs u x12e (j3 (x5d call hs u) 1 2 7) (setE 0 (j3 (x5d call hs u) 1 2 7) eNil)=j6 (x8a call hs u NN) 1 2 7 19 20 21:=lp (Ln:=fun n=>j6 (x8a call hs u n) 1 2 7 19 20 21) fun n=>tr x1ya
theorem x1yc:x2kz call hs u x12d (j3 (x5d call hs u) 1 2 7) eNil=j6 (x8a call hs u NN) 1 2 7 19 20 21:=bk x1yb
theorem x1yd:x2kz call hs u x12c (j3 (x5d call hs u) 1 2 7) eNil=j3 (xho call hs u) 1 2 7:=tr (sqN 1 x1yc)
theorem x1ye:x2kz call hs u xnr r_6 eNil=j3 (xho call hs u) 1 2 7:=sq2 x1y9 x1yd
theorem x1ep:x2kz call hs u x12b r_6 eNil=j2 (xqo call hs u) 0 1:=tr (sqN 3 x1ye)
noncomputable abbrev x2vt:=VX x36 12 r_9
noncomputable def x1yf:=x2fa x36
theorem x1eq:x2vt call hs u x1yf r_9 eNil=j1 (xhp call hs u) 0:=by kernel_rfl
noncomputable abbrev x2vu:=VX x1s 6 r_3
noncomputable def x1yg:=x2fa x1s
theorem x1er:x2vu call hs u x1yg r_3 eNil=j1 (x8c call hs u) 0:=by kernel_rfl
noncomputable abbrev x2vv:=VX x4q 11 r_3
noncomputable def x1yh:=x2fa x4q
theorem x1es:x2vv call hs u x1yh r_3 eNil=j1 (xhq call hs u) 0:=by kernel_rfl
noncomputable abbrev x2hw:=VX xfl 109 r_6
noncomputable def x12f:=x2fa xfl
noncomputable def xns:=nRs 2 x12f
noncomputable def x12g:=nL xns
noncomputable def x12h:=nR xns
noncomputable def xnt:=nR x12h
noncomputable def x12i:=nL xnt
noncomputable def x1yi:=nR xnt
noncomputable def x12j:=nR x12i
noncomputable def x12k:=nR x12j
noncomputable def x1yj:=nR x12k
noncomputable def x12l:=nR x12g
noncomputable def x12m:=nR x12l
noncomputable def x1yk:=nR x12m
theorem x1yl:x2hw call hs u x1yi r_6 eNil=j1 (x5e call hs u) 6:=by kernel_rfl
theorem x1ym{rec0:AV->AV->AV->AV->Mem->Nat->O2}:x2hw call hs u x1yj (j4 rec0 2 6 9 10) (setE 2 (j1 (x5e call hs u) 6) eNil)=j4 (xqp call hs u rec0) 2 6 9 10:=by kernel_rfl
theorem x1yn:x2hw call hs u x12k (j1 (x5e call hs u) 6) (setE 2 (j1 (x5e call hs u) 6) eNil)=j4 (x8d call hs u NN) 2 6 9 10:=lp (Ln:=fun n=>j4 (x8d call hs u n) 2 6 9 10) fun n=>tr x1ym
theorem x1yo:x2hw call hs u x12j (j1 (x5e call hs u) 6) eNil=j4 (x8d call hs u NN) 2 6 9 10:=bk x1yn
theorem x1yp:x2hw call hs u x12i (j1 (x5e call hs u) 6) eNil=j3 (xhr call hs u) 2 6 9:=tr (sqN 1 x1yo)
theorem x1yq:x2hw call hs u xnt r_6 eNil=j3 (xhr call hs u) 2 6 9:=sq2 x1yl x1yp
theorem x1yr:x2hw call hs u x12h r_6 eNil=j3 (x5f call hs u) 1 2 6:=tr (sqN 1 x1yq)
theorem x1ys{rec1:AV->AV->AV->AV->Mem->Nat->O2}:x2hw call hs u x1yk (j4 rec1 1 2 6 7) (setE 0 (j3 (x5f call hs u) 1 2 6) eNil)=j4 (xqq call hs u rec1) 1 2 6 7:=by kernel_rfl
theorem x1yt:x2hw call hs u x12m (j3 (x5f call hs u) 1 2 6) (setE 0 (j3 (x5f call hs u) 1 2 6) eNil)=j4 (x8e call hs u NN) 1 2 6 7:=lp (Ln:=fun n=>j4 (x8e call hs u n) 1 2 6 7) fun n=>tr x1ys
theorem x1yu:x2hw call hs u x12l (j3 (x5f call hs u) 1 2 6) eNil=j4 (x8e call hs u NN) 1 2 6 7:=bk x1yt
theorem x1yv:x2hw call hs u x12g (j3 (x5f call hs u) 1 2 6) eNil=j3 (xhs call hs u) 1 2 6:=tr (sqN 1 x1yu)
theorem x1yw:x2hw call hs u xns r_6 eNil=j3 (xhs call hs u) 1 2 6:=sq2 x1yr x1yv
theorem x1et:x2hw call hs u x12f r_6 eNil=j2 (xqr call hs u) 0 1:=tr (sqN 2 x1yw)
noncomputable abbrev x2j1:=VX xaz 51 r_8
noncomputable def x12n:=x2fa xaz
noncomputable def xnu:=nRs 6 x12n
noncomputable def x12o:=nL xnu
noncomputable def x1yx:=nR xnu
noncomputable def x12p:=nR x12o
noncomputable def x12q:=nR x12p
noncomputable def x12r:=nR x12q
noncomputable def xnv:=nRs 2 x12r
noncomputable def x1yy:=nL xnv
noncomputable def x1yz:=nR xnv
theorem x1z0:x2j1 call hs u x1yx r_8 eNil=j1 (x1y call hs u) 7:=by kernel_rfl
theorem x1z1{rec0:AV->AV->AV->AV->AV->Mem->Nat->O2}:x2j1 call hs u x1yz (j5 rec0 6 7 27 28 29) (setE 0 (j1 (x1y call hs u) 7) eNil)=j5 (xcs call hs u rec0) 6 7 27 28 29:=by kernel_rfl
theorem x1z2{rec0:AV->AV->AV->AV->AV->Mem->Nat->O2}:x2j1 call hs u x1yy (j5 (xcs call hs u rec0) 6 7 27 28 29) (setE 0 (j1 (x1y call hs u) 7) eNil)=j5 (xht call hs u rec0) 6 7 27 28 29:=by kernel_rfl
theorem x1z3{rec0:AV->AV->AV->AV->AV->Mem->Nat->O2}:x2j1 call hs u xnv (j5 rec0 6 7 27 28 29) (setE 0 (j1 (x1y call hs u) 7) eNil)=j5 (xht call hs u rec0) 6 7 27 28 29:=sq2 x1z1 x1z2
theorem x1z4{rec0:AV->AV->AV->AV->AV->Mem->Nat->O2}:x2j1 call hs u x12r (j5 rec0 6 7 27 28 29) (setE 0 (j1 (x1y call hs u) 7) eNil)=j5 (xqs call hs u rec0) 6 7 27 28 29:=tr (sqN 2 x1z3)
theorem x1z5:x2j1 call hs u x12q (j1 (x1y call hs u) 7) (setE 0 (j1 (x1y call hs u) 7) eNil)=j5 (x8f call hs u NN) 6 7 27 28 29:=lp (Ln:=fun n=>j5 (x8f call hs u n) 6 7 27 28 29) fun n=>tr x1z4
theorem x1z6:x2j1 call hs u x12p (j1 (x1y call hs u) 7) eNil=j5 (x8f call hs u NN) 6 7 27 28 29:=bk x1z5
theorem x1z7:x2j1 call hs u x12o (j1 (x1y call hs u) 7) eNil=j3 (xhu call hs u) 4 6 7:=tr (sqN 1 x1z6)
theorem x1z8:x2j1 call hs u xnu r_8 eNil=j3 (xhu call hs u) 4 6 7:=sq2 x1z0 x1z7
theorem x1eu:x2j1 call hs u x12n r_8 eNil=j1 (xqt call hs u) 0:=tr (sqN 6 x1z8)
noncomputable abbrev x2l0:=VX xb0 60 r_10
noncomputable def x12s:=x2fa xb0
noncomputable def xnw:=nRs 6 x12s
noncomputable def x12t:=nL xnw
noncomputable def x1z9:=nR xnw
noncomputable def x12u:=nR x12t
noncomputable def x12v:=nR x12u
noncomputable def x1za:=nR x12v
theorem x1zb:x2l0 call hs u x1z9 r_10 eNil=j3 (x5g call hs u) 9 10 11:=by kernel_rfl
theorem x1zc{rec0:AV->AV->AV->AV->AV->AV->AV->Mem->Nat->O2}:x2l0 call hs u x1za (j7 rec0 8 9 10 11 33 34 35) (setE 0 (j3 (x5g call hs u) 9 10 11) eNil)=j7 (xqu call hs u rec0) 8 9 10 11 33 34 35:=by kernel_rfl
theorem x1zd:x2l0 call hs u x12v (j3 (x5g call hs u) 9 10 11) (setE 0 (j3 (x5g call hs u) 9 10 11) eNil)=j7 (x8g call hs u NN) 8 9 10 11 33 34 35:=lp (Ln:=fun n=>j7 (x8g call hs u n) 8 9 10 11 33 34 35) fun n=>tr x1zc
theorem x1ze:x2l0 call hs u x12u (j3 (x5g call hs u) 9 10 11) eNil=j7 (x8g call hs u NN) 8 9 10 11 33 34 35:=bk x1zd
theorem x1zf:x2l0 call hs u x12t (j3 (x5g call hs u) 9 10 11) eNil=j5 (xhv call hs u) 6 8 9 10 11:=tr (sqN 1 x1ze)
theorem x1zg:x2l0 call hs u xnw r_10 eNil=j5 (xhv call hs u) 6 8 9 10 11:=sq2 x1zb x1zf
theorem x1ev:x2l0 call hs u x12s r_10 eNil=j1 (xqv call hs u) 0:=tr (sqN 6 x1zg)
noncomputable abbrev x2l1:=VX x4r 63 r_6
noncomputable def x12w:=x2fa x4r
noncomputable def xnx:=nRs 5 x12w
noncomputable def x12x:=nL xnx
noncomputable def x1zh:=nR xnx
noncomputable def x12y:=nR x12x
noncomputable def x12z:=nR x12y
noncomputable def x1zi:=nR x12z
theorem x1zj:x2l1 call hs u x1zh r_6 eNil=j3 (x3q call hs u) 2 7 8:=by kernel_rfl
theorem x1zk{rec0:AV->AV->AV->AV->AV->AV->Mem->Nat->O2}:x2l1 call hs u x1zi (j6 rec0 2 7 8 30 31 32) (setE 1 (j3 (x3q call hs u) 2 7 8) eNil)=j6 (xct call hs u rec0) 2 7 8 30 31 32:=by kernel_rfl
theorem x1zl:x2l1 call hs u x12z (j3 (x3q call hs u) 2 7 8) (setE 1 (j3 (x3q call hs u) 2 7 8) eNil)=j6 (x3r call hs u NN) 2 7 8 30 31 32:=lp (Ln:=fun n=>j6 (x3r call hs u n) 2 7 8 30 31 32) fun n=>tr x1zk
theorem x1zm:x2l1 call hs u x12y (j3 (x3q call hs u) 2 7 8) eNil=j6 (x3r call hs u NN) 2 7 8 30 31 32:=bk x1zl
theorem x1zn:x2l1 call hs u x12x (j3 (x3q call hs u) 2 7 8) eNil=j4 (xcu call hs u) 1 2 7 8:=tr (sqN 1 x1zm)
theorem x1zo:x2l1 call hs u xnx r_6 eNil=j4 (xcu call hs u) 1 2 7 8:=sq2 x1zj x1zn
theorem x1ew:x2l1 call hs u x12w r_6 eNil=j2 (xhw call hs u) 0 1:=tr (sqN 5 x1zo)
noncomputable abbrev x2l2:=VX xb1 18 r_0
noncomputable def x130:=x2fa xb1
noncomputable def xny:=nR x130
noncomputable def x131:=nL xny
noncomputable def x1zp:=nR xny
noncomputable def x132:=nR x131
noncomputable def x133:=nR x132
noncomputable def x1zq:=nR x133
theorem x1zr:x2l2 call hs u x1zp r_0 eNil=j0 (x5h call hs u):=by kernel_rfl
theorem x1zs{rec0:AV->AV->AV->Mem->Nat->O2}:x2l2 call hs u x1zq (j3 rec0 0 1 5) (setE 0 (j0 (x5h call hs u)) eNil)=j3 (xqw call hs u rec0) 0 1 5:=by kernel_rfl
theorem x1zt:x2l2 call hs u x133 (j0 (x5h call hs u)) (setE 0 (j0 (x5h call hs u)) eNil)=j3 (x8h call hs u NN) 0 1 5:=lp (Ln:=fun n=>j3 (x8h call hs u n) 0 1 5) fun n=>tr x1zs
theorem x1zu:x2l2 call hs u x132 (j0 (x5h call hs u)) eNil=j3 (x8h call hs u NN) 0 1 5:=bk x1zt
theorem x1zv:x2l2 call hs u x131 (j0 (x5h call hs u)) eNil=j2 (xhx call hs u) 0 1:=tr (sqN 1 x1zu)
theorem x1zw:x2l2 call hs u xny r_0 eNil=j2 (xhx call hs u) 0 1:=sq2 x1zr x1zv
theorem x1ex:x2l2 call hs u x130 r_0 eNil=j2 (xqx call hs u) 0 1:=tr (sqN 1 x1zw)
noncomputable abbrev x2vw:=VX xb2 8 r_3
noncomputable def x1zx:=x2fa xb2
theorem x1ey:x2vw call hs u x1zx r_3 eNil=j1 (xqy call hs u) 0:=by kernel_rfl
noncomputable abbrev x2hn:=VX x4s 70 r_0
noncomputable def x134:=x2fa x4s
noncomputable def xnz:=nRs 4 x134
noncomputable def x135:=nL xnz
noncomputable def x1zy:=nR xnz
noncomputable def x136:=nR x135
noncomputable def x137:=nR x136
noncomputable def x138:=nR x137
noncomputable def xo0:=nRs 2 x138
noncomputable def x139:=nL xo0
noncomputable def x1zz:=nR xo0
noncomputable def x13a:=nR x139
noncomputable def xo1:=nRs 3 x13a
noncomputable def x200:=nL xo1
noncomputable def x201:=nR xo1
theorem x202:x2hn call hs u x1zy r_0 eNil=j2 (xz call hs u) 6 7:=by kernel_rfl
theorem x203{rec0:AV->AV->AV->AV->AV->AV->Mem->Nat->O2}:x2hn call hs u x1zz (j6 rec0 2 6 7 25 26 27) (setE 1 (j2 (xz call hs u) 6 7) eNil)=j6 (x1n call hs u rec0) 2 6 7 25 26 27:=by kernel_rfl
theorem x204{rec0:AV->AV->AV->AV->AV->AV->Mem->Nat->O2}:x2hn call hs u x201 (j6 (x1n call hs u rec0) 2 6 7 25 26 27) (setE 2 (j6 (x1n call hs u rec0) 2 6 7 25 26 27) (setE 1 (j2 (xz call hs u) 6 7) eNil))=j6 (x8i call hs u rec0) 2 6 11 25 26 27:=by kernel_rfl
theorem x205{rec0:AV->AV->AV->AV->AV->AV->Mem->Nat->O2}:x2hn call hs u x200 (j6 (x8i call hs u rec0) 2 6 11 25 26 27) (setE 2 (j6 (x1n call hs u rec0) 2 6 7 25 26 27) (setE 1 (j2 (xz call hs u) 6 7) eNil))=j9 (x8j call hs u rec0) 2 6 7 8 10 11 25 26 27:=by kernel_rfl
theorem x206{rec0:AV->AV->AV->AV->AV->AV->Mem->Nat->O2}:x2hn call hs u xo1 (j6 (x1n call hs u rec0) 2 6 7 25 26 27) (setE 2 (j6 (x1n call hs u rec0) 2 6 7 25 26 27) (setE 1 (j2 (xz call hs u) 6 7) eNil))=j9 (x8j call hs u rec0) 2 6 7 8 10 11 25 26 27:=sq2 x204 x205
theorem x207{rec0:AV->AV->AV->AV->AV->AV->Mem->Nat->O2}:x2hn call hs u x13a (j6 (x1n call hs u rec0) 2 6 7 25 26 27) (setE 2 (j6 (x1n call hs u rec0) 2 6 7 25 26 27) (setE 1 (j2 (xz call hs u) 6 7) eNil))=j6 (x8k call hs u rec0) 2 6 7 25 26 27:=tr (sqN 3 x206)
theorem x208{rec0:AV->AV->AV->AV->AV->AV->Mem->Nat->O2}:x2hn call hs u x139 (j6 (x1n call hs u rec0) 2 6 7 25 26 27) (setE 1 (j2 (xz call hs u) 6 7) eNil)=j6 (x8k call hs u rec0) 2 6 7 25 26 27:=bk x207
theorem x209{rec0:AV->AV->AV->AV->AV->AV->Mem->Nat->O2}:x2hn call hs u xo0 (j6 rec0 2 6 7 25 26 27) (setE 1 (j2 (xz call hs u) 6 7) eNil)=j6 (x8k call hs u rec0) 2 6 7 25 26 27:=sq2 x203 x208
theorem x20a{rec0:AV->AV->AV->AV->AV->AV->Mem->Nat->O2}:x2hn call hs u x138 (j6 rec0 2 6 7 25 26 27) (setE 1 (j2 (xz call hs u) 6 7) eNil)=j6 (xcv call hs u rec0) 2 6 7 25 26 27:=tr (sqN 2 x209)
theorem x20b:x2hn call hs u x137 (j2 (xz call hs u) 6 7) (setE 1 (j2 (xz call hs u) 6 7) eNil)=j6 (x2w call hs u NN) 2 6 7 25 26 27:=lp (Ln:=fun n=>j6 (x2w call hs u n) 2 6 7 25 26 27) fun n=>tr x20a
theorem x20c:x2hn call hs u x136 (j2 (xz call hs u) 6 7) eNil=j6 (x2w call hs u NN) 2 6 7 25 26 27:=bk x20b
theorem x20d:x2hn call hs u x135 (j2 (xz call hs u) 6 7) eNil=j4 (xcw call hs u) 1 2 6 7:=tr (sqN 1 x20c)
theorem x20e:x2hn call hs u xnz r_0 eNil=j4 (xcw call hs u) 1 2 6 7:=sq2 x202 x20d
theorem x1ez:x2hn call hs u x134 r_0 eNil=j2 (xhy call hs u) 0 1:=tr (sqN 4 x20e)
noncomputable abbrev x2vx:=VX x4t 6 r_3
noncomputable def x20f:=x2fa x4t
theorem x1f0:x2vx call hs u x20f r_3 eNil=j1 (xhz call hs u) 0:=by kernel_rfl
noncomputable abbrev x2ho:=VX xb3 59 r_0
noncomputable def x13b:=x2fa xb3
noncomputable def xo2:=nRs 4 x13b
noncomputable def x13c:=nL xo2
noncomputable def x20g:=nR xo2
noncomputable def x13d:=nR x13c
noncomputable def x13e:=nR x13d
noncomputable def x13f:=nR x13e
noncomputable def xo3:=nR x13f
noncomputable def x13g:=nL xo3
noncomputable def x20h:=nR xo3
noncomputable def x13h:=nR x13g
noncomputable def xo4:=nRs 4 x13h
noncomputable def x20i:=nL xo4
noncomputable def x20j:=nR xo4
theorem x20k:x2ho call hs u x20g r_0 eNil=j2 (x14 call hs u) 5 6:=by kernel_rfl
theorem x20l{rec0:AV->AV->AV->AV->AV->Mem->Nat->O2}:x2ho call hs u x20h (j5 rec0 1 2 5 6 7) (setE 0 (j2 (x14 call hs u) 5 6) eNil)=j5 (x1z call hs u rec0) 1 2 5 6 7:=by kernel_rfl
theorem x20m{rec0:AV->AV->AV->AV->AV->Mem->Nat->O2}:x2ho call hs u x20j (j5 (x1z call hs u rec0) 1 2 5 6 7) (setE 1 (j5 (x1z call hs u rec0) 1 2 5 6 7) (setE 0 (j2 (x14 call hs u) 5 6) eNil))=j5 (xcx call hs u rec0) 1 2 5 7 10:=by kernel_rfl
theorem x20n{rec0:AV->AV->AV->AV->AV->Mem->Nat->O2}:x2ho call hs u x20i (j5 (xcx call hs u rec0) 1 2 5 7 10) (setE 1 (j5 (x1z call hs u rec0) 1 2 5 6 7) (setE 0 (j2 (x14 call hs u) 5 6) eNil))=j7 (xi0 call hs u rec0) 1 2 5 6 7 9 10:=by kernel_rfl
theorem x20o{rec0:AV->AV->AV->AV->AV->Mem->Nat->O2}:x2ho call hs u xo4 (j5 (x1z call hs u rec0) 1 2 5 6 7) (setE 1 (j5 (x1z call hs u rec0) 1 2 5 6 7) (setE 0 (j2 (x14 call hs u) 5 6) eNil))=j7 (xi0 call hs u rec0) 1 2 5 6 7 9 10:=sq2 x20m x20n
theorem x20p{rec0:AV->AV->AV->AV->AV->Mem->Nat->O2}:x2ho call hs u x13h (j5 (x1z call hs u rec0) 1 2 5 6 7) (setE 1 (j5 (x1z call hs u rec0) 1 2 5 6 7) (setE 0 (j2 (x14 call hs u) 5 6) eNil))=j5 (xcy call hs u rec0) 1 2 5 6 7:=tr (sqN 4 x20o)
theorem x20q{rec0:AV->AV->AV->AV->AV->Mem->Nat->O2}:x2ho call hs u x13g (j5 (x1z call hs u rec0) 1 2 5 6 7) (setE 0 (j2 (x14 call hs u) 5 6) eNil)=j5 (xcy call hs u rec0) 1 2 5 6 7:=bk x20p
theorem x20r{rec0:AV->AV->AV->AV->AV->Mem->Nat->O2}:x2ho call hs u xo3 (j5 rec0 1 2 5 6 7) (setE 0 (j2 (x14 call hs u) 5 6) eNil)=j5 (xcy call hs u rec0) 1 2 5 6 7:=sq2 x20l x20q
theorem x20s{rec0:AV->AV->AV->AV->AV->Mem->Nat->O2}:x2ho call hs u x13f (j5 rec0 1 2 5 6 7) (setE 0 (j2 (x14 call hs u) 5 6) eNil)=j5 (xqz call hs u rec0) 1 2 5 6 7:=tr (sqN 1 x20r)
theorem x20t:x2ho call hs u x13e (j2 (x14 call hs u) 5 6) (setE 0 (j2 (x14 call hs u) 5 6) eNil)=j5 (x8l call hs u NN) 1 2 5 6 7:=lp (Ln:=fun n=>j5 (x8l call hs u n) 1 2 5 6 7) fun n=>tr x20s
theorem x20u:x2ho call hs u x13d (j2 (x14 call hs u) 5 6) eNil=j5 (x8l call hs u NN) 1 2 5 6 7:=bk x20t
theorem x20v:x2ho call hs u x13c (j2 (x14 call hs u) 5 6) eNil=j4 (xi1 call hs u) 1 2 5 6:=tr (sqN 1 x20u)
theorem x20w:x2ho call hs u xo2 r_0 eNil=j4 (xi1 call hs u) 1 2 5 6:=sq2 x20k x20v
theorem x1f1:x2ho call hs u x13b r_0 eNil=j2 (xr0 call hs u) 0 1:=tr (sqN 4 x20w)
noncomputable abbrev x2vy:=VX xb4 20 r_11
noncomputable def x20x:=x2fa xb4
theorem x1f2:x2vy call hs u x20x r_11 eNil=j1 (xr1 call hs u) 0:=by kernel_rfl
noncomputable abbrev x2i6:=VX xfp 91 r_6
noncomputable def x13i:=x2fa xfp
noncomputable def xo5:=nRs 4 x13i
noncomputable def x13j:=nL xo5
noncomputable def xo6:=nR xo5
noncomputable def x13k:=nL xo6
noncomputable def x20y:=nR xo6
noncomputable def x13l:=nR x13k
noncomputable def x13m:=nR x13l
noncomputable def x20z:=nR x13m
noncomputable def x13n:=nR x13j
noncomputable def x13o:=nR x13n
noncomputable def x210:=nR x13o
theorem x211:x2i6 call hs u x20y r_6 eNil=j1 (x5i call hs u) 7:=by kernel_rfl
theorem x212{rec0:AV->AV->AV->AV->Mem->Nat->O2}:x2i6 call hs u x20z (j4 rec0 2 6 7 10) (setE 2 (j1 (x5i call hs u) 7) eNil)=j4 (xr2 call hs u rec0) 2 6 7 10:=by kernel_rfl
theorem x213:x2i6 call hs u x13m (j1 (x5i call hs u) 7) (setE 2 (j1 (x5i call hs u) 7) eNil)=j4 (x8m call hs u NN) 2 6 7 10:=lp (Ln:=fun n=>j4 (x8m call hs u n) 2 6 7 10) fun n=>tr x212
theorem x214:x2i6 call hs u x13l (j1 (x5i call hs u) 7) eNil=j4 (x8m call hs u NN) 2 6 7 10:=bk x213
theorem x215:x2i6 call hs u x13k (j1 (x5i call hs u) 7) eNil=j3 (x3s call hs u) 2 6 7:=tr (sqN 1 x214)
theorem x216:x2i6 call hs u xo6 r_6 eNil=j3 (x3s call hs u) 2 6 7:=sq2 x211 x215
theorem x217{rec1:AV->AV->AV->AV->AV->Mem->Nat->O2}:x2i6 call hs u x210 (j5 rec1 1 2 6 7 8) (setE 0 (j3 (x3s call hs u) 2 6 7) eNil)=j5 (xr3 call hs u rec1) 1 2 6 7 8:=by kernel_rfl
theorem x218:x2i6 call hs u x13o (j3 (x3s call hs u) 2 6 7) (setE 0 (j3 (x3s call hs u) 2 6 7) eNil)=j5 (x8n call hs u NN) 1 2 6 7 8:=lp (Ln:=fun n=>j5 (x8n call hs u n) 1 2 6 7 8) fun n=>tr x217
theorem x219:x2i6 call hs u x13n (j3 (x3s call hs u) 2 6 7) eNil=j5 (x8n call hs u NN) 1 2 6 7 8:=bk x218
theorem x21a:x2i6 call hs u x13j (j3 (x3s call hs u) 2 6 7) eNil=j4 (xi2 call hs u) 1 2 6 7:=tr (sqN 1 x219)
theorem x21b:x2i6 call hs u xo5 r_6 eNil=j4 (xi2 call hs u) 1 2 6 7:=sq2 x216 x21a
theorem x1f3:x2i6 call hs u x13i r_6 eNil=j2 (xr4 call hs u) 0 1:=tr (sqN 4 x21b)
noncomputable abbrev x2g1:=VX x7k 98 r_8
noncomputable def x13p:=x2fa x7k
noncomputable def xo7:=nRs 4 x13p
noncomputable def x13q:=nL xo7
noncomputable def x13r:=nR xo7
noncomputable def xo8:=nR x13r
noncomputable def x13s:=nL xo8
noncomputable def x21c:=nR xo8
noncomputable def x13t:=nR x13s
noncomputable def x13u:=nR x13t
noncomputable def x13v:=nR x13u
noncomputable def xo9:=nR x13v
noncomputable def x21d:=nL xo9
noncomputable def x21e:=nR xo9
noncomputable def x13w:=nR x13q
noncomputable def x13x:=nR x13w
noncomputable def x13y:=nR x13x
noncomputable def xoa:=nRs 2 x13y
noncomputable def x13z:=nL xoa
noncomputable def x21f:=nR xoa
noncomputable def x140:=nR x13z
noncomputable def xob:=nR x140
noncomputable def x141:=nL xob
noncomputable def x21g:=nR xob
noncomputable def x142:=nR x141
noncomputable def x143:=nR x142
noncomputable def x144:=nR x143
noncomputable def xoc:=nR x144
noncomputable def x21h:=nL xoc
noncomputable def x21i:=nR xoc
theorem x21j:x2g1 call hs u x21c r_8 eNil=j2 (x20 call hs u) 5 10:=by kernel_rfl
theorem x21k{rec0:AV->AV->AV->AV->AV->Mem->Nat->O2}:x2g1 call hs u x21e (j5 rec0 1 4 5 10 11) (setE 4 (j2 (x20 call hs u) 5 10) eNil)=j5 (xcz call hs u rec0) 1 4 5 10 11:=by kernel_rfl
theorem x21l{rec0:AV->AV->AV->AV->AV->Mem->Nat->O2}:x2g1 call hs u x21d (j5 (xcz call hs u rec0) 1 4 5 10 11) (setE 4 (j2 (x20 call hs u) 5 10) eNil)=j5 (xi3 call hs u rec0) 1 4 5 10 11:=by kernel_rfl
theorem x21m{rec0:AV->AV->AV->AV->AV->Mem->Nat->O2}:x2g1 call hs u xo9 (j5 rec0 1 4 5 10 11) (setE 4 (j2 (x20 call hs u) 5 10) eNil)=j5 (xi3 call hs u rec0) 1 4 5 10 11:=sq2 x21k x21l
theorem x21n{rec0:AV->AV->AV->AV->AV->Mem->Nat->O2}:x2g1 call hs u x13v (j5 rec0 1 4 5 10 11) (setE 4 (j2 (x20 call hs u) 5 10) eNil)=j5 (xr5 call hs u rec0) 1 4 5 10 11:=tr (sqN 1 x21m)
theorem x21o:x2g1 call hs u x13u (j2 (x20 call hs u) 5 10) (setE 4 (j2 (x20 call hs u) 5 10) eNil)=j5 (x8o call hs u NN) 1 4 5 10 11:=lp (Ln:=fun n=>j5 (x8o call hs u n) 1 4 5 10 11) fun n=>tr x21n
theorem x21p:x2g1 call hs u x13t (j2 (x20 call hs u) 5 10) eNil=j5 (x8o call hs u NN) 1 4 5 10 11:=bk x21o
theorem x21q:x2g1 call hs u x13s (j2 (x20 call hs u) 5 10) eNil=j4 (xi4 call hs u) 1 4 5 10:=tr (sqN 1 x21p)
theorem x21r:x2g1 call hs u xo8 r_8 eNil=j4 (xi4 call hs u) 1 4 5 10:=sq2 x21j x21q
theorem x21s:x2g1 call hs u x13r r_8 eNil=j3 (xe call hs u) 1 4 5:=tr (sqN 1 x21r)
theorem x21t{rec1:AV->AV->AV->AV->AV->AV->Mem->Nat->O2}:x2g1 call hs u x21f (j6 rec1 1 4 5 6 18 19) (setE 0 (j3 (xe call hs u) 1 4 5) eNil)=j6 (xp call hs u rec1) 1 4 5 6 18 19:=by kernel_rfl
theorem x21u{rec1:AV->AV->AV->AV->AV->AV->Mem->Nat->O2}:x2g1 call hs u x21g (j6 (xp call hs u rec1) 1 4 5 6 18 19) (setE 1 (j6 (xp call hs u rec1) 1 4 5 6 18 19) (setE 0 (j3 (xe call hs u) 1 4 5) eNil))=j7 (x21 call hs u rec1) 1 4 5 6 7 18 19:=by kernel_rfl
theorem x21v{rec1:AV->AV->AV->AV->AV->AV->Mem->Nat->O2}{rec2:AV->AV->AV->AV->AV->AV->AV->AV->Mem->Nat->O2}:x2g1 call hs u x21i (j8 rec2 1 4 5 6 7 8 18 19) (setE 2 (j7 (x21 call hs u rec1) 1 4 5 6 7 18 19) (setE 1 (j6 (xp call hs u rec1) 1 4 5 6 18 19) (setE 0 (j3 (xe call hs u) 1 4 5) eNil)))=j8 (xd0 call hs u rec1 rec2) 1 4 5 6 7 8 18 19:=by kernel_rfl
theorem x21w{rec1:AV->AV->AV->AV->AV->AV->Mem->Nat->O2}{rec2:AV->AV->AV->AV->AV->AV->AV->AV->Mem->Nat->O2}:x2g1 call hs u x21h (j8 (xd0 call hs u rec1 rec2) 1 4 5 6 7 8 18 19) (setE 2 (j7 (x21 call hs u rec1) 1 4 5 6 7 18 19) (setE 1 (j6 (xp call hs u rec1) 1 4 5 6 18 19) (setE 0 (j3 (xe call hs u) 1 4 5) eNil)))=j8 (xi5 call hs u rec1 rec2) 1 4 5 6 7 8 18 19:=by kernel_rfl
theorem x21x{rec1:AV->AV->AV->AV->AV->AV->Mem->Nat->O2}{rec2:AV->AV->AV->AV->AV->AV->AV->AV->Mem->Nat->O2}:x2g1 call hs u xoc (j8 rec2 1 4 5 6 7 8 18 19) (setE 2 (j7 (x21 call hs u rec1) 1 4 5 6 7 18 19) (setE 1 (j6 (xp call hs u rec1) 1 4 5 6 18 19) (setE 0 (j3 (xe call hs u) 1 4 5) eNil)))=j8 (xi5 call hs u rec1 rec2) 1 4 5 6 7 8 18 19:=sq2 x21v x21w
theorem x21y{rec1:AV->AV->AV->AV->AV->AV->Mem->Nat->O2}{rec2:AV->AV->AV->AV->AV->AV->AV->AV->Mem->Nat->O2}:x2g1 call hs u x144 (j8 rec2 1 4 5 6 7 8 18 19) (setE 2 (j7 (x21 call hs u rec1) 1 4 5 6 7 18 19) (setE 1 (j6 (xp call hs u rec1) 1 4 5 6 18 19) (setE 0 (j3 (xe call hs u) 1 4 5) eNil)))=j8 (xr6 call hs u rec1 rec2) 1 4 5 6 7 8 18 19:=tr (sqN 1 x21x)
theorem x21z{rec1:AV->AV->AV->AV->AV->AV->Mem->Nat->O2}:x2g1 call hs u x143 (j7 (x21 call hs u rec1) 1 4 5 6 7 18 19) (setE 2 (j7 (x21 call hs u rec1) 1 4 5 6 7 18 19) (setE 1 (j6 (xp call hs u rec1) 1 4 5 6 18 19) (setE 0 (j3 (xe call hs u) 1 4 5) eNil)))=j8 (x8p call hs u rec1 NN) 1 4 5 6 7 8 18 19:=lp (Ln:=fun n=>j8 (x8p call hs u rec1 n) 1 4 5 6 7 8 18 19) fun n=>tr x21y
theorem x220{rec1:AV->AV->AV->AV->AV->AV->Mem->Nat->O2}:x2g1 call hs u x142 (j7 (x21 call hs u rec1) 1 4 5 6 7 18 19) (setE 1 (j6 (xp call hs u rec1) 1 4 5 6 18 19) (setE 0 (j3 (xe call hs u) 1 4 5) eNil))=j8 (x8p call hs u rec1 NN) 1 4 5 6 7 8 18 19:=bk x21z
theorem x221{rec1:AV->AV->AV->AV->AV->AV->Mem->Nat->O2}:x2g1 call hs u x141 (j7 (x21 call hs u rec1) 1 4 5 6 7 18 19) (setE 1 (j6 (xp call hs u rec1) 1 4 5 6 18 19) (setE 0 (j3 (xe call hs u) 1 4 5) eNil))=j7 (xi6 call hs u rec1) 1 4 5 6 7 18 19:=tr (sqN 1 x220)
theorem x222{rec1:AV->AV->AV->AV->AV->AV->Mem->Nat->O2}:x2g1 call hs u xob (j6 (xp call hs u rec1) 1 4 5 6 18 19) (setE 1 (j6 (xp call hs u rec1) 1 4 5 6 18 19) (setE 0 (j3 (xe call hs u) 1 4 5) eNil))=j7 (xi6 call hs u rec1) 1 4 5 6 7 18 19:=sq2 x21u x221
theorem x223{rec1:AV->AV->AV->AV->AV->AV->Mem->Nat->O2}:x2g1 call hs u x140 (j6 (xp call hs u rec1) 1 4 5 6 18 19) (setE 1 (j6 (xp call hs u rec1) 1 4 5 6 18 19) (setE 0 (j3 (xe call hs u) 1 4 5) eNil))=j6 (xd1 call hs u rec1) 1 4 5 6 18 19:=tr (sqN 1 x222)
theorem x224{rec1:AV->AV->AV->AV->AV->AV->Mem->Nat->O2}:x2g1 call hs u x13z (j6 (xp call hs u rec1) 1 4 5 6 18 19) (setE 0 (j3 (xe call hs u) 1 4 5) eNil)=j6 (xd1 call hs u rec1) 1 4 5 6 18 19:=bk x223
theorem x225{rec1:AV->AV->AV->AV->AV->AV->Mem->Nat->O2}:x2g1 call hs u xoa (j6 rec1 1 4 5 6 18 19) (setE 0 (j3 (xe call hs u) 1 4 5) eNil)=j6 (xd1 call hs u rec1) 1 4 5 6 18 19:=sq2 x21t x224
theorem x226{rec1:AV->AV->AV->AV->AV->AV->Mem->Nat->O2}:x2g1 call hs u x13y (j6 rec1 1 4 5 6 18 19) (setE 0 (j3 (xe call hs u) 1 4 5) eNil)=j6 (xr7 call hs u rec1) 1 4 5 6 18 19:=tr (sqN 2 x225)
theorem x227:x2g1 call hs u x13x (j3 (xe call hs u) 1 4 5) (setE 0 (j3 (xe call hs u) 1 4 5) eNil)=j6 (x8q call hs u NN) 1 4 5 6 18 19:=lp (Ln:=fun n=>j6 (x8q call hs u n) 1 4 5 6 18 19) fun n=>tr x226
theorem x228:x2g1 call hs u x13w (j3 (xe call hs u) 1 4 5) eNil=j6 (x8q call hs u NN) 1 4 5 6 18 19:=bk x227
theorem x229:x2g1 call hs u x13q (j3 (xe call hs u) 1 4 5) eNil=j4 (xi7 call hs u) 1 4 5 6:=tr (sqN 1 x228)
theorem x22a:x2g1 call hs u xo7 r_8 eNil=j4 (xi7 call hs u) 1 4 5 6:=sq2 x21s x229
theorem x1f4:x2g1 call hs u x13p r_8 eNil=j1 (xr8 call hs u) 0:=tr (sqN 4 x22a)
noncomputable abbrev x2vz:=VX x4u 40 r_0
noncomputable def x22b:=x2fa x4u
theorem x1f5:x2vz call hs u x22b r_0 eNil=j2 (xr9 call hs u) 0 1:=by kernel_rfl
noncomputable abbrev x2l3:=VX x4v 31 r_12
noncomputable def x145:=x2fa x4v
noncomputable def xod:=nRs 2 x145
noncomputable def x146:=nL xod
noncomputable def x22c:=nR xod
noncomputable def x147:=nR x146
noncomputable def x148:=nR x147
noncomputable def x22d:=nR x148
theorem x22e:x2l3 call hs u x22c r_12 eNil=j2 (x3t call hs u) 4 5:=by kernel_rfl
theorem x22f{rec0:AV->AV->AV->AV->Mem->Nat->O2}:x2l3 call hs u x22d (j4 rec0 1 4 5 6) (setE 0 (j2 (x3t call hs u) 4 5) eNil)=j4 (xd2 call hs u rec0) 1 4 5 6:=by kernel_rfl
theorem x22g:x2l3 call hs u x148 (j2 (x3t call hs u) 4 5) (setE 0 (j2 (x3t call hs u) 4 5) eNil)=j4 (x3u call hs u NN) 1 4 5 6:=lp (Ln:=fun n=>j4 (x3u call hs u n) 1 4 5 6) fun n=>tr x22f
theorem x22h:x2l3 call hs u x147 (j2 (x3t call hs u) 4 5) eNil=j4 (x3u call hs u NN) 1 4 5 6:=bk x22g
theorem x22i:x2l3 call hs u x146 (j2 (x3t call hs u) 4 5) eNil=j3 (xd3 call hs u) 1 4 5:=tr (sqN 1 x22h)
theorem x22j:x2l3 call hs u xod r_12 eNil=j3 (xd3 call hs u) 1 4 5:=sq2 x22e x22i
theorem x1f6:x2l3 call hs u x145 r_12 eNil=j2 (xi8 call hs u) 0 1:=tr (sqN 2 x22j)
noncomputable abbrev x2w0:=VX x66 24 r_6
noncomputable def x22k:=x2fa x66
theorem x1f7:x2w0 call hs u x22k r_6 eNil=j2 (xi9 call hs u) 0 1:=by kernel_rfl
noncomputable abbrev x2w1:=VX x2p 36 r_3
noncomputable def x22l:=x2fa x2p
theorem x1f8:x2w1 call hs u x22l r_3 eNil=j1 (xia call hs u) 0:=by kernel_rfl
noncomputable abbrev x2l4:=VX xb5 30 r_0
noncomputable def x149:=x2fa xb5
noncomputable def xoe:=nRs 2 x149
noncomputable def x14a:=nL xoe
noncomputable def x22m:=nR xoe
noncomputable def x14b:=nR x14a
noncomputable def x14c:=nR x14b
noncomputable def x22n:=nR x14c
theorem x22o:x2l4 call hs u x22m r_0 eNil=j1 (x5j call hs u) 5:=by kernel_rfl
theorem x22p{rec0:AV->AV->AV->AV->Mem->Nat->O2}:x2l4 call hs u x22n (j4 rec0 0 1 5 6) (setE 0 (j1 (x5j call hs u) 5) eNil)=j4 (xra call hs u rec0) 0 1 5 6:=by kernel_rfl
theorem x22q:x2l4 call hs u x14c (j1 (x5j call hs u) 5) (setE 0 (j1 (x5j call hs u) 5) eNil)=j4 (x8r call hs u NN) 0 1 5 6:=lp (Ln:=fun n=>j4 (x8r call hs u n) 0 1 5 6) fun n=>tr x22p
theorem x22r:x2l4 call hs u x14b (j1 (x5j call hs u) 5) eNil=j4 (x8r call hs u NN) 0 1 5 6:=bk x22q
theorem x22s:x2l4 call hs u x14a (j1 (x5j call hs u) 5) eNil=j3 (xib call hs u) 0 1 5:=tr (sqN 1 x22r)
theorem x22t:x2l4 call hs u xoe r_0 eNil=j3 (xib call hs u) 0 1 5:=sq2 x22o x22s
theorem x1f9:x2l4 call hs u x149 r_0 eNil=j2 (xrb call hs u) 0 1:=tr (sqN 2 x22t)
noncomputable abbrev x2w2:=VX x7l 12 r_13
noncomputable def x22u:=x2fa x7l
theorem x1fa:x2w2 call hs u x22u r_13 eNil=j0 (xrc call hs u):=by kernel_rfl
noncomputable abbrev x2w3:=VX x67 10 r_12
noncomputable def x22v:=x2fa x67
theorem x1fb:x2w3 call hs u x22v r_12 eNil=j2 (xrd call hs u) 0 1:=by kernel_rfl
noncomputable abbrev x2w4:=VX x1t 7 r_3
noncomputable def x22w:=x2fa x1t
theorem x1fc:x2w4 call hs u x22w r_3 eNil=j1 (xic call hs u) 0:=by kernel_rfl
noncomputable abbrev x2w5:=VX xy 15 r_1
noncomputable def x22x:=x2fa xy
theorem x1fd:x2w5 call hs u x22x r_1 eNil=j3 (xid call hs u) 0 1 2:=by kernel_rfl
noncomputable abbrev x2l5:=VX x1u 42 r_0
noncomputable def x14d:=x2fa x1u
noncomputable def xof:=nRs 3 x14d
noncomputable def x14e:=nL xof
noncomputable def x22y:=nR xof
noncomputable def x14f:=nR x14e
noncomputable def x14g:=nR x14f
noncomputable def x22z:=nR x14g
theorem x230:x2l5 call hs u x22y r_0 eNil=j1 (x3v call hs u) 6:=by kernel_rfl
theorem x231{rec0:AV->AV->AV->AV->AV->AV->Mem->Nat->O2}:x2l5 call hs u x22z (j6 rec0 1 5 6 14 15 16) (setE 0 (j1 (x3v call hs u) 6) eNil)=j6 (xd4 call hs u rec0) 1 5 6 14 15 16:=by kernel_rfl
theorem x232:x2l5 call hs u x14g (j1 (x3v call hs u) 6) (setE 0 (j1 (x3v call hs u) 6) eNil)=j6 (x3w call hs u NN) 1 5 6 14 15 16:=lp (Ln:=fun n=>j6 (x3w call hs u n) 1 5 6 14 15 16) fun n=>tr x231
theorem x233:x2l5 call hs u x14f (j1 (x3v call hs u) 6) eNil=j6 (x3w call hs u NN) 1 5 6 14 15 16:=bk x232
theorem x234:x2l5 call hs u x14e (j1 (x3v call hs u) 6) eNil=j4 (xd5 call hs u) 1 2 5 6:=tr (sqN 1 x233)
theorem x235:x2l5 call hs u xof r_0 eNil=j4 (xd5 call hs u) 1 2 5 6:=sq2 x230 x234
theorem x1fe:x2l5 call hs u x14d r_0 eNil=j2 (xie call hs u) 0 1:=tr (sqN 3 x235)
noncomputable abbrev x2j2:=VX x37 38 r_0
noncomputable def x14h:=x2fa x37
noncomputable def xog:=nRs 5 x14h
noncomputable def x14i:=nL xog
noncomputable def x236:=nR xog
noncomputable def x14j:=nR x14i
noncomputable def x14k:=nR x14j
noncomputable def x14l:=nR x14k
noncomputable def xoh:=nRs 2 x14l
noncomputable def x237:=nL xoh
noncomputable def x238:=nR xoh
theorem x239:x2j2 call hs u x236 r_0 eNil=j1 (x1o call hs u) 5:=by kernel_rfl
theorem x23a{rec0:AV->AV->AV->AV->AV->Mem->Nat->O2}:x2j2 call hs u x238 (j5 rec0 5 6 8 24 25) (setE 0 (j1 (x1o call hs u) 5) eNil)=j5 (x6s call hs u rec0) 5 6 8 24 25:=by kernel_rfl
theorem x23b{rec0:AV->AV->AV->AV->AV->Mem->Nat->O2}:x2j2 call hs u x237 (j5 (x6s call hs u rec0) 5 6 8 24 25) (setE 0 (j1 (x1o call hs u) 5) eNil)=j5 (xd6 call hs u rec0) 5 6 8 24 25:=by kernel_rfl
theorem x23c{rec0:AV->AV->AV->AV->AV->Mem->Nat->O2}:x2j2 call hs u xoh (j5 rec0 5 6 8 24 25) (setE 0 (j1 (x1o call hs u) 5) eNil)=j5 (xd6 call hs u rec0) 5 6 8 24 25:=sq2 x23a x23b
theorem x23d{rec0:AV->AV->AV->AV->AV->Mem->Nat->O2}:x2j2 call hs u x14l (j5 rec0 5 6 8 24 25) (setE 0 (j1 (x1o call hs u) 5) eNil)=j5 (xd7 call hs u rec0) 5 6 8 24 25:=tr (sqN 2 x23c)
theorem x23e:x2j2 call hs u x14k (j1 (x1o call hs u) 5) (setE 0 (j1 (x1o call hs u) 5) eNil)=j5 (x3x call hs u NN) 5 6 8 24 25:=lp (Ln:=fun n=>j5 (x3x call hs u n) 5 6 8 24 25) fun n=>tr x23d
theorem x23f:x2j2 call hs u x14j (j1 (x1o call hs u) 5) eNil=j5 (x3x call hs u NN) 5 6 8 24 25:=bk x23e
theorem x23g:x2j2 call hs u x14i (j1 (x1o call hs u) 5) eNil=j3 (xd8 call hs u) 5 6 8:=tr (sqN 1 x23f)
theorem x23h:x2j2 call hs u xog r_0 eNil=j3 (xd8 call hs u) 5 6 8:=sq2 x239 x23g
theorem x1ff:x2j2 call hs u x14h r_0 eNil=j2 (xif call hs u) 0 1:=tr (sqN 5 x23h)
noncomputable abbrev x2j3:=VX x4w 30 r_0
noncomputable def x14m:=x2fa x4w
noncomputable def xoi:=nRs 2 x14m
noncomputable def x14n:=nL xoi
noncomputable def x23i:=nR xoi
noncomputable def x14o:=nR x14n
noncomputable def x14p:=nR x14o
noncomputable def x14q:=nR x14p
noncomputable def xoj:=nRs 2 x14q
noncomputable def x23j:=nL xoj
noncomputable def x23k:=nR xoj
theorem x23l:x2j3 call hs u x23i r_0 eNil=j1 (x1p call hs u) 5:=by kernel_rfl
theorem x23m{rec0:AV->AV->AV->AV->AV->Mem->Nat->O2}:x2j3 call hs u x23k (j5 rec0 1 5 15 16 17) (setE 0 (j1 (x1p call hs u) 5) eNil)=j5 (x6t call hs u rec0) 1 5 15 16 17:=by kernel_rfl
theorem x23n{rec0:AV->AV->AV->AV->AV->Mem->Nat->O2}:x2j3 call hs u x23j (j5 (x6t call hs u rec0) 1 5 15 16 17) (setE 0 (j1 (x1p call hs u) 5) eNil)=j5 (xd9 call hs u rec0) 1 5 15 16 17:=by kernel_rfl
theorem x23o{rec0:AV->AV->AV->AV->AV->Mem->Nat->O2}:x2j3 call hs u xoj (j5 rec0 1 5 15 16 17) (setE 0 (j1 (x1p call hs u) 5) eNil)=j5 (xd9 call hs u rec0) 1 5 15 16 17:=sq2 x23m x23n
theorem x23p{rec0:AV->AV->AV->AV->AV->Mem->Nat->O2}:x2j3 call hs u x14q (j5 rec0 1 5 15 16 17) (setE 0 (j1 (x1p call hs u) 5) eNil)=j5 (xda call hs u rec0) 1 5 15 16 17:=tr (sqN 2 x23o)
theorem x23q:x2j3 call hs u x14p (j1 (x1p call hs u) 5) (setE 0 (j1 (x1p call hs u) 5) eNil)=j5 (x3z call hs u NN) 1 5 15 16 17:=lp (Ln:=fun n=>j5 (x3z call hs u n) 1 5 15 16 17) fun n=>tr x23p
theorem x23r:x2j3 call hs u x14o (j1 (x1p call hs u) 5) eNil=j5 (x3z call hs u NN) 1 5 15 16 17:=bk x23q
theorem x23s:x2j3 call hs u x14n (j1 (x1p call hs u) 5) eNil=j3 (xdb call hs u) 1 2 5:=tr (sqN 1 x23r)
theorem x23t:x2j3 call hs u xoi r_0 eNil=j3 (xdb call hs u) 1 2 5:=sq2 x23l x23s
theorem x1fg:x2j3 call hs u x14m r_0 eNil=j2 (xih call hs u) 0 1:=tr (sqN 2 x23t)
noncomputable abbrev x2l6:=VX xb6 52 r_3
noncomputable def x14r:=x2fa xb6
noncomputable def xok:=nRs 4 x14r
noncomputable def x14s:=nL xok
noncomputable def x23u:=nR xok
noncomputable def x14t:=nR x14s
noncomputable def x14u:=nR x14t
noncomputable def x23v:=nR x14u
theorem x23w:x2l6 call hs u x23u r_3 eNil=j1 (x5k call hs u) 6:=by kernel_rfl
theorem x23x{rec0:AV->AV->AV->AV->Mem->Nat->O2}:x2l6 call hs u x23v (j4 rec0 1 5 6 7) (setE 0 (j1 (x5k call hs u) 6) eNil)=j4 (xrf call hs u rec0) 1 5 6 7:=by kernel_rfl
theorem x23y:x2l6 call hs u x14u (j1 (x5k call hs u) 6) (setE 0 (j1 (x5k call hs u) 6) eNil)=j4 (x8s call hs u NN) 1 5 6 7:=lp (Ln:=fun n=>j4 (x8s call hs u n) 1 5 6 7) fun n=>tr x23x
theorem x23z:x2l6 call hs u x14t (j1 (x5k call hs u) 6) eNil=j4 (x8s call hs u NN) 1 5 6 7:=bk x23y
theorem x240:x2l6 call hs u x14s (j1 (x5k call hs u) 6) eNil=j3 (xii call hs u) 1 5 6:=tr (sqN 1 x23z)
theorem x241:x2l6 call hs u xok r_3 eNil=j3 (xii call hs u) 1 5 6:=sq2 x23w x240
theorem x1fh:x2l6 call hs u x14r r_3 eNil=j1 (xrg call hs u) 0:=tr (sqN 4 x241)
noncomputable abbrev x2l7:=VX x7m 36 r_0
noncomputable def x14v:=x2fa x7m
noncomputable def xol:=nRs 3 x14v
noncomputable def x14w:=nL xol
noncomputable def x242:=nR xol
noncomputable def x14x:=nR x14w
noncomputable def x14y:=nR x14x
noncomputable def x243:=nR x14y
theorem x244:x2l7 call hs u x242 r_0 eNil=j1 (x5l call hs u) 6:=by kernel_rfl
theorem x245{rec0:AV->AV->AV->AV->AV->Mem->Nat->O2}:x2l7 call hs u x243 (j5 rec0 1 2 5 6 7) (setE 0 (j1 (x5l call hs u) 6) eNil)=j5 (xrh call hs u rec0) 1 2 5 6 7:=by kernel_rfl
theorem x246:x2l7 call hs u x14y (j1 (x5l call hs u) 6) (setE 0 (j1 (x5l call hs u) 6) eNil)=j5 (x8t call hs u NN) 1 2 5 6 7:=lp (Ln:=fun n=>j5 (x8t call hs u n) 1 2 5 6 7) fun n=>tr x245
theorem x247:x2l7 call hs u x14x (j1 (x5l call hs u) 6) eNil=j5 (x8t call hs u NN) 1 2 5 6 7:=bk x246
theorem x248:x2l7 call hs u x14w (j1 (x5l call hs u) 6) eNil=j4 (xij call hs u) 1 2 5 6:=tr (sqN 1 x247)
theorem x249:x2l7 call hs u xol r_0 eNil=j4 (xij call hs u) 1 2 5 6:=sq2 x244 x248
theorem x1fi:x2l7 call hs u x14v r_0 eNil=j2 (xri call hs u) 0 1:=tr (sqN 3 x249)
noncomputable abbrev x2l8:=VX x38 42 r_8
noncomputable def x14z:=x2fa x38
noncomputable def xom:=nRs 2 x14z
noncomputable def x150:=nL xom
noncomputable def x24a:=nR xom
noncomputable def x151:=nR x150
noncomputable def x152:=nR x151
noncomputable def x24b:=nR x152
theorem x24c:x2l8 call hs u x24a r_8 eNil=j0 (x40 call hs u):=by kernel_rfl
theorem x24d{rec0:AV->AV->AV->AV->Mem->Nat->O2}:x2l8 call hs u x24b (j4 rec0 0 9 10 11) (setE 0 (j0 (x40 call hs u)) eNil)=j4 (xdc call hs u rec0) 0 9 10 11:=by kernel_rfl
theorem x24e:x2l8 call hs u x152 (j0 (x40 call hs u)) (setE 0 (j0 (x40 call hs u)) eNil)=j4 (x2x call hs u NN) 0 9 10 11:=lp (Ln:=fun n=>j4 (x2x call hs u n) 0 9 10 11) fun n=>tr x24d
theorem x24f:x2l8 call hs u x151 (j0 (x40 call hs u)) eNil=j4 (x2x call hs u NN) 0 9 10 11:=bk x24e
theorem x24g:x2l8 call hs u x150 (j0 (x40 call hs u)) eNil=j1 (xdd call hs u) 0:=tr (sqN 1 x24f)
theorem x24h:x2l8 call hs u xom r_8 eNil=j1 (xdd call hs u) 0:=sq2 x24c x24g
theorem x1fj:x2l8 call hs u x14z r_8 eNil=j1 (xik call hs u) 0:=tr (sqN 2 x24h)
noncomputable abbrev x2w6:=VX x1i 10 r_0
noncomputable def x24i:=x2fa x1i
theorem x1fk:x2w6 call hs u x24i r_0 eNil=j2 (xil call hs u) 0 1:=by kernel_rfl
noncomputable abbrev x2l9:=VX x68 55 r_3
noncomputable def x153:=x2fa x68
noncomputable def xon:=nRs 2 x153
noncomputable def x154:=nL xon
noncomputable def x24j:=nR xon
noncomputable def x155:=nR x154
noncomputable def x156:=nR x155
noncomputable def x24k:=nR x156
theorem x24l:x2l9 call hs u x24j r_3 eNil=j0 (x41 call hs u):=by kernel_rfl
theorem x24m{rec0:AV->AV->Mem->Nat->O2}:x2l9 call hs u x24k (j2 rec0 0 3) (setE 0 (j0 (x41 call hs u)) eNil)=j2 (xde call hs u rec0) 0 3:=by kernel_rfl
theorem x24n:x2l9 call hs u x156 (j0 (x41 call hs u)) (setE 0 (j0 (x41 call hs u)) eNil)=j2 (x2y call hs u NN) 0 3:=lp (Ln:=fun n=>j2 (x2y call hs u n) 0 3) fun n=>tr x24m
theorem x24o:x2l9 call hs u x155 (j0 (x41 call hs u)) eNil=j2 (x2y call hs u NN) 0 3:=bk x24n
theorem x24p:x2l9 call hs u x154 (j0 (x41 call hs u)) eNil=j1 (xdf call hs u) 0:=tr (sqN 1 x24o)
theorem x24q:x2l9 call hs u xon r_3 eNil=j1 (xdf call hs u) 0:=sq2 x24l x24p
theorem x1fl:x2l9 call hs u x153 r_3 eNil=j1 (xim call hs u) 0:=tr (sqN 2 x24q)
noncomputable abbrev x2w7:=VX x2q 11 r_3
noncomputable def x24r:=x2fa x2q
theorem x1fm:x2w7 call hs u x24r r_3 eNil=j1 (xin call hs u) 0:=by kernel_rfl
noncomputable abbrev x2la:=VX x2r 15 r_3
noncomputable def x157:=x2fa x2r
noncomputable def xoo:=nRs 2 x157
noncomputable def x158:=nL xoo
noncomputable def x24s:=nR xoo
noncomputable def x159:=nR x158
noncomputable def x15a:=nR x159
noncomputable def x24t:=nR x15a
theorem x24u:x2la call hs u x24s r_3 eNil=j1 (x42 call hs u) 3:=by kernel_rfl
theorem x24v{rec0:AV->AV->AV->Mem->Nat->O2}:x2la call hs u x24t (j3 rec0 3 5 6) (setE 0 (j1 (x42 call hs u) 3) eNil)=j3 (xdg call hs u rec0) 3 5 6:=by kernel_rfl
theorem x24w:x2la call hs u x15a (j1 (x42 call hs u) 3) (setE 0 (j1 (x42 call hs u) 3) eNil)=j3 (x43 call hs u NN) 3 5 6:=lp (Ln:=fun n=>j3 (x43 call hs u n) 3 5 6) fun n=>tr x24v
theorem x24x:x2la call hs u x159 (j1 (x42 call hs u) 3) eNil=j3 (x43 call hs u NN) 3 5 6:=bk x24w
theorem x24y:x2la call hs u x158 (j1 (x42 call hs u) 3) eNil=j2 (xdh call hs u) 0 3:=tr (sqN 1 x24x)
theorem x24z:x2la call hs u xoo r_3 eNil=j2 (xdh call hs u) 0 3:=sq2 x24u x24y
theorem x1fn:x2la call hs u x157 r_3 eNil=j1 (xio call hs u) 0:=tr (sqN 2 x24z)
noncomputable abbrev x2j4:=VX x39 44 r_0
noncomputable def x15b:=x2fa x39
noncomputable def xop:=nRs 2 x15b
noncomputable def x15c:=nL xop
noncomputable def x250:=nR xop
noncomputable def x15d:=nR x15c
noncomputable def x15e:=nR x15d
noncomputable def x15f:=nR x15e
noncomputable def xoq:=nRs 2 x15f
noncomputable def x251:=nL xoq
noncomputable def x252:=nR xoq
theorem x253:x2j4 call hs u x250 r_0 eNil=j2 (x1q call hs u) 5 6:=by kernel_rfl
theorem x254{rec0:AV->AV->AV->AV->AV->AV->Mem->Nat->O2}:x2j4 call hs u x252 (j6 rec0 0 5 6 19 20 21) (setE 0 (j2 (x1q call hs u) 5 6) eNil)=j6 (x8u call hs u rec0) 0 5 6 19 20 21:=by kernel_rfl
theorem x255{rec0:AV->AV->AV->AV->AV->AV->Mem->Nat->O2}:x2j4 call hs u x251 (j6 (x8u call hs u rec0) 0 5 6 19 20 21) (setE 0 (j2 (x1q call hs u) 5 6) eNil)=j6 (xdi call hs u rec0) 0 5 6 19 20 21:=by kernel_rfl
theorem x256{rec0:AV->AV->AV->AV->AV->AV->Mem->Nat->O2}:x2j4 call hs u xoq (j6 rec0 0 5 6 19 20 21) (setE 0 (j2 (x1q call hs u) 5 6) eNil)=j6 (xdi call hs u rec0) 0 5 6 19 20 21:=sq2 x254 x255
theorem x257{rec0:AV->AV->AV->AV->AV->AV->Mem->Nat->O2}:x2j4 call hs u x15f (j6 rec0 0 5 6 19 20 21) (setE 0 (j2 (x1q call hs u) 5 6) eNil)=j6 (xdj call hs u rec0) 0 5 6 19 20 21:=tr (sqN 2 x256)
theorem x258:x2j4 call hs u x15e (j2 (x1q call hs u) 5 6) (setE 0 (j2 (x1q call hs u) 5 6) eNil)=j6 (x44 call hs u NN) 0 5 6 19 20 21:=lp (Ln:=fun n=>j6 (x44 call hs u n) 0 5 6 19 20 21) fun n=>tr x257
theorem x259:x2j4 call hs u x15d (j2 (x1q call hs u) 5 6) eNil=j6 (x44 call hs u NN) 0 5 6 19 20 21:=bk x258
theorem x25a:x2j4 call hs u x15c (j2 (x1q call hs u) 5 6) eNil=j3 (xdk call hs u) 0 5 6:=tr (sqN 1 x259)
theorem x25b:x2j4 call hs u xop r_0 eNil=j3 (xdk call hs u) 0 5 6:=sq2 x253 x25a
theorem x1fo:x2j4 call hs u x15b r_0 eNil=j2 (xiq call hs u) 0 1:=tr (sqN 2 x25b)
noncomputable abbrev x2w8:=VX xb7 9 r_0
noncomputable def x25c:=x2fa xb7
theorem x1fp:x2w8 call hs u x25c r_0 eNil=j2 (xrj call hs u) 0 1:=by kernel_rfl
noncomputable abbrev x2w9:=VX xb8 15 r_14
noncomputable def x25d:=x2fa xb8
theorem x1fq:x2w9 call hs u x25d r_14 eNil=j2 (xrk call hs u) 0 1:=by kernel_rfl
noncomputable abbrev x2lb:=VX x7n 21 r_0
noncomputable def x15g:=x2fa x7n
noncomputable def xos:=nRs 2 x15g
noncomputable def x15h:=nL xos
noncomputable def x25e:=nR xos
noncomputable def x15i:=nR x15h
noncomputable def x15j:=nR x15i
noncomputable def x25f:=nR x15j
theorem x25g:x2lb call hs u x25e r_0 eNil=j1 (x5m call hs u) 5:=by kernel_rfl
theorem x25h{rec0:AV->AV->AV->AV->AV->Mem->Nat->O2}:x2lb call hs u x25f (j5 rec0 2 5 8 9 10) (setE 0 (j1 (x5m call hs u) 5) eNil)=j5 (xrl call hs u rec0) 2 5 8 9 10:=by kernel_rfl
theorem x25i:x2lb call hs u x15j (j1 (x5m call hs u) 5) (setE 0 (j1 (x5m call hs u) 5) eNil)=j5 (x8v call hs u NN) 2 5 8 9 10:=lp (Ln:=fun n=>j5 (x8v call hs u n) 2 5 8 9 10) fun n=>tr x25h
theorem x25j:x2lb call hs u x15i (j1 (x5m call hs u) 5) eNil=j5 (x8v call hs u NN) 2 5 8 9 10:=bk x25i
theorem x25k:x2lb call hs u x15h (j1 (x5m call hs u) 5) eNil=j3 (xir call hs u) 1 2 5:=tr (sqN 1 x25j)
theorem x25l:x2lb call hs u xos r_0 eNil=j3 (xir call hs u) 1 2 5:=sq2 x25g x25k
theorem x1fr:x2lb call hs u x15g r_0 eNil=j2 (xrm call hs u) 0 1:=tr (sqN 2 x25l)
noncomputable abbrev x2hp:=VX x69 73 r_8
noncomputable def x15k:=x2fa x69
noncomputable def xot:=nRs 3 x15k
noncomputable def x15l:=nL xot
noncomputable def x25m:=nR xot
noncomputable def x15m:=nR x15l
noncomputable def x15n:=nR x15m
noncomputable def x15o:=nR x15n
noncomputable def xou:=nR x15o
noncomputable def x15p:=nL xou
noncomputable def x25n:=nR xou
noncomputable def x15q:=nR x15p
noncomputable def x15r:=nRs 4 x15q
noncomputable def x15s:=nR x15r
noncomputable def x25o:=nR x15s
theorem x25p:x2hp call hs u x25m r_8 eNil=j0 (x10 call hs u):=by kernel_rfl
theorem x25q{rec0:AV->AV->Mem->Nat->O2}:x2hp call hs u x25n (j2 rec0 1 6) (setE 0 (j0 (x10 call hs u)) eNil)=j2 (x1b call hs u rec0) 1 6:=by kernel_rfl
theorem x25r{rec0:AV->AV->Mem->Nat->O2}{rec1:AV->AV->AV->AV->Mem->Nat->O2}:x2hp call hs u x25o (j4 rec1 1 6 7 8) (setE 2 (j2 (x1b call hs u rec0) 1 6) (setE 1 (j2 (x1b call hs u rec0) 1 6) (setE 0 (j0 (x10 call hs u)) eNil)))=j4 (xdl call hs u rec0 rec1) 1 6 7 8:=by kernel_rfl
theorem x25s{rec0:AV->AV->Mem->Nat->O2}:x2hp call hs u x15s (j2 (x1b call hs u rec0) 1 6) (setE 2 (j2 (x1b call hs u rec0) 1 6) (setE 1 (j2 (x1b call hs u rec0) 1 6) (setE 0 (j0 (x10 call hs u)) eNil)))=j4 (x2z call hs u rec0 NN) 1 6 7 8:=lp (Ln:=fun n=>j4 (x2z call hs u rec0 n) 1 6 7 8) fun n=>tr x25r
theorem x25t{rec0:AV->AV->Mem->Nat->O2}:x2hp call hs u x15r (j2 (x1b call hs u rec0) 1 6) (setE 1 (j2 (x1b call hs u rec0) 1 6) (setE 0 (j0 (x10 call hs u)) eNil))=j4 (x2z call hs u rec0 NN) 1 6 7 8:=bk x25s
theorem x25u{rec0:AV->AV->Mem->Nat->O2}:x2hp call hs u x15q (j2 (x1b call hs u rec0) 1 6) (setE 1 (j2 (x1b call hs u rec0) 1 6) (setE 0 (j0 (x10 call hs u)) eNil))=j2 (x8w call hs u rec0) 1 6:=tr (sqN 4 x25t)
theorem x25v{rec0:AV->AV->Mem->Nat->O2}:x2hp call hs u x15p (j2 (x1b call hs u rec0) 1 6) (setE 0 (j0 (x10 call hs u)) eNil)=j2 (x8w call hs u rec0) 1 6:=bk x25u
theorem x25w{rec0:AV->AV->Mem->Nat->O2}:x2hp call hs u xou (j2 rec0 1 6) (setE 0 (j0 (x10 call hs u)) eNil)=j2 (x8w call hs u rec0) 1 6:=sq2 x25q x25v
theorem x25x{rec0:AV->AV->Mem->Nat->O2}:x2hp call hs u x15o (j2 rec0 1 6) (setE 0 (j0 (x10 call hs u)) eNil)=j2 (xdm call hs u rec0) 1 6:=tr (sqN 1 x25w)
theorem x25y:x2hp call hs u x15n (j0 (x10 call hs u)) (setE 0 (j0 (x10 call hs u)) eNil)=j2 (x22 call hs u NN) 1 6:=lp (Ln:=fun n=>j2 (x22 call hs u n) 1 6) fun n=>tr x25x
theorem x25z:x2hp call hs u x15m (j0 (x10 call hs u)) eNil=j2 (x22 call hs u NN) 1 6:=bk x25y
theorem x260:x2hp call hs u x15l (j0 (x10 call hs u)) eNil=j1 (xdn call hs u) 1:=tr (sqN 1 x25z)
theorem x261:x2hp call hs u xot r_8 eNil=j1 (xdn call hs u) 1:=sq2 x25p x260
theorem x1fs:x2hp call hs u x15k r_8 eNil=j1 (xis call hs u) 0:=tr (sqN 3 x261)
noncomputable abbrev x2gm:=VX x3a 68 r_0
noncomputable def x15t:=x2fa x3a
noncomputable def xov:=nRs 2 x15t
noncomputable def x15u:=nL xov
noncomputable def xow:=nR xov
noncomputable def x15v:=nL xow
noncomputable def x262:=nR xow
noncomputable def x15w:=nR x15v
noncomputable def x15x:=nR x15w
noncomputable def x15y:=nR x15x
noncomputable def xox:=nR x15y
noncomputable def x15z:=nL xox
noncomputable def x263:=nR xox
noncomputable def x160:=nR x15z
noncomputable def x161:=nRs 3 x160
noncomputable def x162:=nR x161
noncomputable def x163:=nR x162
noncomputable def xoy:=nR x163
noncomputable def x264:=nL xoy
noncomputable def x265:=nR xoy
noncomputable def x164:=nR x15u
noncomputable def x165:=nR x164
noncomputable def x266:=nR x165
theorem x267:x2gm call hs u x262 r_0 eNil=j1 (xq call hs u) 5:=by kernel_rfl
theorem x268{rec0:AV->AV->AV->AV->Mem->Nat->O2}:x2gm call hs u x263 (j4 rec0 1 2 5 7) (setE 2 (j1 (xq call hs u) 5) eNil)=j4 (xk call hs u rec0) 1 2 5 7:=by kernel_rfl
theorem x269{rec0:AV->AV->AV->AV->Mem->Nat->O2}{rec1:AV->AV->AV->AV->AV->AV->AV->Mem->Nat->O2}:x2gm call hs u x265 (j7 rec1 1 2 5 7 9 10 11) (setE 4 (j4 (xk call hs u rec0) 1 2 5 7) (setE 3 (j4 (xk call hs u rec0) 1 2 5 7) (setE 2 (j1 (xq call hs u) 5) eNil)))=j7 (xdo call hs u rec0 rec1) 1 2 5 7 9 10 11:=by kernel_rfl
theorem x26a{rec0:AV->AV->AV->AV->Mem->Nat->O2}{rec1:AV->AV->AV->AV->AV->AV->AV->Mem->Nat->O2}:x2gm call hs u x264 (j7 (xdo call hs u rec0 rec1) 1 2 5 7 9 10 11) (setE 4 (j4 (xk call hs u rec0) 1 2 5 7) (setE 3 (j4 (xk call hs u rec0) 1 2 5 7) (setE 2 (j1 (xq call hs u) 5) eNil)))=j7 (xit call hs u rec0 rec1) 1 2 5 7 9 10 11:=by kernel_rfl
theorem x26b{rec0:AV->AV->AV->AV->Mem->Nat->O2}{rec1:AV->AV->AV->AV->AV->AV->AV->Mem->Nat->O2}:x2gm call hs u xoy (j7 rec1 1 2 5 7 9 10 11) (setE 4 (j4 (xk call hs u rec0) 1 2 5 7) (setE 3 (j4 (xk call hs u rec0) 1 2 5 7) (setE 2 (j1 (xq call hs u) 5) eNil)))=j7 (xit call hs u rec0 rec1) 1 2 5 7 9 10 11:=sq2 x269 x26a
theorem x26c{rec0:AV->AV->AV->AV->Mem->Nat->O2}{rec1:AV->AV->AV->AV->AV->AV->AV->Mem->Nat->O2}:x2gm call hs u x163 (j7 rec1 1 2 5 7 9 10 11) (setE 4 (j4 (xk call hs u rec0) 1 2 5 7) (setE 3 (j4 (xk call hs u rec0) 1 2 5 7) (setE 2 (j1 (xq call hs u) 5) eNil)))=j7 (xrn call hs u rec0 rec1) 1 2 5 7 9 10 11:=tr (sqN 1 x26b)
theorem x26d{rec0:AV->AV->AV->AV->Mem->Nat->O2}:x2gm call hs u x162 (j4 (xk call hs u rec0) 1 2 5 7) (setE 4 (j4 (xk call hs u rec0) 1 2 5 7) (setE 3 (j4 (xk call hs u rec0) 1 2 5 7) (setE 2 (j1 (xq call hs u) 5) eNil)))=j7 (x8x call hs u rec0 NN) 1 2 5 7 9 10 11:=lp (Ln:=fun n=>j7 (x8x call hs u rec0 n) 1 2 5 7 9 10 11) fun n=>tr x26c
theorem x26e{rec0:AV->AV->AV->AV->Mem->Nat->O2}:x2gm call hs u x161 (j4 (xk call hs u rec0) 1 2 5 7) (setE 3 (j4 (xk call hs u rec0) 1 2 5 7) (setE 2 (j1 (xq call hs u) 5) eNil))=j7 (x8x call hs u rec0 NN) 1 2 5 7 9 10 11:=bk x26d
theorem x26f{rec0:AV->AV->AV->AV->Mem->Nat->O2}:x2gm call hs u x160 (j4 (xk call hs u rec0) 1 2 5 7) (setE 3 (j4 (xk call hs u rec0) 1 2 5 7) (setE 2 (j1 (xq call hs u) 5) eNil))=j4 (xdp call hs u rec0) 1 2 5 7:=tr (sqN 3 x26e)
theorem x26g{rec0:AV->AV->AV->AV->Mem->Nat->O2}:x2gm call hs u x15z (j4 (xk call hs u rec0) 1 2 5 7) (setE 2 (j1 (xq call hs u) 5) eNil)=j4 (xdp call hs u rec0) 1 2 5 7:=bk x26f
theorem x26h{rec0:AV->AV->AV->AV->Mem->Nat->O2}:x2gm call hs u xox (j4 rec0 1 2 5 7) (setE 2 (j1 (xq call hs u) 5) eNil)=j4 (xdp call hs u rec0) 1 2 5 7:=sq2 x268 x26g
theorem x26i{rec0:AV->AV->AV->AV->Mem->Nat->O2}:x2gm call hs u x15y (j4 rec0 1 2 5 7) (setE 2 (j1 (xq call hs u) 5) eNil)=j4 (xro call hs u rec0) 1 2 5 7:=tr (sqN 1 x26h)
theorem x26j:x2gm call hs u x15x (j1 (xq call hs u) 5) (setE 2 (j1 (xq call hs u) 5) eNil)=j4 (x8y call hs u NN) 1 2 5 7:=lp (Ln:=fun n=>j4 (x8y call hs u n) 1 2 5 7) fun n=>tr x26i
theorem x26k:x2gm call hs u x15w (j1 (xq call hs u) 5) eNil=j4 (x8y call hs u NN) 1 2 5 7:=bk x26j
theorem x26l:x2gm call hs u x15v (j1 (xq call hs u) 5) eNil=j3 (x45 call hs u) 1 2 5:=tr (sqN 1 x26k)
theorem x26m:x2gm call hs u xow r_0 eNil=j3 (x45 call hs u) 1 2 5:=sq2 x267 x26l
theorem x26n{rec2:AV->AV->AV->AV->Mem->Nat->O2}:x2gm call hs u x266 (j4 rec2 1 2 5 6) (setE 0 (j3 (x45 call hs u) 1 2 5) eNil)=j4 (xrp call hs u rec2) 1 2 5 6:=by kernel_rfl
theorem x26o:x2gm call hs u x165 (j3 (x45 call hs u) 1 2 5) (setE 0 (j3 (x45 call hs u) 1 2 5) eNil)=j4 (x8z call hs u NN) 1 2 5 6:=lp (Ln:=fun n=>j4 (x8z call hs u n) 1 2 5 6) fun n=>tr x26n
theorem x26p:x2gm call hs u x164 (j3 (x45 call hs u) 1 2 5) eNil=j4 (x8z call hs u NN) 1 2 5 6:=bk x26o
theorem x26q:x2gm call hs u x15u (j3 (x45 call hs u) 1 2 5) eNil=j3 (xiu call hs u) 1 2 5:=tr (sqN 1 x26p)
theorem x26r:x2gm call hs u xov r_0 eNil=j3 (xiu call hs u) 1 2 5:=sq2 x26m x26q
theorem x1ft:x2gm call hs u x15t r_0 eNil=j2 (xrq call hs u) 0 1:=tr (sqN 2 x26r)
noncomputable abbrev x2wa:=VX x1e 9 r_0
noncomputable def x26s:=x2fa x1e
theorem x1fu:x2wa call hs u x26s r_0 eNil=j2 (xiv call hs u) 0 1:=by kernel_rfl
noncomputable abbrev x2wb:=VX x7o 15 r_15
noncomputable def x26t:=x2fa x7o
theorem x1fv:x2wb call hs u x26t r_15 eNil=j1 (xrr call hs u) 0:=by kernel_rfl
noncomputable abbrev x2wc:=VX xb9 16 r_8
noncomputable def x26u:=x2fa xb9
theorem x1fw:x2wc call hs u x26u r_8 eNil=j1 (xrs call hs u) 0:=by kernel_rfl
noncomputable abbrev x2o5:=VX xg6 14 r_0
noncomputable def x166:=x2fa xg6
noncomputable def xoz:=nRs 2 x166
noncomputable def x26v:=nL xoz
noncomputable def x26w:=nR xoz
theorem x26x:x2o5 call hs u x26w r_0 eNil=j1 (xdq call hs u) 0:=by kernel_rfl
theorem x26y:x2o5 call hs u x26v (j1 (xdq call hs u) 0) eNil=j2 (xiw call hs u) 0 1:=by kernel_rfl
theorem x26z:x2o5 call hs u xoz r_0 eNil=j2 (xiw call hs u) 0 1:=sq2 x26x x26y
theorem x1fx:x2o5 call hs u x166 r_0 eNil=j2 (xrt call hs u) 0 1:=tr (sqN 2 x26z)
noncomputable abbrev x2wd:=VX xba 33 r_10
noncomputable def x270:=x2fa xba
theorem x1fy:x2wd call hs u x270 r_10 eNil=j1 (xru call hs u) 0:=by kernel_rfl
noncomputable abbrev x2we:=VX x4x 6 r_3
noncomputable def x271:=x2fa x4x
theorem x1fz:x2we call hs u x271 r_3 eNil=j1 (xix call hs u) 0:=by kernel_rfl
noncomputable abbrev x2wf:=VX x4y 8 r_3
noncomputable def x272:=x2fa x4y
theorem x1g0:x2wf call hs u x272 r_3 eNil=j1 (xiy call hs u) 0:=by kernel_rfl
noncomputable abbrev x2wg:=VX x3b 7 r_3
noncomputable def x273:=x2fa x3b
theorem x1g1:x2wg call hs u x273 r_3 eNil=j1 (xiz call hs u) 0:=by kernel_rfl
noncomputable abbrev x2wh:=VX x4z 5 r_3
noncomputable def x274:=x2fa x4z
theorem x1g2:x2wh call hs u x274 r_3 eNil=j1 (xj0 call hs u) 0:=by kernel_rfl
noncomputable abbrev x2j5:=VX xbb 38 r_3
noncomputable def x167:=x2fa xbb
noncomputable def xp0:=nRs 3 x167
noncomputable def x168:=nL xp0
noncomputable def x275:=nR xp0
noncomputable def x169:=nR x168
noncomputable def x16a:=nR x169
noncomputable def x16b:=nR x16a
noncomputable def xp1:=nR x16b
noncomputable def x276:=nL xp1
noncomputable def x277:=nR xp1
theorem x278:x2j5 call hs u x275 r_3 eNil=j1 (x23 call hs u) 3:=by kernel_rfl
theorem x279{rec0:AV->AV->AV->AV->Mem->Nat->O2}:x2j5 call hs u x277 (j4 rec0 0 3 4 5) (setE 0 (j1 (x23 call hs u) 3) eNil)=j4 (xdr call hs u rec0) 0 3 4 5:=by kernel_rfl
theorem x27a{rec0:AV->AV->AV->AV->Mem->Nat->O2}:x2j5 call hs u x276 (j4 (xdr call hs u rec0) 0 3 4 5) (setE 0 (j1 (x23 call hs u) 3) eNil)=j4 (xj1 call hs u rec0) 0 3 4 5:=by kernel_rfl
theorem x27b{rec0:AV->AV->AV->AV->Mem->Nat->O2}:x2j5 call hs u xp1 (j4 rec0 0 3 4 5) (setE 0 (j1 (x23 call hs u) 3) eNil)=j4 (xj1 call hs u rec0) 0 3 4 5:=sq2 x279 x27a
theorem x27c{rec0:AV->AV->AV->AV->Mem->Nat->O2}:x2j5 call hs u x16b (j4 rec0 0 3 4 5) (setE 0 (j1 (x23 call hs u) 3) eNil)=j4 (xrv call hs u rec0) 0 3 4 5:=tr (sqN 1 x27b)
theorem x27d:x2j5 call hs u x16a (j1 (x23 call hs u) 3) (setE 0 (j1 (x23 call hs u) 3) eNil)=j4 (x91 call hs u NN) 0 3 4 5:=lp (Ln:=fun n=>j4 (x91 call hs u n) 0 3 4 5) fun n=>tr x27c
theorem x27e:x2j5 call hs u x169 (j1 (x23 call hs u) 3) eNil=j4 (x91 call hs u NN) 0 3 4 5:=bk x27d
theorem x27f:x2j5 call hs u x168 (j1 (x23 call hs u) 3) eNil=j3 (xj2 call hs u) 0 3 4:=tr (sqN 1 x27e)
theorem x27g:x2j5 call hs u xp0 r_3 eNil=j3 (xj2 call hs u) 0 3 4:=sq2 x278 x27f
theorem x1g3:x2j5 call hs u x167 r_3 eNil=j1 (xrw call hs u) 0:=tr (sqN 3 x27g)
noncomputable abbrev x2j6:=VX x7p 22 r_0
noncomputable def x16c:=x2fa x7p
noncomputable def xp2:=nRs 2 x16c
noncomputable def x16d:=nL xp2
noncomputable def x27h:=nR xp2
noncomputable def x16e:=nR x16d
noncomputable def x16f:=nR x16e
noncomputable def x16g:=nR x16f
noncomputable def xp3:=nR x16g
noncomputable def x27i:=nL xp3
noncomputable def x27j:=nR xp3
theorem x27k:x2j6 call hs u x27h r_0 eNil=j1 (x24 call hs u) 5:=by kernel_rfl
theorem x27l{rec0:AV->AV->AV->AV->Mem->Nat->O2}:x2j6 call hs u x27j (j4 rec0 1 2 5 6) (setE 0 (j1 (x24 call hs u) 5) eNil)=j4 (xds call hs u rec0) 1 2 5 6:=by kernel_rfl
theorem x27m{rec0:AV->AV->AV->AV->Mem->Nat->O2}:x2j6 call hs u x27i (j4 (xds call hs u rec0) 1 2 5 6) (setE 0 (j1 (x24 call hs u) 5) eNil)=j4 (xj3 call hs u rec0) 1 2 5 6:=by kernel_rfl
theorem x27n{rec0:AV->AV->AV->AV->Mem->Nat->O2}:x2j6 call hs u xp3 (j4 rec0 1 2 5 6) (setE 0 (j1 (x24 call hs u) 5) eNil)=j4 (xj3 call hs u rec0) 1 2 5 6:=sq2 x27l x27m
theorem x27o{rec0:AV->AV->AV->AV->Mem->Nat->O2}:x2j6 call hs u x16g (j4 rec0 1 2 5 6) (setE 0 (j1 (x24 call hs u) 5) eNil)=j4 (xrx call hs u rec0) 1 2 5 6:=tr (sqN 1 x27n)
theorem x27p:x2j6 call hs u x16f (j1 (x24 call hs u) 5) (setE 0 (j1 (x24 call hs u) 5) eNil)=j4 (x92 call hs u NN) 1 2 5 6:=lp (Ln:=fun n=>j4 (x92 call hs u n) 1 2 5 6) fun n=>tr x27o
theorem x27q:x2j6 call hs u x16e (j1 (x24 call hs u) 5) eNil=j4 (x92 call hs u NN) 1 2 5 6:=bk x27p
theorem x27r:x2j6 call hs u x16d (j1 (x24 call hs u) 5) eNil=j3 (xj4 call hs u) 1 2 5:=tr (sqN 1 x27q)
theorem x27s:x2j6 call hs u xp2 r_0 eNil=j3 (xj4 call hs u) 1 2 5:=sq2 x27k x27r
theorem x1g4:x2j6 call hs u x16c r_0 eNil=j2 (xry call hs u) 0 1:=tr (sqN 2 x27s)
noncomputable abbrev x2wi:=VX x50 25 r_6
noncomputable def x27t:=x2fa x50
theorem x1g5:x2wi call hs u x27t r_6 eNil=j2 (xj5 call hs u) 0 1:=by kernel_rfl
noncomputable abbrev x2wj:=VX x6a 24 r_6
noncomputable def x27u:=x2fa x6a
theorem x1g6:x2wj call hs u x27u r_6 eNil=j2 (xrz call hs u) 0 1:=by kernel_rfl
noncomputable abbrev x2h8:=VX x3c 51 r_3
noncomputable def x16h:=x2fa x3c
noncomputable def xp4:=nRs 2 x16h
noncomputable def x16i:=nL xp4
noncomputable def x16j:=nR xp4
noncomputable def xp5:=nRs 2 x16j
noncomputable def x16k:=nL xp5
noncomputable def x27v:=nR xp5
noncomputable def x16l:=nR x16k
noncomputable def x16m:=nR x16l
noncomputable def x16n:=nR x16m
noncomputable def xp6:=nRs 2 x16n
noncomputable def x27w:=nL xp6
noncomputable def x27x:=nR xp6
noncomputable def x16o:=nR x16i
noncomputable def x16p:=nR x16o
noncomputable def x27y:=nR x16p
theorem x27z:x2h8 call hs u x27v r_3 eNil=j1 (x1r call hs u) 4:=by kernel_rfl
theorem x280{rec0:AV->AV->AV->AV->AV->AV->Mem->Nat->O2}:x2h8 call hs u x27x (j6 rec0 1 4 6 29 30 31) (setE 2 (j1 (x1r call hs u) 4) eNil)=j6 (x6u call hs u rec0) 1 4 6 29 30 31:=by kernel_rfl
theorem x281{rec0:AV->AV->AV->AV->AV->AV->Mem->Nat->O2}:x2h8 call hs u x27w (j6 (x6u call hs u rec0) 1 4 6 29 30 31) (setE 2 (j1 (x1r call hs u) 4) eNil)=j6 (xdt call hs u rec0) 1 4 6 29 30 31:=by kernel_rfl
theorem x282{rec0:AV->AV->AV->AV->AV->AV->Mem->Nat->O2}:x2h8 call hs u xp6 (j6 rec0 1 4 6 29 30 31) (setE 2 (j1 (x1r call hs u) 4) eNil)=j6 (xdt call hs u rec0) 1 4 6 29 30 31:=sq2 x280 x281
theorem x283{rec0:AV->AV->AV->AV->AV->AV->Mem->Nat->O2}:x2h8 call hs u x16n (j6 rec0 1 4 6 29 30 31) (setE 2 (j1 (x1r call hs u) 4) eNil)=j6 (xdu call hs u rec0) 1 4 6 29 30 31:=tr (sqN 2 x282)
theorem x284:x2h8 call hs u x16m (j1 (x1r call hs u) 4) (setE 2 (j1 (x1r call hs u) 4) eNil)=j6 (x46 call hs u NN) 1 4 6 29 30 31:=lp (Ln:=fun n=>j6 (x46 call hs u n) 1 4 6 29 30 31) fun n=>tr x283
theorem x285:x2h8 call hs u x16l (j1 (x1r call hs u) 4) eNil=j6 (x46 call hs u NN) 1 4 6 29 30 31:=bk x284
theorem x286:x2h8 call hs u x16k (j1 (x1r call hs u) 4) eNil=j4 (xdv call hs u) 1 3 4 6:=tr (sqN 1 x285)
theorem x287:x2h8 call hs u xp5 r_3 eNil=j4 (xdv call hs u) 1 3 4 6:=sq2 x27z x286
theorem x288:x2h8 call hs u x16j r_3 eNil=j3 (x47 call hs u) 1 3 4:=tr (sqN 2 x287)
theorem x289{rec1:AV->AV->AV->AV->AV->Mem->Nat->O2}:x2h8 call hs u x27y (j5 rec1 1 3 4 12 13) (setE 0 (j3 (x47 call hs u) 1 3 4) eNil)=j5 (xdw call hs u rec1) 1 3 4 12 13:=by kernel_rfl
theorem x28a:x2h8 call hs u x16p (j3 (x47 call hs u) 1 3 4) (setE 0 (j3 (x47 call hs u) 1 3 4) eNil)=j5 (x48 call hs u NN) 1 3 4 12 13:=lp (Ln:=fun n=>j5 (x48 call hs u n) 1 3 4 12 13) fun n=>tr x289
theorem x28b:x2h8 call hs u x16o (j3 (x47 call hs u) 1 3 4) eNil=j5 (x48 call hs u NN) 1 3 4 12 13:=bk x28a
theorem x28c:x2h8 call hs u x16i (j3 (x47 call hs u) 1 3 4) eNil=j3 (xdx call hs u) 1 3 4:=tr (sqN 1 x28b)
theorem x28d:x2h8 call hs u xp4 r_3 eNil=j3 (xdx call hs u) 1 3 4:=sq2 x288 x28c
theorem x1g7:x2h8 call hs u x16h r_3 eNil=j1 (xj6 call hs u) 0:=tr (sqN 2 x28d)
noncomputable abbrev x2wk:=VX xgd 21 r_6
noncomputable def x28e:=x2fa xgd
theorem x1g8:x2wk call hs u x28e r_6 eNil=j2 (xs0 call hs u) 0 1:=by kernel_rfl
noncomputable abbrev x2lc:=VX x6b 26 r_0
noncomputable def x16q:=x2fa x6b
noncomputable def xp7:=nRs 2 x16q
noncomputable def x16r:=nL xp7
noncomputable def x28f:=nR xp7
noncomputable def x16s:=nR x16r
noncomputable def x16t:=nR x16s
noncomputable def x28g:=nR x16t
theorem x28h:x2lc call hs u x28f r_0 eNil=j1 (x49 call hs u) 5:=by kernel_rfl
theorem x28i{rec0:AV->AV->AV->AV->AV->Mem->Nat->O2}:x2lc call hs u x28g (j5 rec0 0 5 8 9 10) (setE 0 (j1 (x49 call hs u) 5) eNil)=j5 (xdy call hs u rec0) 0 5 8 9 10:=by kernel_rfl
theorem x28j:x2lc call hs u x16t (j1 (x49 call hs u) 5) (setE 0 (j1 (x49 call hs u) 5) eNil)=j5 (x4a call hs u NN) 0 5 8 9 10:=lp (Ln:=fun n=>j5 (x4a call hs u n) 0 5 8 9 10) fun n=>tr x28i
theorem x28k:x2lc call hs u x16s (j1 (x49 call hs u) 5) eNil=j5 (x4a call hs u NN) 0 5 8 9 10:=bk x28j
theorem x28l:x2lc call hs u x16r (j1 (x49 call hs u) 5) eNil=j3 (xdz call hs u) 0 1 5:=tr (sqN 1 x28k)
theorem x28m:x2lc call hs u xp7 r_0 eNil=j3 (xdz call hs u) 0 1 5:=sq2 x28h x28l
theorem x1g9:x2lc call hs u x16q r_0 eNil=j2 (xj7 call hs u) 0 1:=tr (sqN 2 x28m)
noncomputable abbrev x2wl:=VX x51 6 r_3
noncomputable def x28n:=x2fa x51
theorem x1ga:x2wl call hs u x28n r_3 eNil=j1 (xj8 call hs u) 0:=by kernel_rfl
noncomputable abbrev x2wm:=VX x52 6 r_3
noncomputable def x28o:=x2fa x52
theorem x1gb:x2wm call hs u x28o r_3 eNil=j1 (xj9 call hs u) 0:=by kernel_rfl
noncomputable abbrev x2g0:=VX xbc 96 r_16
noncomputable def x16u:=x2fa xbc
noncomputable def xp8:=nRs 4 x16u
noncomputable def x16v:=nL xp8
noncomputable def x16w:=nR xp8
noncomputable def xp9:=nR x16w
noncomputable def x16x:=nL xp9
noncomputable def x28p:=nR xp9
noncomputable def x16y:=nR x16x
noncomputable def x16z:=nR x16y
noncomputable def x28q:=nR x16z
noncomputable def x170:=nR x16v
noncomputable def x171:=nR x170
noncomputable def x172:=nR x171
noncomputable def xpa:=nRs 2 x172
noncomputable def x173:=nL xpa
noncomputable def x28r:=nR xpa
noncomputable def x174:=nR x173
noncomputable def x175:=nR x174
noncomputable def x176:=nR x175
noncomputable def x177:=nR x176
noncomputable def xpb:=nR x177
noncomputable def x178:=nL xpb
noncomputable def x28s:=nR xpb
noncomputable def x179:=nR x178
noncomputable def x17a:=nR x179
noncomputable def x17b:=nR x17a
noncomputable def x17c:=nR x17b
noncomputable def xpc:=nR x17c
noncomputable def x28t:=nL xpc
noncomputable def x28u:=nR xpc
theorem x28v:x2g0 call hs u x28p r_16 eNil=j1 (x5n call hs u) 16:=by kernel_rfl
theorem x28w{rec0:AV->AV->AV->AV->AV->Mem->Nat->O2}:x2g0 call hs u x28q (j5 rec0 2 4 9 16 17) (setE 6 (j1 (x5n call hs u) 16) eNil)=j5 (xs1 call hs u rec0) 2 4 9 16 17:=by kernel_rfl
theorem x28x:x2g0 call hs u x16z (j1 (x5n call hs u) 16) (setE 6 (j1 (x5n call hs u) 16) eNil)=j5 (x93 call hs u NN) 2 4 9 16 17:=lp (Ln:=fun n=>j5 (x93 call hs u n) 2 4 9 16 17) fun n=>tr x28w
theorem x28y:x2g0 call hs u x16y (j1 (x5n call hs u) 16) eNil=j5 (x93 call hs u NN) 2 4 9 16 17:=bk x28x
theorem x28z:x2g0 call hs u x16x (j1 (x5n call hs u) 16) eNil=j5 (xja call hs u) 2 3 4 9 16:=tr (sqN 1 x28y)
theorem x290:x2g0 call hs u xp9 r_16 eNil=j5 (xja call hs u) 2 3 4 9 16:=sq2 x28v x28z
theorem x291:x2g0 call hs u x16w r_16 eNil=j4 (xc call hs u) 2 3 4 9:=tr (sqN 1 x290)
theorem x292{rec1:AV->AV->AV->AV->AV->AV->AV->AV->Mem->Nat->O2}:x2g0 call hs u x28r (j8 rec1 1 2 3 4 9 10 31 32) (setE 0 (j4 (xc call hs u) 2 3 4 9) eNil)=j8 (x6 call hs u rec1) 1 2 3 4 9 10 31 32:=by kernel_rfl
theorem x293{rec1:AV->AV->AV->AV->AV->AV->AV->AV->Mem->Nat->O2}{rec2:AV->AV->AV->AV->AV->AV->AV->AV->AV->Mem->Nat->O2}:x2g0 call hs u x28s (j9 rec2 1 2 3 4 9 10 11 31 32) (setE 2 (j8 (x6 call hs u rec1) 1 2 3 4 9 10 31 32) (setE 1 (j8 (x6 call hs u rec1) 1 2 3 4 9 10 31 32) (setE 0 (j4 (xc call hs u) 2 3 4 9) eNil)))=j9 (xl call hs u rec1 rec2) 1 2 3 4 9 10 11 31 32:=by kernel_rfl
theorem x294{rec1:AV->AV->AV->AV->AV->AV->AV->AV->Mem->Nat->O2}{rec2:AV->AV->AV->AV->AV->AV->AV->AV->AV->Mem->Nat->O2}{rec3:AV->AV->AV->AV->AV->AV->AV->AV->AV->AV->Mem->Nat->O2}:x2g0 call hs u x28u (j10 rec3 1 2 3 4 9 10 11 12 31 32) (setE 4 (j9 (xl call hs u rec1 rec2) 1 2 3 4 9 10 11 31 32) (setE 3 (j9 (xl call hs u rec1 rec2) 1 2 3 4 9 10 11 31 32) (setE 2 (j8 (x6 call hs u rec1) 1 2 3 4 9 10 31 32) (setE 1 (j8 (x6 call hs u rec1) 1 2 3 4 9 10 31 32) (setE 0 (j4 (xc call hs u) 2 3 4 9) eNil)))))=j10 (xe0 call hs u rec1 rec2 rec3) 1 2 3 4 9 10 11 12 31 32:=by kernel_rfl
theorem x295{rec1:AV->AV->AV->AV->AV->AV->AV->AV->Mem->Nat->O2}{rec2:AV->AV->AV->AV->AV->AV->AV->AV->AV->Mem->Nat->O2}{rec3:AV->AV->AV->AV->AV->AV->AV->AV->AV->AV->Mem->Nat->O2}:x2g0 call hs u x28t (j10 (xe0 call hs u rec1 rec2 rec3) 1 2 3 4 9 10 11 12 31 32) (setE 4 (j9 (xl call hs u rec1 rec2) 1 2 3 4 9 10 11 31 32) (setE 3 (j9 (xl call hs u rec1 rec2) 1 2 3 4 9 10 11 31 32) (setE 2 (j8 (x6 call hs u rec1) 1 2 3 4 9 10 31 32) (setE 1 (j8 (x6 call hs u rec1) 1 2 3 4 9 10 31 32) (setE 0 (j4 (xc call hs u) 2 3 4 9) eNil)))))=j10 (xjb call hs u rec1 rec2 rec3) 1 2 3 4 9 10 11 12 31 32:=by kernel_rfl
theorem x296{rec1:AV->AV->AV->AV->AV->AV->AV->AV->Mem->Nat->O2}{rec2:AV->AV->AV->AV->AV->AV->AV->AV->AV->Mem->Nat->O2}{rec3:AV->AV->AV->AV->AV->AV->AV->AV->AV->AV->Mem->Nat->O2}:x2g0 call hs u xpc (j10 rec3 1 2 3 4 9 10 11 12 31 32) (setE 4 (j9 (xl call hs u rec1 rec2) 1 2 3 4 9 10 11 31 32) (setE 3 (j9 (xl call hs u rec1 rec2) 1 2 3 4 9 10 11 31 32) (setE 2 (j8 (x6 call hs u rec1) 1 2 3 4 9 10 31 32) (setE 1 (j8 (x6 call hs u rec1) 1 2 3 4 9 10 31 32) (setE 0 (j4 (xc call hs u) 2 3 4 9) eNil)))))=j10 (xjb call hs u rec1 rec2 rec3) 1 2 3 4 9 10 11 12 31 32:=sq2 x294 x295
theorem x297{rec1:AV->AV->AV->AV->AV->AV->AV->AV->Mem->Nat->O2}{rec2:AV->AV->AV->AV->AV->AV->AV->AV->AV->Mem->Nat->O2}{rec3:AV->AV->AV->AV->AV->AV->AV->AV->AV->AV->Mem->Nat->O2}:x2g0 call hs u x17c (j10 rec3 1 2 3 4 9 10 11 12 31 32) (setE 4 (j9 (xl call hs u rec1 rec2) 1 2 3 4 9 10 11 31 32) (setE 3 (j9 (xl call hs u rec1 rec2) 1 2 3 4 9 10 11 31 32) (setE 2 (j8 (x6 call hs u rec1) 1 2 3 4 9 10 31 32) (setE 1 (j8 (x6 call hs u rec1) 1 2 3 4 9 10 31 32) (setE 0 (j4 (xc call hs u) 2 3 4 9) eNil)))))=j10 (xs2 call hs u rec1 rec2 rec3) 1 2 3 4 9 10 11 12 31 32:=tr (sqN 1 x296)
theorem x298{rec1:AV->AV->AV->AV->AV->AV->AV->AV->Mem->Nat->O2}{rec2:AV->AV->AV->AV->AV->AV->AV->AV->AV->Mem->Nat->O2}:x2g0 call hs u x17b (j9 (xl call hs u rec1 rec2) 1 2 3 4 9 10 11 31 32) (setE 4 (j9 (xl call hs u rec1 rec2) 1 2 3 4 9 10 11 31 32) (setE 3 (j9 (xl call hs u rec1 rec2) 1 2 3 4 9 10 11 31 32) (setE 2 (j8 (x6 call hs u rec1) 1 2 3 4 9 10 31 32) (setE 1 (j8 (x6 call hs u rec1) 1 2 3 4 9 10 31 32) (setE 0 (j4 (xc call hs u) 2 3 4 9) eNil)))))=j10 (x94 call hs u rec1 rec2 NN) 1 2 3 4 9 10 11 12 31 32:=lp (Ln:=fun n=>j10 (x94 call hs u rec1 rec2 n) 1 2 3 4 9 10 11 12 31 32) fun n=>tr x297
theorem x299{rec1:AV->AV->AV->AV->AV->AV->AV->AV->Mem->Nat->O2}{rec2:AV->AV->AV->AV->AV->AV->AV->AV->AV->Mem->Nat->O2}:x2g0 call hs u x17a (j9 (xl call hs u rec1 rec2) 1 2 3 4 9 10 11 31 32) (setE 3 (j9 (xl call hs u rec1 rec2) 1 2 3 4 9 10 11 31 32) (setE 2 (j8 (x6 call hs u rec1) 1 2 3 4 9 10 31 32) (setE 1 (j8 (x6 call hs u rec1) 1 2 3 4 9 10 31 32) (setE 0 (j4 (xc call hs u) 2 3 4 9) eNil))))=j10 (x94 call hs u rec1 rec2 NN) 1 2 3 4 9 10 11 12 31 32:=bk x298
theorem x29a{rec1:AV->AV->AV->AV->AV->AV->AV->AV->Mem->Nat->O2}{rec2:AV->AV->AV->AV->AV->AV->AV->AV->AV->Mem->Nat->O2}:x2g0 call hs u x179 (j9 (xl call hs u rec1 rec2) 1 2 3 4 9 10 11 31 32) (setE 3 (j9 (xl call hs u rec1 rec2) 1 2 3 4 9 10 11 31 32) (setE 2 (j8 (x6 call hs u rec1) 1 2 3 4 9 10 31 32) (setE 1 (j8 (x6 call hs u rec1) 1 2 3 4 9 10 31 32) (setE 0 (j4 (xc call hs u) 2 3 4 9) eNil))))=j9 (xe1 call hs u rec1 rec2) 1 2 3 4 9 10 11 31 32:=tr (sqN 1 x299)
theorem x29b{rec1:AV->AV->AV->AV->AV->AV->AV->AV->Mem->Nat->O2}{rec2:AV->AV->AV->AV->AV->AV->AV->AV->AV->Mem->Nat->O2}:x2g0 call hs u x178 (j9 (xl call hs u rec1 rec2) 1 2 3 4 9 10 11 31 32) (setE 2 (j8 (x6 call hs u rec1) 1 2 3 4 9 10 31 32) (setE 1 (j8 (x6 call hs u rec1) 1 2 3 4 9 10 31 32) (setE 0 (j4 (xc call hs u) 2 3 4 9) eNil)))=j9 (xe1 call hs u rec1 rec2) 1 2 3 4 9 10 11 31 32:=bk x29a
theorem x29c{rec1:AV->AV->AV->AV->AV->AV->AV->AV->Mem->Nat->O2}{rec2:AV->AV->AV->AV->AV->AV->AV->AV->AV->Mem->Nat->O2}:x2g0 call hs u xpb (j9 rec2 1 2 3 4 9 10 11 31 32) (setE 2 (j8 (x6 call hs u rec1) 1 2 3 4 9 10 31 32) (setE 1 (j8 (x6 call hs u rec1) 1 2 3 4 9 10 31 32) (setE 0 (j4 (xc call hs u) 2 3 4 9) eNil)))=j9 (xe1 call hs u rec1 rec2) 1 2 3 4 9 10 11 31 32:=sq2 x293 x29b
theorem x29d{rec1:AV->AV->AV->AV->AV->AV->AV->AV->Mem->Nat->O2}{rec2:AV->AV->AV->AV->AV->AV->AV->AV->AV->Mem->Nat->O2}:x2g0 call hs u x177 (j9 rec2 1 2 3 4 9 10 11 31 32) (setE 2 (j8 (x6 call hs u rec1) 1 2 3 4 9 10 31 32) (setE 1 (j8 (x6 call hs u rec1) 1 2 3 4 9 10 31 32) (setE 0 (j4 (xc call hs u) 2 3 4 9) eNil)))=j9 (xs3 call hs u rec1 rec2) 1 2 3 4 9 10 11 31 32:=tr (sqN 1 x29c)
theorem x29e{rec1:AV->AV->AV->AV->AV->AV->AV->AV->Mem->Nat->O2}:x2g0 call hs u x176 (j8 (x6 call hs u rec1) 1 2 3 4 9 10 31 32) (setE 2 (j8 (x6 call hs u rec1) 1 2 3 4 9 10 31 32) (setE 1 (j8 (x6 call hs u rec1) 1 2 3 4 9 10 31 32) (setE 0 (j4 (xc call hs u) 2 3 4 9) eNil)))=j9 (x95 call hs u rec1 NN) 1 2 3 4 9 10 11 31 32:=lp (Ln:=fun n=>j9 (x95 call hs u rec1 n) 1 2 3 4 9 10 11 31 32) fun n=>tr x29d
theorem x29f{rec1:AV->AV->AV->AV->AV->AV->AV->AV->Mem->Nat->O2}:x2g0 call hs u x175 (j8 (x6 call hs u rec1) 1 2 3 4 9 10 31 32) (setE 1 (j8 (x6 call hs u rec1) 1 2 3 4 9 10 31 32) (setE 0 (j4 (xc call hs u) 2 3 4 9) eNil))=j9 (x95 call hs u rec1 NN) 1 2 3 4 9 10 11 31 32:=bk x29e
theorem x29g{rec1:AV->AV->AV->AV->AV->AV->AV->AV->Mem->Nat->O2}:x2g0 call hs u x174 (j8 (x6 call hs u rec1) 1 2 3 4 9 10 31 32) (setE 1 (j8 (x6 call hs u rec1) 1 2 3 4 9 10 31 32) (setE 0 (j4 (xc call hs u) 2 3 4 9) eNil))=j8 (xe2 call hs u rec1) 1 2 3 4 9 10 31 32:=tr (sqN 1 x29f)
theorem x29h{rec1:AV->AV->AV->AV->AV->AV->AV->AV->Mem->Nat->O2}:x2g0 call hs u x173 (j8 (x6 call hs u rec1) 1 2 3 4 9 10 31 32) (setE 0 (j4 (xc call hs u) 2 3 4 9) eNil)=j8 (xe2 call hs u rec1) 1 2 3 4 9 10 31 32:=bk x29g
theorem x29i{rec1:AV->AV->AV->AV->AV->AV->AV->AV->Mem->Nat->O2}:x2g0 call hs u xpa (j8 rec1 1 2 3 4 9 10 31 32) (setE 0 (j4 (xc call hs u) 2 3 4 9) eNil)=j8 (xe2 call hs u rec1) 1 2 3 4 9 10 31 32:=sq2 x292 x29h
theorem x29j{rec1:AV->AV->AV->AV->AV->AV->AV->AV->Mem->Nat->O2}:x2g0 call hs u x172 (j8 rec1 1 2 3 4 9 10 31 32) (setE 0 (j4 (xc call hs u) 2 3 4 9) eNil)=j8 (xs4 call hs u rec1) 1 2 3 4 9 10 31 32:=tr (sqN 2 x29i)
theorem x29k:x2g0 call hs u x171 (j4 (xc call hs u) 2 3 4 9) (setE 0 (j4 (xc call hs u) 2 3 4 9) eNil)=j8 (x96 call hs u NN) 1 2 3 4 9 10 31 32:=lp (Ln:=fun n=>j8 (x96 call hs u n) 1 2 3 4 9 10 31 32) fun n=>tr x29j
theorem x29l:x2g0 call hs u x170 (j4 (xc call hs u) 2 3 4 9) eNil=j8 (x96 call hs u NN) 1 2 3 4 9 10 31 32:=bk x29k
theorem x29m:x2g0 call hs u x16v (j4 (xc call hs u) 2 3 4 9) eNil=j6 (xjc call hs u) 1 2 3 4 9 10:=tr (sqN 1 x29l)
theorem x29n:x2g0 call hs u xp8 r_16 eNil=j6 (xjc call hs u) 1 2 3 4 9 10:=sq2 x291 x29m
theorem x1gc:x2g0 call hs u x16u r_16 eNil=j4 (xs5 call hs u) 0 1 2 3:=tr (sqN 4 x29n)
noncomputable abbrev x2pw:=VX x1f 43 r_17
noncomputable abbrev x2sz:=VX (R:=Mem) x1f 43 fNil
noncomputable def x17d:=x2fa x1f
noncomputable def x17e:=nRs 3 x17d
noncomputable def xf6:=nR x17e
noncomputable def x29o:=nL xf6
noncomputable def x29p:=nR xf6
theorem x29q:x2sz call hs u x29p (fun s=>some s.m) eNil=j7 (xe3 call hs u) 1 4 5 6 7 8 9:=by kernel_rfl
theorem x29r:x2sz call hs u x29o (j7 (xe3 call hs u) 1 4 5 6 7 8 9) eNil=j7 (xe4 call hs u) 1 4 5 6 7 17 18:=by kernel_rfl
theorem x29s:x2pw call hs u xf6 r_17 (setE 0 r_17 eNil)=j6 (xe5 call hs u) 1 4 5 6 7 16:=tr (rg (C:=xf6) (c:={f:=x1f,u:=u,nt:=43,hs:=hs}) (f:=(.tmp 16)) (ps:=#[17,18]) (fun u=>x29q) (fun u=>x29r))
theorem x29t:x2pw call hs u x17e r_17 eNil=j6 (xe5 call hs u) 1 4 5 6 7 16:=bk x29s
theorem x1gd:x2pw call hs u x17d r_17 eNil=j7 (xjd call hs u) 0 1 2 3 4 5 6:=tr (sqN 3 x29t)
noncomputable abbrev x2wn:=VX x6c 8 r_1
noncomputable def x29u:=x2fa x6c
theorem x1ge:x2wn call hs u x29u r_1 eNil=j3 (xje call hs u) 0 1 2:=by kernel_rfl
noncomputable abbrev x2hg:=VX x6d 49 r_3
noncomputable def x17f:=x2fa x6d
noncomputable def xpd:=nRs 2 x17f
noncomputable def x17g:=nL xpd
noncomputable def x29v:=nR xpd
noncomputable def x17h:=nR x17g
noncomputable def x17i:=nR x17h
noncomputable def x17j:=nR x17i
noncomputable def xpe:=nRs 2 x17j
noncomputable def x17k:=nL xpe
noncomputable def x29w:=nR xpe
noncomputable def x17l:=nR x17k
noncomputable def x17m:=nR x17l
noncomputable def xpf:=nR x17m
noncomputable def x29x:=nL xpf
noncomputable def x29y:=nR xpf
theorem x29z:x2hg call hs u x29v r_3 eNil=j0 (xw call hs u):=by kernel_rfl
theorem x2a0{rec0:AV->AV->AV->Mem->Nat->O2}:x2hg call hs u x29w (j3 rec0 13 14 15) (setE 0 (j0 (xw call hs u)) eNil)=j3 (xr call hs u rec0) 13 14 15:=by kernel_rfl
theorem x2a1{rec0:AV->AV->AV->Mem->Nat->O2}:x2hg call hs u x29y (j3 (xr call hs u rec0) 13 14 15) (setE 2 (j3 (xr call hs u rec0) 13 14 15) (setE 1 (j3 (xr call hs u rec0) 13 14 15) (setE 0 (j0 (xw call hs u)) eNil)))=j6 (x97 call hs u rec0) 3 4 13 14 15 20:=by kernel_rfl
theorem x2a2{rec0:AV->AV->AV->Mem->Nat->O2}:x2hg call hs u x29x (j6 (x97 call hs u rec0) 3 4 13 14 15 20) (setE 2 (j3 (xr call hs u rec0) 13 14 15) (setE 1 (j3 (xr call hs u rec0) 13 14 15) (setE 0 (j0 (xw call hs u)) eNil)))=j5 (x98 call hs u rec0) 3 4 13 14 15:=by kernel_rfl
theorem x2a3{rec0:AV->AV->AV->Mem->Nat->O2}:x2hg call hs u xpf (j3 (xr call hs u rec0) 13 14 15) (setE 2 (j3 (xr call hs u rec0) 13 14 15) (setE 1 (j3 (xr call hs u rec0) 13 14 15) (setE 0 (j0 (xw call hs u)) eNil)))=j5 (x98 call hs u rec0) 3 4 13 14 15:=sq2 x2a1 x2a2
theorem x2a4{rec0:AV->AV->AV->Mem->Nat->O2}:x2hg call hs u x17m (j3 (xr call hs u rec0) 13 14 15) (setE 1 (j3 (xr call hs u rec0) 13 14 15) (setE 0 (j0 (xw call hs u)) eNil))=j5 (x98 call hs u rec0) 3 4 13 14 15:=bk x2a3
theorem x2a5{rec0:AV->AV->AV->Mem->Nat->O2}:x2hg call hs u x17l (j3 (xr call hs u rec0) 13 14 15) (setE 1 (j3 (xr call hs u rec0) 13 14 15) (setE 0 (j0 (xw call hs u)) eNil))=j3 (x99 call hs u rec0) 13 14 15:=tr (sqN 1 x2a4)
theorem x2a6{rec0:AV->AV->AV->Mem->Nat->O2}:x2hg call hs u x17k (j3 (xr call hs u rec0) 13 14 15) (setE 0 (j0 (xw call hs u)) eNil)=j3 (x99 call hs u rec0) 13 14 15:=bk x2a5
theorem x2a7{rec0:AV->AV->AV->Mem->Nat->O2}:x2hg call hs u xpe (j3 rec0 13 14 15) (setE 0 (j0 (xw call hs u)) eNil)=j3 (x99 call hs u rec0) 13 14 15:=sq2 x2a0 x2a6
theorem x2a8{rec0:AV->AV->AV->Mem->Nat->O2}:x2hg call hs u x17j (j3 rec0 13 14 15) (setE 0 (j0 (xw call hs u)) eNil)=j3 (xe6 call hs u rec0) 13 14 15:=tr (sqN 2 x2a7)
theorem x2a9:x2hg call hs u x17i (j0 (xw call hs u)) (setE 0 (j0 (xw call hs u)) eNil)=j3 (x30 call hs u NN) 13 14 15:=lp (Ln:=fun n=>j3 (x30 call hs u n) 13 14 15) fun n=>tr x2a8
theorem x2aa:x2hg call hs u x17h (j0 (xw call hs u)) eNil=j3 (x30 call hs u NN) 13 14 15:=bk x2a9
theorem x2ab:x2hg call hs u x17g (j0 (xw call hs u)) eNil=j1 (xe7 call hs u) 0:=tr (sqN 1 x2aa)
theorem x2ac:x2hg call hs u xpd r_3 eNil=j1 (xe7 call hs u) 0:=sq2 x29z x2ab
theorem x1gf:x2hg call hs u x17f r_3 eNil=j1 (xjf call hs u) 0:=tr (sqN 2 x2ac)
noncomputable abbrev x2wo:=VX x6e 9 r_0
noncomputable def x2ad:=x2fa x6e
theorem x1gg:x2wo call hs u x2ad r_0 eNil=j2 (xjg call hs u) 0 1:=by kernel_rfl
noncomputable abbrev x2wp:=VX xt 9 r_14
noncomputable def x2ae:=x2fa xt
theorem x1gh:x2wp call hs u x2ae r_14 eNil=j2 (xjh call hs u) 0 1:=by kernel_rfl
noncomputable abbrev x2ld:=VX x6f 66 r_8
noncomputable def x17n:=x2fa x6f
noncomputable def xpg:=nRs 4 x17n
noncomputable def x17o:=nL xpg
noncomputable def x2af:=nR xpg
noncomputable def x17p:=nR x17o
noncomputable def x17q:=nR x17p
noncomputable def x2ag:=nR x17q
theorem x2ah:x2ld call hs u x2af r_8 eNil=j0 (x4b call hs u):=by kernel_rfl
theorem x2ai{rec0:AV->AV->AV->AV->AV->Mem->Nat->O2}:x2ld call hs u x2ag (j5 rec0 1 6 26 27 28) (setE 0 (j0 (x4b call hs u)) eNil)=j5 (xe8 call hs u rec0) 1 6 26 27 28:=by kernel_rfl
theorem x2aj:x2ld call hs u x17q (j0 (x4b call hs u)) (setE 0 (j0 (x4b call hs u)) eNil)=j5 (x31 call hs u NN) 1 6 26 27 28:=lp (Ln:=fun n=>j5 (x31 call hs u n) 1 6 26 27 28) fun n=>tr x2ai
theorem x2ak:x2ld call hs u x17p (j0 (x4b call hs u)) eNil=j5 (x31 call hs u NN) 1 6 26 27 28:=bk x2aj
theorem x2al:x2ld call hs u x17o (j0 (x4b call hs u)) eNil=j2 (xe9 call hs u) 1 6:=tr (sqN 1 x2ak)
theorem x2am:x2ld call hs u xpg r_8 eNil=j2 (xe9 call hs u) 1 6:=sq2 x2ah x2al
theorem x1gi:x2ld call hs u x17n r_8 eNil=j1 (xjj call hs u) 0:=tr (sqN 4 x2am)
noncomputable abbrev x2le:=VX xbd 19 r_0
noncomputable def x17r:=x2fa xbd
noncomputable def xph:=nR x17r
noncomputable def x17s:=nL xph
noncomputable def x2an:=nR xph
noncomputable def x17t:=nR x17s
noncomputable def x17u:=nR x17t
noncomputable def x2ao:=nR x17u
theorem x2ap:x2le call hs u x2an r_0 eNil=j0 (x5o call hs u):=by kernel_rfl
theorem x2aq{rec0:AV->AV->AV->AV->Mem->Nat->O2}:x2le call hs u x2ao (j4 rec0 0 1 7 8) (setE 0 (j0 (x5o call hs u)) eNil)=j4 (xs6 call hs u rec0) 0 1 7 8:=by kernel_rfl
theorem x2ar:x2le call hs u x17u (j0 (x5o call hs u)) (setE 0 (j0 (x5o call hs u)) eNil)=j4 (x9b call hs u NN) 0 1 7 8:=lp (Ln:=fun n=>j4 (x9b call hs u n) 0 1 7 8) fun n=>tr x2aq
theorem x2as:x2le call hs u x17t (j0 (x5o call hs u)) eNil=j4 (x9b call hs u NN) 0 1 7 8:=bk x2ar
theorem x2at:x2le call hs u x17s (j0 (x5o call hs u)) eNil=j2 (xjk call hs u) 0 1:=tr (sqN 1 x2as)
theorem x2au:x2le call hs u xph r_0 eNil=j2 (xjk call hs u) 0 1:=sq2 x2ap x2at
theorem x1gj:x2le call hs u x17r r_0 eNil=j2 (xs7 call hs u) 0 1:=tr (sqN 1 x2au)
noncomputable abbrev x2wq:=VX x3d 41 r_0
noncomputable def x2av:=x2fa x3d
theorem x1gk:x2wq call hs u x2av r_0 eNil=j2 (xjl call hs u) 0 1:=by kernel_rfl
noncomputable abbrev x2lf:=VX x4o 19 r_0
noncomputable def x17v:=x2fa x4o
noncomputable def xpi:=nR x17v
noncomputable def x17w:=nL xpi
noncomputable def x2aw:=nR xpi
noncomputable def x17x:=nR x17w
noncomputable def x17y:=nR x17x
noncomputable def x2ax:=nR x17y
theorem x2ay:x2lf call hs u x2aw r_0 eNil=j0 (x4c call hs u):=by kernel_rfl
theorem x2az{rec0:AV->AV->AV->AV->Mem->Nat->O2}:x2lf call hs u x2ax (j4 rec0 0 1 7 8) (setE 0 (j0 (x4c call hs u)) eNil)=j4 (xea call hs u rec0) 0 1 7 8:=by kernel_rfl
theorem x2b0:x2lf call hs u x17y (j0 (x4c call hs u)) (setE 0 (j0 (x4c call hs u)) eNil)=j4 (x4d call hs u NN) 0 1 7 8:=lp (Ln:=fun n=>j4 (x4d call hs u n) 0 1 7 8) fun n=>tr x2az
theorem x2b1:x2lf call hs u x17x (j0 (x4c call hs u)) eNil=j4 (x4d call hs u NN) 0 1 7 8:=bk x2b0
theorem x2b2:x2lf call hs u x17w (j0 (x4c call hs u)) eNil=j2 (xeb call hs u) 0 1:=tr (sqN 1 x2b1)
theorem x2b3:x2lf call hs u xpi r_0 eNil=j2 (xeb call hs u) 0 1:=sq2 x2ay x2b2
theorem x1e6:x2lf call hs u x17v r_0 eNil=j2 (xjm call hs u) 0 1:=tr (sqN 1 x2b3)
noncomputable abbrev x2lg:=VX xbe 59 r_15
noncomputable def x17z:=x2fa xbe
noncomputable def xpj:=nRs 4 x17z
noncomputable def x180:=nL xpj
noncomputable def x2b4:=nR xpj
noncomputable def x181:=nR x180
noncomputable def x182:=nR x181
noncomputable def x2b5:=nR x182
theorem x2b6:x2lg call hs u x2b4 r_15 eNil=j2 (x5p call hs u) 2 5:=by kernel_rfl
theorem x2b7{rec0:AV->AV->AV->AV->AV->AV->AV->Mem->Nat->O2}:x2lg call hs u x2b5 (j7 rec0 1 2 4 5 25 26 27) (setE 0 (j2 (x5p call hs u) 2 5) eNil)=j7 (xs8 call hs u rec0) 1 2 4 5 25 26 27:=by kernel_rfl
theorem x2b8:x2lg call hs u x182 (j2 (x5p call hs u) 2 5) (setE 0 (j2 (x5p call hs u) 2 5) eNil)=j7 (x9c call hs u NN) 1 2 4 5 25 26 27:=lp (Ln:=fun n=>j7 (x9c call hs u n) 1 2 4 5 25 26 27) fun n=>tr x2b7
theorem x2b9:x2lg call hs u x181 (j2 (x5p call hs u) 2 5) eNil=j7 (x9c call hs u NN) 1 2 4 5 25 26 27:=bk x2b8
theorem x2ba:x2lg call hs u x180 (j2 (x5p call hs u) 2 5) eNil=j4 (xjn call hs u) 1 2 4 5:=tr (sqN 1 x2b9)
theorem x2bb:x2lg call hs u xpj r_15 eNil=j4 (xjn call hs u) 1 2 4 5:=sq2 x2b6 x2ba
theorem x1gl:x2lg call hs u x17z r_15 eNil=j1 (xs9 call hs u) 0:=tr (sqN 4 x2bb)
noncomputable abbrev x2wr:=VX x6g 14 r_18
noncomputable def x2bc:=x2fa x6g
theorem x1gm:x2wr call hs u x2bc r_18 eNil=j1 (xsa call hs u) 0:=by kernel_rfl
noncomputable abbrev x2lh:=VX xbf 26 r_3
noncomputable def x183:=x2fa xbf
noncomputable def xpk:=nRs 3 x183
noncomputable def x184:=nL xpk
noncomputable def x2bd:=nR xpk
noncomputable def x185:=nR x184
noncomputable def x186:=nR x185
noncomputable def x2be:=nR x186
theorem x2bf:x2lh call hs u x2bd r_3 eNil=j2 (x5q call hs u) 1 4:=by kernel_rfl
theorem x2bg{rec0:AV->AV->AV->AV->AV->Mem->Nat->O2}:x2lh call hs u x2be (j5 rec0 1 3 4 10 11) (setE 0 (j2 (x5q call hs u) 1 4) eNil)=j5 (xsb call hs u rec0) 1 3 4 10 11:=by kernel_rfl
theorem x2bh:x2lh call hs u x186 (j2 (x5q call hs u) 1 4) (setE 0 (j2 (x5q call hs u) 1 4) eNil)=j5 (x9d call hs u NN) 1 3 4 10 11:=lp (Ln:=fun n=>j5 (x9d call hs u n) 1 3 4 10 11) fun n=>tr x2bg
theorem x2bi:x2lh call hs u x185 (j2 (x5q call hs u) 1 4) eNil=j5 (x9d call hs u NN) 1 3 4 10 11:=bk x2bh
theorem x2bj:x2lh call hs u x184 (j2 (x5q call hs u) 1 4) eNil=j3 (xjo call hs u) 1 3 4:=tr (sqN 1 x2bi)
theorem x2bk:x2lh call hs u xpk r_3 eNil=j3 (xjo call hs u) 1 3 4:=sq2 x2bf x2bj
theorem x1gn:x2lh call hs u x183 r_3 eNil=j1 (xsc call hs u) 0:=tr (sqN 3 x2bk)
noncomputable abbrev x2gu:=VX x7q 64 r_3
noncomputable def x187:=x2fa x7q
noncomputable def xpl:=nRs 2 x187
noncomputable def x188:=nL xpl
noncomputable def x189:=nR xpl
noncomputable def xpm:=nRs 2 x189
noncomputable def x18a:=nL xpm
noncomputable def x2bl:=nR xpm
noncomputable def x18b:=nR x18a
noncomputable def x18c:=nR x18b
noncomputable def x18d:=nR x18c
noncomputable def xpn:=nRs 2 x18d
noncomputable def x18e:=nL xpn
noncomputable def x2bm:=nR xpn
noncomputable def x18f:=nR x18e
noncomputable def xpo:=nR x18f
noncomputable def x2bn:=nL xpo
noncomputable def x2bo:=nR xpo
noncomputable def x18g:=nR x188
noncomputable def x2bp:=nR x18g
theorem x2bq:x2gu call hs u x2bl r_3 eNil=j1 (x15 call hs u) 3:=by kernel_rfl
theorem x2br{rec0:AV->AV->AV->AV->AV->Mem->Nat->O2}:x2gu call hs u x2bm (j5 rec0 3 6 26 27 28) (setE 2 (j1 (x15 call hs u) 3) eNil)=j5 (x25 call hs u rec0) 3 6 26 27 28:=by kernel_rfl
theorem x2bs{rec0:AV->AV->AV->AV->AV->Mem->Nat->O2}:x2gu call hs u x2bo (j5 (x25 call hs u rec0) 3 6 26 27 28) (setE 3 (j5 (x25 call hs u rec0) 3 6 26 27 28) (setE 2 (j1 (x15 call hs u) 3) eNil))=j7 (xec call hs u rec0) 3 6 7 8 26 27 28:=by kernel_rfl
theorem x2bt{rec0:AV->AV->AV->AV->AV->Mem->Nat->O2}:x2gu call hs u x2bn (j7 (xec call hs u rec0) 3 6 7 8 26 27 28) (setE 3 (j5 (x25 call hs u rec0) 3 6 26 27 28) (setE 2 (j1 (x15 call hs u) 3) eNil))=j7 (xjq call hs u rec0) 3 6 7 8 26 27 28:=by kernel_rfl
theorem x2bu{rec0:AV->AV->AV->AV->AV->Mem->Nat->O2}:x2gu call hs u xpo (j5 (x25 call hs u rec0) 3 6 26 27 28) (setE 3 (j5 (x25 call hs u rec0) 3 6 26 27 28) (setE 2 (j1 (x15 call hs u) 3) eNil))=j7 (xjq call hs u rec0) 3 6 7 8 26 27 28:=sq2 x2bs x2bt
theorem x2bv{rec0:AV->AV->AV->AV->AV->Mem->Nat->O2}:x2gu call hs u x18f (j5 (x25 call hs u rec0) 3 6 26 27 28) (setE 3 (j5 (x25 call hs u rec0) 3 6 26 27 28) (setE 2 (j1 (x15 call hs u) 3) eNil))=j5 (xed call hs u rec0) 3 6 26 27 28:=tr (sqN 1 x2bu)
theorem x2bw{rec0:AV->AV->AV->AV->AV->Mem->Nat->O2}:x2gu call hs u x18e (j5 (x25 call hs u rec0) 3 6 26 27 28) (setE 2 (j1 (x15 call hs u) 3) eNil)=j5 (xed call hs u rec0) 3 6 26 27 28:=bk x2bv
theorem x2bx{rec0:AV->AV->AV->AV->AV->Mem->Nat->O2}:x2gu call hs u xpn (j5 rec0 3 6 26 27 28) (setE 2 (j1 (x15 call hs u) 3) eNil)=j5 (xed call hs u rec0) 3 6 26 27 28:=sq2 x2br x2bw
theorem x2by{rec0:AV->AV->AV->AV->AV->Mem->Nat->O2}:x2gu call hs u x18d (j5 rec0 3 6 26 27 28) (setE 2 (j1 (x15 call hs u) 3) eNil)=j5 (xse call hs u rec0) 3 6 26 27 28:=tr (sqN 2 x2bx)
theorem x2bz:x2gu call hs u x18c (j1 (x15 call hs u) 3) (setE 2 (j1 (x15 call hs u) 3) eNil)=j5 (x9e call hs u NN) 3 6 26 27 28:=lp (Ln:=fun n=>j5 (x9e call hs u n) 3 6 26 27 28) fun n=>tr x2by
theorem x2c0:x2gu call hs u x18b (j1 (x15 call hs u) 3) eNil=j5 (x9e call hs u NN) 3 6 26 27 28:=bk x2bz
theorem x2c1:x2gu call hs u x18a (j1 (x15 call hs u) 3) eNil=j3 (xjr call hs u) 3 5 6:=tr (sqN 1 x2c0)
theorem x2c2:x2gu call hs u xpm r_3 eNil=j3 (xjr call hs u) 3 5 6:=sq2 x2bq x2c1
theorem x2c3:x2gu call hs u x189 r_3 eNil=j2 (x6v call hs u) 1 3:=tr (sqN 2 x2c2)
theorem x2c4{rec1:AV->AV->Mem->Nat->O2}:x2gu call hs u x2bp (j2 rec1 1 3) (setE 0 (j2 (x6v call hs u) 1 3) eNil)=j2 (xsf call hs u rec1) 1 3:=by kernel_rfl
theorem x2c5:x2gu call hs u x18g (j2 (x6v call hs u) 1 3) (setE 0 (j2 (x6v call hs u) 1 3) eNil)=j2 (x6w call hs u NN) 1 3:=lp (Ln:=fun n=>j2 (x6w call hs u n) 1 3) fun n=>tr x2c4
theorem x2c6:x2gu call hs u x188 (j2 (x6v call hs u) 1 3) eNil=j2 (x6w call hs u NN) 1 3:=bk x2c5
theorem x2c7:x2gu call hs u xpl r_3 eNil=j2 (x6w call hs u NN) 1 3:=sq2 x2c3 x2c6
theorem x1go:x2gu call hs u x187 r_3 eNil=j1 (xsg call hs u) 0:=tr (sqN 2 x2c7)
noncomputable abbrev x2li:=VX xbg 27 r_0
noncomputable def x18h:=x2fa xbg
noncomputable def xpp:=nRs 2 x18h
noncomputable def x18i:=nL xpp
noncomputable def x2c8:=nR xpp
noncomputable def x18j:=nR x18i
noncomputable def x18k:=nR x18j
noncomputable def x2c9:=nR x18k
theorem x2ca:x2li call hs u x2c8 r_0 eNil=j1 (x5r call hs u) 5:=by kernel_rfl
theorem x2cb{rec0:AV->AV->AV->AV->AV->Mem->Nat->O2}:x2li call hs u x2c9 (j5 rec0 1 5 10 11 12) (setE 0 (j1 (x5r call hs u) 5) eNil)=j5 (xsh call hs u rec0) 1 5 10 11 12:=by kernel_rfl
theorem x2cc:x2li call hs u x18k (j1 (x5r call hs u) 5) (setE 0 (j1 (x5r call hs u) 5) eNil)=j5 (x9f call hs u NN) 1 5 10 11 12:=lp (Ln:=fun n=>j5 (x9f call hs u n) 1 5 10 11 12) fun n=>tr x2cb
theorem x2cd:x2li call hs u x18j (j1 (x5r call hs u) 5) eNil=j5 (x9f call hs u NN) 1 5 10 11 12:=bk x2cc
theorem x2ce:x2li call hs u x18i (j1 (x5r call hs u) 5) eNil=j3 (xjs call hs u) 1 2 5:=tr (sqN 1 x2cd)
theorem x2cf:x2li call hs u xpp r_0 eNil=j3 (xjs call hs u) 1 2 5:=sq2 x2ca x2ce
theorem x1gp:x2li call hs u x18h r_0 eNil=j2 (xsi call hs u) 0 1:=tr (sqN 2 x2cf)
noncomputable abbrev x2ws:=VX x6h 9 r_17
noncomputable def x2cg:=x2fa x6h
theorem x1gq:x2ws call hs u x2cg r_17 eNil=j2 (xjt call hs u) 0 1:=by kernel_rfl
noncomputable abbrev x2wt:=VX x53 13 r_19
noncomputable def x2ch:=x2fa x53
theorem x1gr:x2wt call hs u x2ch r_19 eNil=j3 (xju call hs u) 0 1 2:=by kernel_rfl
noncomputable abbrev x2wu:=VX x6i 11 r_17
noncomputable def x2ci:=x2fa x6i
theorem x1gs:x2wu call hs u x2ci r_17 eNil=j1 (xjv call hs u) 0:=by kernel_rfl
noncomputable abbrev x2lj:=VX xbh 76 r_6
noncomputable def x18l:=x2fa xbh
noncomputable def xpq:=nRs 3 x18l
noncomputable def x18m:=nL xpq
noncomputable def x2cj:=nR xpq
noncomputable def x18n:=nR x18m
noncomputable def x18o:=nR x18n
noncomputable def x2ck:=nR x18o
theorem x2cl:x2lj call hs u x2cj r_6 eNil=j2 (x5s call hs u) 6 7:=by kernel_rfl
theorem x2cm{rec0:AV->AV->AV->AV->AV->AV->Mem->Nat->O2}:x2lj call hs u x2ck (j6 rec0 1 6 7 23 24 25) (setE 0 (j2 (x5s call hs u) 6 7) eNil)=j6 (xsj call hs u rec0) 1 6 7 23 24 25:=by kernel_rfl
theorem x2cn:x2lj call hs u x18o (j2 (x5s call hs u) 6 7) (setE 0 (j2 (x5s call hs u) 6 7) eNil)=j6 (x9g call hs u NN) 1 6 7 23 24 25:=lp (Ln:=fun n=>j6 (x9g call hs u n) 1 6 7 23 24 25) fun n=>tr x2cm
theorem x2co:x2lj call hs u x18n (j2 (x5s call hs u) 6 7) eNil=j6 (x9g call hs u NN) 1 6 7 23 24 25:=bk x2cn
theorem x2cp:x2lj call hs u x18m (j2 (x5s call hs u) 6 7) eNil=j4 (xjw call hs u) 1 2 6 7:=tr (sqN 1 x2co)
theorem x2cq:x2lj call hs u xpq r_6 eNil=j4 (xjw call hs u) 1 2 6 7:=sq2 x2cl x2cp
theorem x1gt:x2lj call hs u x18l r_6 eNil=j2 (xsk call hs u) 0 1:=tr (sqN 3 x2cq)
noncomputable abbrev x2ij:=VX x3e 43 r_17
noncomputable def x18p:=x2fa x3e
noncomputable def x18q:=nR x18p
noncomputable def x18r:=nR x18q
noncomputable def x18s:=nR x18r
noncomputable def xpr:=nRs 2 x18s
noncomputable def x18t:=nL xpr
noncomputable def x2cr:=nR xpr
noncomputable def x18u:=nR x18t
noncomputable def x18v:=nRs 2 x18u
noncomputable def x18w:=nR x18v
noncomputable def x2cs:=nR x18w
theorem x2ct{rec0:AV->AV->AV->AV->AV->AV->Mem->Nat->O2}:x2ij call hs u x2cr (j6 rec0 0 2 3 12 13 14) (setE 0 r_17 eNil)=j6 (x1c call hs u rec0) 0 2 3 12 13 14:=by kernel_rfl
theorem x2cu{rec0:AV->AV->AV->AV->AV->AV->Mem->Nat->O2}{rec1:AV->AV->AV->AV->AV->AV->AV->AV->AV->Mem->Nat->O2}:x2ij call hs u x2cs (j9 rec1 0 2 3 6 12 13 14 18 19) (setE 2 (j6 (x1c call hs u rec0) 0 2 3 12 13 14) (setE 1 (j6 (x1c call hs u rec0) 0 2 3 12 13 14) (setE 0 r_17 eNil)))=j9 (xee call hs u rec0 rec1) 0 2 3 6 12 13 14 18 19:=by kernel_rfl
theorem x2cv{rec0:AV->AV->AV->AV->AV->AV->Mem->Nat->O2}:x2ij call hs u x18w (j6 (x1c call hs u rec0) 0 2 3 12 13 14) (setE 2 (j6 (x1c call hs u rec0) 0 2 3 12 13 14) (setE 1 (j6 (x1c call hs u rec0) 0 2 3 12 13 14) (setE 0 r_17 eNil)))=j9 (x32 call hs u rec0 NN) 0 2 3 6 12 13 14 18 19:=lp (Ln:=fun n=>j9 (x32 call hs u rec0 n) 0 2 3 6 12 13 14 18 19) fun n=>tr x2cu
theorem x2cw{rec0:AV->AV->AV->AV->AV->AV->Mem->Nat->O2}:x2ij call hs u x18v (j6 (x1c call hs u rec0) 0 2 3 12 13 14) (setE 1 (j6 (x1c call hs u rec0) 0 2 3 12 13 14) (setE 0 r_17 eNil))=j9 (x32 call hs u rec0 NN) 0 2 3 6 12 13 14 18 19:=bk x2cv
theorem x2cx{rec0:AV->AV->AV->AV->AV->AV->Mem->Nat->O2}:x2ij call hs u x18u (j6 (x1c call hs u rec0) 0 2 3 12 13 14) (setE 1 (j6 (x1c call hs u rec0) 0 2 3 12 13 14) (setE 0 r_17 eNil))=j6 (x9i call hs u rec0) 0 2 3 12 13 14:=tr (sqN 2 x2cw)
theorem x2cy{rec0:AV->AV->AV->AV->AV->AV->Mem->Nat->O2}:x2ij call hs u x18t (j6 (x1c call hs u rec0) 0 2 3 12 13 14) (setE 0 r_17 eNil)=j6 (x9i call hs u rec0) 0 2 3 12 13 14:=bk x2cx
theorem x2cz{rec0:AV->AV->AV->AV->AV->AV->Mem->Nat->O2}:x2ij call hs u xpr (j6 rec0 0 2 3 12 13 14) (setE 0 r_17 eNil)=j6 (x9i call hs u rec0) 0 2 3 12 13 14:=sq2 x2ct x2cy
theorem x2d0{rec0:AV->AV->AV->AV->AV->AV->Mem->Nat->O2}:x2ij call hs u x18s (j6 rec0 0 2 3 12 13 14) (setE 0 r_17 eNil)=j6 (xef call hs u rec0) 0 2 3 12 13 14:=tr (sqN 2 x2cz)
theorem x2d1:x2ij call hs u x18r r_17 (setE 0 r_17 eNil)=j6 (x26 call hs u NN) 0 2 3 12 13 14:=lp (Ln:=fun n=>j6 (x26 call hs u n) 0 2 3 12 13 14) fun n=>tr x2d0
theorem x2d2:x2ij call hs u x18q r_17 eNil=j6 (x26 call hs u NN) 0 2 3 12 13 14:=bk x2d1
theorem x1gu:x2ij call hs u x18p r_17 eNil=j4 (xjx call hs u) 0 1 2 3:=tr (sqN 1 x2d2)
noncomputable abbrev x2lk:=VX x6j 19 r_0
noncomputable def x18x:=x2fa x6j
noncomputable def xps:=nR x18x
noncomputable def x18y:=nL xps
noncomputable def x2d3:=nR xps
noncomputable def x18z:=nR x18y
noncomputable def x190:=nR x18z
noncomputable def x2d4:=nR x190
theorem x2d5:x2lk call hs u x2d3 r_0 eNil=j0 (x4e call hs u):=by kernel_rfl
theorem x2d6{rec0:AV->AV->AV->AV->Mem->Nat->O2}:x2lk call hs u x2d4 (j4 rec0 0 1 7 8) (setE 0 (j0 (x4e call hs u)) eNil)=j4 (xeg call hs u rec0) 0 1 7 8:=by kernel_rfl
theorem x2d7:x2lk call hs u x190 (j0 (x4e call hs u)) (setE 0 (j0 (x4e call hs u)) eNil)=j4 (x4f call hs u NN) 0 1 7 8:=lp (Ln:=fun n=>j4 (x4f call hs u n) 0 1 7 8) fun n=>tr x2d6
theorem x2d8:x2lk call hs u x18z (j0 (x4e call hs u)) eNil=j4 (x4f call hs u NN) 0 1 7 8:=bk x2d7
theorem x2d9:x2lk call hs u x18y (j0 (x4e call hs u)) eNil=j2 (xeh call hs u) 0 1:=tr (sqN 1 x2d8)
theorem x2da:x2lk call hs u xps r_0 eNil=j2 (xeh call hs u) 0 1:=sq2 x2d5 x2d9
theorem x1gv:x2lk call hs u x18x r_0 eNil=j2 (xjy call hs u) 0 1:=tr (sqN 1 x2da)
noncomputable abbrev x2wv:=VX xbi 6 r_3
noncomputable def x2db:=x2fa xbi
theorem x1gw:x2wv call hs u x2db r_3 eNil=j1 (xsm call hs u) 0:=by kernel_rfl
noncomputable abbrev x2ll:=VX xbj 62 r_8
noncomputable def x191:=x2fa xbj
noncomputable def xpt:=nRs 2 x191
noncomputable def x192:=nL xpt
noncomputable def x2dc:=nR xpt
noncomputable def x193:=nR x192
noncomputable def x194:=nR x193
noncomputable def x2dd:=nR x194
theorem x2de:x2ll call hs u x2dc r_8 eNil=j0 (x5t call hs u):=by kernel_rfl
theorem x2df{rec0:AV->AV->AV->AV->Mem->Nat->O2}:x2ll call hs u x2dd (j4 rec0 1 17 18 19) (setE 1 (j0 (x5t call hs u)) eNil)=j4 (xsn call hs u rec0) 1 17 18 19:=by kernel_rfl
theorem x2dg:x2ll call hs u x194 (j0 (x5t call hs u)) (setE 1 (j0 (x5t call hs u)) eNil)=j4 (x9j call hs u NN) 1 17 18 19:=lp (Ln:=fun n=>j4 (x9j call hs u n) 1 17 18 19) fun n=>tr x2df
theorem x2dh:x2ll call hs u x193 (j0 (x5t call hs u)) eNil=j4 (x9j call hs u NN) 1 17 18 19:=bk x2dg
theorem x2di:x2ll call hs u x192 (j0 (x5t call hs u)) eNil=j1 (xjz call hs u) 1:=tr (sqN 1 x2dh)
theorem x2dj:x2ll call hs u xpt r_8 eNil=j1 (xjz call hs u) 1:=sq2 x2de x2di
theorem x1gx:x2ll call hs u x191 r_8 eNil=j1 (xso call hs u) 0:=tr (sqN 2 x2dj)
noncomputable abbrev x2j7:=VX xbk 47 r_0
noncomputable def x195:=x2fa xbk
noncomputable def xpu:=nRs 2 x195
noncomputable def x196:=nL xpu
noncomputable def x2dk:=nR xpu
noncomputable def x197:=nR x196
noncomputable def x198:=nR x197
noncomputable def x199:=nR x198
noncomputable def xpv:=nRs 2 x199
noncomputable def x2dl:=nL xpv
noncomputable def x2dm:=nR xpv
theorem x2dn:x2j7 call hs u x2dk r_0 eNil=j1 (x27 call hs u) 5:=by kernel_rfl
theorem x2do{rec0:AV->AV->AV->AV->AV->Mem->Nat->O2}:x2j7 call hs u x2dm (j5 rec0 0 1 5 12 13) (setE 0 (j1 (x27 call hs u) 5) eNil)=j5 (xei call hs u rec0) 0 1 5 12 13:=by kernel_rfl
theorem x2dp{rec0:AV->AV->AV->AV->AV->Mem->Nat->O2}:x2j7 call hs u x2dl (j5 (xei call hs u rec0) 0 1 5 12 13) (setE 0 (j1 (x27 call hs u) 5) eNil)=j5 (xk0 call hs u rec0) 0 1 5 12 13:=by kernel_rfl
theorem x2dq{rec0:AV->AV->AV->AV->AV->Mem->Nat->O2}:x2j7 call hs u xpv (j5 rec0 0 1 5 12 13) (setE 0 (j1 (x27 call hs u) 5) eNil)=j5 (xk0 call hs u rec0) 0 1 5 12 13:=sq2 x2do x2dp
theorem x2dr{rec0:AV->AV->AV->AV->AV->Mem->Nat->O2}:x2j7 call hs u x199 (j5 rec0 0 1 5 12 13) (setE 0 (j1 (x27 call hs u) 5) eNil)=j5 (xsp call hs u rec0) 0 1 5 12 13:=tr (sqN 2 x2dq)
theorem x2ds:x2j7 call hs u x198 (j1 (x27 call hs u) 5) (setE 0 (j1 (x27 call hs u) 5) eNil)=j5 (x9k call hs u NN) 0 1 5 12 13:=lp (Ln:=fun n=>j5 (x9k call hs u n) 0 1 5 12 13) fun n=>tr x2dr
theorem x2dt:x2j7 call hs u x197 (j1 (x27 call hs u) 5) eNil=j5 (x9k call hs u NN) 0 1 5 12 13:=bk x2ds
theorem x2du:x2j7 call hs u x196 (j1 (x27 call hs u) 5) eNil=j3 (xk1 call hs u) 0 1 5:=tr (sqN 1 x2dt)
theorem x2dv:x2j7 call hs u xpu r_0 eNil=j3 (xk1 call hs u) 0 1 5:=sq2 x2dn x2du
theorem x1gy:x2j7 call hs u x195 r_0 eNil=j2 (xsq call hs u) 0 1:=tr (sqN 2 x2dv)
noncomputable abbrev x2h9:=VX x7r 45 r_0
noncomputable def x19a:=x2fa x7r
noncomputable def xpw:=nRs 3 x19a
noncomputable def x19b:=nL xpw
noncomputable def x2dw:=nR xpw
noncomputable def x19c:=nR x19b
noncomputable def x19d:=nR x19c
noncomputable def x19e:=nR x19d
noncomputable def xpx:=nRs 2 x19e
noncomputable def x19f:=nL xpx
noncomputable def x2dx:=nR xpx
noncomputable def x19g:=nR x19f
noncomputable def xpy:=nRs 4 x19g
noncomputable def x19h:=nL xpy
noncomputable def x2dy:=nR xpy
noncomputable def x19i:=nR x19h
noncomputable def x2dz:=nR x19i
theorem x2e0:x2h9 call hs u x2dw r_0 eNil=j1 (xx call hs u) 5:=by kernel_rfl
theorem x2e1{rec0:AV->AV->AV->AV->AV->Mem->Nat->O2}:x2h9 call hs u x2dx (j5 rec0 1 5 6 14 15) (setE 0 (j1 (xx call hs u) 5) eNil)=j5 (x1d call hs u rec0) 1 5 6 14 15:=by kernel_rfl
theorem x2e2{rec0:AV->AV->AV->AV->AV->Mem->Nat->O2}:x2h9 call hs u x2dy (j5 (x1d call hs u rec0) 1 5 6 14 15) (setE 1 (j5 (x1d call hs u rec0) 1 5 6 14 15) (setE 0 (j1 (xx call hs u) 5) eNil))=j5 (x6x call hs u rec0) 1 5 6 14 15:=by kernel_rfl
theorem x2e3{rec0:AV->AV->AV->AV->AV->Mem->Nat->O2}{rec1:AV->AV->AV->AV->AV->AV->Mem->Nat->O2}:x2h9 call hs u x2dz (j6 rec1 1 5 6 8 14 15) (setE 2 (j5 (x6x call hs u rec0) 1 5 6 14 15) (setE 1 (j5 (x1d call hs u rec0) 1 5 6 14 15) (setE 0 (j1 (xx call hs u) 5) eNil)))=j6 (xsr call hs u rec0 rec1) 1 5 6 8 14 15:=by kernel_rfl
theorem x2e4{rec0:AV->AV->AV->AV->AV->Mem->Nat->O2}:x2h9 call hs u x19i (j5 (x6x call hs u rec0) 1 5 6 14 15) (setE 2 (j5 (x6x call hs u rec0) 1 5 6 14 15) (setE 1 (j5 (x1d call hs u rec0) 1 5 6 14 15) (setE 0 (j1 (xx call hs u) 5) eNil)))=j6 (x6y call hs u rec0 NN) 1 5 6 8 14 15:=lp (Ln:=fun n=>j6 (x6y call hs u rec0 n) 1 5 6 8 14 15) fun n=>tr x2e3
theorem x2e5{rec0:AV->AV->AV->AV->AV->Mem->Nat->O2}:x2h9 call hs u x19h (j5 (x6x call hs u rec0) 1 5 6 14 15) (setE 1 (j5 (x1d call hs u rec0) 1 5 6 14 15) (setE 0 (j1 (xx call hs u) 5) eNil))=j6 (x6y call hs u rec0 NN) 1 5 6 8 14 15:=bk x2e4
theorem x2e6{rec0:AV->AV->AV->AV->AV->Mem->Nat->O2}:x2h9 call hs u xpy (j5 (x1d call hs u rec0) 1 5 6 14 15) (setE 1 (j5 (x1d call hs u rec0) 1 5 6 14 15) (setE 0 (j1 (xx call hs u) 5) eNil))=j6 (x6y call hs u rec0 NN) 1 5 6 8 14 15:=sq2 x2e2 x2e5
theorem x2e7{rec0:AV->AV->AV->AV->AV->Mem->Nat->O2}:x2h9 call hs u x19g (j5 (x1d call hs u rec0) 1 5 6 14 15) (setE 1 (j5 (x1d call hs u rec0) 1 5 6 14 15) (setE 0 (j1 (xx call hs u) 5) eNil))=j5 (xej call hs u rec0) 1 5 6 14 15:=tr (sqN 4 x2e6)
theorem x2e8{rec0:AV->AV->AV->AV->AV->Mem->Nat->O2}:x2h9 call hs u x19f (j5 (x1d call hs u rec0) 1 5 6 14 15) (setE 0 (j1 (xx call hs u) 5) eNil)=j5 (xej call hs u rec0) 1 5 6 14 15:=bk x2e7
theorem x2e9{rec0:AV->AV->AV->AV->AV->Mem->Nat->O2}:x2h9 call hs u xpx (j5 rec0 1 5 6 14 15) (setE 0 (j1 (xx call hs u) 5) eNil)=j5 (xej call hs u rec0) 1 5 6 14 15:=sq2 x2e1 x2e8
theorem x2ea{rec0:AV->AV->AV->AV->AV->Mem->Nat->O2}:x2h9 call hs u x19e (j5 rec0 1 5 6 14 15) (setE 0 (j1 (xx call hs u) 5) eNil)=j5 (xss call hs u rec0) 1 5 6 14 15:=tr (sqN 2 x2e9)
theorem x2eb:x2h9 call hs u x19d (j1 (xx call hs u) 5) (setE 0 (j1 (xx call hs u) 5) eNil)=j5 (x9m call hs u NN) 1 5 6 14 15:=lp (Ln:=fun n=>j5 (x9m call hs u n) 1 5 6 14 15) fun n=>tr x2ea
theorem x2ec:x2h9 call hs u x19c (j1 (xx call hs u) 5) eNil=j5 (x9m call hs u NN) 1 5 6 14 15:=bk x2eb
theorem x2ed:x2h9 call hs u x19b (j1 (xx call hs u) 5) eNil=j3 (xk2 call hs u) 1 5 6:=tr (sqN 1 x2ec)
theorem x2ee:x2h9 call hs u xpw r_0 eNil=j3 (xk2 call hs u) 1 5 6:=sq2 x2e0 x2ed
theorem x1gz:x2h9 call hs u x19a r_0 eNil=j2 (xst call hs u) 0 1:=tr (sqN 3 x2ee)
noncomputable abbrev x2lm:=VX xaq 53 r_17
noncomputable def x19j:=x2fa xaq
noncomputable def x19k:=nR x19j
noncomputable def x19l:=nR x19k
noncomputable def x19m:=nR x19l
noncomputable def xpz:=nRs 2 x19m
noncomputable def x2ef:=nL xpz
noncomputable def x2eg:=nR xpz
theorem x2eh{rec0:AV->AV->AV->AV->AV->Mem->Nat->O2}:x2lm call hs u x2eg (j5 rec0 0 1 3 9 10) (setE 0 r_17 eNil)=j5 (xek call hs u rec0) 0 1 3 9 10:=by kernel_rfl
theorem x2ei{rec0:AV->AV->AV->AV->AV->Mem->Nat->O2}:x2lm call hs u x2ef (j5 (xek call hs u rec0) 0 1 3 9 10) (setE 0 r_17 eNil)=j5 (xk3 call hs u rec0) 0 1 3 9 10:=by kernel_rfl
theorem x2ej{rec0:AV->AV->AV->AV->AV->Mem->Nat->O2}:x2lm call hs u xpz (j5 rec0 0 1 3 9 10) (setE 0 r_17 eNil)=j5 (xk3 call hs u rec0) 0 1 3 9 10:=sq2 x2eh x2ei
theorem x2ek{rec0:AV->AV->AV->AV->AV->Mem->Nat->O2}:x2lm call hs u x19m (j5 rec0 0 1 3 9 10) (setE 0 r_17 eNil)=j5 (xsu call hs u rec0) 0 1 3 9 10:=tr (sqN 2 x2ej)
theorem x2el:x2lm call hs u x19l r_17 (setE 0 r_17 eNil)=j5 (x9n call hs u NN) 0 1 3 9 10:=lp (Ln:=fun n=>j5 (x9n call hs u n) 0 1 3 9 10) fun n=>tr x2ek
theorem x2em:x2lm call hs u x19k r_17 eNil=j5 (x9n call hs u NN) 0 1 3 9 10:=bk x2el
theorem x1e3:x2lm call hs u x19j r_17 eNil=j4 (xsv call hs u) 0 1 2 3:=tr (sqN 1 x2em)
noncomputable abbrev x2hq:=VX xbl 132 r_3
noncomputable def x19n:=x2fa xbl
noncomputable def xq0:=nRs 2 x19n
noncomputable def x19o:=nL xq0
noncomputable def x2en:=nR xq0
noncomputable def x19p:=nR x19o
noncomputable def x19q:=nR x19p
noncomputable def x19r:=nR x19q
noncomputable def xq1:=nRs 2 x19r
noncomputable def x19s:=nL xq1
noncomputable def x2eo:=nR xq1
noncomputable def x19t:=nR x19s
noncomputable def xq2:=nR x19t
noncomputable def x2ep:=nL xq2
noncomputable def x2eq:=nR xq2
theorem x2er:x2hq call hs u x2en r_3 eNil=j1 (x16 call hs u) 3:=by kernel_rfl
theorem x2es{rec0:AV->AV->AV->AV->Mem->Nat->O2}:x2hq call hs u x2eo (j4 rec0 3 28 29 30) (setE 0 (j1 (x16 call hs u) 3) eNil)=j4 (x28 call hs u rec0) 3 28 29 30:=by kernel_rfl
theorem x2et{rec0:AV->AV->AV->AV->Mem->Nat->O2}:x2hq call hs u x2eq (j4 (x28 call hs u rec0) 3 28 29 30) (setE 1 (j4 (x28 call hs u rec0) 3 28 29 30) (setE 0 (j1 (x16 call hs u) 3) eNil))=j6 (x9o call hs u rec0) 3 4 5 28 29 30:=by kernel_rfl
theorem x2eu{rec0:AV->AV->AV->AV->Mem->Nat->O2}:x2hq call hs u x2ep (j6 (x9o call hs u rec0) 3 4 5 28 29 30) (setE 1 (j4 (x28 call hs u rec0) 3 28 29 30) (setE 0 (j1 (x16 call hs u) 3) eNil))=j6 (xk4 call hs u rec0) 3 4 5 28 29 30:=by kernel_rfl
theorem x2ev{rec0:AV->AV->AV->AV->Mem->Nat->O2}:x2hq call hs u xq2 (j4 (x28 call hs u rec0) 3 28 29 30) (setE 1 (j4 (x28 call hs u rec0) 3 28 29 30) (setE 0 (j1 (x16 call hs u) 3) eNil))=j6 (xk4 call hs u rec0) 3 4 5 28 29 30:=sq2 x2et x2eu
theorem x2ew{rec0:AV->AV->AV->AV->Mem->Nat->O2}:x2hq call hs u x19t (j4 (x28 call hs u rec0) 3 28 29 30) (setE 1 (j4 (x28 call hs u rec0) 3 28 29 30) (setE 0 (j1 (x16 call hs u) 3) eNil))=j4 (xel call hs u rec0) 3 28 29 30:=tr (sqN 1 x2ev)
theorem x2ex{rec0:AV->AV->AV->AV->Mem->Nat->O2}:x2hq call hs u x19s (j4 (x28 call hs u rec0) 3 28 29 30) (setE 0 (j1 (x16 call hs u) 3) eNil)=j4 (xel call hs u rec0) 3 28 29 30:=bk x2ew
theorem x2ey{rec0:AV->AV->AV->AV->Mem->Nat->O2}:x2hq call hs u xq1 (j4 rec0 3 28 29 30) (setE 0 (j1 (x16 call hs u) 3) eNil)=j4 (xel call hs u rec0) 3 28 29 30:=sq2 x2es x2ex
theorem x2ez{rec0:AV->AV->AV->AV->Mem->Nat->O2}:x2hq call hs u x19r (j4 rec0 3 28 29 30) (setE 0 (j1 (x16 call hs u) 3) eNil)=j4 (xsw call hs u rec0) 3 28 29 30:=tr (sqN 2 x2ey)
theorem x2f0:x2hq call hs u x19q (j1 (x16 call hs u) 3) (setE 0 (j1 (x16 call hs u) 3) eNil)=j4 (x9p call hs u NN) 3 28 29 30:=lp (Ln:=fun n=>j4 (x9p call hs u n) 3 28 29 30) fun n=>tr x2ez
theorem x2f1:x2hq call hs u x19p (j1 (x16 call hs u) 3) eNil=j4 (x9p call hs u NN) 3 28 29 30:=bk x2f0
theorem x2f2:x2hq call hs u x19o (j1 (x16 call hs u) 3) eNil=j2 (xk5 call hs u) 1 3:=tr (sqN 1 x2f1)
theorem x2f3:x2hq call hs u xq0 r_3 eNil=j2 (xk5 call hs u) 1 3:=sq2 x2er x2f2
theorem x1h0:x2hq call hs u x19n r_3 eNil=j1 (xsx call hs u) 0:=tr (sqN 2 x2f3)
noncomputable abbrev x2ww:=VX xat 5 r_3
noncomputable def x2f4:=x2fa xat
theorem x1e7:x2ww call hs u x2f4 r_3 eNil=j1 (xsy call hs u) 0:=by kernel_rfl
end Go.Ix
