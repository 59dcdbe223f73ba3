import Derived.Test.YtpeakdjfagbpcaaGreatFxText0
import Derived.Test.YtpeakdjfagbpcaaGreatFxText1
import Derived.Test.YtpeakdjfagbpcaaGreatFxEnt
import Derived.Test.YtpeakdjfagbpcaaGreatFxRules
import Derived.Test.YtpeakdjfagbpcaaGreatFxProj
import Derived.ProofKit
set_option linter.unusedVariables false
namespace Go.Ix
open Go.Proofs
variable{call:x2g1}{hs:FHs}{u:Nat}
noncomputable abbrev x2jl:=VX xep 135 r_0
noncomputable def xzv:=x2g6 xep
noncomputable def xlz:=nRs 5 xzv
noncomputable def x1t8:=nL xlz
noncomputable def xzw:=nR xlz
noncomputable def xm0:=nRs 4 xzw
noncomputable def xzx:=nL xm0
noncomputable def x1t9:=nR xm0
noncomputable def xzy:=nR xzx
noncomputable def xzz:=nR xzy
noncomputable def x1ta:=nR xzz
theorem x1tb:x2jl call hs u x1t9 r_0 eNil=j0 (x4q call hs u):=by kernel_rfl
theorem x1tc{rec0:AV->AV->AV->Mem->Nat->O2}:x2jl call hs u x1ta (j3 rec0 2 5 11) (setE 0 (j0 (x4q call hs u)) eNil)=j3 (xpb call hs u rec0) 2 5 11:=by kernel_rfl
theorem x1td:x2jl call hs u xzz (j0 (x4q call hs u)) (setE 0 (j0 (x4q call hs u)) eNil)=j3 (x7h call hs u NN) 2 5 11:=lp (Ln:=fun n=>j3 (x7h call hs u n) 2 5 11) fun n=>tr x1tc
theorem x1te:x2jl call hs u xzy (j0 (x4q call hs u)) eNil=j3 (x7h call hs u NN) 2 5 11:=bk x1td
theorem x1tf:x2jl call hs u xzx (j0 (x4q call hs u)) eNil=j2 (xg5 call hs u) 2 5:=tr (sqN 1 x1te)
theorem x1tg:x2jl call hs u xm0 r_0 eNil=j2 (xg5 call hs u) 2 5:=sq2 x1tb x1tf
theorem x1th:x2jl call hs u xzw r_0 eNil=j6 (xbs call hs u) 1 2 5 6 7 8:=tr (sqN 4 x1tg)
theorem x1ti:x2jl call hs u x1t8 (j6 (xbs call hs u) 1 2 5 6 7 8) eNil=j6 (xg6 call hs u) 1 2 5 6 7 8:=by kernel_rfl
theorem x1tj:x2jl call hs u xlz r_0 eNil=j6 (xg6 call hs u) 1 2 5 6 7 8:=sq2 x1th x1ti
theorem x1ef:x2jl call hs u xzv r_0 eNil=j2 (xpc call hs u) 0 1:=tr (sqN 5 x1tj)
noncomputable abbrev x2jm:=VX xeq 88 r_1
noncomputable def x100:=x2g6 xeq
noncomputable def xm1:=nRs 3 x100
noncomputable def x101:=nL xm1
noncomputable def x102:=nR xm1
noncomputable def xm2:=nRs 2 x102
noncomputable def x1tk:=nL xm2
noncomputable def x1tl:=nR xm2
noncomputable def x103:=nR x101
noncomputable def x104:=nR x103
noncomputable def x1tm:=nR x104
theorem x1tn:x2jm call hs u x1tl r_1 eNil=j6 (xbt call hs u) 0 1 2 8 9 11:=by kernel_rfl
theorem x1to:x2jm call hs u x1tk (j6 (xbt call hs u) 0 1 2 8 9 11) eNil=j6 (xg7 call hs u) 0 1 2 8 9 11:=by kernel_rfl
theorem x1tp:x2jm call hs u xm2 r_1 eNil=j6 (xg7 call hs u) 0 1 2 8 9 11:=sq2 x1tn x1to
theorem x1tq:x2jm call hs u x102 r_1 eNil=j3 (x4r call hs u) 0 1 2:=tr (sqN 2 x1tp)
theorem x1tr{rec0:AV->AV->AV->AV->Mem->Nat->O2}:x2jm call hs u x1tm (j4 rec0 0 1 2 7) (setE 0 (j3 (x4r call hs u) 0 1 2) eNil)=j4 (xpd call hs u rec0) 0 1 2 7:=by kernel_rfl
theorem x1ts:x2jm call hs u x104 (j3 (x4r call hs u) 0 1 2) (setE 0 (j3 (x4r call hs u) 0 1 2) eNil)=j4 (x7i call hs u NN) 0 1 2 7:=lp (Ln:=fun n=>j4 (x7i call hs u n) 0 1 2 7) fun n=>tr x1tr
theorem x1tt:x2jm call hs u x103 (j3 (x4r call hs u) 0 1 2) eNil=j4 (x7i call hs u NN) 0 1 2 7:=bk x1ts
theorem x1tu:x2jm call hs u x101 (j3 (x4r call hs u) 0 1 2) eNil=j3 (xg8 call hs u) 0 1 2:=tr (sqN 1 x1tt)
theorem x1tv:x2jm call hs u xm1 r_1 eNil=j3 (xg8 call hs u) 0 1 2:=sq2 x1tq x1tu
theorem x1eg:x2jm call hs u x100 r_1 eNil=j3 (xpe call hs u) 0 1 2:=tr (sqN 3 x1tv)
noncomputable abbrev x2oi:=VX xer 45 r_0
noncomputable def x105:=x2g6 xer
noncomputable def xm3:=nRs 6 x105
noncomputable def x1tw:=nL xm3
noncomputable def x1tx:=nR xm3
theorem x1ty:x2oi call hs u x1tx r_0 eNil=j4 (xbu call hs u) 5 6 7 8:=by kernel_rfl
theorem x1tz:x2oi call hs u x1tw (j4 (xbu call hs u) 5 6 7 8) eNil=j6 (xg9 call hs u) 1 2 5 6 7 8:=by kernel_rfl
theorem x1u0:x2oi call hs u xm3 r_0 eNil=j6 (xg9 call hs u) 1 2 5 6 7 8:=sq2 x1ty x1tz
theorem x1eh:x2oi call hs u x105 r_0 eNil=j2 (xpf call hs u) 0 1:=tr (sqN 6 x1u0)
noncomputable abbrev x2vm:=VX xes 63 r_2
noncomputable def x1u1:=x2g6 xes
theorem x1ei:x2vm call hs u x1u1 r_2 eNil=j1 (xpg call hs u) 0:=by kernel_rfl
noncomputable abbrev x2jn:=VX x6y 124 r_0
noncomputable def x106:=x2g6 x6y
noncomputable def xm4:=nRs 9 x106
noncomputable def x107:=nL xm4
noncomputable def x1u2:=nR xm4
noncomputable def x108:=nR x107
noncomputable def x109:=nR x108
noncomputable def x10a:=nR x109
noncomputable def xm5:=nR x10a
noncomputable def x1u3:=nL xm5
noncomputable def x1u4:=nR xm5
theorem x1u5:x2jn call hs u x1u2 r_0 eNil=j7 (x1i call hs u) 1 2 5 6 10 11 14:=by kernel_rfl
theorem x1u6{rec0:AV->AV->AV->AV->AV->AV->AV->AV->AV->Mem->Nat->O2}:x2jn call hs u x1u4 (j9 rec0 1 2 5 6 10 11 12 14 15) (setE 0 (j7 (x1i call hs u) 1 2 5 6 10 11 14) eNil)=j9 (x67 call hs u rec0) 1 2 5 6 10 11 12 14 15:=by kernel_rfl
theorem x1u7{rec0:AV->AV->AV->AV->AV->AV->AV->AV->AV->Mem->Nat->O2}:x2jn call hs u x1u3 (j9 (x67 call hs u rec0) 1 2 5 6 10 11 12 14 15) (setE 0 (j7 (x1i call hs u) 1 2 5 6 10 11 14) eNil)=j9 (xbv call hs u rec0) 1 2 5 6 10 11 12 14 15:=by kernel_rfl
theorem x1u8{rec0:AV->AV->AV->AV->AV->AV->AV->AV->AV->Mem->Nat->O2}:x2jn call hs u xm5 (j9 rec0 1 2 5 6 10 11 12 14 15) (setE 0 (j7 (x1i call hs u) 1 2 5 6 10 11 14) eNil)=j9 (xbv call hs u rec0) 1 2 5 6 10 11 12 14 15:=sq2 x1u6 x1u7
theorem x1u9{rec0:AV->AV->AV->AV->AV->AV->AV->AV->AV->Mem->Nat->O2}:x2jn call hs u x10a (j9 rec0 1 2 5 6 10 11 12 14 15) (setE 0 (j7 (x1i call hs u) 1 2 5 6 10 11 14) eNil)=j9 (xbw call hs u rec0) 1 2 5 6 10 11 12 14 15:=tr (sqN 1 x1u8)
theorem x1ua:x2jn call hs u x109 (j7 (x1i call hs u) 1 2 5 6 10 11 14) (setE 0 (j7 (x1i call hs u) 1 2 5 6 10 11 14) eNil)=j9 (x3c call hs u NN) 1 2 5 6 10 11 12 14 15:=lp (Ln:=fun n=>j9 (x3c call hs u n) 1 2 5 6 10 11 12 14 15) fun n=>tr x1u9
theorem x1ub:x2jn call hs u x108 (j7 (x1i call hs u) 1 2 5 6 10 11 14) eNil=j9 (x3c call hs u NN) 1 2 5 6 10 11 12 14 15:=bk x1ua
theorem x1uc:x2jn call hs u x107 (j7 (x1i call hs u) 1 2 5 6 10 11 14) eNil=j8 (xbx call hs u) 1 2 5 6 10 11 12 14:=tr (sqN 1 x1ub)
theorem x1ud:x2jn call hs u xm4 r_0 eNil=j8 (xbx call hs u) 1 2 5 6 10 11 12 14:=sq2 x1u5 x1uc
theorem x1ej:x2jn call hs u x106 r_0 eNil=j2 (xga call hs u) 0 1:=tr (sqN 9 x1ud)
noncomputable abbrev x2vn:=VX x1p 82 r_3
noncomputable def x1ue:=x2g6 x1p
theorem x1ek:x2vn call hs u x1ue r_3 eNil=j0 (xph call hs u):=by kernel_rfl
noncomputable abbrev x2lb:=VX xah 63 r_2
noncomputable def x10b:=x2g6 xah
noncomputable def xm6:=nRs 3 x10b
noncomputable def x10c:=nL xm6
noncomputable def x1uf:=nR xm6
noncomputable def x10d:=nR x10c
noncomputable def x10e:=nR x10d
noncomputable def x1ug:=nR x10e
theorem x1uh:x2lb call hs u x1uf r_2 eNil=j0 (x4s call hs u):=by kernel_rfl
theorem x1ui{rec0:AV->AV->Mem->Nat->O2}:x2lb call hs u x1ug (j2 rec0 1 3) (setE 0 (j0 (x4s call hs u)) eNil)=j2 (xpi call hs u rec0) 1 3:=by kernel_rfl
theorem x1uj:x2lb call hs u x10e (j0 (x4s call hs u)) (setE 0 (j0 (x4s call hs u)) eNil)=j2 (x7j call hs u NN) 1 3:=lp (Ln:=fun n=>j2 (x7j call hs u n) 1 3) fun n=>tr x1ui
theorem x1uk:x2lb call hs u x10d (j0 (x4s call hs u)) eNil=j2 (x7j call hs u NN) 1 3:=bk x1uj
theorem x1ul:x2lb call hs u x10c (j0 (x4s call hs u)) eNil=j1 (xgb call hs u) 1:=tr (sqN 1 x1uk)
theorem x1um:x2lb call hs u xm6 r_2 eNil=j1 (xgb call hs u) 1:=sq2 x1uh x1ul
theorem x1el:x2lb call hs u x10b r_2 eNil=j1 (xpj call hs u) 0:=tr (sqN 3 x1um)
noncomputable abbrev x2hg:=VX x6z 90 r_4
noncomputable def x10f:=x2g6 x6z
noncomputable def xm7:=nRs 5 x10f
noncomputable def x10g:=nL xm7
noncomputable def x10h:=nR xm7
noncomputable def xm8:=nRs 3 x10h
noncomputable def x10i:=nL xm8
noncomputable def x1un:=nR xm8
noncomputable def x10j:=nR x10i
noncomputable def x10k:=nR x10j
noncomputable def x10l:=nR x10k
noncomputable def xm9:=nRs 2 x10l
noncomputable def x1uo:=nL xm9
noncomputable def x1up:=nR xm9
noncomputable def x10m:=nR x10g
noncomputable def x10n:=nR x10m
noncomputable def x10o:=nR x10n
noncomputable def xma:=nRs 2 x10o
noncomputable def x1uq:=nL xma
noncomputable def x1ur:=nR xma
theorem x1us:x2hg call hs u x1un r_4 eNil=j1 (x1s call hs u) 14:=by kernel_rfl
theorem x1ut{rec0:AV->AV->AV->AV->AV->AV->AV->Mem->Nat->O2}:x2hg call hs u x1up (j7 rec0 1 12 13 14 60 61 62) (setE 2 (j1 (x1s call hs u) 14) eNil)=j7 (xby call hs u rec0) 1 12 13 14 60 61 62:=by kernel_rfl
theorem x1uu{rec0:AV->AV->AV->AV->AV->AV->AV->Mem->Nat->O2}:x2hg call hs u x1uo (j7 (xby call hs u rec0) 1 12 13 14 60 61 62) (setE 2 (j1 (x1s call hs u) 14) eNil)=j7 (xgc call hs u rec0) 1 12 13 14 60 61 62:=by kernel_rfl
theorem x1uv{rec0:AV->AV->AV->AV->AV->AV->AV->Mem->Nat->O2}:x2hg call hs u xm9 (j7 rec0 1 12 13 14 60 61 62) (setE 2 (j1 (x1s call hs u) 14) eNil)=j7 (xgc call hs u rec0) 1 12 13 14 60 61 62:=sq2 x1ut x1uu
theorem x1uw{rec0:AV->AV->AV->AV->AV->AV->AV->Mem->Nat->O2}:x2hg call hs u x10l (j7 rec0 1 12 13 14 60 61 62) (setE 2 (j1 (x1s call hs u) 14) eNil)=j7 (xpk call hs u rec0) 1 12 13 14 60 61 62:=tr (sqN 2 x1uv)
theorem x1ux:x2hg call hs u x10k (j1 (x1s call hs u) 14) (setE 2 (j1 (x1s call hs u) 14) eNil)=j7 (x7k call hs u NN) 1 12 13 14 60 61 62:=lp (Ln:=fun n=>j7 (x7k call hs u n) 1 12 13 14 60 61 62) fun n=>tr x1uw
theorem x1uy:x2hg call hs u x10j (j1 (x1s call hs u) 14) eNil=j7 (x7k call hs u NN) 1 12 13 14 60 61 62:=bk x1ux
theorem x1uz:x2hg call hs u x10i (j1 (x1s call hs u) 14) eNil=j4 (xgd call hs u) 1 12 13 14:=tr (sqN 1 x1uy)
theorem x1v0:x2hg call hs u xm8 r_4 eNil=j4 (xgd call hs u) 1 12 13 14:=sq2 x1us x1uz
theorem x1v1:x2hg call hs u x10h r_4 eNil=j4 (x1t call hs u) 1 2 8 9:=tr (sqN 3 x1v0)
theorem x1v2{rec1:AV->AV->AV->AV->AV->AV->AV->Mem->Nat->O2}:x2hg call hs u x1ur (j7 rec1 1 2 8 9 36 37 38) (setE 0 (j4 (x1t call hs u) 1 2 8 9) eNil)=j7 (xbz call hs u rec1) 1 2 8 9 36 37 38:=by kernel_rfl
theorem x1v3{rec1:AV->AV->AV->AV->AV->AV->AV->Mem->Nat->O2}:x2hg call hs u x1uq (j7 (xbz call hs u rec1) 1 2 8 9 36 37 38) (setE 0 (j4 (x1t call hs u) 1 2 8 9) eNil)=j7 (xge call hs u rec1) 1 2 8 9 36 37 38:=by kernel_rfl
theorem x1v4{rec1:AV->AV->AV->AV->AV->AV->AV->Mem->Nat->O2}:x2hg call hs u xma (j7 rec1 1 2 8 9 36 37 38) (setE 0 (j4 (x1t call hs u) 1 2 8 9) eNil)=j7 (xge call hs u rec1) 1 2 8 9 36 37 38:=sq2 x1v2 x1v3
theorem x1v5{rec1:AV->AV->AV->AV->AV->AV->AV->Mem->Nat->O2}:x2hg call hs u x10o (j7 rec1 1 2 8 9 36 37 38) (setE 0 (j4 (x1t call hs u) 1 2 8 9) eNil)=j7 (xpl call hs u rec1) 1 2 8 9 36 37 38:=tr (sqN 2 x1v4)
theorem x1v6:x2hg call hs u x10n (j4 (x1t call hs u) 1 2 8 9) (setE 0 (j4 (x1t call hs u) 1 2 8 9) eNil)=j7 (x7l call hs u NN) 1 2 8 9 36 37 38:=lp (Ln:=fun n=>j7 (x7l call hs u n) 1 2 8 9 36 37 38) fun n=>tr x1v5
theorem x1v7:x2hg call hs u x10m (j4 (x1t call hs u) 1 2 8 9) eNil=j7 (x7l call hs u NN) 1 2 8 9 36 37 38:=bk x1v6
theorem x1v8:x2hg call hs u x10g (j4 (x1t call hs u) 1 2 8 9) eNil=j4 (xgf call hs u) 1 2 8 9:=tr (sqN 1 x1v7)
theorem x1v9:x2hg call hs u xm7 r_4 eNil=j4 (xgf call hs u) 1 2 8 9:=sq2 x1v1 x1v8
theorem x1em:x2hg call hs u x10f r_4 eNil=j2 (xpm call hs u) 0 1:=tr (sqN 5 x1v9)
noncomputable abbrev x2vo:=VX xai 13 r_5
noncomputable def x1va:=x2g6 xai
theorem x1en:x2vo call hs u x1va r_5 eNil=j1 (xpn call hs u) 0:=by kernel_rfl
noncomputable abbrev x2iv:=VX x70 58 r_2
noncomputable def x10p:=x2g6 x70
noncomputable def xmb:=nRs 3 x10p
noncomputable def x10q:=nL xmb
noncomputable def xmc:=nR xmb
noncomputable def x10r:=nL xmc
noncomputable def x1vb:=nR xmc
noncomputable def x10s:=nR x10r
noncomputable def x10t:=nR x10s
noncomputable def x1vc:=nR x10t
noncomputable def x10u:=nR x10q
noncomputable def x10v:=nR x10u
noncomputable def x1vd:=nR x10v
theorem x1ve:x2iv call hs u x1vb r_2 eNil=j0 (x4t call hs u):=by kernel_rfl
theorem x1vf{rec0:AV->AV->Mem->Nat->O2}:x2iv call hs u x1vc (j2 rec0 1 5) (setE 2 (j0 (x4t call hs u)) eNil)=j2 (xpo call hs u rec0) 1 5:=by kernel_rfl
theorem x1vg:x2iv call hs u x10t (j0 (x4t call hs u)) (setE 2 (j0 (x4t call hs u)) eNil)=j2 (x7m call hs u NN) 1 5:=lp (Ln:=fun n=>j2 (x7m call hs u n) 1 5) fun n=>tr x1vf
theorem x1vh:x2iv call hs u x10s (j0 (x4t call hs u)) eNil=j2 (x7m call hs u NN) 1 5:=bk x1vg
theorem x1vi:x2iv call hs u x10r (j0 (x4t call hs u)) eNil=j1 (x3d call hs u) 1:=tr (sqN 1 x1vh)
theorem x1vj:x2iv call hs u xmc r_2 eNil=j1 (x3d call hs u) 1:=sq2 x1ve x1vi
theorem x1vk{rec1:AV->AV->Mem->Nat->O2}:x2iv call hs u x1vd (j2 rec1 1 4) (setE 0 (j1 (x3d call hs u) 1) eNil)=j2 (xpp call hs u rec1) 1 4:=by kernel_rfl
theorem x1vl:x2iv call hs u x10v (j1 (x3d call hs u) 1) (setE 0 (j1 (x3d call hs u) 1) eNil)=j2 (x7n call hs u NN) 1 4:=lp (Ln:=fun n=>j2 (x7n call hs u n) 1 4) fun n=>tr x1vk
theorem x1vm:x2iv call hs u x10u (j1 (x3d call hs u) 1) eNil=j2 (x7n call hs u NN) 1 4:=bk x1vl
theorem x1vn:x2iv call hs u x10q (j1 (x3d call hs u) 1) eNil=j1 (xgg call hs u) 1:=tr (sqN 1 x1vm)
theorem x1vo:x2iv call hs u xmb r_2 eNil=j1 (xgg call hs u) 1:=sq2 x1vj x1vn
theorem x1eo:x2iv call hs u x10p r_2 eNil=j1 (xpq call hs u) 0:=tr (sqN 3 x1vo)
noncomputable abbrev x2vp:=VX xm 15 r_1
noncomputable def x1vp:=x2g6 xm
theorem x1ep:x2vp call hs u x1vp r_1 eNil=j3 (xgh call hs u) 0 1 2:=by kernel_rfl
noncomputable abbrev x2hh:=VX xaj 79 r_6
noncomputable def x10w:=x2g6 xaj
noncomputable def xmd:=nRs 3 x10w
noncomputable def x10x:=nL xmd
noncomputable def x10y:=nR xmd
noncomputable def xme:=nRs 4 x10y
noncomputable def x10z:=nL xme
noncomputable def x1vq:=nR xme
noncomputable def x110:=nR x10z
noncomputable def x111:=nR x110
noncomputable def x112:=nR x111
noncomputable def xmf:=nR x112
noncomputable def x1vr:=nL xmf
noncomputable def x1vs:=nR xmf
noncomputable def x113:=nR x10x
noncomputable def x114:=nR x113
noncomputable def x115:=nR x114
noncomputable def xmg:=nR x115
noncomputable def x1vt:=nL xmg
noncomputable def x1vu:=nR xmg
theorem x1vv:x2hh call hs u x1vq r_6 eNil=j1 (x1u call hs u) 13:=by kernel_rfl
theorem x1vw{rec0:AV->AV->AV->AV->AV->Mem->Nat->O2}:x2hh call hs u x1vs (j5 rec0 1 11 12 13 14) (setE 2 (j1 (x1u call hs u) 13) eNil)=j5 (xc1 call hs u rec0) 1 11 12 13 14:=by kernel_rfl
theorem x1vx{rec0:AV->AV->AV->AV->AV->Mem->Nat->O2}:x2hh call hs u x1vr (j5 (xc1 call hs u rec0) 1 11 12 13 14) (setE 2 (j1 (x1u call hs u) 13) eNil)=j5 (xgi call hs u rec0) 1 11 12 13 14:=by kernel_rfl
theorem x1vy{rec0:AV->AV->AV->AV->AV->Mem->Nat->O2}:x2hh call hs u xmf (j5 rec0 1 11 12 13 14) (setE 2 (j1 (x1u call hs u) 13) eNil)=j5 (xgi call hs u rec0) 1 11 12 13 14:=sq2 x1vw x1vx
theorem x1vz{rec0:AV->AV->AV->AV->AV->Mem->Nat->O2}:x2hh call hs u x112 (j5 rec0 1 11 12 13 14) (setE 2 (j1 (x1u call hs u) 13) eNil)=j5 (xpr call hs u rec0) 1 11 12 13 14:=tr (sqN 1 x1vy)
theorem x1w0:x2hh call hs u x111 (j1 (x1u call hs u) 13) (setE 2 (j1 (x1u call hs u) 13) eNil)=j5 (x7o call hs u NN) 1 11 12 13 14:=lp (Ln:=fun n=>j5 (x7o call hs u n) 1 11 12 13 14) fun n=>tr x1vz
theorem x1w1:x2hh call hs u x110 (j1 (x1u call hs u) 13) eNil=j5 (x7o call hs u NN) 1 11 12 13 14:=bk x1w0
theorem x1w2:x2hh call hs u x10z (j1 (x1u call hs u) 13) eNil=j4 (xgj call hs u) 1 11 12 13:=tr (sqN 1 x1w1)
theorem x1w3:x2hh call hs u xme r_6 eNil=j4 (xgj call hs u) 1 11 12 13:=sq2 x1vv x1w2
theorem x1w4:x2hh call hs u x10y r_6 eNil=j3 (x1v call hs u) 1 2 7:=tr (sqN 4 x1w3)
theorem x1w5{rec1:AV->AV->AV->AV->AV->Mem->Nat->O2}:x2hh call hs u x1vu (j5 rec1 1 2 6 7 8) (setE 0 (j3 (x1v call hs u) 1 2 7) eNil)=j5 (xc2 call hs u rec1) 1 2 6 7 8:=by kernel_rfl
theorem x1w6{rec1:AV->AV->AV->AV->AV->Mem->Nat->O2}:x2hh call hs u x1vt (j5 (xc2 call hs u rec1) 1 2 6 7 8) (setE 0 (j3 (x1v call hs u) 1 2 7) eNil)=j5 (xgk call hs u rec1) 1 2 6 7 8:=by kernel_rfl
theorem x1w7{rec1:AV->AV->AV->AV->AV->Mem->Nat->O2}:x2hh call hs u xmg (j5 rec1 1 2 6 7 8) (setE 0 (j3 (x1v call hs u) 1 2 7) eNil)=j5 (xgk call hs u rec1) 1 2 6 7 8:=sq2 x1w5 x1w6
theorem x1w8{rec1:AV->AV->AV->AV->AV->Mem->Nat->O2}:x2hh call hs u x115 (j5 rec1 1 2 6 7 8) (setE 0 (j3 (x1v call hs u) 1 2 7) eNil)=j5 (xps call hs u rec1) 1 2 6 7 8:=tr (sqN 1 x1w7)
theorem x1w9:x2hh call hs u x114 (j3 (x1v call hs u) 1 2 7) (setE 0 (j3 (x1v call hs u) 1 2 7) eNil)=j5 (x7p call hs u NN) 1 2 6 7 8:=lp (Ln:=fun n=>j5 (x7p call hs u n) 1 2 6 7 8) fun n=>tr x1w8
theorem x1wa:x2hh call hs u x113 (j3 (x1v call hs u) 1 2 7) eNil=j5 (x7p call hs u NN) 1 2 6 7 8:=bk x1w9
theorem x1wb:x2hh call hs u x10x (j3 (x1v call hs u) 1 2 7) eNil=j4 (xgl call hs u) 1 2 6 7:=tr (sqN 1 x1wa)
theorem x1wc:x2hh call hs u xmd r_6 eNil=j4 (xgl call hs u) 1 2 6 7:=sq2 x1w4 x1wb
theorem x1eq:x2hh call hs u x10w r_6 eNil=j2 (xpt call hs u) 0 1:=tr (sqN 3 x1wc)
noncomputable abbrev x2lc:=VX x1g 26 r_0
noncomputable def x116:=x2g6 x1g
noncomputable def xmh:=nRs 2 x116
noncomputable def x117:=nL xmh
noncomputable def x1wd:=nR xmh
noncomputable def x118:=nR x117
noncomputable def x119:=nR x118
noncomputable def x1we:=nR x119
theorem x1wf:x2lc call hs u x1wd r_0 eNil=j0 (x4u call hs u):=by kernel_rfl
theorem x1wg{rec0:AV->AV->AV->Mem->Nat->O2}:x2lc call hs u x1we (j3 rec0 0 1 5) (setE 0 (j0 (x4u call hs u)) eNil)=j3 (xpu call hs u rec0) 0 1 5:=by kernel_rfl
theorem x1wh:x2lc call hs u x119 (j0 (x4u call hs u)) (setE 0 (j0 (x4u call hs u)) eNil)=j3 (x7q call hs u NN) 0 1 5:=lp (Ln:=fun n=>j3 (x7q call hs u n) 0 1 5) fun n=>tr x1wg
theorem x1wi:x2lc call hs u x118 (j0 (x4u call hs u)) eNil=j3 (x7q call hs u NN) 0 1 5:=bk x1wh
theorem x1wj:x2lc call hs u x117 (j0 (x4u call hs u)) eNil=j2 (xgm call hs u) 0 1:=tr (sqN 1 x1wi)
theorem x1wk:x2lc call hs u xmh r_0 eNil=j2 (xgm call hs u) 0 1:=sq2 x1wf x1wj
theorem x1er:x2lc call hs u x116 r_0 eNil=j2 (xpv call hs u) 0 1:=tr (sqN 2 x1wk)
noncomputable abbrev x2hq:=VX xak 77 r_7
noncomputable def x11a:=x2g6 xak
noncomputable def xmi:=nRs 4 x11a
noncomputable def x11b:=nL xmi
noncomputable def x1wl:=nR xmi
noncomputable def x11c:=nR x11b
noncomputable def x11d:=nR x11c
noncomputable def x11e:=nR x11d
noncomputable def xmj:=nRs 2 x11e
noncomputable def x11f:=nL xmj
noncomputable def x1wm:=nR xmj
noncomputable def x11g:=nR x11f
noncomputable def x11h:=nRs 2 x11g
noncomputable def x11i:=nR x11h
noncomputable def x11j:=nR x11i
noncomputable def xmk:=nR x11j
noncomputable def x1wn:=nL xmk
noncomputable def x1wo:=nR xmk
theorem x1wp:x2hq call hs u x1wl r_7 eNil=j1 (xn call hs u) 10:=by kernel_rfl
theorem x1wq{rec0:AV->AV->AV->AV->AV->AV->AV->Mem->Nat->O2}:x2hq call hs u x1wm (j7 rec0 0 1 2 10 31 32 33) (setE 0 (j1 (xn call hs u) 10) eNil)=j7 (xg call hs u rec0) 0 1 2 10 31 32 33:=by kernel_rfl
theorem x1wr{rec0:AV->AV->AV->AV->AV->AV->AV->Mem->Nat->O2}{rec1:AV->AV->AV->AV->AV->AV->AV->AV->AV->AV->Mem->Nat->O2}:x2hq call hs u x1wo (j10 rec1 0 1 2 10 11 12 13 31 32 33) (setE 2 (j7 (xg call hs u rec0) 0 1 2 10 31 32 33) (setE 1 (j7 (xg call hs u rec0) 0 1 2 10 31 32 33) (setE 0 (j1 (xn call hs u) 10) eNil)))=j10 (xc3 call hs u rec0 rec1) 0 1 2 10 11 12 13 31 32 33:=by kernel_rfl
theorem x1ws{rec0:AV->AV->AV->AV->AV->AV->AV->Mem->Nat->O2}{rec1:AV->AV->AV->AV->AV->AV->AV->AV->AV->AV->Mem->Nat->O2}:x2hq call hs u x1wn (j10 (xc3 call hs u rec0 rec1) 0 1 2 10 11 12 13 31 32 33) (setE 2 (j7 (xg call hs u rec0) 0 1 2 10 31 32 33) (setE 1 (j7 (xg call hs u rec0) 0 1 2 10 31 32 33) (setE 0 (j1 (xn call hs u) 10) eNil)))=j10 (xgn call hs u rec0 rec1) 0 1 2 10 11 12 13 31 32 33:=by kernel_rfl
theorem x1wt{rec0:AV->AV->AV->AV->AV->AV->AV->Mem->Nat->O2}{rec1:AV->AV->AV->AV->AV->AV->AV->AV->AV->AV->Mem->Nat->O2}:x2hq call hs u xmk (j10 rec1 0 1 2 10 11 12 13 31 32 33) (setE 2 (j7 (xg call hs u rec0) 0 1 2 10 31 32 33) (setE 1 (j7 (xg call hs u rec0) 0 1 2 10 31 32 33) (setE 0 (j1 (xn call hs u) 10) eNil)))=j10 (xgn call hs u rec0 rec1) 0 1 2 10 11 12 13 31 32 33:=sq2 x1wr x1ws
theorem x1wu{rec0:AV->AV->AV->AV->AV->AV->AV->Mem->Nat->O2}{rec1:AV->AV->AV->AV->AV->AV->AV->AV->AV->AV->Mem->Nat->O2}:x2hq call hs u x11j (j10 rec1 0 1 2 10 11 12 13 31 32 33) (setE 2 (j7 (xg call hs u rec0) 0 1 2 10 31 32 33) (setE 1 (j7 (xg call hs u rec0) 0 1 2 10 31 32 33) (setE 0 (j1 (xn call hs u) 10) eNil)))=j10 (xpw call hs u rec0 rec1) 0 1 2 10 11 12 13 31 32 33:=tr (sqN 1 x1wt)
theorem x1wv{rec0:AV->AV->AV->AV->AV->AV->AV->Mem->Nat->O2}:x2hq call hs u x11i (j7 (xg call hs u rec0) 0 1 2 10 31 32 33) (setE 2 (j7 (xg call hs u rec0) 0 1 2 10 31 32 33) (setE 1 (j7 (xg call hs u rec0) 0 1 2 10 31 32 33) (setE 0 (j1 (xn call hs u) 10) eNil)))=j10 (x7r call hs u rec0 NN) 0 1 2 10 11 12 13 31 32 33:=lp (Ln:=fun n=>j10 (x7r call hs u rec0 n) 0 1 2 10 11 12 13 31 32 33) fun n=>tr x1wu
theorem x1ww{rec0:AV->AV->AV->AV->AV->AV->AV->Mem->Nat->O2}:x2hq call hs u x11h (j7 (xg call hs u rec0) 0 1 2 10 31 32 33) (setE 1 (j7 (xg call hs u rec0) 0 1 2 10 31 32 33) (setE 0 (j1 (xn call hs u) 10) eNil))=j10 (x7r call hs u rec0 NN) 0 1 2 10 11 12 13 31 32 33:=bk x1wv
theorem x1wx{rec0:AV->AV->AV->AV->AV->AV->AV->Mem->Nat->O2}:x2hq call hs u x11g (j7 (xg call hs u rec0) 0 1 2 10 31 32 33) (setE 1 (j7 (xg call hs u rec0) 0 1 2 10 31 32 33) (setE 0 (j1 (xn call hs u) 10) eNil))=j7 (xc4 call hs u rec0) 0 1 2 10 31 32 33:=tr (sqN 2 x1ww)
theorem x1wy{rec0:AV->AV->AV->AV->AV->AV->AV->Mem->Nat->O2}:x2hq call hs u x11f (j7 (xg call hs u rec0) 0 1 2 10 31 32 33) (setE 0 (j1 (xn call hs u) 10) eNil)=j7 (xc4 call hs u rec0) 0 1 2 10 31 32 33:=bk x1wx
theorem x1wz{rec0:AV->AV->AV->AV->AV->AV->AV->Mem->Nat->O2}:x2hq call hs u xmj (j7 rec0 0 1 2 10 31 32 33) (setE 0 (j1 (xn call hs u) 10) eNil)=j7 (xc4 call hs u rec0) 0 1 2 10 31 32 33:=sq2 x1wq x1wy
theorem x1x0{rec0:AV->AV->AV->AV->AV->AV->AV->Mem->Nat->O2}:x2hq call hs u x11e (j7 rec0 0 1 2 10 31 32 33) (setE 0 (j1 (xn call hs u) 10) eNil)=j7 (xpx call hs u rec0) 0 1 2 10 31 32 33:=tr (sqN 2 x1wz)
theorem x1x1:x2hq call hs u x11d (j1 (xn call hs u) 10) (setE 0 (j1 (xn call hs u) 10) eNil)=j7 (x7s call hs u NN) 0 1 2 10 31 32 33:=lp (Ln:=fun n=>j7 (x7s call hs u n) 0 1 2 10 31 32 33) fun n=>tr x1x0
theorem x1x2:x2hq call hs u x11c (j1 (xn call hs u) 10) eNil=j7 (x7s call hs u NN) 0 1 2 10 31 32 33:=bk x1x1
theorem x1x3:x2hq call hs u x11b (j1 (xn call hs u) 10) eNil=j4 (xgo call hs u) 0 1 2 10:=tr (sqN 1 x1x2)
theorem x1x4:x2hq call hs u xmi r_7 eNil=j4 (xgo call hs u) 0 1 2 10:=sq2 x1wp x1x3
theorem x1es:x2hq call hs u x11a r_7 eNil=j3 (xpy call hs u) 0 1 2:=tr (sqN 4 x1x4)
noncomputable abbrev x2hr:=VX x34 50 r_8
noncomputable def x11k:=x2g6 x34
noncomputable def xml:=nRs 2 x11k
noncomputable def x11l:=nL xml
noncomputable def x1x5:=nR xml
noncomputable def x11m:=nR x11l
noncomputable def x11n:=nR x11m
noncomputable def x11o:=nR x11n
noncomputable def xmm:=nR x11o
noncomputable def x11p:=nL xmm
noncomputable def x1x6:=nR xmm
noncomputable def x11q:=nR x11p
noncomputable def xmn:=nRs 2 x11q
noncomputable def x11r:=nL xmn
noncomputable def x1x7:=nR xmn
noncomputable def x11s:=nR x11r
noncomputable def x11t:=nR x11s
noncomputable def x1x8:=nR x11t
theorem x1x9:x2hr call hs u x1x5 r_8 eNil=j0 (xh call hs u):=by kernel_rfl
theorem x1xa{rec0:AV->AV->Mem->Nat->O2}:x2hr call hs u x1x6 (j2 rec0 0 4) (setE 0 (j0 (xh call hs u)) eNil)=j2 (x13 call hs u rec0) 0 4:=by kernel_rfl
theorem x1xb{rec0:AV->AV->Mem->Nat->O2}:x2hr call hs u x1x7 (j2 (x13 call hs u rec0) 0 4) (setE 1 (j2 (x13 call hs u rec0) 0 4) (setE 0 (j0 (xh call hs u)) eNil))=j3 (x2u call hs u rec0) 0 4 5:=by kernel_rfl
theorem x1xc{rec0:AV->AV->Mem->Nat->O2}{rec1:AV->AV->AV->AV->Mem->Nat->O2}:x2hr call hs u x1x8 (j4 rec1 0 4 5 6) (setE 2 (j3 (x2u call hs u rec0) 0 4 5) (setE 1 (j2 (x13 call hs u rec0) 0 4) (setE 0 (j0 (xh call hs u)) eNil)))=j4 (xc5 call hs u rec0 rec1) 0 4 5 6:=by kernel_rfl
theorem x1xd{rec0:AV->AV->Mem->Nat->O2}:x2hr call hs u x11t (j3 (x2u call hs u rec0) 0 4 5) (setE 2 (j3 (x2u call hs u rec0) 0 4 5) (setE 1 (j2 (x13 call hs u rec0) 0 4) (setE 0 (j0 (xh call hs u)) eNil)))=j4 (x3e call hs u rec0 NN) 0 4 5 6:=lp (Ln:=fun n=>j4 (x3e call hs u rec0 n) 0 4 5 6) fun n=>tr x1xc
theorem x1xe{rec0:AV->AV->Mem->Nat->O2}:x2hr call hs u x11s (j3 (x2u call hs u rec0) 0 4 5) (setE 1 (j2 (x13 call hs u rec0) 0 4) (setE 0 (j0 (xh call hs u)) eNil))=j4 (x3e call hs u rec0 NN) 0 4 5 6:=bk x1xd
theorem x1xf{rec0:AV->AV->Mem->Nat->O2}:x2hr call hs u x11r (j3 (x2u call hs u rec0) 0 4 5) (setE 1 (j2 (x13 call hs u rec0) 0 4) (setE 0 (j0 (xh call hs u)) eNil))=j3 (xc6 call hs u rec0) 0 4 5:=tr (sqN 1 x1xe)
theorem x1xg{rec0:AV->AV->Mem->Nat->O2}:x2hr call hs u xmn (j2 (x13 call hs u rec0) 0 4) (setE 1 (j2 (x13 call hs u rec0) 0 4) (setE 0 (j0 (xh call hs u)) eNil))=j3 (xc6 call hs u rec0) 0 4 5:=sq2 x1xb x1xf
theorem x1xh{rec0:AV->AV->Mem->Nat->O2}:x2hr call hs u x11q (j2 (x13 call hs u rec0) 0 4) (setE 1 (j2 (x13 call hs u rec0) 0 4) (setE 0 (j0 (xh call hs u)) eNil))=j2 (x7t call hs u rec0) 0 4:=tr (sqN 2 x1xg)
theorem x1xi{rec0:AV->AV->Mem->Nat->O2}:x2hr call hs u x11p (j2 (x13 call hs u rec0) 0 4) (setE 0 (j0 (xh call hs u)) eNil)=j2 (x7t call hs u rec0) 0 4:=bk x1xh
theorem x1xj{rec0:AV->AV->Mem->Nat->O2}:x2hr call hs u xmm (j2 rec0 0 4) (setE 0 (j0 (xh call hs u)) eNil)=j2 (x7t call hs u rec0) 0 4:=sq2 x1xa x1xi
theorem x1xk{rec0:AV->AV->Mem->Nat->O2}:x2hr call hs u x11o (j2 rec0 0 4) (setE 0 (j0 (xh call hs u)) eNil)=j2 (xc7 call hs u rec0) 0 4:=tr (sqN 1 x1xj)
theorem x1xl:x2hr call hs u x11n (j0 (xh call hs u)) (setE 0 (j0 (xh call hs u)) eNil)=j2 (x1w call hs u NN) 0 4:=lp (Ln:=fun n=>j2 (x1w call hs u n) 0 4) fun n=>tr x1xk
theorem x1xm:x2hr call hs u x11m (j0 (xh call hs u)) eNil=j2 (x1w call hs u NN) 0 4:=bk x1xl
theorem x1xn:x2hr call hs u x11l (j0 (xh call hs u)) eNil=j1 (xc8 call hs u) 0:=tr (sqN 1 x1xm)
theorem x1xo:x2hr call hs u xml r_8 eNil=j1 (xc8 call hs u) 0:=sq2 x1x9 x1xn
theorem x1et:x2hr call hs u x11k r_8 eNil=j1 (xgp call hs u) 0:=tr (sqN 2 x1xo)
noncomputable abbrev x2hs:=VX xal 61 r_1
noncomputable def x11u:=x2g6 xal
noncomputable def xmo:=nRs 2 x11u
noncomputable def x11v:=nL xmo
noncomputable def x1xp:=nR xmo
noncomputable def x11w:=nR x11v
noncomputable def x11x:=nR x11w
noncomputable def x11y:=nR x11x
noncomputable def xmp:=nR x11y
noncomputable def x11z:=nL xmp
noncomputable def x1xq:=nR xmp
noncomputable def x120:=nR x11z
noncomputable def x121:=nR x120
noncomputable def x122:=nR x121
noncomputable def x123:=nR x122
noncomputable def xmq:=nR x123
noncomputable def x1xr:=nL xmq
noncomputable def x1xs:=nR xmq
theorem x1xt:x2hs call hs u x1xp r_1 eNil=j1 (xo call hs u) 7:=by kernel_rfl
theorem x1xu{rec0:AV->AV->AV->AV->AV->Mem->Nat->O2}:x2hs call hs u x1xq (j5 rec0 0 1 2 7 8) (setE 0 (j1 (xo call hs u) 7) eNil)=j5 (xj call hs u rec0) 0 1 2 7 8:=by kernel_rfl
theorem x1xv{rec0:AV->AV->AV->AV->AV->Mem->Nat->O2}{rec1:AV->AV->AV->AV->AV->AV->Mem->Nat->O2}:x2hs call hs u x1xs (j6 rec1 0 1 2 7 8 9) (setE 2 (j5 (xj call hs u rec0) 0 1 2 7 8) (setE 1 (j5 (xj call hs u rec0) 0 1 2 7 8) (setE 0 (j1 (xo call hs u) 7) eNil)))=j6 (xc9 call hs u rec0 rec1) 0 1 2 7 8 9:=by kernel_rfl
theorem x1xw{rec0:AV->AV->AV->AV->AV->Mem->Nat->O2}{rec1:AV->AV->AV->AV->AV->AV->Mem->Nat->O2}:x2hs call hs u x1xr (j6 (xc9 call hs u rec0 rec1) 0 1 2 7 8 9) (setE 2 (j5 (xj call hs u rec0) 0 1 2 7 8) (setE 1 (j5 (xj call hs u rec0) 0 1 2 7 8) (setE 0 (j1 (xo call hs u) 7) eNil)))=j6 (xgq call hs u rec0 rec1) 0 1 2 7 8 9:=by kernel_rfl
theorem x1xx{rec0:AV->AV->AV->AV->AV->Mem->Nat->O2}{rec1:AV->AV->AV->AV->AV->AV->Mem->Nat->O2}:x2hs call hs u xmq (j6 rec1 0 1 2 7 8 9) (setE 2 (j5 (xj call hs u rec0) 0 1 2 7 8) (setE 1 (j5 (xj call hs u rec0) 0 1 2 7 8) (setE 0 (j1 (xo call hs u) 7) eNil)))=j6 (xgq call hs u rec0 rec1) 0 1 2 7 8 9:=sq2 x1xv x1xw
theorem x1xy{rec0:AV->AV->AV->AV->AV->Mem->Nat->O2}{rec1:AV->AV->AV->AV->AV->AV->Mem->Nat->O2}:x2hs call hs u x123 (j6 rec1 0 1 2 7 8 9) (setE 2 (j5 (xj call hs u rec0) 0 1 2 7 8) (setE 1 (j5 (xj call hs u rec0) 0 1 2 7 8) (setE 0 (j1 (xo call hs u) 7) eNil)))=j6 (xpz call hs u rec0 rec1) 0 1 2 7 8 9:=tr (sqN 1 x1xx)
theorem x1xz{rec0:AV->AV->AV->AV->AV->Mem->Nat->O2}:x2hs call hs u x122 (j5 (xj call hs u rec0) 0 1 2 7 8) (setE 2 (j5 (xj call hs u rec0) 0 1 2 7 8) (setE 1 (j5 (xj call hs u rec0) 0 1 2 7 8) (setE 0 (j1 (xo call hs u) 7) eNil)))=j6 (x7u call hs u rec0 NN) 0 1 2 7 8 9:=lp (Ln:=fun n=>j6 (x7u call hs u rec0 n) 0 1 2 7 8 9) fun n=>tr x1xy
theorem x1y0{rec0:AV->AV->AV->AV->AV->Mem->Nat->O2}:x2hs call hs u x121 (j5 (xj call hs u rec0) 0 1 2 7 8) (setE 1 (j5 (xj call hs u rec0) 0 1 2 7 8) (setE 0 (j1 (xo call hs u) 7) eNil))=j6 (x7u call hs u rec0 NN) 0 1 2 7 8 9:=bk x1xz
theorem x1y1{rec0:AV->AV->AV->AV->AV->Mem->Nat->O2}:x2hs call hs u x120 (j5 (xj call hs u rec0) 0 1 2 7 8) (setE 1 (j5 (xj call hs u rec0) 0 1 2 7 8) (setE 0 (j1 (xo call hs u) 7) eNil))=j5 (xca call hs u rec0) 0 1 2 7 8:=tr (sqN 1 x1y0)
theorem x1y2{rec0:AV->AV->AV->AV->AV->Mem->Nat->O2}:x2hs call hs u x11z (j5 (xj call hs u rec0) 0 1 2 7 8) (setE 0 (j1 (xo call hs u) 7) eNil)=j5 (xca call hs u rec0) 0 1 2 7 8:=bk x1y1
theorem x1y3{rec0:AV->AV->AV->AV->AV->Mem->Nat->O2}:x2hs call hs u xmp (j5 rec0 0 1 2 7 8) (setE 0 (j1 (xo call hs u) 7) eNil)=j5 (xca call hs u rec0) 0 1 2 7 8:=sq2 x1xu x1y2
theorem x1y4{rec0:AV->AV->AV->AV->AV->Mem->Nat->O2}:x2hs call hs u x11y (j5 rec0 0 1 2 7 8) (setE 0 (j1 (xo call hs u) 7) eNil)=j5 (xq0 call hs u rec0) 0 1 2 7 8:=tr (sqN 1 x1y3)
theorem x1y5:x2hs call hs u x11x (j1 (xo call hs u) 7) (setE 0 (j1 (xo call hs u) 7) eNil)=j5 (x7v call hs u NN) 0 1 2 7 8:=lp (Ln:=fun n=>j5 (x7v call hs u n) 0 1 2 7 8) fun n=>tr x1y4
theorem x1y6:x2hs call hs u x11w (j1 (xo call hs u) 7) eNil=j5 (x7v call hs u NN) 0 1 2 7 8:=bk x1y5
theorem x1y7:x2hs call hs u x11v (j1 (xo call hs u) 7) eNil=j4 (xgr call hs u) 0 1 2 7:=tr (sqN 1 x1y6)
theorem x1y8:x2hs call hs u xmo r_1 eNil=j4 (xgr call hs u) 0 1 2 7:=sq2 x1xt x1y7
theorem x1eu:x2hs call hs u x11u r_1 eNil=j3 (xq1 call hs u) 0 1 2:=tr (sqN 2 x1y8)
noncomputable abbrev x2ld:=VX xam 26 r_0
noncomputable def x124:=x2g6 xam
noncomputable def xmr:=nRs 2 x124
noncomputable def x125:=nL xmr
noncomputable def x1y9:=nR xmr
noncomputable def x126:=nR x125
noncomputable def x127:=nR x126
noncomputable def x1ya:=nR x127
theorem x1yb:x2ld call hs u x1y9 r_0 eNil=j0 (x4v call hs u):=by kernel_rfl
theorem x1yc{rec0:AV->AV->AV->Mem->Nat->O2}:x2ld call hs u x1ya (j3 rec0 0 1 5) (setE 0 (j0 (x4v call hs u)) eNil)=j3 (xq2 call hs u rec0) 0 1 5:=by kernel_rfl
theorem x1yd:x2ld call hs u x127 (j0 (x4v call hs u)) (setE 0 (j0 (x4v call hs u)) eNil)=j3 (x7w call hs u NN) 0 1 5:=lp (Ln:=fun n=>j3 (x7w call hs u n) 0 1 5) fun n=>tr x1yc
theorem x1ye:x2ld call hs u x126 (j0 (x4v call hs u)) eNil=j3 (x7w call hs u NN) 0 1 5:=bk x1yd
theorem x1yf:x2ld call hs u x125 (j0 (x4v call hs u)) eNil=j2 (xgs call hs u) 0 1:=tr (sqN 1 x1ye)
theorem x1yg:x2ld call hs u xmr r_0 eNil=j2 (xgs call hs u) 0 1:=sq2 x1yb x1yf
theorem x1ev:x2ld call hs u x124 r_0 eNil=j2 (xq3 call hs u) 0 1:=tr (sqN 2 x1yg)
noncomputable abbrev x2le:=VX x2n 53 r_2
noncomputable def x128:=x2g6 x2n
noncomputable def xms:=nRs 2 x128
noncomputable def x129:=nL xms
noncomputable def x1yh:=nR xms
noncomputable def x12a:=nR x129
noncomputable def x12b:=nR x12a
noncomputable def x1yi:=nR x12b
theorem x1yj:x2le call hs u x1yh r_2 eNil=j0 (x3f call hs u):=by kernel_rfl
theorem x1yk{rec0:AV->AV->Mem->Nat->O2}:x2le call hs u x1yi (j2 rec0 1 3) (setE 0 (j0 (x3f call hs u)) eNil)=j2 (xcb call hs u rec0) 1 3:=by kernel_rfl
theorem x1yl:x2le call hs u x12b (j0 (x3f call hs u)) (setE 0 (j0 (x3f call hs u)) eNil)=j2 (x3g call hs u NN) 1 3:=lp (Ln:=fun n=>j2 (x3g call hs u n) 1 3) fun n=>tr x1yk
theorem x1ym:x2le call hs u x12a (j0 (x3f call hs u)) eNil=j2 (x3g call hs u NN) 1 3:=bk x1yl
theorem x1yn:x2le call hs u x129 (j0 (x3f call hs u)) eNil=j1 (x7x call hs u) 1:=tr (sqN 1 x1ym)
theorem x1yo:x2le call hs u xms r_2 eNil=j1 (x7x call hs u) 1:=sq2 x1yj x1yn
theorem x1ew:x2le call hs u x128 r_2 eNil=j1 (xgt call hs u) 0:=tr (sqN 2 x1yo)
noncomputable abbrev x2lf:=VX x2o 64 r_6
noncomputable def x12c:=x2g6 x2o
noncomputable def xmt:=nRs 3 x12c
noncomputable def x12d:=nL xmt
noncomputable def x1yp:=nR xmt
noncomputable def x12e:=nR x12d
noncomputable def x12f:=nR x12e
noncomputable def x1yq:=nR x12f
theorem x1yr:x2lf call hs u x1yp r_6 eNil=j3 (x3h call hs u) 1 2 7:=by kernel_rfl
theorem x1ys{rec0:AV->AV->AV->AV->AV->AV->Mem->Nat->O2}:x2lf call hs u x1yq (j6 rec0 1 2 7 19 20 21) (setE 0 (j3 (x3h call hs u) 1 2 7) eNil)=j6 (xcc call hs u rec0) 1 2 7 19 20 21:=by kernel_rfl
theorem x1yt:x2lf call hs u x12f (j3 (x3h call hs u) 1 2 7) (setE 0 (j3 (x3h call hs u) 1 2 7) eNil)=j6 (x2v call hs u NN) 1 2 7 19 20 21:=lp (Ln:=fun n=>j6 (x2v call hs u n) 1 2 7 19 20 21) fun n=>tr x1ys
theorem x1yu:x2lf call hs u x12e (j3 (x3h call hs u) 1 2 7) eNil=j6 (x2v call hs u NN) 1 2 7 19 20 21:=bk x1yt
theorem x1yv:x2lf call hs u x12d (j3 (x3h call hs u) 1 2 7) eNil=j3 (xcd call hs u) 1 2 7:=tr (sqN 1 x1yu)
theorem x1yw:x2lf call hs u xmt r_6 eNil=j3 (xcd call hs u) 1 2 7:=sq2 x1yr x1yv
theorem x1ex:x2lf call hs u x12c r_6 eNil=j2 (xgu call hs u) 0 1:=tr (sqN 3 x1yw)
noncomputable abbrev x2vq:=VX x12 12 r_9
noncomputable def x1yx:=x2g6 x12
theorem x1ey:x2vq call hs u x1yx r_9 eNil=j1 (xgv call hs u) 0:=by kernel_rfl
noncomputable abbrev x2vr:=VX x1q 6 r_2
noncomputable def x1yy:=x2g6 x1q
theorem x1ez:x2vr call hs u x1yy r_2 eNil=j1 (xce call hs u) 0:=by kernel_rfl
noncomputable abbrev x2vs:=VX x2p 11 r_2
noncomputable def x1yz:=x2g6 x2p
theorem x1f0:x2vs call hs u x1yz r_2 eNil=j1 (xgw call hs u) 0:=by kernel_rfl
noncomputable abbrev x2il:=VX xao 109 r_6
noncomputable def x12g:=x2g6 xao
noncomputable def xmu:=nRs 2 x12g
noncomputable def x12h:=nL xmu
noncomputable def x12i:=nR xmu
noncomputable def xmv:=nR x12i
noncomputable def x12j:=nL xmv
noncomputable def x1z0:=nR xmv
noncomputable def x12k:=nR x12j
noncomputable def x12l:=nR x12k
noncomputable def x1z1:=nR x12l
noncomputable def x12m:=nR x12h
noncomputable def x12n:=nR x12m
noncomputable def x1z2:=nR x12n
theorem x1z3:x2il call hs u x1z0 r_6 eNil=j1 (x4w call hs u) 6:=by kernel_rfl
theorem x1z4{rec0:AV->AV->AV->AV->Mem->Nat->O2}:x2il call hs u x1z1 (j4 rec0 2 6 9 10) (setE 2 (j1 (x4w call hs u) 6) eNil)=j4 (xq5 call hs u rec0) 2 6 9 10:=by kernel_rfl
theorem x1z5:x2il call hs u x12l (j1 (x4w call hs u) 6) (setE 2 (j1 (x4w call hs u) 6) eNil)=j4 (x7z call hs u NN) 2 6 9 10:=lp (Ln:=fun n=>j4 (x7z call hs u n) 2 6 9 10) fun n=>tr x1z4
theorem x1z6:x2il call hs u x12k (j1 (x4w call hs u) 6) eNil=j4 (x7z call hs u NN) 2 6 9 10:=bk x1z5
theorem x1z7:x2il call hs u x12j (j1 (x4w call hs u) 6) eNil=j3 (xgx call hs u) 2 6 9:=tr (sqN 1 x1z6)
theorem x1z8:x2il call hs u xmv r_6 eNil=j3 (xgx call hs u) 2 6 9:=sq2 x1z3 x1z7
theorem x1z9:x2il call hs u x12i r_6 eNil=j3 (x4x call hs u) 1 2 6:=tr (sqN 1 x1z8)
theorem x1za{rec1:AV->AV->AV->AV->Mem->Nat->O2}:x2il call hs u x1z2 (j4 rec1 1 2 6 7) (setE 0 (j3 (x4x call hs u) 1 2 6) eNil)=j4 (xq6 call hs u rec1) 1 2 6 7:=by kernel_rfl
theorem x1zb:x2il call hs u x12n (j3 (x4x call hs u) 1 2 6) (setE 0 (j3 (x4x call hs u) 1 2 6) eNil)=j4 (x80 call hs u NN) 1 2 6 7:=lp (Ln:=fun n=>j4 (x80 call hs u n) 1 2 6 7) fun n=>tr x1za
theorem x1zc:x2il call hs u x12m (j3 (x4x call hs u) 1 2 6) eNil=j4 (x80 call hs u NN) 1 2 6 7:=bk x1zb
theorem x1zd:x2il call hs u x12h (j3 (x4x call hs u) 1 2 6) eNil=j3 (xgy call hs u) 1 2 6:=tr (sqN 1 x1zc)
theorem x1ze:x2il call hs u xmu r_6 eNil=j3 (xgy call hs u) 1 2 6:=sq2 x1z9 x1zd
theorem x1f1:x2il call hs u x12g r_6 eNil=j2 (xq7 call hs u) 0 1:=tr (sqN 2 x1ze)
noncomputable abbrev x2jo:=VX xap 51 r_8
noncomputable def x12o:=x2g6 xap
noncomputable def xmw:=nRs 6 x12o
noncomputable def x12p:=nL xmw
noncomputable def x1zf:=nR xmw
noncomputable def x12q:=nR x12p
noncomputable def x12r:=nR x12q
noncomputable def x12s:=nR x12r
noncomputable def xmx:=nRs 2 x12s
noncomputable def x1zg:=nL xmx
noncomputable def x1zh:=nR xmx
theorem x1zi:x2jo call hs u x1zf r_8 eNil=j1 (x1x call hs u) 7:=by kernel_rfl
theorem x1zj{rec0:AV->AV->AV->AV->AV->Mem->Nat->O2}:x2jo call hs u x1zh (j5 rec0 6 7 27 28 29) (setE 0 (j1 (x1x call hs u) 7) eNil)=j5 (xcf call hs u rec0) 6 7 27 28 29:=by kernel_rfl
theorem x1zk{rec0:AV->AV->AV->AV->AV->Mem->Nat->O2}:x2jo call hs u x1zg (j5 (xcf call hs u rec0) 6 7 27 28 29) (setE 0 (j1 (x1x call hs u) 7) eNil)=j5 (xgz call hs u rec0) 6 7 27 28 29:=by kernel_rfl
theorem x1zl{rec0:AV->AV->AV->AV->AV->Mem->Nat->O2}:x2jo call hs u xmx (j5 rec0 6 7 27 28 29) (setE 0 (j1 (x1x call hs u) 7) eNil)=j5 (xgz call hs u rec0) 6 7 27 28 29:=sq2 x1zj x1zk
theorem x1zm{rec0:AV->AV->AV->AV->AV->Mem->Nat->O2}:x2jo call hs u x12s (j5 rec0 6 7 27 28 29) (setE 0 (j1 (x1x call hs u) 7) eNil)=j5 (xq8 call hs u rec0) 6 7 27 28 29:=tr (sqN 2 x1zl)
theorem x1zn:x2jo call hs u x12r (j1 (x1x call hs u) 7) (setE 0 (j1 (x1x call hs u) 7) eNil)=j5 (x81 call hs u NN) 6 7 27 28 29:=lp (Ln:=fun n=>j5 (x81 call hs u n) 6 7 27 28 29) fun n=>tr x1zm
theorem x1zo:x2jo call hs u x12q (j1 (x1x call hs u) 7) eNil=j5 (x81 call hs u NN) 6 7 27 28 29:=bk x1zn
theorem x1zp:x2jo call hs u x12p (j1 (x1x call hs u) 7) eNil=j3 (xh0 call hs u) 4 6 7:=tr (sqN 1 x1zo)
theorem x1zq:x2jo call hs u xmw r_8 eNil=j3 (xh0 call hs u) 4 6 7:=sq2 x1zi x1zp
theorem x1f2:x2jo call hs u x12o r_8 eNil=j1 (xq9 call hs u) 0:=tr (sqN 6 x1zq)
noncomputable abbrev x2lg:=VX xaq 60 r_10
noncomputable def x12t:=x2g6 xaq
noncomputable def xmy:=nRs 6 x12t
noncomputable def x12u:=nL xmy
noncomputable def x1zr:=nR xmy
noncomputable def x12v:=nR x12u
noncomputable def x12w:=nR x12v
noncomputable def x1zs:=nR x12w
theorem x1zt:x2lg call hs u x1zr r_10 eNil=j3 (x4y call hs u) 9 10 11:=by kernel_rfl
theorem x1zu{rec0:AV->AV->AV->AV->AV->AV->AV->Mem->Nat->O2}:x2lg call hs u x1zs (j7 rec0 8 9 10 11 33 34 35) (setE 0 (j3 (x4y call hs u) 9 10 11) eNil)=j7 (xqa call hs u rec0) 8 9 10 11 33 34 35:=by kernel_rfl
theorem x1zv:x2lg call hs u x12w (j3 (x4y call hs u) 9 10 11) (setE 0 (j3 (x4y call hs u) 9 10 11) eNil)=j7 (x82 call hs u NN) 8 9 10 11 33 34 35:=lp (Ln:=fun n=>j7 (x82 call hs u n) 8 9 10 11 33 34 35) fun n=>tr x1zu
theorem x1zw:x2lg call hs u x12v (j3 (x4y call hs u) 9 10 11) eNil=j7 (x82 call hs u NN) 8 9 10 11 33 34 35:=bk x1zv
theorem x1zx:x2lg call hs u x12u (j3 (x4y call hs u) 9 10 11) eNil=j5 (xh1 call hs u) 6 8 9 10 11:=tr (sqN 1 x1zw)
theorem x1zy:x2lg call hs u xmy r_10 eNil=j5 (xh1 call hs u) 6 8 9 10 11:=sq2 x1zt x1zx
theorem x1f3:x2lg call hs u x12t r_10 eNil=j1 (xqb call hs u) 0:=tr (sqN 6 x1zy)
noncomputable abbrev x2lh:=VX x4c 18 r_0
noncomputable def x12x:=x2g6 x4c
noncomputable def xmz:=nR x12x
noncomputable def x12y:=nL xmz
noncomputable def x1zz:=nR xmz
noncomputable def x12z:=nR x12y
noncomputable def x130:=nR x12z
noncomputable def x200:=nR x130
theorem x201:x2lh call hs u x1zz r_0 eNil=j0 (x3i call hs u):=by kernel_rfl
theorem x202{rec0:AV->AV->AV->Mem->Nat->O2}:x2lh call hs u x200 (j3 rec0 0 1 5) (setE 0 (j0 (x3i call hs u)) eNil)=j3 (xcg call hs u rec0) 0 1 5:=by kernel_rfl
theorem x203:x2lh call hs u x130 (j0 (x3i call hs u)) (setE 0 (j0 (x3i call hs u)) eNil)=j3 (x3j call hs u NN) 0 1 5:=lp (Ln:=fun n=>j3 (x3j call hs u n) 0 1 5) fun n=>tr x202
theorem x204:x2lh call hs u x12z (j0 (x3i call hs u)) eNil=j3 (x3j call hs u NN) 0 1 5:=bk x203
theorem x205:x2lh call hs u x12y (j0 (x3i call hs u)) eNil=j2 (xh2 call hs u) 0 1:=tr (sqN 1 x204)
theorem x206:x2lh call hs u xmz r_0 eNil=j2 (xh2 call hs u) 0 1:=sq2 x201 x205
theorem x1f4:x2lh call hs u x12x r_0 eNil=j2 (xqc call hs u) 0 1:=tr (sqN 1 x206)
noncomputable abbrev x2vt:=VX x35 14 r_8
noncomputable def x207:=x2g6 x35
theorem x1f5:x2vt call hs u x207 r_8 eNil=j1 (xh3 call hs u) 0:=by kernel_rfl
noncomputable abbrev x2jp:=VX xar 43 r_8
noncomputable def x131:=x2g6 xar
noncomputable def xn0:=nRs 3 x131
noncomputable def x132:=nL xn0
noncomputable def x208:=nR xn0
noncomputable def x133:=nR x132
noncomputable def x134:=nR x133
noncomputable def x135:=nR x134
noncomputable def xn1:=nRs 2 x135
noncomputable def x209:=nL xn1
noncomputable def x20a:=nR xn1
theorem x20b:x2jp call hs u x208 r_8 eNil=j1 (x1y call hs u) 5:=by kernel_rfl
theorem x20c{rec0:AV->AV->AV->AV->AV->Mem->Nat->O2}:x2jp call hs u x20a (j5 rec0 1 5 15 16 17) (setE 0 (j1 (x1y call hs u) 5) eNil)=j5 (xch call hs u rec0) 1 5 15 16 17:=by kernel_rfl
theorem x20d{rec0:AV->AV->AV->AV->AV->Mem->Nat->O2}:x2jp call hs u x209 (j5 (xch call hs u rec0) 1 5 15 16 17) (setE 0 (j1 (x1y call hs u) 5) eNil)=j5 (xh4 call hs u rec0) 1 5 15 16 17:=by kernel_rfl
theorem x20e{rec0:AV->AV->AV->AV->AV->Mem->Nat->O2}:x2jp call hs u xn1 (j5 rec0 1 5 15 16 17) (setE 0 (j1 (x1y call hs u) 5) eNil)=j5 (xh4 call hs u rec0) 1 5 15 16 17:=sq2 x20c x20d
theorem x20f{rec0:AV->AV->AV->AV->AV->Mem->Nat->O2}:x2jp call hs u x135 (j5 rec0 1 5 15 16 17) (setE 0 (j1 (x1y call hs u) 5) eNil)=j5 (xqd call hs u rec0) 1 5 15 16 17:=tr (sqN 2 x20e)
theorem x20g:x2jp call hs u x134 (j1 (x1y call hs u) 5) (setE 0 (j1 (x1y call hs u) 5) eNil)=j5 (x83 call hs u NN) 1 5 15 16 17:=lp (Ln:=fun n=>j5 (x83 call hs u n) 1 5 15 16 17) fun n=>tr x20f
theorem x20h:x2jp call hs u x133 (j1 (x1y call hs u) 5) eNil=j5 (x83 call hs u NN) 1 5 15 16 17:=bk x20g
theorem x20i:x2jp call hs u x132 (j1 (x1y call hs u) 5) eNil=j2 (xh5 call hs u) 1 5:=tr (sqN 1 x20h)
theorem x20j:x2jp call hs u xn0 r_8 eNil=j2 (xh5 call hs u) 1 5:=sq2 x20b x20i
theorem x1f6:x2jp call hs u x131 r_8 eNil=j1 (xqe call hs u) 0:=tr (sqN 3 x20j)
noncomputable abbrev x2vu:=VX x71 8 r_2
noncomputable def x20k:=x2g6 x71
theorem x1f7:x2vu call hs u x20k r_2 eNil=j1 (xqf call hs u) 0:=by kernel_rfl
noncomputable abbrev x2jq:=VX xas 42 r_2
noncomputable def x136:=x2g6 xas
noncomputable def xn2:=nRs 2 x136
noncomputable def x137:=nL xn2
noncomputable def x20l:=nR xn2
noncomputable def x138:=nR x137
noncomputable def x139:=nR x138
noncomputable def x13a:=nR x139
noncomputable def xn3:=nR x13a
noncomputable def x20m:=nL xn3
noncomputable def x20n:=nR xn3
theorem x20o:x2jq call hs u x20l r_2 eNil=j1 (x1z call hs u) 3:=by kernel_rfl
theorem x20p{rec0:AV->AV->AV->Mem->Nat->O2}:x2jq call hs u x20n (j3 rec0 1 3 4) (setE 0 (j1 (x1z call hs u) 3) eNil)=j3 (xci call hs u rec0) 1 3 4:=by kernel_rfl
theorem x20q{rec0:AV->AV->AV->Mem->Nat->O2}:x2jq call hs u x20m (j3 (xci call hs u rec0) 1 3 4) (setE 0 (j1 (x1z call hs u) 3) eNil)=j3 (xh6 call hs u rec0) 1 3 4:=by kernel_rfl
theorem x20r{rec0:AV->AV->AV->Mem->Nat->O2}:x2jq call hs u xn3 (j3 rec0 1 3 4) (setE 0 (j1 (x1z call hs u) 3) eNil)=j3 (xh6 call hs u rec0) 1 3 4:=sq2 x20p x20q
theorem x20s{rec0:AV->AV->AV->Mem->Nat->O2}:x2jq call hs u x13a (j3 rec0 1 3 4) (setE 0 (j1 (x1z call hs u) 3) eNil)=j3 (xqg call hs u rec0) 1 3 4:=tr (sqN 1 x20r)
theorem x20t:x2jq call hs u x139 (j1 (x1z call hs u) 3) (setE 0 (j1 (x1z call hs u) 3) eNil)=j3 (x84 call hs u NN) 1 3 4:=lp (Ln:=fun n=>j3 (x84 call hs u n) 1 3 4) fun n=>tr x20s
theorem x20u:x2jq call hs u x138 (j1 (x1z call hs u) 3) eNil=j3 (x84 call hs u NN) 1 3 4:=bk x20t
theorem x20v:x2jq call hs u x137 (j1 (x1z call hs u) 3) eNil=j2 (xh7 call hs u) 1 3:=tr (sqN 1 x20u)
theorem x20w:x2jq call hs u xn2 r_2 eNil=j2 (xh7 call hs u) 1 3:=sq2 x20o x20v
theorem x1f8:x2jq call hs u x136 r_2 eNil=j1 (xqh call hs u) 0:=tr (sqN 2 x20w)
noncomputable abbrev x2ib:=VX xf1 70 r_0
noncomputable def x13b:=x2g6 xf1
noncomputable def xn4:=nRs 4 x13b
noncomputable def x13c:=nL xn4
noncomputable def x20x:=nR xn4
noncomputable def x13d:=nR x13c
noncomputable def x13e:=nR x13d
noncomputable def x13f:=nR x13e
noncomputable def xn5:=nRs 2 x13f
noncomputable def x13g:=nL xn5
noncomputable def x20y:=nR xn5
noncomputable def x13h:=nR x13g
noncomputable def xn6:=nRs 3 x13h
noncomputable def x20z:=nL xn6
noncomputable def x210:=nR xn6
theorem x211:x2ib call hs u x20x r_0 eNil=j2 (x14 call hs u) 6 7:=by kernel_rfl
theorem x212{rec0:AV->AV->AV->AV->AV->AV->Mem->Nat->O2}:x2ib call hs u x20y (j6 rec0 2 6 7 25 26 27) (setE 1 (j2 (x14 call hs u) 6 7) eNil)=j6 (x20 call hs u rec0) 2 6 7 25 26 27:=by kernel_rfl
theorem x213{rec0:AV->AV->AV->AV->AV->AV->Mem->Nat->O2}:x2ib call hs u x210 (j6 (x20 call hs u rec0) 2 6 7 25 26 27) (setE 2 (j6 (x20 call hs u rec0) 2 6 7 25 26 27) (setE 1 (j2 (x14 call hs u) 6 7) eNil))=j6 (xcj call hs u rec0) 2 6 11 25 26 27:=by kernel_rfl
theorem x214{rec0:AV->AV->AV->AV->AV->AV->Mem->Nat->O2}:x2ib call hs u x20z (j6 (xcj call hs u rec0) 2 6 11 25 26 27) (setE 2 (j6 (x20 call hs u rec0) 2 6 7 25 26 27) (setE 1 (j2 (x14 call hs u) 6 7) eNil))=j9 (xh8 call hs u rec0) 2 6 7 8 10 11 25 26 27:=by kernel_rfl
theorem x215{rec0:AV->AV->AV->AV->AV->AV->Mem->Nat->O2}:x2ib call hs u xn6 (j6 (x20 call hs u rec0) 2 6 7 25 26 27) (setE 2 (j6 (x20 call hs u rec0) 2 6 7 25 26 27) (setE 1 (j2 (x14 call hs u) 6 7) eNil))=j9 (xh8 call hs u rec0) 2 6 7 8 10 11 25 26 27:=sq2 x213 x214
theorem x216{rec0:AV->AV->AV->AV->AV->AV->Mem->Nat->O2}:x2ib call hs u x13h (j6 (x20 call hs u rec0) 2 6 7 25 26 27) (setE 2 (j6 (x20 call hs u rec0) 2 6 7 25 26 27) (setE 1 (j2 (x14 call hs u) 6 7) eNil))=j6 (xck call hs u rec0) 2 6 7 25 26 27:=tr (sqN 3 x215)
theorem x217{rec0:AV->AV->AV->AV->AV->AV->Mem->Nat->O2}:x2ib call hs u x13g (j6 (x20 call hs u rec0) 2 6 7 25 26 27) (setE 1 (j2 (x14 call hs u) 6 7) eNil)=j6 (xck call hs u rec0) 2 6 7 25 26 27:=bk x216
theorem x218{rec0:AV->AV->AV->AV->AV->AV->Mem->Nat->O2}:x2ib call hs u xn5 (j6 rec0 2 6 7 25 26 27) (setE 1 (j2 (x14 call hs u) 6 7) eNil)=j6 (xck call hs u rec0) 2 6 7 25 26 27:=sq2 x212 x217
theorem x219{rec0:AV->AV->AV->AV->AV->AV->Mem->Nat->O2}:x2ib call hs u x13f (j6 rec0 2 6 7 25 26 27) (setE 1 (j2 (x14 call hs u) 6 7) eNil)=j6 (xqi call hs u rec0) 2 6 7 25 26 27:=tr (sqN 2 x218)
theorem x21a:x2ib call hs u x13e (j2 (x14 call hs u) 6 7) (setE 1 (j2 (x14 call hs u) 6 7) eNil)=j6 (x85 call hs u NN) 2 6 7 25 26 27:=lp (Ln:=fun n=>j6 (x85 call hs u n) 2 6 7 25 26 27) fun n=>tr x219
theorem x21b:x2ib call hs u x13d (j2 (x14 call hs u) 6 7) eNil=j6 (x85 call hs u NN) 2 6 7 25 26 27:=bk x21a
theorem x21c:x2ib call hs u x13c (j2 (x14 call hs u) 6 7) eNil=j4 (xh9 call hs u) 1 2 6 7:=tr (sqN 1 x21b)
theorem x21d:x2ib call hs u xn4 r_0 eNil=j4 (xh9 call hs u) 1 2 6 7:=sq2 x211 x21c
theorem x1f9:x2ib call hs u x13b r_0 eNil=j2 (xqj call hs u) 0 1:=tr (sqN 4 x21d)
noncomputable abbrev x2ic:=VX xf2 59 r_0
noncomputable def x13i:=x2g6 xf2
noncomputable def xn7:=nRs 4 x13i
noncomputable def x13j:=nL xn7
noncomputable def x21e:=nR xn7
noncomputable def x13k:=nR x13j
noncomputable def x13l:=nR x13k
noncomputable def x13m:=nR x13l
noncomputable def xn8:=nR x13m
noncomputable def x13n:=nL xn8
noncomputable def x21f:=nR xn8
noncomputable def x13o:=nR x13n
noncomputable def xn9:=nRs 4 x13o
noncomputable def x21g:=nL xn9
noncomputable def x21h:=nR xn9
theorem x21i:x2ic call hs u x21e r_0 eNil=j2 (x15 call hs u) 5 6:=by kernel_rfl
theorem x21j{rec0:AV->AV->AV->AV->AV->Mem->Nat->O2}:x2ic call hs u x21f (j5 rec0 1 2 5 6 7) (setE 0 (j2 (x15 call hs u) 5 6) eNil)=j5 (x21 call hs u rec0) 1 2 5 6 7:=by kernel_rfl
theorem x21k{rec0:AV->AV->AV->AV->AV->Mem->Nat->O2}:x2ic call hs u x21h (j5 (x21 call hs u rec0) 1 2 5 6 7) (setE 1 (j5 (x21 call hs u rec0) 1 2 5 6 7) (setE 0 (j2 (x15 call hs u) 5 6) eNil))=j5 (xcl call hs u rec0) 1 2 5 7 10:=by kernel_rfl
theorem x21l{rec0:AV->AV->AV->AV->AV->Mem->Nat->O2}:x2ic call hs u x21g (j5 (xcl call hs u rec0) 1 2 5 7 10) (setE 1 (j5 (x21 call hs u rec0) 1 2 5 6 7) (setE 0 (j2 (x15 call hs u) 5 6) eNil))=j7 (xha call hs u rec0) 1 2 5 6 7 9 10:=by kernel_rfl
theorem x21m{rec0:AV->AV->AV->AV->AV->Mem->Nat->O2}:x2ic call hs u xn9 (j5 (x21 call hs u rec0) 1 2 5 6 7) (setE 1 (j5 (x21 call hs u rec0) 1 2 5 6 7) (setE 0 (j2 (x15 call hs u) 5 6) eNil))=j7 (xha call hs u rec0) 1 2 5 6 7 9 10:=sq2 x21k x21l
theorem x21n{rec0:AV->AV->AV->AV->AV->Mem->Nat->O2}:x2ic call hs u x13o (j5 (x21 call hs u rec0) 1 2 5 6 7) (setE 1 (j5 (x21 call hs u rec0) 1 2 5 6 7) (setE 0 (j2 (x15 call hs u) 5 6) eNil))=j5 (xcm call hs u rec0) 1 2 5 6 7:=tr (sqN 4 x21m)
theorem x21o{rec0:AV->AV->AV->AV->AV->Mem->Nat->O2}:x2ic call hs u x13n (j5 (x21 call hs u rec0) 1 2 5 6 7) (setE 0 (j2 (x15 call hs u) 5 6) eNil)=j5 (xcm call hs u rec0) 1 2 5 6 7:=bk x21n
theorem x21p{rec0:AV->AV->AV->AV->AV->Mem->Nat->O2}:x2ic call hs u xn8 (j5 rec0 1 2 5 6 7) (setE 0 (j2 (x15 call hs u) 5 6) eNil)=j5 (xcm call hs u rec0) 1 2 5 6 7:=sq2 x21j x21o
theorem x21q{rec0:AV->AV->AV->AV->AV->Mem->Nat->O2}:x2ic call hs u x13m (j5 rec0 1 2 5 6 7) (setE 0 (j2 (x15 call hs u) 5 6) eNil)=j5 (xqk call hs u rec0) 1 2 5 6 7:=tr (sqN 1 x21p)
theorem x21r:x2ic call hs u x13l (j2 (x15 call hs u) 5 6) (setE 0 (j2 (x15 call hs u) 5 6) eNil)=j5 (x86 call hs u NN) 1 2 5 6 7:=lp (Ln:=fun n=>j5 (x86 call hs u n) 1 2 5 6 7) fun n=>tr x21q
theorem x21s:x2ic call hs u x13k (j2 (x15 call hs u) 5 6) eNil=j5 (x86 call hs u NN) 1 2 5 6 7:=bk x21r
theorem x21t:x2ic call hs u x13j (j2 (x15 call hs u) 5 6) eNil=j4 (xhb call hs u) 1 2 5 6:=tr (sqN 1 x21s)
theorem x21u:x2ic call hs u xn7 r_0 eNil=j4 (xhb call hs u) 1 2 5 6:=sq2 x21i x21t
theorem x1fa:x2ic call hs u x13i r_0 eNil=j2 (xql call hs u) 0 1:=tr (sqN 4 x21u)
noncomputable abbrev x2vv:=VX x36 20 r_11
noncomputable def x21v:=x2g6 x36
theorem x1fb:x2vv call hs u x21v r_11 eNil=j1 (xhc call hs u) 0:=by kernel_rfl
noncomputable abbrev x2iw:=VX xf4 91 r_6
noncomputable def x13p:=x2g6 xf4
noncomputable def xna:=nRs 4 x13p
noncomputable def x13q:=nL xna
noncomputable def xnb:=nR xna
noncomputable def x13r:=nL xnb
noncomputable def x21w:=nR xnb
noncomputable def x13s:=nR x13r
noncomputable def x13t:=nR x13s
noncomputable def x21x:=nR x13t
noncomputable def x13u:=nR x13q
noncomputable def x13v:=nR x13u
noncomputable def x21y:=nR x13v
theorem x21z:x2iw call hs u x21w r_6 eNil=j1 (x50 call hs u) 7:=by kernel_rfl
theorem x220{rec0:AV->AV->AV->AV->Mem->Nat->O2}:x2iw call hs u x21x (j4 rec0 2 6 7 10) (setE 2 (j1 (x50 call hs u) 7) eNil)=j4 (xqm call hs u rec0) 2 6 7 10:=by kernel_rfl
theorem x221:x2iw call hs u x13t (j1 (x50 call hs u) 7) (setE 2 (j1 (x50 call hs u) 7) eNil)=j4 (x87 call hs u NN) 2 6 7 10:=lp (Ln:=fun n=>j4 (x87 call hs u n) 2 6 7 10) fun n=>tr x220
theorem x222:x2iw call hs u x13s (j1 (x50 call hs u) 7) eNil=j4 (x87 call hs u NN) 2 6 7 10:=bk x221
theorem x223:x2iw call hs u x13r (j1 (x50 call hs u) 7) eNil=j3 (x3k call hs u) 2 6 7:=tr (sqN 1 x222)
theorem x224:x2iw call hs u xnb r_6 eNil=j3 (x3k call hs u) 2 6 7:=sq2 x21z x223
theorem x225{rec1:AV->AV->AV->AV->AV->Mem->Nat->O2}:x2iw call hs u x21y (j5 rec1 1 2 6 7 8) (setE 0 (j3 (x3k call hs u) 2 6 7) eNil)=j5 (xqn call hs u rec1) 1 2 6 7 8:=by kernel_rfl
theorem x226:x2iw call hs u x13v (j3 (x3k call hs u) 2 6 7) (setE 0 (j3 (x3k call hs u) 2 6 7) eNil)=j5 (x88 call hs u NN) 1 2 6 7 8:=lp (Ln:=fun n=>j5 (x88 call hs u n) 1 2 6 7 8) fun n=>tr x225
theorem x227:x2iw call hs u x13u (j3 (x3k call hs u) 2 6 7) eNil=j5 (x88 call hs u NN) 1 2 6 7 8:=bk x226
theorem x228:x2iw call hs u x13q (j3 (x3k call hs u) 2 6 7) eNil=j4 (xhd call hs u) 1 2 6 7:=tr (sqN 1 x227)
theorem x229:x2iw call hs u xna r_6 eNil=j4 (xhd call hs u) 1 2 6 7:=sq2 x224 x228
theorem x1fc:x2iw call hs u x13p r_6 eNil=j2 (xqo call hs u) 0 1:=tr (sqN 4 x229)
noncomputable abbrev x2gw:=VX x72 98 r_8
noncomputable def x13w:=x2g6 x72
noncomputable def xnc:=nRs 4 x13w
noncomputable def x13x:=nL xnc
noncomputable def x13y:=nR xnc
noncomputable def xnd:=nR x13y
noncomputable def x13z:=nL xnd
noncomputable def x22a:=nR xnd
noncomputable def x140:=nR x13z
noncomputable def x141:=nR x140
noncomputable def x142:=nR x141
noncomputable def xne:=nR x142
noncomputable def x22b:=nL xne
noncomputable def x22c:=nR xne
noncomputable def x143:=nR x13x
noncomputable def x144:=nR x143
noncomputable def x145:=nR x144
noncomputable def xnf:=nRs 2 x145
noncomputable def x146:=nL xnf
noncomputable def x22d:=nR xnf
noncomputable def x147:=nR x146
noncomputable def xng:=nR x147
noncomputable def x148:=nL xng
noncomputable def x22e:=nR xng
noncomputable def x149:=nR x148
noncomputable def x14a:=nR x149
noncomputable def x14b:=nR x14a
noncomputable def xnh:=nR x14b
noncomputable def x22f:=nL xnh
noncomputable def x22g:=nR xnh
theorem x22h:x2gw call hs u x22a r_8 eNil=j2 (x22 call hs u) 5 10:=by kernel_rfl
theorem x22i{rec0:AV->AV->AV->AV->AV->Mem->Nat->O2}:x2gw call hs u x22c (j5 rec0 1 4 5 10 11) (setE 4 (j2 (x22 call hs u) 5 10) eNil)=j5 (xcn call hs u rec0) 1 4 5 10 11:=by kernel_rfl
theorem x22j{rec0:AV->AV->AV->AV->AV->Mem->Nat->O2}:x2gw call hs u x22b (j5 (xcn call hs u rec0) 1 4 5 10 11) (setE 4 (j2 (x22 call hs u) 5 10) eNil)=j5 (xhe call hs u rec0) 1 4 5 10 11:=by kernel_rfl
theorem x22k{rec0:AV->AV->AV->AV->AV->Mem->Nat->O2}:x2gw call hs u xne (j5 rec0 1 4 5 10 11) (setE 4 (j2 (x22 call hs u) 5 10) eNil)=j5 (xhe call hs u rec0) 1 4 5 10 11:=sq2 x22i x22j
theorem x22l{rec0:AV->AV->AV->AV->AV->Mem->Nat->O2}:x2gw call hs u x142 (j5 rec0 1 4 5 10 11) (setE 4 (j2 (x22 call hs u) 5 10) eNil)=j5 (xqp call hs u rec0) 1 4 5 10 11:=tr (sqN 1 x22k)
theorem x22m:x2gw call hs u x141 (j2 (x22 call hs u) 5 10) (setE 4 (j2 (x22 call hs u) 5 10) eNil)=j5 (x89 call hs u NN) 1 4 5 10 11:=lp (Ln:=fun n=>j5 (x89 call hs u n) 1 4 5 10 11) fun n=>tr x22l
theorem x22n:x2gw call hs u x140 (j2 (x22 call hs u) 5 10) eNil=j5 (x89 call hs u NN) 1 4 5 10 11:=bk x22m
theorem x22o:x2gw call hs u x13z (j2 (x22 call hs u) 5 10) eNil=j4 (xhf call hs u) 1 4 5 10:=tr (sqN 1 x22n)
theorem x22p:x2gw call hs u xnd r_8 eNil=j4 (xhf call hs u) 1 4 5 10:=sq2 x22h x22o
theorem x22q:x2gw call hs u x13y r_8 eNil=j3 (xe call hs u) 1 4 5:=tr (sqN 1 x22p)
theorem x22r{rec1:AV->AV->AV->AV->AV->AV->Mem->Nat->O2}:x2gw call hs u x22d (j6 rec1 1 4 5 6 18 19) (setE 0 (j3 (xe call hs u) 1 4 5) eNil)=j6 (xp call hs u rec1) 1 4 5 6 18 19:=by kernel_rfl
theorem x22s{rec1:AV->AV->AV->AV->AV->AV->Mem->Nat->O2}:x2gw call hs u x22e (j6 (xp call hs u rec1) 1 4 5 6 18 19) (setE 1 (j6 (xp call hs u rec1) 1 4 5 6 18 19) (setE 0 (j3 (xe call hs u) 1 4 5) eNil))=j7 (x23 call hs u rec1) 1 4 5 6 7 18 19:=by kernel_rfl
theorem x22t{rec1:AV->AV->AV->AV->AV->AV->Mem->Nat->O2}{rec2:AV->AV->AV->AV->AV->AV->AV->AV->Mem->Nat->O2}:x2gw call hs u x22g (j8 rec2 1 4 5 6 7 8 18 19) (setE 2 (j7 (x23 call hs u rec1) 1 4 5 6 7 18 19) (setE 1 (j6 (xp call hs u rec1) 1 4 5 6 18 19) (setE 0 (j3 (xe call hs u) 1 4 5) eNil)))=j8 (xco call hs u rec1 rec2) 1 4 5 6 7 8 18 19:=by kernel_rfl
theorem x22u{rec1:AV->AV->AV->AV->AV->AV->Mem->Nat->O2}{rec2:AV->AV->AV->AV->AV->AV->AV->AV->Mem->Nat->O2}:x2gw call hs u x22f (j8 (xco call hs u rec1 rec2) 1 4 5 6 7 8 18 19) (setE 2 (j7 (x23 call hs u rec1) 1 4 5 6 7 18 19) (setE 1 (j6 (xp call hs u rec1) 1 4 5 6 18 19) (setE 0 (j3 (xe call hs u) 1 4 5) eNil)))=j8 (xhg call hs u rec1 rec2) 1 4 5 6 7 8 18 19:=by kernel_rfl
theorem x22v{rec1:AV->AV->AV->AV->AV->AV->Mem->Nat->O2}{rec2:AV->AV->AV->AV->AV->AV->AV->AV->Mem->Nat->O2}:x2gw call hs u xnh (j8 rec2 1 4 5 6 7 8 18 19) (setE 2 (j7 (x23 call hs u rec1) 1 4 5 6 7 18 19) (setE 1 (j6 (xp call hs u rec1) 1 4 5 6 18 19) (setE 0 (j3 (xe call hs u) 1 4 5) eNil)))=j8 (xhg call hs u rec1 rec2) 1 4 5 6 7 8 18 19:=sq2 x22t x22u
theorem x22w{rec1:AV->AV->AV->AV->AV->AV->Mem->Nat->O2}{rec2:AV->AV->AV->AV->AV->AV->AV->AV->Mem->Nat->O2}:x2gw call hs u x14b (j8 rec2 1 4 5 6 7 8 18 19) (setE 2 (j7 (x23 call hs u rec1) 1 4 5 6 7 18 19) (setE 1 (j6 (xp call hs u rec1) 1 4 5 6 18 19) (setE 0 (j3 (xe call hs u) 1 4 5) eNil)))=j8 (xqq call hs u rec1 rec2) 1 4 5 6 7 8 18 19:=tr (sqN 1 x22v)
theorem x22x{rec1:AV->AV->AV->AV->AV->AV->Mem->Nat->O2}:x2gw call hs u x14a (j7 (x23 call hs u rec1) 1 4 5 6 7 18 19) (setE 2 (j7 (x23 call hs u rec1) 1 4 5 6 7 18 19) (setE 1 (j6 (xp call hs u rec1) 1 4 5 6 18 19) (setE 0 (j3 (xe call hs u) 1 4 5) eNil)))=j8 (x8a call hs u rec1 NN) 1 4 5 6 7 8 18 19:=lp (Ln:=fun n=>j8 (x8a call hs u rec1 n) 1 4 5 6 7 8 18 19) fun n=>tr x22w
theorem x22y{rec1:AV->AV->AV->AV->AV->AV->Mem->Nat->O2}:x2gw call hs u x149 (j7 (x23 call hs u rec1) 1 4 5 6 7 18 19) (setE 1 (j6 (xp call hs u rec1) 1 4 5 6 18 19) (setE 0 (j3 (xe call hs u) 1 4 5) eNil))=j8 (x8a call hs u rec1 NN) 1 4 5 6 7 8 18 19:=bk x22x
theorem x22z{rec1:AV->AV->AV->AV->AV->AV->Mem->Nat->O2}:x2gw call hs u x148 (j7 (x23 call hs u rec1) 1 4 5 6 7 18 19) (setE 1 (j6 (xp call hs u rec1) 1 4 5 6 18 19) (setE 0 (j3 (xe call hs u) 1 4 5) eNil))=j7 (xhh call hs u rec1) 1 4 5 6 7 18 19:=tr (sqN 1 x22y)
theorem x230{rec1:AV->AV->AV->AV->AV->AV->Mem->Nat->O2}:x2gw call hs u xng (j6 (xp call hs u rec1) 1 4 5 6 18 19) (setE 1 (j6 (xp call hs u rec1) 1 4 5 6 18 19) (setE 0 (j3 (xe call hs u) 1 4 5) eNil))=j7 (xhh call hs u rec1) 1 4 5 6 7 18 19:=sq2 x22s x22z
theorem x231{rec1:AV->AV->AV->AV->AV->AV->Mem->Nat->O2}:x2gw call hs u x147 (j6 (xp call hs u rec1) 1 4 5 6 18 19) (setE 1 (j6 (xp call hs u rec1) 1 4 5 6 18 19) (setE 0 (j3 (xe call hs u) 1 4 5) eNil))=j6 (xcp call hs u rec1) 1 4 5 6 18 19:=tr (sqN 1 x230)
theorem x232{rec1:AV->AV->AV->AV->AV->AV->Mem->Nat->O2}:x2gw call hs u x146 (j6 (xp call hs u rec1) 1 4 5 6 18 19) (setE 0 (j3 (xe call hs u) 1 4 5) eNil)=j6 (xcp call hs u rec1) 1 4 5 6 18 19:=bk x231
theorem x233{rec1:AV->AV->AV->AV->AV->AV->Mem->Nat->O2}:x2gw call hs u xnf (j6 rec1 1 4 5 6 18 19) (setE 0 (j3 (xe call hs u) 1 4 5) eNil)=j6 (xcp call hs u rec1) 1 4 5 6 18 19:=sq2 x22r x232
theorem x234{rec1:AV->AV->AV->AV->AV->AV->Mem->Nat->O2}:x2gw call hs u x145 (j6 rec1 1 4 5 6 18 19) (setE 0 (j3 (xe call hs u) 1 4 5) eNil)=j6 (xqr call hs u rec1) 1 4 5 6 18 19:=tr (sqN 2 x233)
theorem x235:x2gw call hs u x144 (j3 (xe call hs u) 1 4 5) (setE 0 (j3 (xe call hs u) 1 4 5) eNil)=j6 (x8b call hs u NN) 1 4 5 6 18 19:=lp (Ln:=fun n=>j6 (x8b call hs u n) 1 4 5 6 18 19) fun n=>tr x234
theorem x236:x2gw call hs u x143 (j3 (xe call hs u) 1 4 5) eNil=j6 (x8b call hs u NN) 1 4 5 6 18 19:=bk x235
theorem x237:x2gw call hs u x13x (j3 (xe call hs u) 1 4 5) eNil=j4 (xhi call hs u) 1 4 5 6:=tr (sqN 1 x236)
theorem x238:x2gw call hs u xnc r_8 eNil=j4 (xhi call hs u) 1 4 5 6:=sq2 x22q x237
theorem x1fd:x2gw call hs u x13w r_8 eNil=j1 (xqs call hs u) 0:=tr (sqN 4 x238)
noncomputable abbrev x2vw:=VX x4d 40 r_0
noncomputable def x239:=x2g6 x4d
theorem x1fe:x2vw call hs u x239 r_0 eNil=j2 (xqt call hs u) 0 1:=by kernel_rfl
noncomputable abbrev x2vx:=VX x73 36 r_2
noncomputable def x23a:=x2g6 x73
theorem x1ff:x2vx call hs u x23a r_2 eNil=j1 (xqu call hs u) 0:=by kernel_rfl
noncomputable abbrev x2li:=VX xat 30 r_0
noncomputable def x14c:=x2g6 xat
noncomputable def xni:=nRs 2 x14c
noncomputable def x14d:=nL xni
noncomputable def x23b:=nR xni
noncomputable def x14e:=nR x14d
noncomputable def x14f:=nR x14e
noncomputable def x23c:=nR x14f
theorem x23d:x2li call hs u x23b r_0 eNil=j1 (x51 call hs u) 5:=by kernel_rfl
theorem x23e{rec0:AV->AV->AV->AV->Mem->Nat->O2}:x2li call hs u x23c (j4 rec0 0 1 5 6) (setE 0 (j1 (x51 call hs u) 5) eNil)=j4 (xqv call hs u rec0) 0 1 5 6:=by kernel_rfl
theorem x23f:x2li call hs u x14f (j1 (x51 call hs u) 5) (setE 0 (j1 (x51 call hs u) 5) eNil)=j4 (x8c call hs u NN) 0 1 5 6:=lp (Ln:=fun n=>j4 (x8c call hs u n) 0 1 5 6) fun n=>tr x23e
theorem x23g:x2li call hs u x14e (j1 (x51 call hs u) 5) eNil=j4 (x8c call hs u NN) 0 1 5 6:=bk x23f
theorem x23h:x2li call hs u x14d (j1 (x51 call hs u) 5) eNil=j3 (xhj call hs u) 0 1 5:=tr (sqN 1 x23g)
theorem x23i:x2li call hs u xni r_0 eNil=j3 (xhj call hs u) 0 1 5:=sq2 x23d x23h
theorem x1fg:x2li call hs u x14c r_0 eNil=j2 (xqw call hs u) 0 1:=tr (sqN 2 x23i)
noncomputable abbrev x2vy:=VX x74 12 r_12
noncomputable def x23j:=x2g6 x74
theorem x1fh:x2vy call hs u x23j r_12 eNil=j0 (xqx call hs u):=by kernel_rfl
noncomputable abbrev x2vz:=VX x5p 10 r_13
noncomputable def x23k:=x2g6 x5p
theorem x1fi:x2vz call hs u x23k r_13 eNil=j2 (xqy call hs u) 0 1:=by kernel_rfl
noncomputable abbrev x2w0:=VX x37 7 r_2
noncomputable def x23l:=x2g6 x37
theorem x1fj:x2w0 call hs u x23l r_2 eNil=j1 (xqz call hs u) 0:=by kernel_rfl
noncomputable abbrev x2w1:=VX xx 15 r_1
noncomputable def x23m:=x2g6 xx
theorem x1fk:x2w1 call hs u x23m r_1 eNil=j3 (xhk call hs u) 0 1 2:=by kernel_rfl
noncomputable abbrev x2lj:=VX x75 42 r_0
noncomputable def x14g:=x2g6 x75
noncomputable def xnj:=nRs 3 x14g
noncomputable def x14h:=nL xnj
noncomputable def x23n:=nR xnj
noncomputable def x14i:=nR x14h
noncomputable def x14j:=nR x14i
noncomputable def x23o:=nR x14j
theorem x23p:x2lj call hs u x23n r_0 eNil=j1 (x52 call hs u) 6:=by kernel_rfl
theorem x23q{rec0:AV->AV->AV->AV->AV->AV->Mem->Nat->O2}:x2lj call hs u x23o (j6 rec0 1 5 6 14 15 16) (setE 0 (j1 (x52 call hs u) 6) eNil)=j6 (xr0 call hs u rec0) 1 5 6 14 15 16:=by kernel_rfl
theorem x23r:x2lj call hs u x14j (j1 (x52 call hs u) 6) (setE 0 (j1 (x52 call hs u) 6) eNil)=j6 (x8d call hs u NN) 1 5 6 14 15 16:=lp (Ln:=fun n=>j6 (x8d call hs u n) 1 5 6 14 15 16) fun n=>tr x23q
theorem x23s:x2lj call hs u x14i (j1 (x52 call hs u) 6) eNil=j6 (x8d call hs u NN) 1 5 6 14 15 16:=bk x23r
theorem x23t:x2lj call hs u x14h (j1 (x52 call hs u) 6) eNil=j4 (xhl call hs u) 1 2 5 6:=tr (sqN 1 x23s)
theorem x23u:x2lj call hs u xnj r_0 eNil=j4 (xhl call hs u) 1 2 5 6:=sq2 x23p x23t
theorem x1fl:x2lj call hs u x14g r_0 eNil=j2 (xr1 call hs u) 0 1:=tr (sqN 3 x23u)
noncomputable abbrev x2jr:=VX x76 38 r_0
noncomputable def x14k:=x2g6 x76
noncomputable def xnk:=nRs 5 x14k
noncomputable def x14l:=nL xnk
noncomputable def x23v:=nR xnk
noncomputable def x14m:=nR x14l
noncomputable def x14n:=nR x14m
noncomputable def x14o:=nR x14n
noncomputable def xnl:=nRs 2 x14o
noncomputable def x23w:=nL xnl
noncomputable def x23x:=nR xnl
theorem x23y:x2jr call hs u x23v r_0 eNil=j1 (x24 call hs u) 5:=by kernel_rfl
theorem x23z{rec0:AV->AV->AV->AV->AV->Mem->Nat->O2}:x2jr call hs u x23x (j5 rec0 5 6 8 24 25) (setE 0 (j1 (x24 call hs u) 5) eNil)=j5 (xcr call hs u rec0) 5 6 8 24 25:=by kernel_rfl
theorem x240{rec0:AV->AV->AV->AV->AV->Mem->Nat->O2}:x2jr call hs u x23w (j5 (xcr call hs u rec0) 5 6 8 24 25) (setE 0 (j1 (x24 call hs u) 5) eNil)=j5 (xhm call hs u rec0) 5 6 8 24 25:=by kernel_rfl
theorem x241{rec0:AV->AV->AV->AV->AV->Mem->Nat->O2}:x2jr call hs u xnl (j5 rec0 5 6 8 24 25) (setE 0 (j1 (x24 call hs u) 5) eNil)=j5 (xhm call hs u rec0) 5 6 8 24 25:=sq2 x23z x240
theorem x242{rec0:AV->AV->AV->AV->AV->Mem->Nat->O2}:x2jr call hs u x14o (j5 rec0 5 6 8 24 25) (setE 0 (j1 (x24 call hs u) 5) eNil)=j5 (xr2 call hs u rec0) 5 6 8 24 25:=tr (sqN 2 x241)
theorem x243:x2jr call hs u x14n (j1 (x24 call hs u) 5) (setE 0 (j1 (x24 call hs u) 5) eNil)=j5 (x8e call hs u NN) 5 6 8 24 25:=lp (Ln:=fun n=>j5 (x8e call hs u n) 5 6 8 24 25) fun n=>tr x242
theorem x244:x2jr call hs u x14m (j1 (x24 call hs u) 5) eNil=j5 (x8e call hs u NN) 5 6 8 24 25:=bk x243
theorem x245:x2jr call hs u x14l (j1 (x24 call hs u) 5) eNil=j3 (xhn call hs u) 5 6 8:=tr (sqN 1 x244)
theorem x246:x2jr call hs u xnk r_0 eNil=j3 (xhn call hs u) 5 6 8:=sq2 x23y x245
theorem x1fm:x2jr call hs u x14k r_0 eNil=j2 (xr3 call hs u) 0 1:=tr (sqN 5 x246)
noncomputable abbrev x2js:=VX x2q 30 r_0
noncomputable def x14p:=x2g6 x2q
noncomputable def xnm:=nRs 2 x14p
noncomputable def x14q:=nL xnm
noncomputable def x247:=nR xnm
noncomputable def x14r:=nR x14q
noncomputable def x14s:=nR x14r
noncomputable def x14t:=nR x14s
noncomputable def xnn:=nRs 2 x14t
noncomputable def x248:=nL xnn
noncomputable def x249:=nR xnn
theorem x24a:x2js call hs u x247 r_0 eNil=j1 (x1m call hs u) 5:=by kernel_rfl
theorem x24b{rec0:AV->AV->AV->AV->AV->Mem->Nat->O2}:x2js call hs u x249 (j5 rec0 1 5 15 16 17) (setE 0 (j1 (x1m call hs u) 5) eNil)=j5 (x68 call hs u rec0) 1 5 15 16 17:=by kernel_rfl
theorem x24c{rec0:AV->AV->AV->AV->AV->Mem->Nat->O2}:x2js call hs u x248 (j5 (x68 call hs u rec0) 1 5 15 16 17) (setE 0 (j1 (x1m call hs u) 5) eNil)=j5 (xcs call hs u rec0) 1 5 15 16 17:=by kernel_rfl
theorem x24d{rec0:AV->AV->AV->AV->AV->Mem->Nat->O2}:x2js call hs u xnn (j5 rec0 1 5 15 16 17) (setE 0 (j1 (x1m call hs u) 5) eNil)=j5 (xcs call hs u rec0) 1 5 15 16 17:=sq2 x24b x24c
theorem x24e{rec0:AV->AV->AV->AV->AV->Mem->Nat->O2}:x2js call hs u x14t (j5 rec0 1 5 15 16 17) (setE 0 (j1 (x1m call hs u) 5) eNil)=j5 (xct call hs u rec0) 1 5 15 16 17:=tr (sqN 2 x24d)
theorem x24f:x2js call hs u x14s (j1 (x1m call hs u) 5) (setE 0 (j1 (x1m call hs u) 5) eNil)=j5 (x3l call hs u NN) 1 5 15 16 17:=lp (Ln:=fun n=>j5 (x3l call hs u n) 1 5 15 16 17) fun n=>tr x24e
theorem x24g:x2js call hs u x14r (j1 (x1m call hs u) 5) eNil=j5 (x3l call hs u NN) 1 5 15 16 17:=bk x24f
theorem x24h:x2js call hs u x14q (j1 (x1m call hs u) 5) eNil=j3 (xcu call hs u) 1 2 5:=tr (sqN 1 x24g)
theorem x24i:x2js call hs u xnm r_0 eNil=j3 (xcu call hs u) 1 2 5:=sq2 x24a x24h
theorem x1fn:x2js call hs u x14p r_0 eNil=j2 (xho call hs u) 0 1:=tr (sqN 2 x24i)
noncomputable abbrev x2lk:=VX xau 52 r_2
noncomputable def x14u:=x2g6 xau
noncomputable def xno:=nRs 4 x14u
noncomputable def x14v:=nL xno
noncomputable def x24j:=nR xno
noncomputable def x14w:=nR x14v
noncomputable def x14x:=nR x14w
noncomputable def x24k:=nR x14x
theorem x24l:x2lk call hs u x24j r_2 eNil=j1 (x54 call hs u) 6:=by kernel_rfl
theorem x24m{rec0:AV->AV->AV->AV->Mem->Nat->O2}:x2lk call hs u x24k (j4 rec0 1 5 6 7) (setE 0 (j1 (x54 call hs u) 6) eNil)=j4 (xr4 call hs u rec0) 1 5 6 7:=by kernel_rfl
theorem x24n:x2lk call hs u x14x (j1 (x54 call hs u) 6) (setE 0 (j1 (x54 call hs u) 6) eNil)=j4 (x8f call hs u NN) 1 5 6 7:=lp (Ln:=fun n=>j4 (x8f call hs u n) 1 5 6 7) fun n=>tr x24m
theorem x24o:x2lk call hs u x14w (j1 (x54 call hs u) 6) eNil=j4 (x8f call hs u NN) 1 5 6 7:=bk x24n
theorem x24p:x2lk call hs u x14v (j1 (x54 call hs u) 6) eNil=j3 (xhp call hs u) 1 5 6:=tr (sqN 1 x24o)
theorem x24q:x2lk call hs u xno r_2 eNil=j3 (xhp call hs u) 1 5 6:=sq2 x24l x24p
theorem x1fo:x2lk call hs u x14u r_2 eNil=j1 (xr5 call hs u) 0:=tr (sqN 4 x24q)
noncomputable abbrev x2ll:=VX x77 36 r_0
noncomputable def x14y:=x2g6 x77
noncomputable def xnp:=nRs 3 x14y
noncomputable def x14z:=nL xnp
noncomputable def x24r:=nR xnp
noncomputable def x150:=nR x14z
noncomputable def x151:=nR x150
noncomputable def x24s:=nR x151
theorem x24t:x2ll call hs u x24r r_0 eNil=j1 (x55 call hs u) 6:=by kernel_rfl
theorem x24u{rec0:AV->AV->AV->AV->AV->Mem->Nat->O2}:x2ll call hs u x24s (j5 rec0 1 2 5 6 7) (setE 0 (j1 (x55 call hs u) 6) eNil)=j5 (xr6 call hs u rec0) 1 2 5 6 7:=by kernel_rfl
theorem x24v:x2ll call hs u x151 (j1 (x55 call hs u) 6) (setE 0 (j1 (x55 call hs u) 6) eNil)=j5 (x8g call hs u NN) 1 2 5 6 7:=lp (Ln:=fun n=>j5 (x8g call hs u n) 1 2 5 6 7) fun n=>tr x24u
theorem x24w:x2ll call hs u x150 (j1 (x55 call hs u) 6) eNil=j5 (x8g call hs u NN) 1 2 5 6 7:=bk x24v
theorem x24x:x2ll call hs u x14z (j1 (x55 call hs u) 6) eNil=j4 (xhq call hs u) 1 2 5 6:=tr (sqN 1 x24w)
theorem x24y:x2ll call hs u xnp r_0 eNil=j4 (xhq call hs u) 1 2 5 6:=sq2 x24t x24x
theorem x1fp:x2ll call hs u x14y r_0 eNil=j2 (xr7 call hs u) 0 1:=tr (sqN 3 x24y)
noncomputable abbrev x2lm:=VX x38 42 r_8
noncomputable def x152:=x2g6 x38
noncomputable def xnq:=nRs 2 x152
noncomputable def x153:=nL xnq
noncomputable def x24z:=nR xnq
noncomputable def x154:=nR x153
noncomputable def x155:=nR x154
noncomputable def x250:=nR x155
theorem x251:x2lm call hs u x24z r_8 eNil=j0 (x3m call hs u):=by kernel_rfl
theorem x252{rec0:AV->AV->AV->AV->Mem->Nat->O2}:x2lm call hs u x250 (j4 rec0 0 9 10 11) (setE 0 (j0 (x3m call hs u)) eNil)=j4 (xcv call hs u rec0) 0 9 10 11:=by kernel_rfl
theorem x253:x2lm call hs u x155 (j0 (x3m call hs u)) (setE 0 (j0 (x3m call hs u)) eNil)=j4 (x2y call hs u NN) 0 9 10 11:=lp (Ln:=fun n=>j4 (x2y call hs u n) 0 9 10 11) fun n=>tr x252
theorem x254:x2lm call hs u x154 (j0 (x3m call hs u)) eNil=j4 (x2y call hs u NN) 0 9 10 11:=bk x253
theorem x255:x2lm call hs u x153 (j0 (x3m call hs u)) eNil=j1 (xcw call hs u) 0:=tr (sqN 1 x254)
theorem x256:x2lm call hs u xnq r_8 eNil=j1 (xcw call hs u) 0:=sq2 x251 x255
theorem x1fq:x2lm call hs u x152 r_8 eNil=j1 (xhr call hs u) 0:=tr (sqN 2 x256)
noncomputable abbrev x2w2:=VX x1r 10 r_0
noncomputable def x257:=x2g6 x1r
theorem x1fr:x2w2 call hs u x257 r_0 eNil=j2 (xhs call hs u) 0 1:=by kernel_rfl
noncomputable abbrev x2ln:=VX x5q 55 r_2
noncomputable def x156:=x2g6 x5q
noncomputable def xnr:=nRs 2 x156
noncomputable def x157:=nL xnr
noncomputable def x258:=nR xnr
noncomputable def x158:=nR x157
noncomputable def x159:=nR x158
noncomputable def x259:=nR x159
theorem x25a:x2ln call hs u x258 r_2 eNil=j0 (x3n call hs u):=by kernel_rfl
theorem x25b{rec0:AV->AV->Mem->Nat->O2}:x2ln call hs u x259 (j2 rec0 0 3) (setE 0 (j0 (x3n call hs u)) eNil)=j2 (xcx call hs u rec0) 0 3:=by kernel_rfl
theorem x25c:x2ln call hs u x159 (j0 (x3n call hs u)) (setE 0 (j0 (x3n call hs u)) eNil)=j2 (x2z call hs u NN) 0 3:=lp (Ln:=fun n=>j2 (x2z call hs u n) 0 3) fun n=>tr x25b
theorem x25d:x2ln call hs u x158 (j0 (x3n call hs u)) eNil=j2 (x2z call hs u NN) 0 3:=bk x25c
theorem x25e:x2ln call hs u x157 (j0 (x3n call hs u)) eNil=j1 (xcy call hs u) 0:=tr (sqN 1 x25d)
theorem x25f:x2ln call hs u xnr r_2 eNil=j1 (xcy call hs u) 0:=sq2 x25a x25e
theorem x1fs:x2ln call hs u x156 r_2 eNil=j1 (xht call hs u) 0:=tr (sqN 2 x25f)
noncomputable abbrev x2w3:=VX x1h 11 r_2
noncomputable def x25g:=x2g6 x1h
theorem x1ft:x2w3 call hs u x25g r_2 eNil=j1 (xhu call hs u) 0:=by kernel_rfl
noncomputable abbrev x2lo:=VX x2r 15 r_2
noncomputable def x15a:=x2g6 x2r
noncomputable def xns:=nRs 2 x15a
noncomputable def x15b:=nL xns
noncomputable def x25h:=nR xns
noncomputable def x15c:=nR x15b
noncomputable def x15d:=nR x15c
noncomputable def x25i:=nR x15d
theorem x25j:x2lo call hs u x25h r_2 eNil=j1 (x3o call hs u) 3:=by kernel_rfl
theorem x25k{rec0:AV->AV->AV->Mem->Nat->O2}:x2lo call hs u x25i (j3 rec0 3 5 6) (setE 0 (j1 (x3o call hs u) 3) eNil)=j3 (xcz call hs u rec0) 3 5 6:=by kernel_rfl
theorem x25l:x2lo call hs u x15d (j1 (x3o call hs u) 3) (setE 0 (j1 (x3o call hs u) 3) eNil)=j3 (x3p call hs u NN) 3 5 6:=lp (Ln:=fun n=>j3 (x3p call hs u n) 3 5 6) fun n=>tr x25k
theorem x25m:x2lo call hs u x15c (j1 (x3o call hs u) 3) eNil=j3 (x3p call hs u NN) 3 5 6:=bk x25l
theorem x25n:x2lo call hs u x15b (j1 (x3o call hs u) 3) eNil=j2 (xd0 call hs u) 0 3:=tr (sqN 1 x25m)
theorem x25o:x2lo call hs u xns r_2 eNil=j2 (xd0 call hs u) 0 3:=sq2 x25j x25n
theorem x1fu:x2lo call hs u x15a r_2 eNil=j1 (xhv call hs u) 0:=tr (sqN 2 x25o)
noncomputable abbrev x2jt:=VX x2s 44 r_0
noncomputable def x15e:=x2g6 x2s
noncomputable def xnt:=nRs 2 x15e
noncomputable def x15f:=nL xnt
noncomputable def x25p:=nR xnt
noncomputable def x15g:=nR x15f
noncomputable def x15h:=nR x15g
noncomputable def x15i:=nR x15h
noncomputable def xnu:=nRs 2 x15i
noncomputable def x25q:=nL xnu
noncomputable def x25r:=nR xnu
theorem x25s:x2jt call hs u x25p r_0 eNil=j2 (x1n call hs u) 5 6:=by kernel_rfl
theorem x25t{rec0:AV->AV->AV->AV->AV->AV->Mem->Nat->O2}:x2jt call hs u x25r (j6 rec0 0 5 6 19 20 21) (setE 0 (j2 (x1n call hs u) 5 6) eNil)=j6 (x8h call hs u rec0) 0 5 6 19 20 21:=by kernel_rfl
theorem x25u{rec0:AV->AV->AV->AV->AV->AV->Mem->Nat->O2}:x2jt call hs u x25q (j6 (x8h call hs u rec0) 0 5 6 19 20 21) (setE 0 (j2 (x1n call hs u) 5 6) eNil)=j6 (xd1 call hs u rec0) 0 5 6 19 20 21:=by kernel_rfl
theorem x25v{rec0:AV->AV->AV->AV->AV->AV->Mem->Nat->O2}:x2jt call hs u xnu (j6 rec0 0 5 6 19 20 21) (setE 0 (j2 (x1n call hs u) 5 6) eNil)=j6 (xd1 call hs u rec0) 0 5 6 19 20 21:=sq2 x25t x25u
theorem x25w{rec0:AV->AV->AV->AV->AV->AV->Mem->Nat->O2}:x2jt call hs u x15i (j6 rec0 0 5 6 19 20 21) (setE 0 (j2 (x1n call hs u) 5 6) eNil)=j6 (xd2 call hs u rec0) 0 5 6 19 20 21:=tr (sqN 2 x25v)
theorem x25x:x2jt call hs u x15h (j2 (x1n call hs u) 5 6) (setE 0 (j2 (x1n call hs u) 5 6) eNil)=j6 (x3q call hs u NN) 0 5 6 19 20 21:=lp (Ln:=fun n=>j6 (x3q call hs u n) 0 5 6 19 20 21) fun n=>tr x25w
theorem x25y:x2jt call hs u x15g (j2 (x1n call hs u) 5 6) eNil=j6 (x3q call hs u NN) 0 5 6 19 20 21:=bk x25x
theorem x25z:x2jt call hs u x15f (j2 (x1n call hs u) 5 6) eNil=j3 (xd3 call hs u) 0 5 6:=tr (sqN 1 x25y)
theorem x260:x2jt call hs u xnt r_0 eNil=j3 (xd3 call hs u) 0 5 6:=sq2 x25s x25z
theorem x1fv:x2jt call hs u x15e r_0 eNil=j2 (xhw call hs u) 0 1:=tr (sqN 2 x260)
noncomputable abbrev x2w4:=VX x4e 9 r_0
noncomputable def x261:=x2g6 x4e
theorem x1fw:x2w4 call hs u x261 r_0 eNil=j2 (xhx call hs u) 0 1:=by kernel_rfl
noncomputable abbrev x2w5:=VX x39 15 r_14
noncomputable def x262:=x2g6 x39
theorem x1fx:x2w5 call hs u x262 r_14 eNil=j2 (xhy call hs u) 0 1:=by kernel_rfl
noncomputable abbrev x2lp:=VX x4f 21 r_0
noncomputable def x15j:=x2g6 x4f
noncomputable def xnv:=nRs 2 x15j
noncomputable def x15k:=nL xnv
noncomputable def x263:=nR xnv
noncomputable def x15l:=nR x15k
noncomputable def x15m:=nR x15l
noncomputable def x264:=nR x15m
theorem x265:x2lp call hs u x263 r_0 eNil=j1 (x3r call hs u) 5:=by kernel_rfl
theorem x266{rec0:AV->AV->AV->AV->AV->Mem->Nat->O2}:x2lp call hs u x264 (j5 rec0 2 5 8 9 10) (setE 0 (j1 (x3r call hs u) 5) eNil)=j5 (xd5 call hs u rec0) 2 5 8 9 10:=by kernel_rfl
theorem x267:x2lp call hs u x15m (j1 (x3r call hs u) 5) (setE 0 (j1 (x3r call hs u) 5) eNil)=j5 (x3s call hs u NN) 2 5 8 9 10:=lp (Ln:=fun n=>j5 (x3s call hs u n) 2 5 8 9 10) fun n=>tr x266
theorem x268:x2lp call hs u x15l (j1 (x3r call hs u) 5) eNil=j5 (x3s call hs u NN) 2 5 8 9 10:=bk x267
theorem x269:x2lp call hs u x15k (j1 (x3r call hs u) 5) eNil=j3 (xd6 call hs u) 1 2 5:=tr (sqN 1 x268)
theorem x26a:x2lp call hs u xnv r_0 eNil=j3 (xd6 call hs u) 1 2 5:=sq2 x265 x269
theorem x1fy:x2lp call hs u x15j r_0 eNil=j2 (xhz call hs u) 0 1:=tr (sqN 2 x26a)
noncomputable abbrev x2id:=VX x5r 73 r_8
noncomputable def x15n:=x2g6 x5r
noncomputable def xnw:=nRs 3 x15n
noncomputable def x15o:=nL xnw
noncomputable def x26b:=nR xnw
noncomputable def x15p:=nR x15o
noncomputable def x15q:=nR x15p
noncomputable def x15r:=nR x15q
noncomputable def xnx:=nR x15r
noncomputable def x15s:=nL xnx
noncomputable def x26c:=nR xnx
noncomputable def x15t:=nR x15s
noncomputable def x15u:=nRs 4 x15t
noncomputable def x15v:=nR x15u
noncomputable def x26d:=nR x15v
theorem x26e:x2id call hs u x26b r_8 eNil=j0 (xy call hs u):=by kernel_rfl
theorem x26f{rec0:AV->AV->Mem->Nat->O2}:x2id call hs u x26c (j2 rec0 1 6) (setE 0 (j0 (xy call hs u)) eNil)=j2 (x1b call hs u rec0) 1 6:=by kernel_rfl
theorem x26g{rec0:AV->AV->Mem->Nat->O2}{rec1:AV->AV->AV->AV->Mem->Nat->O2}:x2id call hs u x26d (j4 rec1 1 6 7 8) (setE 2 (j2 (x1b call hs u rec0) 1 6) (setE 1 (j2 (x1b call hs u rec0) 1 6) (setE 0 (j0 (xy call hs u)) eNil)))=j4 (xd7 call hs u rec0 rec1) 1 6 7 8:=by kernel_rfl
theorem x26h{rec0:AV->AV->Mem->Nat->O2}:x2id call hs u x15v (j2 (x1b call hs u rec0) 1 6) (setE 2 (j2 (x1b call hs u rec0) 1 6) (setE 1 (j2 (x1b call hs u rec0) 1 6) (setE 0 (j0 (xy call hs u)) eNil)))=j4 (x30 call hs u rec0 NN) 1 6 7 8:=lp (Ln:=fun n=>j4 (x30 call hs u rec0 n) 1 6 7 8) fun n=>tr x26g
theorem x26i{rec0:AV->AV->Mem->Nat->O2}:x2id call hs u x15u (j2 (x1b call hs u rec0) 1 6) (setE 1 (j2 (x1b call hs u rec0) 1 6) (setE 0 (j0 (xy call hs u)) eNil))=j4 (x30 call hs u rec0 NN) 1 6 7 8:=bk x26h
theorem x26j{rec0:AV->AV->Mem->Nat->O2}:x2id call hs u x15t (j2 (x1b call hs u rec0) 1 6) (setE 1 (j2 (x1b call hs u rec0) 1 6) (setE 0 (j0 (xy call hs u)) eNil))=j2 (x8i call hs u rec0) 1 6:=tr (sqN 4 x26i)
theorem x26k{rec0:AV->AV->Mem->Nat->O2}:x2id call hs u x15s (j2 (x1b call hs u rec0) 1 6) (setE 0 (j0 (xy call hs u)) eNil)=j2 (x8i call hs u rec0) 1 6:=bk x26j
theorem x26l{rec0:AV->AV->Mem->Nat->O2}:x2id call hs u xnx (j2 rec0 1 6) (setE 0 (j0 (xy call hs u)) eNil)=j2 (x8i call hs u rec0) 1 6:=sq2 x26f x26k
theorem x26m{rec0:AV->AV->Mem->Nat->O2}:x2id call hs u x15r (j2 rec0 1 6) (setE 0 (j0 (xy call hs u)) eNil)=j2 (xd8 call hs u rec0) 1 6:=tr (sqN 1 x26l)
theorem x26n:x2id call hs u x15q (j0 (xy call hs u)) (setE 0 (j0 (xy call hs u)) eNil)=j2 (x25 call hs u NN) 1 6:=lp (Ln:=fun n=>j2 (x25 call hs u n) 1 6) fun n=>tr x26m
theorem x26o:x2id call hs u x15p (j0 (xy call hs u)) eNil=j2 (x25 call hs u NN) 1 6:=bk x26n
theorem x26p:x2id call hs u x15o (j0 (xy call hs u)) eNil=j1 (xd9 call hs u) 1:=tr (sqN 1 x26o)
theorem x26q:x2id call hs u xnw r_8 eNil=j1 (xd9 call hs u) 1:=sq2 x26e x26p
theorem x1fz:x2id call hs u x15n r_8 eNil=j1 (xi0 call hs u) 0:=tr (sqN 3 x26q)
noncomputable abbrev x2ha:=VX x2t 68 r_0
noncomputable def x15w:=x2g6 x2t
noncomputable def xny:=nRs 2 x15w
noncomputable def x15x:=nL xny
noncomputable def xnz:=nR xny
noncomputable def x15y:=nL xnz
noncomputable def x26r:=nR xnz
noncomputable def x15z:=nR x15y
noncomputable def x160:=nR x15z
noncomputable def x161:=nR x160
noncomputable def xo0:=nR x161
noncomputable def x162:=nL xo0
noncomputable def x26s:=nR xo0
noncomputable def x163:=nR x162
noncomputable def x164:=nRs 3 x163
noncomputable def x165:=nR x164
noncomputable def x166:=nR x165
noncomputable def xo1:=nR x166
noncomputable def x26t:=nL xo1
noncomputable def x26u:=nR xo1
noncomputable def x167:=nR x15x
noncomputable def x168:=nR x167
noncomputable def x26v:=nR x168
theorem x26w:x2ha call hs u x26r r_0 eNil=j1 (xq call hs u) 5:=by kernel_rfl
theorem x26x{rec0:AV->AV->AV->AV->Mem->Nat->O2}:x2ha call hs u x26s (j4 rec0 1 2 5 7) (setE 2 (j1 (xq call hs u) 5) eNil)=j4 (xk call hs u rec0) 1 2 5 7:=by kernel_rfl
theorem x26y{rec0:AV->AV->AV->AV->Mem->Nat->O2}{rec1:AV->AV->AV->AV->AV->AV->AV->Mem->Nat->O2}:x2ha call hs u x26u (j7 rec1 1 2 5 7 9 10 11) (setE 4 (j4 (xk call hs u rec0) 1 2 5 7) (setE 3 (j4 (xk call hs u rec0) 1 2 5 7) (setE 2 (j1 (xq call hs u) 5) eNil)))=j7 (xda call hs u rec0 rec1) 1 2 5 7 9 10 11:=by kernel_rfl
theorem x26z{rec0:AV->AV->AV->AV->Mem->Nat->O2}{rec1:AV->AV->AV->AV->AV->AV->AV->Mem->Nat->O2}:x2ha call hs u x26t (j7 (xda call hs u rec0 rec1) 1 2 5 7 9 10 11) (setE 4 (j4 (xk call hs u rec0) 1 2 5 7) (setE 3 (j4 (xk call hs u rec0) 1 2 5 7) (setE 2 (j1 (xq call hs u) 5) eNil)))=j7 (xi1 call hs u rec0 rec1) 1 2 5 7 9 10 11:=by kernel_rfl
theorem x270{rec0:AV->AV->AV->AV->Mem->Nat->O2}{rec1:AV->AV->AV->AV->AV->AV->AV->Mem->Nat->O2}:x2ha call hs u xo1 (j7 rec1 1 2 5 7 9 10 11) (setE 4 (j4 (xk call hs u rec0) 1 2 5 7) (setE 3 (j4 (xk call hs u rec0) 1 2 5 7) (setE 2 (j1 (xq call hs u) 5) eNil)))=j7 (xi1 call hs u rec0 rec1) 1 2 5 7 9 10 11:=sq2 x26y x26z
theorem x271{rec0:AV->AV->AV->AV->Mem->Nat->O2}{rec1:AV->AV->AV->AV->AV->AV->AV->Mem->Nat->O2}:x2ha call hs u x166 (j7 rec1 1 2 5 7 9 10 11) (setE 4 (j4 (xk call hs u rec0) 1 2 5 7) (setE 3 (j4 (xk call hs u rec0) 1 2 5 7) (setE 2 (j1 (xq call hs u) 5) eNil)))=j7 (xr8 call hs u rec0 rec1) 1 2 5 7 9 10 11:=tr (sqN 1 x270)
theorem x272{rec0:AV->AV->AV->AV->Mem->Nat->O2}:x2ha call hs u x165 (j4 (xk call hs u rec0) 1 2 5 7) (setE 4 (j4 (xk call hs u rec0) 1 2 5 7) (setE 3 (j4 (xk call hs u rec0) 1 2 5 7) (setE 2 (j1 (xq call hs u) 5) eNil)))=j7 (x8j call hs u rec0 NN) 1 2 5 7 9 10 11:=lp (Ln:=fun n=>j7 (x8j call hs u rec0 n) 1 2 5 7 9 10 11) fun n=>tr x271
theorem x273{rec0:AV->AV->AV->AV->Mem->Nat->O2}:x2ha call hs u x164 (j4 (xk call hs u rec0) 1 2 5 7) (setE 3 (j4 (xk call hs u rec0) 1 2 5 7) (setE 2 (j1 (xq call hs u) 5) eNil))=j7 (x8j call hs u rec0 NN) 1 2 5 7 9 10 11:=bk x272
theorem x274{rec0:AV->AV->AV->AV->Mem->Nat->O2}:x2ha call hs u x163 (j4 (xk call hs u rec0) 1 2 5 7) (setE 3 (j4 (xk call hs u rec0) 1 2 5 7) (setE 2 (j1 (xq call hs u) 5) eNil))=j4 (xdb call hs u rec0) 1 2 5 7:=tr (sqN 3 x273)
theorem x275{rec0:AV->AV->AV->AV->Mem->Nat->O2}:x2ha call hs u x162 (j4 (xk call hs u rec0) 1 2 5 7) (setE 2 (j1 (xq call hs u) 5) eNil)=j4 (xdb call hs u rec0) 1 2 5 7:=bk x274
theorem x276{rec0:AV->AV->AV->AV->Mem->Nat->O2}:x2ha call hs u xo0 (j4 rec0 1 2 5 7) (setE 2 (j1 (xq call hs u) 5) eNil)=j4 (xdb call hs u rec0) 1 2 5 7:=sq2 x26x x275
theorem x277{rec0:AV->AV->AV->AV->Mem->Nat->O2}:x2ha call hs u x161 (j4 rec0 1 2 5 7) (setE 2 (j1 (xq call hs u) 5) eNil)=j4 (xr9 call hs u rec0) 1 2 5 7:=tr (sqN 1 x276)
theorem x278:x2ha call hs u x160 (j1 (xq call hs u) 5) (setE 2 (j1 (xq call hs u) 5) eNil)=j4 (x8k call hs u NN) 1 2 5 7:=lp (Ln:=fun n=>j4 (x8k call hs u n) 1 2 5 7) fun n=>tr x277
theorem x279:x2ha call hs u x15z (j1 (xq call hs u) 5) eNil=j4 (x8k call hs u NN) 1 2 5 7:=bk x278
theorem x27a:x2ha call hs u x15y (j1 (xq call hs u) 5) eNil=j3 (x3t call hs u) 1 2 5:=tr (sqN 1 x279)
theorem x27b:x2ha call hs u xnz r_0 eNil=j3 (x3t call hs u) 1 2 5:=sq2 x26w x27a
theorem x27c{rec2:AV->AV->AV->AV->Mem->Nat->O2}:x2ha call hs u x26v (j4 rec2 1 2 5 6) (setE 0 (j3 (x3t call hs u) 1 2 5) eNil)=j4 (xra call hs u rec2) 1 2 5 6:=by kernel_rfl
theorem x27d:x2ha call hs u x168 (j3 (x3t call hs u) 1 2 5) (setE 0 (j3 (x3t call hs u) 1 2 5) eNil)=j4 (x8l call hs u NN) 1 2 5 6:=lp (Ln:=fun n=>j4 (x8l call hs u n) 1 2 5 6) fun n=>tr x27c
theorem x27e:x2ha call hs u x167 (j3 (x3t call hs u) 1 2 5) eNil=j4 (x8l call hs u NN) 1 2 5 6:=bk x27d
theorem x27f:x2ha call hs u x15x (j3 (x3t call hs u) 1 2 5) eNil=j3 (xi2 call hs u) 1 2 5:=tr (sqN 1 x27e)
theorem x27g:x2ha call hs u xny r_0 eNil=j3 (xi2 call hs u) 1 2 5:=sq2 x27b x27f
theorem x1g0:x2ha call hs u x15w r_0 eNil=j2 (xrb call hs u) 0 1:=tr (sqN 2 x27g)
noncomputable abbrev x2w6:=VX x4g 9 r_0
noncomputable def x27h:=x2g6 x4g
theorem x1g1:x2w6 call hs u x27h r_0 eNil=j2 (xrc call hs u) 0 1:=by kernel_rfl
noncomputable abbrev x2w7:=VX x78 15 r_15
noncomputable def x27i:=x2g6 x78
theorem x1g2:x2w7 call hs u x27i r_15 eNil=j1 (xrd call hs u) 0:=by kernel_rfl
noncomputable abbrev x2w8:=VX xav 16 r_8
noncomputable def x27j:=x2g6 xav
theorem x1g3:x2w8 call hs u x27j r_8 eNil=j1 (xre call hs u) 0:=by kernel_rfl
noncomputable abbrev x2oj:=VX xfh 14 r_0
noncomputable def x169:=x2g6 xfh
noncomputable def xo2:=nRs 2 x169
noncomputable def x27k:=nL xo2
noncomputable def x27l:=nR xo2
theorem x27m:x2oj call hs u x27l r_0 eNil=j1 (xdc call hs u) 0:=by kernel_rfl
theorem x27n:x2oj call hs u x27k (j1 (xdc call hs u) 0) eNil=j2 (xi3 call hs u) 0 1:=by kernel_rfl
theorem x27o:x2oj call hs u xo2 r_0 eNil=j2 (xi3 call hs u) 0 1:=sq2 x27m x27n
theorem x1g4:x2oj call hs u x169 r_0 eNil=j2 (xrf call hs u) 0 1:=tr (sqN 2 x27o)
noncomputable abbrev x2w9:=VX xaw 33 r_10
noncomputable def x27p:=x2g6 xaw
theorem x1g5:x2w9 call hs u x27p r_10 eNil=j1 (xrg call hs u) 0:=by kernel_rfl
noncomputable abbrev x2wa:=VX xfi 8 r_2
noncomputable def x27q:=x2g6 xfi
theorem x1g6:x2wa call hs u x27q r_2 eNil=j1 (xrh call hs u) 0:=by kernel_rfl
noncomputable abbrev x2wb:=VX x4h 7 r_2
noncomputable def x27r:=x2g6 x4h
theorem x1g7:x2wb call hs u x27r r_2 eNil=j1 (xi4 call hs u) 0:=by kernel_rfl
noncomputable abbrev x2ie:=VX x4i 35 r_2
noncomputable def x16a:=x2g6 x4i
noncomputable def xo3:=nRs 3 x16a
noncomputable def x16b:=nL xo3
noncomputable def x27s:=nR xo3
noncomputable def x16c:=nR x16b
noncomputable def x16d:=nR x16c
noncomputable def x16e:=nR x16d
noncomputable def xo4:=nRs 2 x16e
noncomputable def x16f:=nL xo4
noncomputable def x27t:=nR xo4
noncomputable def x16g:=nR x16f
noncomputable def xo5:=nRs 2 x16g
noncomputable def x27u:=nL xo5
noncomputable def x27v:=nR xo5
theorem x27w:x2ie call hs u x27s r_2 eNil=j1 (xz call hs u) 4:=by kernel_rfl
theorem x27x{rec0:AV->AV->AV->AV->AV->Mem->Nat->O2}:x2ie call hs u x27t (j5 rec0 3 4 10 11 12) (setE 0 (j1 (xz call hs u) 4) eNil)=j5 (x1d call hs u rec0) 3 4 10 11 12:=by kernel_rfl
theorem x27y{rec0:AV->AV->AV->AV->AV->Mem->Nat->O2}:x2ie call hs u x27v (j5 (x1d call hs u rec0) 3 4 10 11 12) (setE 1 (j5 (x1d call hs u rec0) 3 4 10 11 12) (setE 0 (j1 (xz call hs u) 4) eNil))=j6 (x69 call hs u rec0) 3 4 7 10 11 12:=by kernel_rfl
theorem x27z{rec0:AV->AV->AV->AV->AV->Mem->Nat->O2}:x2ie call hs u x27u (j6 (x69 call hs u rec0) 3 4 7 10 11 12) (setE 1 (j5 (x1d call hs u rec0) 3 4 10 11 12) (setE 0 (j1 (xz call hs u) 4) eNil))=j8 (x8n call hs u rec0) 3 4 6 7 8 10 11 12:=by kernel_rfl
theorem x280{rec0:AV->AV->AV->AV->AV->Mem->Nat->O2}:x2ie call hs u xo5 (j5 (x1d call hs u rec0) 3 4 10 11 12) (setE 1 (j5 (x1d call hs u rec0) 3 4 10 11 12) (setE 0 (j1 (xz call hs u) 4) eNil))=j8 (x8n call hs u rec0) 3 4 6 7 8 10 11 12:=sq2 x27y x27z
theorem x281{rec0:AV->AV->AV->AV->AV->Mem->Nat->O2}:x2ie call hs u x16g (j5 (x1d call hs u rec0) 3 4 10 11 12) (setE 1 (j5 (x1d call hs u rec0) 3 4 10 11 12) (setE 0 (j1 (xz call hs u) 4) eNil))=j5 (x8o call hs u rec0) 3 4 10 11 12:=tr (sqN 2 x280)
theorem x282{rec0:AV->AV->AV->AV->AV->Mem->Nat->O2}:x2ie call hs u x16f (j5 (x1d call hs u rec0) 3 4 10 11 12) (setE 0 (j1 (xz call hs u) 4) eNil)=j5 (x8o call hs u rec0) 3 4 10 11 12:=bk x281
theorem x283{rec0:AV->AV->AV->AV->AV->Mem->Nat->O2}:x2ie call hs u xo4 (j5 rec0 3 4 10 11 12) (setE 0 (j1 (xz call hs u) 4) eNil)=j5 (x8o call hs u rec0) 3 4 10 11 12:=sq2 x27x x282
theorem x284{rec0:AV->AV->AV->AV->AV->Mem->Nat->O2}:x2ie call hs u x16e (j5 rec0 3 4 10 11 12) (setE 0 (j1 (xz call hs u) 4) eNil)=j5 (xdd call hs u rec0) 3 4 10 11 12:=tr (sqN 2 x283)
theorem x285:x2ie call hs u x16d (j1 (xz call hs u) 4) (setE 0 (j1 (xz call hs u) 4) eNil)=j5 (x3v call hs u NN) 3 4 10 11 12:=lp (Ln:=fun n=>j5 (x3v call hs u n) 3 4 10 11 12) fun n=>tr x284
theorem x286:x2ie call hs u x16c (j1 (xz call hs u) 4) eNil=j5 (x3v call hs u NN) 3 4 10 11 12:=bk x285
theorem x287:x2ie call hs u x16b (j1 (xz call hs u) 4) eNil=j3 (xde call hs u) 0 3 4:=tr (sqN 1 x286)
theorem x288:x2ie call hs u xo3 r_2 eNil=j3 (xde call hs u) 0 3 4:=sq2 x27w x287
theorem x1g8:x2ie call hs u x16a r_2 eNil=j1 (xi5 call hs u) 0:=tr (sqN 3 x288)
noncomputable abbrev x2ju:=VX xax 38 r_2
noncomputable def x16h:=x2g6 xax
noncomputable def xo6:=nRs 3 x16h
noncomputable def x16i:=nL xo6
noncomputable def x289:=nR xo6
noncomputable def x16j:=nR x16i
noncomputable def x16k:=nR x16j
noncomputable def x16l:=nR x16k
noncomputable def xo7:=nR x16l
noncomputable def x28a:=nL xo7
noncomputable def x28b:=nR xo7
theorem x28c:x2ju call hs u x289 r_2 eNil=j1 (x26 call hs u) 3:=by kernel_rfl
theorem x28d{rec0:AV->AV->AV->AV->Mem->Nat->O2}:x2ju call hs u x28b (j4 rec0 0 3 4 5) (setE 0 (j1 (x26 call hs u) 3) eNil)=j4 (xdf call hs u rec0) 0 3 4 5:=by kernel_rfl
theorem x28e{rec0:AV->AV->AV->AV->Mem->Nat->O2}:x2ju call hs u x28a (j4 (xdf call hs u rec0) 0 3 4 5) (setE 0 (j1 (x26 call hs u) 3) eNil)=j4 (xi6 call hs u rec0) 0 3 4 5:=by kernel_rfl
theorem x28f{rec0:AV->AV->AV->AV->Mem->Nat->O2}:x2ju call hs u xo7 (j4 rec0 0 3 4 5) (setE 0 (j1 (x26 call hs u) 3) eNil)=j4 (xi6 call hs u rec0) 0 3 4 5:=sq2 x28d x28e
theorem x28g{rec0:AV->AV->AV->AV->Mem->Nat->O2}:x2ju call hs u x16l (j4 rec0 0 3 4 5) (setE 0 (j1 (x26 call hs u) 3) eNil)=j4 (xri call hs u rec0) 0 3 4 5:=tr (sqN 1 x28f)
theorem x28h:x2ju call hs u x16k (j1 (x26 call hs u) 3) (setE 0 (j1 (x26 call hs u) 3) eNil)=j4 (x8p call hs u NN) 0 3 4 5:=lp (Ln:=fun n=>j4 (x8p call hs u n) 0 3 4 5) fun n=>tr x28g
theorem x28i:x2ju call hs u x16j (j1 (x26 call hs u) 3) eNil=j4 (x8p call hs u NN) 0 3 4 5:=bk x28h
theorem x28j:x2ju call hs u x16i (j1 (x26 call hs u) 3) eNil=j3 (xi7 call hs u) 0 3 4:=tr (sqN 1 x28i)
theorem x28k:x2ju call hs u xo6 r_2 eNil=j3 (xi7 call hs u) 0 3 4:=sq2 x28c x28j
theorem x1g9:x2ju call hs u x16h r_2 eNil=j1 (xrj call hs u) 0:=tr (sqN 3 x28k)
noncomputable abbrev x2jv:=VX x5s 22 r_0
noncomputable def x16m:=x2g6 x5s
noncomputable def xo8:=nRs 2 x16m
noncomputable def x16n:=nL xo8
noncomputable def x28l:=nR xo8
noncomputable def x16o:=nR x16n
noncomputable def x16p:=nR x16o
noncomputable def x16q:=nR x16p
noncomputable def xo9:=nR x16q
noncomputable def x28m:=nL xo9
noncomputable def x28n:=nR xo9
theorem x28o:x2jv call hs u x28l r_0 eNil=j1 (x27 call hs u) 5:=by kernel_rfl
theorem x28p{rec0:AV->AV->AV->AV->Mem->Nat->O2}:x2jv call hs u x28n (j4 rec0 1 2 5 6) (setE 0 (j1 (x27 call hs u) 5) eNil)=j4 (xdg call hs u rec0) 1 2 5 6:=by kernel_rfl
theorem x28q{rec0:AV->AV->AV->AV->Mem->Nat->O2}:x2jv call hs u x28m (j4 (xdg call hs u rec0) 1 2 5 6) (setE 0 (j1 (x27 call hs u) 5) eNil)=j4 (xi8 call hs u rec0) 1 2 5 6:=by kernel_rfl
theorem x28r{rec0:AV->AV->AV->AV->Mem->Nat->O2}:x2jv call hs u xo9 (j4 rec0 1 2 5 6) (setE 0 (j1 (x27 call hs u) 5) eNil)=j4 (xi8 call hs u rec0) 1 2 5 6:=sq2 x28p x28q
theorem x28s{rec0:AV->AV->AV->AV->Mem->Nat->O2}:x2jv call hs u x16q (j4 rec0 1 2 5 6) (setE 0 (j1 (x27 call hs u) 5) eNil)=j4 (xrk call hs u rec0) 1 2 5 6:=tr (sqN 1 x28r)
theorem x28t:x2jv call hs u x16p (j1 (x27 call hs u) 5) (setE 0 (j1 (x27 call hs u) 5) eNil)=j4 (x8q call hs u NN) 1 2 5 6:=lp (Ln:=fun n=>j4 (x8q call hs u n) 1 2 5 6) fun n=>tr x28s
theorem x28u:x2jv call hs u x16o (j1 (x27 call hs u) 5) eNil=j4 (x8q call hs u NN) 1 2 5 6:=bk x28t
theorem x28v:x2jv call hs u x16n (j1 (x27 call hs u) 5) eNil=j3 (xi9 call hs u) 1 2 5:=tr (sqN 1 x28u)
theorem x28w:x2jv call hs u xo8 r_0 eNil=j3 (xi9 call hs u) 1 2 5:=sq2 x28o x28v
theorem x1ga:x2jv call hs u x16m r_0 eNil=j2 (xrl call hs u) 0 1:=tr (sqN 2 x28w)
noncomputable abbrev x2wc:=VX x79 25 r_6
noncomputable def x28x:=x2g6 x79
theorem x1gb:x2wc call hs u x28x r_6 eNil=j2 (xrm call hs u) 0 1:=by kernel_rfl
noncomputable abbrev x2wd:=VX x5t 24 r_6
noncomputable def x28y:=x2g6 x5t
theorem x1gc:x2wd call hs u x28y r_6 eNil=j2 (xrn call hs u) 0 1:=by kernel_rfl
noncomputable abbrev x2hz:=VX x3a 51 r_2
noncomputable def x16r:=x2g6 x3a
noncomputable def xoa:=nRs 2 x16r
noncomputable def x16s:=nL xoa
noncomputable def x16t:=nR xoa
noncomputable def xob:=nRs 2 x16t
noncomputable def x16u:=nL xob
noncomputable def x28z:=nR xob
noncomputable def x16v:=nR x16u
noncomputable def x16w:=nR x16v
noncomputable def x16x:=nR x16w
noncomputable def xoc:=nRs 2 x16x
noncomputable def x290:=nL xoc
noncomputable def x291:=nR xoc
noncomputable def x16y:=nR x16s
noncomputable def x16z:=nR x16y
noncomputable def x292:=nR x16z
theorem x293:x2hz call hs u x28z r_2 eNil=j1 (x1o call hs u) 4:=by kernel_rfl
theorem x294{rec0:AV->AV->AV->AV->AV->AV->Mem->Nat->O2}:x2hz call hs u x291 (j6 rec0 1 4 6 29 30 31) (setE 2 (j1 (x1o call hs u) 4) eNil)=j6 (x6a call hs u rec0) 1 4 6 29 30 31:=by kernel_rfl
theorem x295{rec0:AV->AV->AV->AV->AV->AV->Mem->Nat->O2}:x2hz call hs u x290 (j6 (x6a call hs u rec0) 1 4 6 29 30 31) (setE 2 (j1 (x1o call hs u) 4) eNil)=j6 (xdh call hs u rec0) 1 4 6 29 30 31:=by kernel_rfl
theorem x296{rec0:AV->AV->AV->AV->AV->AV->Mem->Nat->O2}:x2hz call hs u xoc (j6 rec0 1 4 6 29 30 31) (setE 2 (j1 (x1o call hs u) 4) eNil)=j6 (xdh call hs u rec0) 1 4 6 29 30 31:=sq2 x294 x295
theorem x297{rec0:AV->AV->AV->AV->AV->AV->Mem->Nat->O2}:x2hz call hs u x16x (j6 rec0 1 4 6 29 30 31) (setE 2 (j1 (x1o call hs u) 4) eNil)=j6 (xdi call hs u rec0) 1 4 6 29 30 31:=tr (sqN 2 x296)
theorem x298:x2hz call hs u x16w (j1 (x1o call hs u) 4) (setE 2 (j1 (x1o call hs u) 4) eNil)=j6 (x3w call hs u NN) 1 4 6 29 30 31:=lp (Ln:=fun n=>j6 (x3w call hs u n) 1 4 6 29 30 31) fun n=>tr x297
theorem x299:x2hz call hs u x16v (j1 (x1o call hs u) 4) eNil=j6 (x3w call hs u NN) 1 4 6 29 30 31:=bk x298
theorem x29a:x2hz call hs u x16u (j1 (x1o call hs u) 4) eNil=j4 (xdj call hs u) 1 3 4 6:=tr (sqN 1 x299)
theorem x29b:x2hz call hs u xob r_2 eNil=j4 (xdj call hs u) 1 3 4 6:=sq2 x293 x29a
theorem x29c:x2hz call hs u x16t r_2 eNil=j3 (x3x call hs u) 1 3 4:=tr (sqN 2 x29b)
theorem x29d{rec1:AV->AV->AV->AV->AV->Mem->Nat->O2}:x2hz call hs u x292 (j5 rec1 1 3 4 12 13) (setE 0 (j3 (x3x call hs u) 1 3 4) eNil)=j5 (xdk call hs u rec1) 1 3 4 12 13:=by kernel_rfl
theorem x29e:x2hz call hs u x16z (j3 (x3x call hs u) 1 3 4) (setE 0 (j3 (x3x call hs u) 1 3 4) eNil)=j5 (x3y call hs u NN) 1 3 4 12 13:=lp (Ln:=fun n=>j5 (x3y call hs u n) 1 3 4 12 13) fun n=>tr x29d
theorem x29f:x2hz call hs u x16y (j3 (x3x call hs u) 1 3 4) eNil=j5 (x3y call hs u NN) 1 3 4 12 13:=bk x29e
theorem x29g:x2hz call hs u x16s (j3 (x3x call hs u) 1 3 4) eNil=j3 (xdl call hs u) 1 3 4:=tr (sqN 1 x29f)
theorem x29h:x2hz call hs u xoa r_2 eNil=j3 (xdl call hs u) 1 3 4:=sq2 x29c x29g
theorem x1gd:x2hz call hs u x16r r_2 eNil=j1 (xia call hs u) 0:=tr (sqN 2 x29h)
noncomputable abbrev x2we:=VX xfm 21 r_6
noncomputable def x29i:=x2g6 xfm
theorem x1ge:x2we call hs u x29i r_6 eNil=j2 (xro call hs u) 0 1:=by kernel_rfl
noncomputable abbrev x2wf:=VX xay 6 r_2
noncomputable def x29j:=x2g6 xay
theorem x1gf:x2wf call hs u x29j r_2 eNil=j1 (xrp call hs u) 0:=by kernel_rfl
noncomputable abbrev x2wg:=VX xaz 6 r_2
noncomputable def x29k:=x2g6 xaz
theorem x1gg:x2wg call hs u x29k r_2 eNil=j1 (xrq call hs u) 0:=by kernel_rfl
noncomputable abbrev x2gu:=VX xb0 96 r_16
noncomputable def x170:=x2g6 xb0
noncomputable def xod:=nRs 4 x170
noncomputable def x171:=nL xod
noncomputable def x172:=nR xod
noncomputable def xoe:=nR x172
noncomputable def x173:=nL xoe
noncomputable def x29l:=nR xoe
noncomputable def x174:=nR x173
noncomputable def x175:=nR x174
noncomputable def x29m:=nR x175
noncomputable def x176:=nR x171
noncomputable def x177:=nR x176
noncomputable def x178:=nR x177
noncomputable def xof:=nRs 2 x178
noncomputable def x179:=nL xof
noncomputable def x29n:=nR xof
noncomputable def x17a:=nR x179
noncomputable def x17b:=nR x17a
noncomputable def x17c:=nR x17b
noncomputable def x17d:=nR x17c
noncomputable def xog:=nR x17d
noncomputable def x17e:=nL xog
noncomputable def x29o:=nR xog
noncomputable def x17f:=nR x17e
noncomputable def x17g:=nR x17f
noncomputable def x17h:=nR x17g
noncomputable def x17i:=nR x17h
noncomputable def xoh:=nR x17i
noncomputable def x29p:=nL xoh
noncomputable def x29q:=nR xoh
theorem x29r:x2gu call hs u x29l r_16 eNil=j1 (x56 call hs u) 16:=by kernel_rfl
theorem x29s{rec0:AV->AV->AV->AV->AV->Mem->Nat->O2}:x2gu call hs u x29m (j5 rec0 2 4 9 16 17) (setE 6 (j1 (x56 call hs u) 16) eNil)=j5 (xrr call hs u rec0) 2 4 9 16 17:=by kernel_rfl
theorem x29t:x2gu call hs u x175 (j1 (x56 call hs u) 16) (setE 6 (j1 (x56 call hs u) 16) eNil)=j5 (x8r call hs u NN) 2 4 9 16 17:=lp (Ln:=fun n=>j5 (x8r call hs u n) 2 4 9 16 17) fun n=>tr x29s
theorem x29u:x2gu call hs u x174 (j1 (x56 call hs u) 16) eNil=j5 (x8r call hs u NN) 2 4 9 16 17:=bk x29t
theorem x29v:x2gu call hs u x173 (j1 (x56 call hs u) 16) eNil=j5 (xib call hs u) 2 3 4 9 16:=tr (sqN 1 x29u)
theorem x29w:x2gu call hs u xoe r_16 eNil=j5 (xib call hs u) 2 3 4 9 16:=sq2 x29r x29v
theorem x29x:x2gu call hs u x172 r_16 eNil=j4 (xc call hs u) 2 3 4 9:=tr (sqN 1 x29w)
theorem x29y{rec1:AV->AV->AV->AV->AV->AV->AV->AV->Mem->Nat->O2}:x2gu call hs u x29n (j8 rec1 1 2 3 4 9 10 31 32) (setE 0 (j4 (xc call hs u) 2 3 4 9) eNil)=j8 (x6 call hs u rec1) 1 2 3 4 9 10 31 32:=by kernel_rfl
theorem x29z{rec1:AV->AV->AV->AV->AV->AV->AV->AV->Mem->Nat->O2}{rec2:AV->AV->AV->AV->AV->AV->AV->AV->AV->Mem->Nat->O2}:x2gu call hs u x29o (j9 rec2 1 2 3 4 9 10 11 31 32) (setE 2 (j8 (x6 call hs u rec1) 1 2 3 4 9 10 31 32) (setE 1 (j8 (x6 call hs u rec1) 1 2 3 4 9 10 31 32) (setE 0 (j4 (xc call hs u) 2 3 4 9) eNil)))=j9 (xl call hs u rec1 rec2) 1 2 3 4 9 10 11 31 32:=by kernel_rfl
theorem x2a0{rec1:AV->AV->AV->AV->AV->AV->AV->AV->Mem->Nat->O2}{rec2:AV->AV->AV->AV->AV->AV->AV->AV->AV->Mem->Nat->O2}{rec3:AV->AV->AV->AV->AV->AV->AV->AV->AV->AV->Mem->Nat->O2}:x2gu call hs u x29q (j10 rec3 1 2 3 4 9 10 11 12 31 32) (setE 4 (j9 (xl call hs u rec1 rec2) 1 2 3 4 9 10 11 31 32) (setE 3 (j9 (xl call hs u rec1 rec2) 1 2 3 4 9 10 11 31 32) (setE 2 (j8 (x6 call hs u rec1) 1 2 3 4 9 10 31 32) (setE 1 (j8 (x6 call hs u rec1) 1 2 3 4 9 10 31 32) (setE 0 (j4 (xc call hs u) 2 3 4 9) eNil)))))=j10 (xdm call hs u rec1 rec2 rec3) 1 2 3 4 9 10 11 12 31 32:=by kernel_rfl
theorem x2a1{rec1:AV->AV->AV->AV->AV->AV->AV->AV->Mem->Nat->O2}{rec2:AV->AV->AV->AV->AV->AV->AV->AV->AV->Mem->Nat->O2}{rec3:AV->AV->AV->AV->AV->AV->AV->AV->AV->AV->Mem->Nat->O2}:x2gu call hs u x29p (j10 (xdm call hs u rec1 rec2 rec3) 1 2 3 4 9 10 11 12 31 32) (setE 4 (j9 (xl call hs u rec1 rec2) 1 2 3 4 9 10 11 31 32) (setE 3 (j9 (xl call hs u rec1 rec2) 1 2 3 4 9 10 11 31 32) (setE 2 (j8 (x6 call hs u rec1) 1 2 3 4 9 10 31 32) (setE 1 (j8 (x6 call hs u rec1) 1 2 3 4 9 10 31 32) (setE 0 (j4 (xc call hs u) 2 3 4 9) eNil)))))=j10 (xic call hs u rec1 rec2 rec3) 1 2 3 4 9 10 11 12 31 32:=by kernel_rfl
theorem x2a2{rec1:AV->AV->AV->AV->AV->AV->AV->AV->Mem->Nat->O2}{rec2:AV->AV->AV->AV->AV->AV->AV->AV->AV->Mem->Nat->O2}{rec3:AV->AV->AV->AV->AV->AV->AV->AV->AV->AV->Mem->Nat->O2}:x2gu call hs u xoh (j10 rec3 1 2 3 4 9 10 11 12 31 32) (setE 4 (j9 (xl call hs u rec1 rec2) 1 2 3 4 9 10 11 31 32) (setE 3 (j9 (xl call hs u rec1 rec2) 1 2 3 4 9 10 11 31 32) (setE 2 (j8 (x6 call hs u rec1) 1 2 3 4 9 10 31 32) (setE 1 (j8 (x6 call hs u rec1) 1 2 3 4 9 10 31 32) (setE 0 (j4 (xc call hs u) 2 3 4 9) eNil)))))=j10 (xic call hs u rec1 rec2 rec3) 1 2 3 4 9 10 11 12 31 32:=sq2 x2a0 x2a1
theorem x2a3{rec1:AV->AV->AV->AV->AV->AV->AV->AV->Mem->Nat->O2}{rec2:AV->AV->AV->AV->AV->AV->AV->AV->AV->Mem->Nat->O2}{rec3:AV->AV->AV->AV->AV->AV->AV->AV->AV->AV->Mem->Nat->O2}:x2gu call hs u x17i (j10 rec3 1 2 3 4 9 10 11 12 31 32) (setE 4 (j9 (xl call hs u rec1 rec2) 1 2 3 4 9 10 11 31 32) (setE 3 (j9 (xl call hs u rec1 rec2) 1 2 3 4 9 10 11 31 32) (setE 2 (j8 (x6 call hs u rec1) 1 2 3 4 9 10 31 32) (setE 1 (j8 (x6 call hs u rec1) 1 2 3 4 9 10 31 32) (setE 0 (j4 (xc call hs u) 2 3 4 9) eNil)))))=j10 (xrs call hs u rec1 rec2 rec3) 1 2 3 4 9 10 11 12 31 32:=tr (sqN 1 x2a2)
theorem x2a4{rec1:AV->AV->AV->AV->AV->AV->AV->AV->Mem->Nat->O2}{rec2:AV->AV->AV->AV->AV->AV->AV->AV->AV->Mem->Nat->O2}:x2gu call hs u x17h (j9 (xl call hs u rec1 rec2) 1 2 3 4 9 10 11 31 32) (setE 4 (j9 (xl call hs u rec1 rec2) 1 2 3 4 9 10 11 31 32) (setE 3 (j9 (xl call hs u rec1 rec2) 1 2 3 4 9 10 11 31 32) (setE 2 (j8 (x6 call hs u rec1) 1 2 3 4 9 10 31 32) (setE 1 (j8 (x6 call hs u rec1) 1 2 3 4 9 10 31 32) (setE 0 (j4 (xc call hs u) 2 3 4 9) eNil)))))=j10 (x8s call hs u rec1 rec2 NN) 1 2 3 4 9 10 11 12 31 32:=lp (Ln:=fun n=>j10 (x8s call hs u rec1 rec2 n) 1 2 3 4 9 10 11 12 31 32) fun n=>tr x2a3
theorem x2a5{rec1:AV->AV->AV->AV->AV->AV->AV->AV->Mem->Nat->O2}{rec2:AV->AV->AV->AV->AV->AV->AV->AV->AV->Mem->Nat->O2}:x2gu call hs u x17g (j9 (xl call hs u rec1 rec2) 1 2 3 4 9 10 11 31 32) (setE 3 (j9 (xl call hs u rec1 rec2) 1 2 3 4 9 10 11 31 32) (setE 2 (j8 (x6 call hs u rec1) 1 2 3 4 9 10 31 32) (setE 1 (j8 (x6 call hs u rec1) 1 2 3 4 9 10 31 32) (setE 0 (j4 (xc call hs u) 2 3 4 9) eNil))))=j10 (x8s call hs u rec1 rec2 NN) 1 2 3 4 9 10 11 12 31 32:=bk x2a4
theorem x2a6{rec1:AV->AV->AV->AV->AV->AV->AV->AV->Mem->Nat->O2}{rec2:AV->AV->AV->AV->AV->AV->AV->AV->AV->Mem->Nat->O2}:x2gu call hs u x17f (j9 (xl call hs u rec1 rec2) 1 2 3 4 9 10 11 31 32) (setE 3 (j9 (xl call hs u rec1 rec2) 1 2 3 4 9 10 11 31 32) (setE 2 (j8 (x6 call hs u rec1) 1 2 3 4 9 10 31 32) (setE 1 (j8 (x6 call hs u rec1) 1 2 3 4 9 10 31 32) (setE 0 (j4 (xc call hs u) 2 3 4 9) eNil))))=j9 (xdn call hs u rec1 rec2) 1 2 3 4 9 10 11 31 32:=tr (sqN 1 x2a5)
theorem x2a7{rec1:AV->AV->AV->AV->AV->AV->AV->AV->Mem->Nat->O2}{rec2:AV->AV->AV->AV->AV->AV->AV->AV->AV->Mem->Nat->O2}:x2gu call hs u x17e (j9 (xl call hs u rec1 rec2) 1 2 3 4 9 10 11 31 32) (setE 2 (j8 (x6 call hs u rec1) 1 2 3 4 9 10 31 32) (setE 1 (j8 (x6 call hs u rec1) 1 2 3 4 9 10 31 32) (setE 0 (j4 (xc call hs u) 2 3 4 9) eNil)))=j9 (xdn call hs u rec1 rec2) 1 2 3 4 9 10 11 31 32:=bk x2a6
theorem x2a8{rec1:AV->AV->AV->AV->AV->AV->AV->AV->Mem->Nat->O2}{rec2:AV->AV->AV->AV->AV->AV->AV->AV->AV->Mem->Nat->O2}:x2gu call hs u xog (j9 rec2 1 2 3 4 9 10 11 31 32) (setE 2 (j8 (x6 call hs u rec1) 1 2 3 4 9 10 31 32) (setE 1 (j8 (x6 call hs u rec1) 1 2 3 4 9 10 31 32) (setE 0 (j4 (xc call hs u) 2 3 4 9) eNil)))=j9 (xdn call hs u rec1 rec2) 1 2 3 4 9 10 11 31 32:=sq2 x29z x2a7
theorem x2a9{rec1:AV->AV->AV->AV->AV->AV->AV->AV->Mem->Nat->O2}{rec2:AV->AV->AV->AV->AV->AV->AV->AV->AV->Mem->Nat->O2}:x2gu call hs u x17d (j9 rec2 1 2 3 4 9 10 11 31 32) (setE 2 (j8 (x6 call hs u rec1) 1 2 3 4 9 10 31 32) (setE 1 (j8 (x6 call hs u rec1) 1 2 3 4 9 10 31 32) (setE 0 (j4 (xc call hs u) 2 3 4 9) eNil)))=j9 (xrt call hs u rec1 rec2) 1 2 3 4 9 10 11 31 32:=tr (sqN 1 x2a8)
theorem x2aa{rec1:AV->AV->AV->AV->AV->AV->AV->AV->Mem->Nat->O2}:x2gu call hs u x17c (j8 (x6 call hs u rec1) 1 2 3 4 9 10 31 32) (setE 2 (j8 (x6 call hs u rec1) 1 2 3 4 9 10 31 32) (setE 1 (j8 (x6 call hs u rec1) 1 2 3 4 9 10 31 32) (setE 0 (j4 (xc call hs u) 2 3 4 9) eNil)))=j9 (x8t call hs u rec1 NN) 1 2 3 4 9 10 11 31 32:=lp (Ln:=fun n=>j9 (x8t call hs u rec1 n) 1 2 3 4 9 10 11 31 32) fun n=>tr x2a9
theorem x2ab{rec1:AV->AV->AV->AV->AV->AV->AV->AV->Mem->Nat->O2}:x2gu call hs u x17b (j8 (x6 call hs u rec1) 1 2 3 4 9 10 31 32) (setE 1 (j8 (x6 call hs u rec1) 1 2 3 4 9 10 31 32) (setE 0 (j4 (xc call hs u) 2 3 4 9) eNil))=j9 (x8t call hs u rec1 NN) 1 2 3 4 9 10 11 31 32:=bk x2aa
theorem x2ac{rec1:AV->AV->AV->AV->AV->AV->AV->AV->Mem->Nat->O2}:x2gu call hs u x17a (j8 (x6 call hs u rec1) 1 2 3 4 9 10 31 32) (setE 1 (j8 (x6 call hs u rec1) 1 2 3 4 9 10 31 32) (setE 0 (j4 (xc call hs u) 2 3 4 9) eNil))=j8 (xdo call hs u rec1) 1 2 3 4 9 10 31 32:=tr (sqN 1 x2ab)
theorem x2ad{rec1:AV->AV->AV->AV->AV->AV->AV->AV->Mem->Nat->O2}:x2gu call hs u x179 (j8 (x6 call hs u rec1) 1 2 3 4 9 10 31 32) (setE 0 (j4 (xc call hs u) 2 3 4 9) eNil)=j8 (xdo call hs u rec1) 1 2 3 4 9 10 31 32:=bk x2ac
theorem x2ae{rec1:AV->AV->AV->AV->AV->AV->AV->AV->Mem->Nat->O2}:x2gu call hs u xof (j8 rec1 1 2 3 4 9 10 31 32) (setE 0 (j4 (xc call hs u) 2 3 4 9) eNil)=j8 (xdo call hs u rec1) 1 2 3 4 9 10 31 32:=sq2 x29y x2ad
theorem x2af{rec1:AV->AV->AV->AV->AV->AV->AV->AV->Mem->Nat->O2}:x2gu call hs u x178 (j8 rec1 1 2 3 4 9 10 31 32) (setE 0 (j4 (xc call hs u) 2 3 4 9) eNil)=j8 (xru call hs u rec1) 1 2 3 4 9 10 31 32:=tr (sqN 2 x2ae)
theorem x2ag:x2gu call hs u x177 (j4 (xc call hs u) 2 3 4 9) (setE 0 (j4 (xc call hs u) 2 3 4 9) eNil)=j8 (x8u call hs u NN) 1 2 3 4 9 10 31 32:=lp (Ln:=fun n=>j8 (x8u call hs u n) 1 2 3 4 9 10 31 32) fun n=>tr x2af
theorem x2ah:x2gu call hs u x176 (j4 (xc call hs u) 2 3 4 9) eNil=j8 (x8u call hs u NN) 1 2 3 4 9 10 31 32:=bk x2ag
theorem x2ai:x2gu call hs u x171 (j4 (xc call hs u) 2 3 4 9) eNil=j6 (xid call hs u) 1 2 3 4 9 10:=tr (sqN 1 x2ah)
theorem x2aj:x2gu call hs u xod r_16 eNil=j6 (xid call hs u) 1 2 3 4 9 10:=sq2 x29x x2ai
theorem x1gh:x2gu call hs u x170 r_16 eNil=j4 (xrv call hs u) 0 1 2 3:=tr (sqN 4 x2aj)
noncomputable abbrev x2qa:=VX x4j 43 r_17
noncomputable abbrev x2t3:=VX (R:=Mem) x4j 43 fNil
noncomputable def x17j:=x2g6 x4j
noncomputable def x17k:=nRs 3 x17j
noncomputable def xeo:=nR x17k
noncomputable def x2ak:=nL xeo
noncomputable def x2al:=nR xeo
theorem x2am:x2t3 call hs u x2al (fun s=>some s.m) eNil=j7 (xie call hs u) 1 4 5 6 7 8 9:=by kernel_rfl
theorem x2an:x2t3 call hs u x2ak (j7 (xie call hs u) 1 4 5 6 7 8 9) eNil=j7 (xrw call hs u) 1 4 5 6 7 17 18:=by kernel_rfl
theorem x2ao:x2qa call hs u xeo r_17 (setE 0 r_17 eNil)=j6 (xif call hs u) 1 4 5 6 7 16:=tr (rg (C:=xeo) (c:={f:=x4j,u:=u,nt:=43,hs:=hs}) (f:=(.tmp 16)) (ps:=#[17,18]) (fun u=>x2am) (fun u=>x2an))
theorem x2ap:x2qa call hs u x17k r_17 eNil=j6 (xif call hs u) 1 4 5 6 7 16:=bk x2ao
theorem x1gi:x2qa call hs u x17j r_17 eNil=j7 (xrx call hs u) 0 1 2 3 4 5 6:=tr (sqN 3 x2ap)
noncomputable abbrev x2wh:=VX xb1 8 r_1
noncomputable def x2aq:=x2g6 xb1
theorem x1gj:x2wh call hs u x2aq r_1 eNil=j3 (xry call hs u) 0 1 2:=by kernel_rfl
noncomputable abbrev x2i7:=VX x5u 49 r_2
noncomputable def x17l:=x2g6 x5u
noncomputable def xoi:=nRs 2 x17l
noncomputable def x17m:=nL xoi
noncomputable def x2ar:=nR xoi
noncomputable def x17n:=nR x17m
noncomputable def x17o:=nR x17n
noncomputable def x17p:=nR x17o
noncomputable def xoj:=nRs 2 x17p
noncomputable def x17q:=nL xoj
noncomputable def x2as:=nR xoj
noncomputable def x17r:=nR x17q
noncomputable def x17s:=nR x17r
noncomputable def xok:=nR x17s
noncomputable def x2at:=nL xok
noncomputable def x2au:=nR xok
theorem x2av:x2i7 call hs u x2ar r_2 eNil=j0 (xv call hs u):=by kernel_rfl
theorem x2aw{rec0:AV->AV->AV->Mem->Nat->O2}:x2i7 call hs u x2as (j3 rec0 13 14 15) (setE 0 (j0 (xv call hs u)) eNil)=j3 (xr call hs u rec0) 13 14 15:=by kernel_rfl
theorem x2ax{rec0:AV->AV->AV->Mem->Nat->O2}:x2i7 call hs u x2au (j3 (xr call hs u rec0) 13 14 15) (setE 2 (j3 (xr call hs u rec0) 13 14 15) (setE 1 (j3 (xr call hs u rec0) 13 14 15) (setE 0 (j0 (xv call hs u)) eNil)))=j6 (x8v call hs u rec0) 3 4 13 14 15 20:=by kernel_rfl
theorem x2ay{rec0:AV->AV->AV->Mem->Nat->O2}:x2i7 call hs u x2at (j6 (x8v call hs u rec0) 3 4 13 14 15 20) (setE 2 (j3 (xr call hs u rec0) 13 14 15) (setE 1 (j3 (xr call hs u rec0) 13 14 15) (setE 0 (j0 (xv call hs u)) eNil)))=j5 (x8w call hs u rec0) 3 4 13 14 15:=by kernel_rfl
theorem x2az{rec0:AV->AV->AV->Mem->Nat->O2}:x2i7 call hs u xok (j3 (xr call hs u rec0) 13 14 15) (setE 2 (j3 (xr call hs u rec0) 13 14 15) (setE 1 (j3 (xr call hs u rec0) 13 14 15) (setE 0 (j0 (xv call hs u)) eNil)))=j5 (x8w call hs u rec0) 3 4 13 14 15:=sq2 x2ax x2ay
theorem x2b0{rec0:AV->AV->AV->Mem->Nat->O2}:x2i7 call hs u x17s (j3 (xr call hs u rec0) 13 14 15) (setE 1 (j3 (xr call hs u rec0) 13 14 15) (setE 0 (j0 (xv call hs u)) eNil))=j5 (x8w call hs u rec0) 3 4 13 14 15:=bk x2az
theorem x2b1{rec0:AV->AV->AV->Mem->Nat->O2}:x2i7 call hs u x17r (j3 (xr call hs u rec0) 13 14 15) (setE 1 (j3 (xr call hs u rec0) 13 14 15) (setE 0 (j0 (xv call hs u)) eNil))=j3 (x8x call hs u rec0) 13 14 15:=tr (sqN 1 x2b0)
theorem x2b2{rec0:AV->AV->AV->Mem->Nat->O2}:x2i7 call hs u x17q (j3 (xr call hs u rec0) 13 14 15) (setE 0 (j0 (xv call hs u)) eNil)=j3 (x8x call hs u rec0) 13 14 15:=bk x2b1
theorem x2b3{rec0:AV->AV->AV->Mem->Nat->O2}:x2i7 call hs u xoj (j3 rec0 13 14 15) (setE 0 (j0 (xv call hs u)) eNil)=j3 (x8x call hs u rec0) 13 14 15:=sq2 x2aw x2b2
theorem x2b4{rec0:AV->AV->AV->Mem->Nat->O2}:x2i7 call hs u x17p (j3 rec0 13 14 15) (setE 0 (j0 (xv call hs u)) eNil)=j3 (xdp call hs u rec0) 13 14 15:=tr (sqN 2 x2b3)
theorem x2b5:x2i7 call hs u x17o (j0 (xv call hs u)) (setE 0 (j0 (xv call hs u)) eNil)=j3 (x31 call hs u NN) 13 14 15:=lp (Ln:=fun n=>j3 (x31 call hs u n) 13 14 15) fun n=>tr x2b4
theorem x2b6:x2i7 call hs u x17n (j0 (xv call hs u)) eNil=j3 (x31 call hs u NN) 13 14 15:=bk x2b5
theorem x2b7:x2i7 call hs u x17m (j0 (xv call hs u)) eNil=j1 (xdq call hs u) 0:=tr (sqN 1 x2b6)
theorem x2b8:x2i7 call hs u xoi r_2 eNil=j1 (xdq call hs u) 0:=sq2 x2av x2b7
theorem x1gk:x2i7 call hs u x17l r_2 eNil=j1 (xig call hs u) 0:=tr (sqN 2 x2b8)
noncomputable abbrev x2wi:=VX x5v 9 r_0
noncomputable def x2b9:=x2g6 x5v
theorem x1gl:x2wi call hs u x2b9 r_0 eNil=j2 (xih call hs u) 0 1:=by kernel_rfl
noncomputable abbrev x2wj:=VX xt 9 r_14
noncomputable def x2ba:=x2g6 xt
theorem x1gm:x2wj call hs u x2ba r_14 eNil=j2 (xii call hs u) 0 1:=by kernel_rfl
noncomputable abbrev x2lq:=VX x5w 66 r_8
noncomputable def x17t:=x2g6 x5w
noncomputable def xol:=nRs 4 x17t
noncomputable def x17u:=nL xol
noncomputable def x2bb:=nR xol
noncomputable def x17v:=nR x17u
noncomputable def x17w:=nR x17v
noncomputable def x2bc:=nR x17w
theorem x2bd:x2lq call hs u x2bb r_8 eNil=j0 (x3z call hs u):=by kernel_rfl
theorem x2be{rec0:AV->AV->AV->AV->AV->Mem->Nat->O2}:x2lq call hs u x2bc (j5 rec0 1 6 26 27 28) (setE 0 (j0 (x3z call hs u)) eNil)=j5 (xdr call hs u rec0) 1 6 26 27 28:=by kernel_rfl
theorem x2bf:x2lq call hs u x17w (j0 (x3z call hs u)) (setE 0 (j0 (x3z call hs u)) eNil)=j5 (x32 call hs u NN) 1 6 26 27 28:=lp (Ln:=fun n=>j5 (x32 call hs u n) 1 6 26 27 28) fun n=>tr x2be
theorem x2bg:x2lq call hs u x17v (j0 (x3z call hs u)) eNil=j5 (x32 call hs u NN) 1 6 26 27 28:=bk x2bf
theorem x2bh:x2lq call hs u x17u (j0 (x3z call hs u)) eNil=j2 (xds call hs u) 1 6:=tr (sqN 1 x2bg)
theorem x2bi:x2lq call hs u xol r_8 eNil=j2 (xds call hs u) 1 6:=sq2 x2bd x2bh
theorem x1gn:x2lq call hs u x17t r_8 eNil=j1 (xik call hs u) 0:=tr (sqN 4 x2bi)
noncomputable abbrev x2lr:=VX x5x 19 r_0
noncomputable def x17x:=x2g6 x5x
noncomputable def xom:=nR x17x
noncomputable def x17y:=nL xom
noncomputable def x2bj:=nR xom
noncomputable def x17z:=nR x17y
noncomputable def x180:=nR x17z
noncomputable def x2bk:=nR x180
theorem x2bl:x2lr call hs u x2bj r_0 eNil=j0 (x40 call hs u):=by kernel_rfl
theorem x2bm{rec0:AV->AV->AV->AV->Mem->Nat->O2}:x2lr call hs u x2bk (j4 rec0 0 1 7 8) (setE 0 (j0 (x40 call hs u)) eNil)=j4 (xdt call hs u rec0) 0 1 7 8:=by kernel_rfl
theorem x2bn:x2lr call hs u x180 (j0 (x40 call hs u)) (setE 0 (j0 (x40 call hs u)) eNil)=j4 (x41 call hs u NN) 0 1 7 8:=lp (Ln:=fun n=>j4 (x41 call hs u n) 0 1 7 8) fun n=>tr x2bm
theorem x2bo:x2lr call hs u x17z (j0 (x40 call hs u)) eNil=j4 (x41 call hs u NN) 0 1 7 8:=bk x2bn
theorem x2bp:x2lr call hs u x17y (j0 (x40 call hs u)) eNil=j2 (xdu call hs u) 0 1:=tr (sqN 1 x2bo)
theorem x2bq:x2lr call hs u xom r_0 eNil=j2 (xdu call hs u) 0 1:=sq2 x2bl x2bp
theorem x1go:x2lr call hs u x17x r_0 eNil=j2 (xil call hs u) 0 1:=tr (sqN 1 x2bq)
noncomputable abbrev x2wk:=VX x3b 41 r_0
noncomputable def x2br:=x2g6 x3b
theorem x1gp:x2wk call hs u x2br r_0 eNil=j2 (xim call hs u) 0 1:=by kernel_rfl
noncomputable abbrev x2ls:=VX x6x 19 r_0
noncomputable def x181:=x2g6 x6x
noncomputable def xon:=nR x181
noncomputable def x182:=nL xon
noncomputable def x2bs:=nR xon
noncomputable def x183:=nR x182
noncomputable def x184:=nR x183
noncomputable def x2bt:=nR x184
theorem x2bu:x2ls call hs u x2bs r_0 eNil=j0 (x57 call hs u):=by kernel_rfl
theorem x2bv{rec0:AV->AV->AV->AV->Mem->Nat->O2}:x2ls call hs u x2bt (j4 rec0 0 1 7 8) (setE 0 (j0 (x57 call hs u)) eNil)=j4 (xrz call hs u rec0) 0 1 7 8:=by kernel_rfl
theorem x2bw:x2ls call hs u x184 (j0 (x57 call hs u)) (setE 0 (j0 (x57 call hs u)) eNil)=j4 (x8z call hs u NN) 0 1 7 8:=lp (Ln:=fun n=>j4 (x8z call hs u n) 0 1 7 8) fun n=>tr x2bv
theorem x2bx:x2ls call hs u x183 (j0 (x57 call hs u)) eNil=j4 (x8z call hs u NN) 0 1 7 8:=bk x2bw
theorem x2by:x2ls call hs u x182 (j0 (x57 call hs u)) eNil=j2 (xin call hs u) 0 1:=tr (sqN 1 x2bx)
theorem x2bz:x2ls call hs u xon r_0 eNil=j2 (xin call hs u) 0 1:=sq2 x2bu x2by
theorem x1ed:x2ls call hs u x181 r_0 eNil=j2 (xs0 call hs u) 0 1:=tr (sqN 1 x2bz)
noncomputable abbrev x2lt:=VX xb2 59 r_15
noncomputable def x185:=x2g6 xb2
noncomputable def xoo:=nRs 4 x185
noncomputable def x186:=nL xoo
noncomputable def x2c0:=nR xoo
noncomputable def x187:=nR x186
noncomputable def x188:=nR x187
noncomputable def x2c1:=nR x188
theorem x2c2:x2lt call hs u x2c0 r_15 eNil=j2 (x58 call hs u) 2 5:=by kernel_rfl
theorem x2c3{rec0:AV->AV->AV->AV->AV->AV->AV->Mem->Nat->O2}:x2lt call hs u x2c1 (j7 rec0 1 2 4 5 25 26 27) (setE 0 (j2 (x58 call hs u) 2 5) eNil)=j7 (xs1 call hs u rec0) 1 2 4 5 25 26 27:=by kernel_rfl
theorem x2c4:x2lt call hs u x188 (j2 (x58 call hs u) 2 5) (setE 0 (j2 (x58 call hs u) 2 5) eNil)=j7 (x90 call hs u NN) 1 2 4 5 25 26 27:=lp (Ln:=fun n=>j7 (x90 call hs u n) 1 2 4 5 25 26 27) fun n=>tr x2c3
theorem x2c5:x2lt call hs u x187 (j2 (x58 call hs u) 2 5) eNil=j7 (x90 call hs u NN) 1 2 4 5 25 26 27:=bk x2c4
theorem x2c6:x2lt call hs u x186 (j2 (x58 call hs u) 2 5) eNil=j4 (xio call hs u) 1 2 4 5:=tr (sqN 1 x2c5)
theorem x2c7:x2lt call hs u xoo r_15 eNil=j4 (xio call hs u) 1 2 4 5:=sq2 x2c2 x2c6
theorem x1gq:x2lt call hs u x185 r_15 eNil=j1 (xs2 call hs u) 0:=tr (sqN 4 x2c7)
noncomputable abbrev x2wl:=VX x5y 14 r_18
noncomputable def x2c8:=x2g6 x5y
theorem x1gr:x2wl call hs u x2c8 r_18 eNil=j1 (xs3 call hs u) 0:=by kernel_rfl
noncomputable abbrev x2lu:=VX xb3 26 r_2
noncomputable def x189:=x2g6 xb3
noncomputable def xop:=nRs 3 x189
noncomputable def x18a:=nL xop
noncomputable def x2c9:=nR xop
noncomputable def x18b:=nR x18a
noncomputable def x18c:=nR x18b
noncomputable def x2ca:=nR x18c
theorem x2cb:x2lu call hs u x2c9 r_2 eNil=j2 (x59 call hs u) 1 4:=by kernel_rfl
theorem x2cc{rec0:AV->AV->AV->AV->AV->Mem->Nat->O2}:x2lu call hs u x2ca (j5 rec0 1 3 4 10 11) (setE 0 (j2 (x59 call hs u) 1 4) eNil)=j5 (xs4 call hs u rec0) 1 3 4 10 11:=by kernel_rfl
theorem x2cd:x2lu call hs u x18c (j2 (x59 call hs u) 1 4) (setE 0 (j2 (x59 call hs u) 1 4) eNil)=j5 (x91 call hs u NN) 1 3 4 10 11:=lp (Ln:=fun n=>j5 (x91 call hs u n) 1 3 4 10 11) fun n=>tr x2cc
theorem x2ce:x2lu call hs u x18b (j2 (x59 call hs u) 1 4) eNil=j5 (x91 call hs u NN) 1 3 4 10 11:=bk x2cd
theorem x2cf:x2lu call hs u x18a (j2 (x59 call hs u) 1 4) eNil=j3 (xip call hs u) 1 3 4:=tr (sqN 1 x2ce)
theorem x2cg:x2lu call hs u xop r_2 eNil=j3 (xip call hs u) 1 3 4:=sq2 x2cb x2cf
theorem x1gs:x2lu call hs u x189 r_2 eNil=j1 (xs5 call hs u) 0:=tr (sqN 3 x2cg)
noncomputable abbrev x2hi:=VX x7a 64 r_2
noncomputable def x18d:=x2g6 x7a
noncomputable def xoq:=nRs 2 x18d
noncomputable def x18e:=nL xoq
noncomputable def x18f:=nR xoq
noncomputable def xos:=nRs 2 x18f
noncomputable def x18g:=nL xos
noncomputable def x2ch:=nR xos
noncomputable def x18h:=nR x18g
noncomputable def x18i:=nR x18h
noncomputable def x18j:=nR x18i
noncomputable def xot:=nRs 2 x18j
noncomputable def x18k:=nL xot
noncomputable def x2ci:=nR xot
noncomputable def x18l:=nR x18k
noncomputable def xou:=nR x18l
noncomputable def x2cj:=nL xou
noncomputable def x2ck:=nR xou
noncomputable def x18m:=nR x18e
noncomputable def x2cl:=nR x18m
theorem x2cm:x2hi call hs u x2ch r_2 eNil=j1 (x16 call hs u) 3:=by kernel_rfl
theorem x2cn{rec0:AV->AV->AV->AV->AV->Mem->Nat->O2}:x2hi call hs u x2ci (j5 rec0 3 6 26 27 28) (setE 2 (j1 (x16 call hs u) 3) eNil)=j5 (x28 call hs u rec0) 3 6 26 27 28:=by kernel_rfl
theorem x2co{rec0:AV->AV->AV->AV->AV->Mem->Nat->O2}:x2hi call hs u x2ck (j5 (x28 call hs u rec0) 3 6 26 27 28) (setE 3 (j5 (x28 call hs u rec0) 3 6 26 27 28) (setE 2 (j1 (x16 call hs u) 3) eNil))=j7 (xdv call hs u rec0) 3 6 7 8 26 27 28:=by kernel_rfl
theorem x2cp{rec0:AV->AV->AV->AV->AV->Mem->Nat->O2}:x2hi call hs u x2cj (j7 (xdv call hs u rec0) 3 6 7 8 26 27 28) (setE 3 (j5 (x28 call hs u rec0) 3 6 26 27 28) (setE 2 (j1 (x16 call hs u) 3) eNil))=j7 (xiq call hs u rec0) 3 6 7 8 26 27 28:=by kernel_rfl
theorem x2cq{rec0:AV->AV->AV->AV->AV->Mem->Nat->O2}:x2hi call hs u xou (j5 (x28 call hs u rec0) 3 6 26 27 28) (setE 3 (j5 (x28 call hs u rec0) 3 6 26 27 28) (setE 2 (j1 (x16 call hs u) 3) eNil))=j7 (xiq call hs u rec0) 3 6 7 8 26 27 28:=sq2 x2co x2cp
theorem x2cr{rec0:AV->AV->AV->AV->AV->Mem->Nat->O2}:x2hi call hs u x18l (j5 (x28 call hs u rec0) 3 6 26 27 28) (setE 3 (j5 (x28 call hs u rec0) 3 6 26 27 28) (setE 2 (j1 (x16 call hs u) 3) eNil))=j5 (xdw call hs u rec0) 3 6 26 27 28:=tr (sqN 1 x2cq)
theorem x2cs{rec0:AV->AV->AV->AV->AV->Mem->Nat->O2}:x2hi call hs u x18k (j5 (x28 call hs u rec0) 3 6 26 27 28) (setE 2 (j1 (x16 call hs u) 3) eNil)=j5 (xdw call hs u rec0) 3 6 26 27 28:=bk x2cr
theorem x2ct{rec0:AV->AV->AV->AV->AV->Mem->Nat->O2}:x2hi call hs u xot (j5 rec0 3 6 26 27 28) (setE 2 (j1 (x16 call hs u) 3) eNil)=j5 (xdw call hs u rec0) 3 6 26 27 28:=sq2 x2cn x2cs
theorem x2cu{rec0:AV->AV->AV->AV->AV->Mem->Nat->O2}:x2hi call hs u x18j (j5 rec0 3 6 26 27 28) (setE 2 (j1 (x16 call hs u) 3) eNil)=j5 (xs7 call hs u rec0) 3 6 26 27 28:=tr (sqN 2 x2ct)
theorem x2cv:x2hi call hs u x18i (j1 (x16 call hs u) 3) (setE 2 (j1 (x16 call hs u) 3) eNil)=j5 (x92 call hs u NN) 3 6 26 27 28:=lp (Ln:=fun n=>j5 (x92 call hs u n) 3 6 26 27 28) fun n=>tr x2cu
theorem x2cw:x2hi call hs u x18h (j1 (x16 call hs u) 3) eNil=j5 (x92 call hs u NN) 3 6 26 27 28:=bk x2cv
theorem x2cx:x2hi call hs u x18g (j1 (x16 call hs u) 3) eNil=j3 (xir call hs u) 3 5 6:=tr (sqN 1 x2cw)
theorem x2cy:x2hi call hs u xos r_2 eNil=j3 (xir call hs u) 3 5 6:=sq2 x2cm x2cx
theorem x2cz:x2hi call hs u x18f r_2 eNil=j2 (x6b call hs u) 1 3:=tr (sqN 2 x2cy)
theorem x2d0{rec1:AV->AV->Mem->Nat->O2}:x2hi call hs u x2cl (j2 rec1 1 3) (setE 0 (j2 (x6b call hs u) 1 3) eNil)=j2 (xs8 call hs u rec1) 1 3:=by kernel_rfl
theorem x2d1:x2hi call hs u x18m (j2 (x6b call hs u) 1 3) (setE 0 (j2 (x6b call hs u) 1 3) eNil)=j2 (x6c call hs u NN) 1 3:=lp (Ln:=fun n=>j2 (x6c call hs u n) 1 3) fun n=>tr x2d0
theorem x2d2:x2hi call hs u x18e (j2 (x6b call hs u) 1 3) eNil=j2 (x6c call hs u NN) 1 3:=bk x2d1
theorem x2d3:x2hi call hs u xoq r_2 eNil=j2 (x6c call hs u NN) 1 3:=sq2 x2cz x2d2
theorem x1gt:x2hi call hs u x18d r_2 eNil=j1 (xs9 call hs u) 0:=tr (sqN 2 x2d3)
noncomputable abbrev x2lv:=VX xb4 27 r_0
noncomputable def x18n:=x2g6 xb4
noncomputable def xov:=nRs 2 x18n
noncomputable def x18o:=nL xov
noncomputable def x2d4:=nR xov
noncomputable def x18p:=nR x18o
noncomputable def x18q:=nR x18p
noncomputable def x2d5:=nR x18q
theorem x2d6:x2lv call hs u x2d4 r_0 eNil=j1 (x5a call hs u) 5:=by kernel_rfl
theorem x2d7{rec0:AV->AV->AV->AV->AV->Mem->Nat->O2}:x2lv call hs u x2d5 (j5 rec0 1 5 10 11 12) (setE 0 (j1 (x5a call hs u) 5) eNil)=j5 (xsa call hs u rec0) 1 5 10 11 12:=by kernel_rfl
theorem x2d8:x2lv call hs u x18q (j1 (x5a call hs u) 5) (setE 0 (j1 (x5a call hs u) 5) eNil)=j5 (x93 call hs u NN) 1 5 10 11 12:=lp (Ln:=fun n=>j5 (x93 call hs u n) 1 5 10 11 12) fun n=>tr x2d7
theorem x2d9:x2lv call hs u x18p (j1 (x5a call hs u) 5) eNil=j5 (x93 call hs u NN) 1 5 10 11 12:=bk x2d8
theorem x2da:x2lv call hs u x18o (j1 (x5a call hs u) 5) eNil=j3 (xis call hs u) 1 2 5:=tr (sqN 1 x2d9)
theorem x2db:x2lv call hs u xov r_0 eNil=j3 (xis call hs u) 1 2 5:=sq2 x2d6 x2da
theorem x1gu:x2lv call hs u x18n r_0 eNil=j2 (xsb call hs u) 0 1:=tr (sqN 2 x2db)
noncomputable abbrev x2wm:=VX x5z 9 r_17
noncomputable def x2dc:=x2g6 x5z
theorem x1gv:x2wm call hs u x2dc r_17 eNil=j2 (xit call hs u) 0 1:=by kernel_rfl
noncomputable abbrev x2wn:=VX x4k 13 r_19
noncomputable def x2dd:=x2g6 x4k
theorem x1gw:x2wn call hs u x2dd r_19 eNil=j3 (xiu call hs u) 0 1 2:=by kernel_rfl
noncomputable abbrev x2wo:=VX x60 11 r_17
noncomputable def x2de:=x2g6 x60
theorem x1gx:x2wo call hs u x2de r_17 eNil=j1 (xiv call hs u) 0:=by kernel_rfl
noncomputable abbrev x2lw:=VX xb5 76 r_6
noncomputable def x18r:=x2g6 xb5
noncomputable def xow:=nRs 3 x18r
noncomputable def x18s:=nL xow
noncomputable def x2df:=nR xow
noncomputable def x18t:=nR x18s
noncomputable def x18u:=nR x18t
noncomputable def x2dg:=nR x18u
theorem x2dh:x2lw call hs u x2df r_6 eNil=j2 (x5b call hs u) 6 7:=by kernel_rfl
theorem x2di{rec0:AV->AV->AV->AV->AV->AV->Mem->Nat->O2}:x2lw call hs u x2dg (j6 rec0 1 6 7 23 24 25) (setE 0 (j2 (x5b call hs u) 6 7) eNil)=j6 (xsc call hs u rec0) 1 6 7 23 24 25:=by kernel_rfl
theorem x2dj:x2lw call hs u x18u (j2 (x5b call hs u) 6 7) (setE 0 (j2 (x5b call hs u) 6 7) eNil)=j6 (x94 call hs u NN) 1 6 7 23 24 25:=lp (Ln:=fun n=>j6 (x94 call hs u n) 1 6 7 23 24 25) fun n=>tr x2di
theorem x2dk:x2lw call hs u x18t (j2 (x5b call hs u) 6 7) eNil=j6 (x94 call hs u NN) 1 6 7 23 24 25:=bk x2dj
theorem x2dl:x2lw call hs u x18s (j2 (x5b call hs u) 6 7) eNil=j4 (xiw call hs u) 1 2 6 7:=tr (sqN 1 x2dk)
theorem x2dm:x2lw call hs u xow r_6 eNil=j4 (xiw call hs u) 1 2 6 7:=sq2 x2dh x2dl
theorem x1gy:x2lw call hs u x18r r_6 eNil=j2 (xsd call hs u) 0 1:=tr (sqN 3 x2dm)
noncomputable abbrev x2j6:=VX xb6 43 r_17
noncomputable def x18v:=x2g6 xb6
noncomputable def x18w:=nR x18v
noncomputable def x18x:=nR x18w
noncomputable def x18y:=nR x18x
noncomputable def xox:=nRs 2 x18y
noncomputable def x18z:=nL xox
noncomputable def x2dn:=nR xox
noncomputable def x190:=nR x18z
noncomputable def x191:=nRs 2 x190
noncomputable def x192:=nR x191
noncomputable def x2do:=nR x192
theorem x2dp{rec0:AV->AV->AV->AV->AV->AV->Mem->Nat->O2}:x2j6 call hs u x2dn (j6 rec0 0 2 3 12 13 14) (setE 0 r_17 eNil)=j6 (x1e call hs u rec0) 0 2 3 12 13 14:=by kernel_rfl
theorem x2dq{rec0:AV->AV->AV->AV->AV->AV->Mem->Nat->O2}{rec1:AV->AV->AV->AV->AV->AV->AV->AV->AV->Mem->Nat->O2}:x2j6 call hs u x2do (j9 rec1 0 2 3 6 12 13 14 18 19) (setE 2 (j6 (x1e call hs u rec0) 0 2 3 12 13 14) (setE 1 (j6 (x1e call hs u rec0) 0 2 3 12 13 14) (setE 0 r_17 eNil)))=j9 (xse call hs u rec0 rec1) 0 2 3 6 12 13 14 18 19:=by kernel_rfl
theorem x2dr{rec0:AV->AV->AV->AV->AV->AV->Mem->Nat->O2}:x2j6 call hs u x192 (j6 (x1e call hs u rec0) 0 2 3 12 13 14) (setE 2 (j6 (x1e call hs u rec0) 0 2 3 12 13 14) (setE 1 (j6 (x1e call hs u rec0) 0 2 3 12 13 14) (setE 0 r_17 eNil)))=j9 (x95 call hs u rec0 NN) 0 2 3 6 12 13 14 18 19:=lp (Ln:=fun n=>j9 (x95 call hs u rec0 n) 0 2 3 6 12 13 14 18 19) fun n=>tr x2dq
theorem x2ds{rec0:AV->AV->AV->AV->AV->AV->Mem->Nat->O2}:x2j6 call hs u x191 (j6 (x1e call hs u rec0) 0 2 3 12 13 14) (setE 1 (j6 (x1e call hs u rec0) 0 2 3 12 13 14) (setE 0 r_17 eNil))=j9 (x95 call hs u rec0 NN) 0 2 3 6 12 13 14 18 19:=bk x2dr
theorem x2dt{rec0:AV->AV->AV->AV->AV->AV->Mem->Nat->O2}:x2j6 call hs u x190 (j6 (x1e call hs u rec0) 0 2 3 12 13 14) (setE 1 (j6 (x1e call hs u rec0) 0 2 3 12 13 14) (setE 0 r_17 eNil))=j6 (xdx call hs u rec0) 0 2 3 12 13 14:=tr (sqN 2 x2ds)
theorem x2du{rec0:AV->AV->AV->AV->AV->AV->Mem->Nat->O2}:x2j6 call hs u x18z (j6 (x1e call hs u rec0) 0 2 3 12 13 14) (setE 0 r_17 eNil)=j6 (xdx call hs u rec0) 0 2 3 12 13 14:=bk x2dt
theorem x2dv{rec0:AV->AV->AV->AV->AV->AV->Mem->Nat->O2}:x2j6 call hs u xox (j6 rec0 0 2 3 12 13 14) (setE 0 r_17 eNil)=j6 (xdx call hs u rec0) 0 2 3 12 13 14:=sq2 x2dp x2du
theorem x2dw{rec0:AV->AV->AV->AV->AV->AV->Mem->Nat->O2}:x2j6 call hs u x18y (j6 rec0 0 2 3 12 13 14) (setE 0 r_17 eNil)=j6 (xsg call hs u rec0) 0 2 3 12 13 14:=tr (sqN 2 x2dv)
theorem x2dx:x2j6 call hs u x18x r_17 (setE 0 r_17 eNil)=j6 (x96 call hs u NN) 0 2 3 12 13 14:=lp (Ln:=fun n=>j6 (x96 call hs u n) 0 2 3 12 13 14) fun n=>tr x2dw
theorem x2dy:x2j6 call hs u x18w r_17 eNil=j6 (x96 call hs u NN) 0 2 3 12 13 14:=bk x2dx
theorem x1gz:x2j6 call hs u x18v r_17 eNil=j4 (xsh call hs u) 0 1 2 3:=tr (sqN 1 x2dy)
noncomputable abbrev x2lx:=VX x61 19 r_0
noncomputable def x193:=x2g6 x61
noncomputable def xoy:=nR x193
noncomputable def x194:=nL xoy
noncomputable def x2dz:=nR xoy
noncomputable def x195:=nR x194
noncomputable def x196:=nR x195
noncomputable def x2e0:=nR x196
theorem x2e1:x2lx call hs u x2dz r_0 eNil=j0 (x42 call hs u):=by kernel_rfl
theorem x2e2{rec0:AV->AV->AV->AV->Mem->Nat->O2}:x2lx call hs u x2e0 (j4 rec0 0 1 7 8) (setE 0 (j0 (x42 call hs u)) eNil)=j4 (xdy call hs u rec0) 0 1 7 8:=by kernel_rfl
theorem x2e3:x2lx call hs u x196 (j0 (x42 call hs u)) (setE 0 (j0 (x42 call hs u)) eNil)=j4 (x43 call hs u NN) 0 1 7 8:=lp (Ln:=fun n=>j4 (x43 call hs u n) 0 1 7 8) fun n=>tr x2e2
theorem x2e4:x2lx call hs u x195 (j0 (x42 call hs u)) eNil=j4 (x43 call hs u NN) 0 1 7 8:=bk x2e3
theorem x2e5:x2lx call hs u x194 (j0 (x42 call hs u)) eNil=j2 (xdz call hs u) 0 1:=tr (sqN 1 x2e4)
theorem x2e6:x2lx call hs u xoy r_0 eNil=j2 (xdz call hs u) 0 1:=sq2 x2e1 x2e5
theorem x1h0:x2lx call hs u x193 r_0 eNil=j2 (xix call hs u) 0 1:=tr (sqN 1 x2e6)
noncomputable abbrev x2wp:=VX xb7 6 r_2
noncomputable def x2e7:=x2g6 xb7
theorem x1h1:x2wp call hs u x2e7 r_2 eNil=j1 (xsi call hs u) 0:=by kernel_rfl
noncomputable abbrev x2ly:=VX xb8 62 r_8
noncomputable def x197:=x2g6 xb8
noncomputable def xoz:=nRs 2 x197
noncomputable def x198:=nL xoz
noncomputable def x2e8:=nR xoz
noncomputable def x199:=nR x198
noncomputable def x19a:=nR x199
noncomputable def x2e9:=nR x19a
theorem x2ea:x2ly call hs u x2e8 r_8 eNil=j0 (x5c call hs u):=by kernel_rfl
theorem x2eb{rec0:AV->AV->AV->AV->Mem->Nat->O2}:x2ly call hs u x2e9 (j4 rec0 1 17 18 19) (setE 1 (j0 (x5c call hs u)) eNil)=j4 (xsj call hs u rec0) 1 17 18 19:=by kernel_rfl
theorem x2ec:x2ly call hs u x19a (j0 (x5c call hs u)) (setE 1 (j0 (x5c call hs u)) eNil)=j4 (x97 call hs u NN) 1 17 18 19:=lp (Ln:=fun n=>j4 (x97 call hs u n) 1 17 18 19) fun n=>tr x2eb
theorem x2ed:x2ly call hs u x199 (j0 (x5c call hs u)) eNil=j4 (x97 call hs u NN) 1 17 18 19:=bk x2ec
theorem x2ee:x2ly call hs u x198 (j0 (x5c call hs u)) eNil=j1 (xiy call hs u) 1:=tr (sqN 1 x2ed)
theorem x2ef:x2ly call hs u xoz r_8 eNil=j1 (xiy call hs u) 1:=sq2 x2ea x2ee
theorem x1h2:x2ly call hs u x197 r_8 eNil=j1 (xsk call hs u) 0:=tr (sqN 2 x2ef)
noncomputable abbrev x2jw:=VX xb9 47 r_0
noncomputable def x19b:=x2g6 xb9
noncomputable def xp0:=nRs 2 x19b
noncomputable def x19c:=nL xp0
noncomputable def x2eg:=nR xp0
noncomputable def x19d:=nR x19c
noncomputable def x19e:=nR x19d
noncomputable def x19f:=nR x19e
noncomputable def xp1:=nRs 2 x19f
noncomputable def x2eh:=nL xp1
noncomputable def x2ei:=nR xp1
theorem x2ej:x2jw call hs u x2eg r_0 eNil=j1 (x29 call hs u) 5:=by kernel_rfl
theorem x2ek{rec0:AV->AV->AV->AV->AV->Mem->Nat->O2}:x2jw call hs u x2ei (j5 rec0 0 1 5 12 13) (setE 0 (j1 (x29 call hs u) 5) eNil)=j5 (xe0 call hs u rec0) 0 1 5 12 13:=by kernel_rfl
theorem x2el{rec0:AV->AV->AV->AV->AV->Mem->Nat->O2}:x2jw call hs u x2eh (j5 (xe0 call hs u rec0) 0 1 5 12 13) (setE 0 (j1 (x29 call hs u) 5) eNil)=j5 (xiz call hs u rec0) 0 1 5 12 13:=by kernel_rfl
theorem x2em{rec0:AV->AV->AV->AV->AV->Mem->Nat->O2}:x2jw call hs u xp1 (j5 rec0 0 1 5 12 13) (setE 0 (j1 (x29 call hs u) 5) eNil)=j5 (xiz call hs u rec0) 0 1 5 12 13:=sq2 x2ek x2el
theorem x2en{rec0:AV->AV->AV->AV->AV->Mem->Nat->O2}:x2jw call hs u x19f (j5 rec0 0 1 5 12 13) (setE 0 (j1 (x29 call hs u) 5) eNil)=j5 (xsl call hs u rec0) 0 1 5 12 13:=tr (sqN 2 x2em)
theorem x2eo:x2jw call hs u x19e (j1 (x29 call hs u) 5) (setE 0 (j1 (x29 call hs u) 5) eNil)=j5 (x98 call hs u NN) 0 1 5 12 13:=lp (Ln:=fun n=>j5 (x98 call hs u n) 0 1 5 12 13) fun n=>tr x2en
theorem x2ep:x2jw call hs u x19d (j1 (x29 call hs u) 5) eNil=j5 (x98 call hs u NN) 0 1 5 12 13:=bk x2eo
theorem x2eq:x2jw call hs u x19c (j1 (x29 call hs u) 5) eNil=j3 (xj0 call hs u) 0 1 5:=tr (sqN 1 x2ep)
theorem x2er:x2jw call hs u xp0 r_0 eNil=j3 (xj0 call hs u) 0 1 5:=sq2 x2ej x2eq
theorem x1h3:x2jw call hs u x19b r_0 eNil=j2 (xsm call hs u) 0 1:=tr (sqN 2 x2er)
noncomputable abbrev x2i0:=VX x7b 45 r_0
noncomputable def x19g:=x2g6 x7b
noncomputable def xp2:=nRs 3 x19g
noncomputable def x19h:=nL xp2
noncomputable def x2es:=nR xp2
noncomputable def x19i:=nR x19h
noncomputable def x19j:=nR x19i
noncomputable def x19k:=nR x19j
noncomputable def xp3:=nRs 2 x19k
noncomputable def x19l:=nL xp3
noncomputable def x2et:=nR xp3
noncomputable def x19m:=nR x19l
noncomputable def xp4:=nRs 4 x19m
noncomputable def x19n:=nL xp4
noncomputable def x2eu:=nR xp4
noncomputable def x19o:=nR x19n
noncomputable def x2ev:=nR x19o
theorem x2ew:x2i0 call hs u x2es r_0 eNil=j1 (xw call hs u) 5:=by kernel_rfl
theorem x2ex{rec0:AV->AV->AV->AV->AV->Mem->Nat->O2}:x2i0 call hs u x2et (j5 rec0 1 5 6 14 15) (setE 0 (j1 (xw call hs u) 5) eNil)=j5 (x1c call hs u rec0) 1 5 6 14 15:=by kernel_rfl
theorem x2ey{rec0:AV->AV->AV->AV->AV->Mem->Nat->O2}:x2i0 call hs u x2eu (j5 (x1c call hs u rec0) 1 5 6 14 15) (setE 1 (j5 (x1c call hs u rec0) 1 5 6 14 15) (setE 0 (j1 (xw call hs u) 5) eNil))=j5 (x6d call hs u rec0) 1 5 6 14 15:=by kernel_rfl
theorem x2ez{rec0:AV->AV->AV->AV->AV->Mem->Nat->O2}{rec1:AV->AV->AV->AV->AV->AV->Mem->Nat->O2}:x2i0 call hs u x2ev (j6 rec1 1 5 6 8 14 15) (setE 2 (j5 (x6d call hs u rec0) 1 5 6 14 15) (setE 1 (j5 (x1c call hs u rec0) 1 5 6 14 15) (setE 0 (j1 (xw call hs u) 5) eNil)))=j6 (xsn call hs u rec0 rec1) 1 5 6 8 14 15:=by kernel_rfl
theorem x2f0{rec0:AV->AV->AV->AV->AV->Mem->Nat->O2}:x2i0 call hs u x19o (j5 (x6d call hs u rec0) 1 5 6 14 15) (setE 2 (j5 (x6d call hs u rec0) 1 5 6 14 15) (setE 1 (j5 (x1c call hs u rec0) 1 5 6 14 15) (setE 0 (j1 (xw call hs u) 5) eNil)))=j6 (x6e call hs u rec0 NN) 1 5 6 8 14 15:=lp (Ln:=fun n=>j6 (x6e call hs u rec0 n) 1 5 6 8 14 15) fun n=>tr x2ez
theorem x2f1{rec0:AV->AV->AV->AV->AV->Mem->Nat->O2}:x2i0 call hs u x19n (j5 (x6d call hs u rec0) 1 5 6 14 15) (setE 1 (j5 (x1c call hs u rec0) 1 5 6 14 15) (setE 0 (j1 (xw call hs u) 5) eNil))=j6 (x6e call hs u rec0 NN) 1 5 6 8 14 15:=bk x2f0
theorem x2f2{rec0:AV->AV->AV->AV->AV->Mem->Nat->O2}:x2i0 call hs u xp4 (j5 (x1c call hs u rec0) 1 5 6 14 15) (setE 1 (j5 (x1c call hs u rec0) 1 5 6 14 15) (setE 0 (j1 (xw call hs u) 5) eNil))=j6 (x6e call hs u rec0 NN) 1 5 6 8 14 15:=sq2 x2ey x2f1
theorem x2f3{rec0:AV->AV->AV->AV->AV->Mem->Nat->O2}:x2i0 call hs u x19m (j5 (x1c call hs u rec0) 1 5 6 14 15) (setE 1 (j5 (x1c call hs u rec0) 1 5 6 14 15) (setE 0 (j1 (xw call hs u) 5) eNil))=j5 (xe1 call hs u rec0) 1 5 6 14 15:=tr (sqN 4 x2f2)
theorem x2f4{rec0:AV->AV->AV->AV->AV->Mem->Nat->O2}:x2i0 call hs u x19l (j5 (x1c call hs u rec0) 1 5 6 14 15) (setE 0 (j1 (xw call hs u) 5) eNil)=j5 (xe1 call hs u rec0) 1 5 6 14 15:=bk x2f3
theorem x2f5{rec0:AV->AV->AV->AV->AV->Mem->Nat->O2}:x2i0 call hs u xp3 (j5 rec0 1 5 6 14 15) (setE 0 (j1 (xw call hs u) 5) eNil)=j5 (xe1 call hs u rec0) 1 5 6 14 15:=sq2 x2ex x2f4
theorem x2f6{rec0:AV->AV->AV->AV->AV->Mem->Nat->O2}:x2i0 call hs u x19k (j5 rec0 1 5 6 14 15) (setE 0 (j1 (xw call hs u) 5) eNil)=j5 (xso call hs u rec0) 1 5 6 14 15:=tr (sqN 2 x2f5)
theorem x2f7:x2i0 call hs u x19j (j1 (xw call hs u) 5) (setE 0 (j1 (xw call hs u) 5) eNil)=j5 (x9a call hs u NN) 1 5 6 14 15:=lp (Ln:=fun n=>j5 (x9a call hs u n) 1 5 6 14 15) fun n=>tr x2f6
theorem x2f8:x2i0 call hs u x19i (j1 (xw call hs u) 5) eNil=j5 (x9a call hs u NN) 1 5 6 14 15:=bk x2f7
theorem x2f9:x2i0 call hs u x19h (j1 (xw call hs u) 5) eNil=j3 (xj1 call hs u) 1 5 6:=tr (sqN 1 x2f8)
theorem x2fa:x2i0 call hs u xp2 r_0 eNil=j3 (xj1 call hs u) 1 5 6:=sq2 x2ew x2f9
theorem x1h4:x2i0 call hs u x19g r_0 eNil=j2 (xsp call hs u) 0 1:=tr (sqN 3 x2fa)
noncomputable abbrev x2lz:=VX xad 53 r_17
noncomputable def x19p:=x2g6 xad
noncomputable def x19q:=nR x19p
noncomputable def x19r:=nR x19q
noncomputable def x19s:=nR x19r
noncomputable def xp5:=nRs 2 x19s
noncomputable def x2fb:=nL xp5
noncomputable def x2fc:=nR xp5
theorem x2fd{rec0:AV->AV->AV->AV->AV->Mem->Nat->O2}:x2lz call hs u x2fc (j5 rec0 0 1 3 9 10) (setE 0 r_17 eNil)=j5 (xe2 call hs u rec0) 0 1 3 9 10:=by kernel_rfl
theorem x2fe{rec0:AV->AV->AV->AV->AV->Mem->Nat->O2}:x2lz call hs u x2fb (j5 (xe2 call hs u rec0) 0 1 3 9 10) (setE 0 r_17 eNil)=j5 (xj2 call hs u rec0) 0 1 3 9 10:=by kernel_rfl
theorem x2ff{rec0:AV->AV->AV->AV->AV->Mem->Nat->O2}:x2lz call hs u xp5 (j5 rec0 0 1 3 9 10) (setE 0 r_17 eNil)=j5 (xj2 call hs u rec0) 0 1 3 9 10:=sq2 x2fd x2fe
theorem x2fg{rec0:AV->AV->AV->AV->AV->Mem->Nat->O2}:x2lz call hs u x19s (j5 rec0 0 1 3 9 10) (setE 0 r_17 eNil)=j5 (xsq call hs u rec0) 0 1 3 9 10:=tr (sqN 2 x2ff)
theorem x2fh:x2lz call hs u x19r r_17 (setE 0 r_17 eNil)=j5 (x9b call hs u NN) 0 1 3 9 10:=lp (Ln:=fun n=>j5 (x9b call hs u n) 0 1 3 9 10) fun n=>tr x2fg
theorem x2fi:x2lz call hs u x19q r_17 eNil=j5 (x9b call hs u NN) 0 1 3 9 10:=bk x2fh
theorem x1ea:x2lz call hs u x19p r_17 eNil=j4 (xsr call hs u) 0 1 2 3:=tr (sqN 1 x2fi)
noncomputable abbrev x2if:=VX xba 132 r_2
noncomputable def x19t:=x2g6 xba
noncomputable def xp6:=nRs 2 x19t
noncomputable def x19u:=nL xp6
noncomputable def x2fj:=nR xp6
noncomputable def x19v:=nR x19u
noncomputable def x19w:=nR x19v
noncomputable def x19x:=nR x19w
noncomputable def xp7:=nRs 2 x19x
noncomputable def x19y:=nL xp7
noncomputable def x2fk:=nR xp7
noncomputable def x19z:=nR x19y
noncomputable def xp8:=nR x19z
noncomputable def x2fl:=nL xp8
noncomputable def x2fm:=nR xp8
theorem x2fn:x2if call hs u x2fj r_2 eNil=j1 (x17 call hs u) 3:=by kernel_rfl
theorem x2fo{rec0:AV->AV->AV->AV->Mem->Nat->O2}:x2if call hs u x2fk (j4 rec0 3 28 29 30) (setE 0 (j1 (x17 call hs u) 3) eNil)=j4 (x2a call hs u rec0) 3 28 29 30:=by kernel_rfl
theorem x2fp{rec0:AV->AV->AV->AV->Mem->Nat->O2}:x2if call hs u x2fm (j4 (x2a call hs u rec0) 3 28 29 30) (setE 1 (j4 (x2a call hs u rec0) 3 28 29 30) (setE 0 (j1 (x17 call hs u) 3) eNil))=j6 (x9c call hs u rec0) 3 4 5 28 29 30:=by kernel_rfl
theorem x2fq{rec0:AV->AV->AV->AV->Mem->Nat->O2}:x2if call hs u x2fl (j6 (x9c call hs u rec0) 3 4 5 28 29 30) (setE 1 (j4 (x2a call hs u rec0) 3 28 29 30) (setE 0 (j1 (x17 call hs u) 3) eNil))=j6 (xj3 call hs u rec0) 3 4 5 28 29 30:=by kernel_rfl
theorem x2fr{rec0:AV->AV->AV->AV->Mem->Nat->O2}:x2if call hs u xp8 (j4 (x2a call hs u rec0) 3 28 29 30) (setE 1 (j4 (x2a call hs u rec0) 3 28 29 30) (setE 0 (j1 (x17 call hs u) 3) eNil))=j6 (xj3 call hs u rec0) 3 4 5 28 29 30:=sq2 x2fp x2fq
theorem x2fs{rec0:AV->AV->AV->AV->Mem->Nat->O2}:x2if call hs u x19z (j4 (x2a call hs u rec0) 3 28 29 30) (setE 1 (j4 (x2a call hs u rec0) 3 28 29 30) (setE 0 (j1 (x17 call hs u) 3) eNil))=j4 (xe3 call hs u rec0) 3 28 29 30:=tr (sqN 1 x2fr)
theorem x2ft{rec0:AV->AV->AV->AV->Mem->Nat->O2}:x2if call hs u x19y (j4 (x2a call hs u rec0) 3 28 29 30) (setE 0 (j1 (x17 call hs u) 3) eNil)=j4 (xe3 call hs u rec0) 3 28 29 30:=bk x2fs
theorem x2fu{rec0:AV->AV->AV->AV->Mem->Nat->O2}:x2if call hs u xp7 (j4 rec0 3 28 29 30) (setE 0 (j1 (x17 call hs u) 3) eNil)=j4 (xe3 call hs u rec0) 3 28 29 30:=sq2 x2fo x2ft
theorem x2fv{rec0:AV->AV->AV->AV->Mem->Nat->O2}:x2if call hs u x19x (j4 rec0 3 28 29 30) (setE 0 (j1 (x17 call hs u) 3) eNil)=j4 (xss call hs u rec0) 3 28 29 30:=tr (sqN 2 x2fu)
theorem x2fw:x2if call hs u x19w (j1 (x17 call hs u) 3) (setE 0 (j1 (x17 call hs u) 3) eNil)=j4 (x9d call hs u NN) 3 28 29 30:=lp (Ln:=fun n=>j4 (x9d call hs u n) 3 28 29 30) fun n=>tr x2fv
theorem x2fx:x2if call hs u x19v (j1 (x17 call hs u) 3) eNil=j4 (x9d call hs u NN) 3 28 29 30:=bk x2fw
theorem x2fy:x2if call hs u x19u (j1 (x17 call hs u) 3) eNil=j2 (xj4 call hs u) 1 3:=tr (sqN 1 x2fx)
theorem x2fz:x2if call hs u xp6 r_2 eNil=j2 (xj4 call hs u) 1 3:=sq2 x2fn x2fy
theorem x1h5:x2if call hs u x19t r_2 eNil=j1 (xst call hs u) 0:=tr (sqN 2 x2fz)
noncomputable abbrev x2wq:=VX xag 5 r_2
noncomputable def x2g0:=x2g6 xag
theorem x1ee:x2wq call hs u x2g0 r_2 eNil=j1 (xsu call hs u) 0:=by kernel_rfl
end Go.Ix
