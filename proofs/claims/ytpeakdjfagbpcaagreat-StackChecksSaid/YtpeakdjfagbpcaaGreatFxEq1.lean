import Derived.Test.YtpeakdjfagbpcaaGreatFxText0
import Derived.Test.YtpeakdjfagbpcaaGreatFxText1
import Derived.Test.YtpeakdjfagbpcaaGreatFxEnt
import Derived.Test.YtpeakdjfagbpcaaGreatFxRules
import Derived.Test.YtpeakdjfagbpcaaGreatFxProj
import Derived.ProofKit
set_option linter.unusedVariables false
namespace Go.Ix
open Go.Proofs
variable{call:x2i5}{hs:FHs}{u:Nat}
noncomputable abbrev x2l1:=VX xc6 132 r_3
noncomputable def xwr:=x2ia xc6
noncomputable def xn9:=nRs 2 xwr
noncomputable def xws:=nL xn9
noncomputable def x1k5:=nR xn9
noncomputable def xwt:=nR xws
noncomputable def xwu:=nR xwt
noncomputable def xwv:=nR xwu
noncomputable def xna:=nRs 2 xwv
noncomputable def xww:=nL xna
noncomputable def x1k6:=nR xna
noncomputable def xwx:=nR xww
noncomputable def xnb:=nR xwx
noncomputable def x1k7:=nL xnb
noncomputable def x1k8:=nR xnb
theorem x1k9:x2l1 call hs u x1k5 r_3 eNil=j1 (x19 call hs u) 3:=by kernel_rfl
theorem x1ka{rec0:AV->AV->AV->AV->Mem->Nat->O2}:x2l1 call hs u x1k6 (j4 rec0 3 28 29 30) (setE 0 (j1 (x19 call hs u) 3) eNil)=j4 (x2g call hs u rec0) 3 28 29 30:=by kernel_rfl
theorem x1kb{rec0:AV->AV->AV->AV->Mem->Nat->O2}:x2l1 call hs u x1k8 (j4 (x2g call hs u rec0) 3 28 29 30) (setE 1 (j4 (x2g call hs u rec0) 3 28 29 30) (setE 0 (j1 (x19 call hs u) 3) eNil))=j6 (xae call hs u rec0) 3 4 5 28 29 30:=by kernel_rfl
theorem x1kc{rec0:AV->AV->AV->AV->Mem->Nat->O2}:x2l1 call hs u x1k7 (j6 (xae call hs u rec0) 3 4 5 28 29 30) (setE 1 (j4 (x2g call hs u rec0) 3 28 29 30) (setE 0 (j1 (x19 call hs u) 3) eNil))=j6 (xm0 call hs u rec0) 3 4 5 28 29 30:=by kernel_rfl
theorem x1kd{rec0:AV->AV->AV->AV->Mem->Nat->O2}:x2l1 call hs u xnb (j4 (x2g call hs u rec0) 3 28 29 30) (setE 1 (j4 (x2g call hs u rec0) 3 28 29 30) (setE 0 (j1 (x19 call hs u) 3) eNil))=j6 (xm0 call hs u rec0) 3 4 5 28 29 30:=sq2 x1kb x1kc
theorem x1ke{rec0:AV->AV->AV->AV->Mem->Nat->O2}:x2l1 call hs u xwx (j4 (x2g call hs u rec0) 3 28 29 30) (setE 1 (j4 (x2g call hs u rec0) 3 28 29 30) (setE 0 (j1 (x19 call hs u) 3) eNil))=j4 (xfz call hs u rec0) 3 28 29 30:=tr (sqN 1 x1kd)
theorem x1kf{rec0:AV->AV->AV->AV->Mem->Nat->O2}:x2l1 call hs u xww (j4 (x2g call hs u rec0) 3 28 29 30) (setE 0 (j1 (x19 call hs u) 3) eNil)=j4 (xfz call hs u rec0) 3 28 29 30:=bk x1ke
theorem x1kg{rec0:AV->AV->AV->AV->Mem->Nat->O2}:x2l1 call hs u xna (j4 rec0 3 28 29 30) (setE 0 (j1 (x19 call hs u) 3) eNil)=j4 (xfz call hs u rec0) 3 28 29 30:=sq2 x1ka x1kf
theorem x1kh{rec0:AV->AV->AV->AV->Mem->Nat->O2}:x2l1 call hs u xwv (j4 rec0 3 28 29 30) (setE 0 (j1 (x19 call hs u) 3) eNil)=j4 (xuc call hs u rec0) 3 28 29 30:=tr (sqN 2 x1kg)
theorem x1ki:x2l1 call hs u xwu (j1 (x19 call hs u) 3) (setE 0 (j1 (x19 call hs u) 3) eNil)=j4 (xaf call hs u NN) 3 28 29 30:=lp (Ln:=fun n=>j4 (xaf call hs u n) 3 28 29 30) fun n=>tr x1kh
theorem x1kj:x2l1 call hs u xwt (j1 (x19 call hs u) 3) eNil=j4 (xaf call hs u NN) 3 28 29 30:=bk x1ki
theorem x1kk:x2l1 call hs u xws (j1 (x19 call hs u) 3) eNil=j2 (xm1 call hs u) 1 3:=tr (sqN 1 x1kj)
theorem x1kl:x2l1 call hs u xn9 r_3 eNil=j2 (xm1 call hs u) 1 3:=sq2 x1k9 x1kk
theorem x1j2:x2l1 call hs u xwr r_3 eNil=j1 (xud call hs u) 0:=tr (sqN 2 x1kl)
noncomputable abbrev x307:=VX xbi 5 r_3
noncomputable def x1km:=x2ia xbi
theorem x1g5:x307 call hs u x1km r_3 eNil=j1 (xue call hs u) 0:=by kernel_rfl
noncomputable abbrev x2jo:=VX xc7 160 r_17
noncomputable def xwy:=x2ia xc7
noncomputable def xnc:=nRs 2 xwy
noncomputable def xwz:=nL xnc
noncomputable def xx0:=nR xnc
noncomputable def xnd:=nR xx0
noncomputable def xx1:=nL xnd
noncomputable def xne:=nR xnd
noncomputable def xx2:=nL xne
noncomputable def xx3:=nR xne
noncomputable def xx4:=nRs 3 xx3
noncomputable def xx5:=nR xx4
noncomputable def x1kn:=nR xx5
noncomputable def xx6:=nR xx2
noncomputable def xx7:=nR xx6
noncomputable def x1ko:=nR xx7
noncomputable def xx8:=nR xx1
noncomputable def xx9:=nR xx8
noncomputable def x1kp:=nR xx9
noncomputable def xxa:=nR xwz
noncomputable def xxb:=nR xxa
noncomputable def xxc:=nR xxb
noncomputable def xnf:=nRs 2 xxc
noncomputable def x1kq:=nL xnf
noncomputable def x1kr:=nR xnf
theorem x1ks{rec0:AV->AV->AV->AV->AV->AV->Mem->Nat->O2}:x2jo call hs u x1kn (j6 rec0 0 4 5 136 137 138) (setE 6 r_17 eNil)=j6 (xuf call hs u rec0) 0 4 5 136 137 138:=by kernel_rfl
theorem x1kt:x2jo call hs u xx5 r_17 (setE 6 r_17 eNil)=j6 (xag call hs u NN) 0 4 5 136 137 138:=lp (Ln:=fun n=>j6 (xag call hs u n) 0 4 5 136 137 138) fun n=>tr x1ks
theorem x1ku:x2jo call hs u xx4 r_17 eNil=j6 (xag call hs u NN) 0 4 5 136 137 138:=bk x1kt
theorem x1kv:x2jo call hs u xx3 r_17 eNil=j5 (x6t call hs u) 0 1 4 5 8:=tr (sqN 3 x1ku)
theorem x1kw{rec1:AV->AV->AV->AV->AV->AV->Mem->Nat->O2}:x2jo call hs u x1ko (j6 rec1 0 1 4 5 8 10) (setE 4 (j5 (x6t call hs u) 0 1 4 5 8) eNil)=j6 (xug call hs u rec1) 0 1 4 5 8 10:=by kernel_rfl
theorem x1kx:x2jo call hs u xx7 (j5 (x6t call hs u) 0 1 4 5 8) (setE 4 (j5 (x6t call hs u) 0 1 4 5 8) eNil)=j6 (xah call hs u NN) 0 1 4 5 8 10:=lp (Ln:=fun n=>j6 (xah call hs u n) 0 1 4 5 8 10) fun n=>tr x1kw
theorem x1ky:x2jo call hs u xx6 (j5 (x6t call hs u) 0 1 4 5 8) eNil=j6 (xah call hs u NN) 0 1 4 5 8 10:=bk x1kx
theorem x1kz:x2jo call hs u xx2 (j5 (x6t call hs u) 0 1 4 5 8) eNil=j5 (x5m call hs u) 0 1 4 5 8:=tr (sqN 1 x1ky)
theorem x1l0:x2jo call hs u xne r_17 eNil=j5 (x5m call hs u) 0 1 4 5 8:=sq2 x1kv x1kz
theorem x1l1{rec2:AV->AV->AV->AV->AV->AV->Mem->Nat->O2}:x2jo call hs u x1kp (j6 rec2 0 1 4 5 8 9) (setE 2 (j5 (x5m call hs u) 0 1 4 5 8) eNil)=j6 (xuh call hs u rec2) 0 1 4 5 8 9:=by kernel_rfl
theorem x1l2:x2jo call hs u xx9 (j5 (x5m call hs u) 0 1 4 5 8) (setE 2 (j5 (x5m call hs u) 0 1 4 5 8) eNil)=j6 (xai call hs u NN) 0 1 4 5 8 9:=lp (Ln:=fun n=>j6 (xai call hs u n) 0 1 4 5 8 9) fun n=>tr x1l1
theorem x1l3:x2jo call hs u xx8 (j5 (x5m call hs u) 0 1 4 5 8) eNil=j6 (xai call hs u NN) 0 1 4 5 8 9:=bk x1l2
theorem x1l4:x2jo call hs u xx1 (j5 (x5m call hs u) 0 1 4 5 8) eNil=j5 (xm2 call hs u) 0 1 4 5 8:=tr (sqN 1 x1l3)
theorem x1l5:x2jo call hs u xnd r_17 eNil=j5 (xm2 call hs u) 0 1 4 5 8:=sq2 x1l0 x1l4
theorem x1l6:x2jo call hs u xx0 r_17 eNil=j4 (x2h call hs u) 0 1 4 5:=tr (sqN 1 x1l5)
theorem x1l7{rec3:AV->AV->AV->AV->AV->AV->AV->Mem->Nat->O2}:x2jo call hs u x1kr (j7 rec3 0 1 4 5 17 18 19) (setE 0 (j4 (x2h call hs u) 0 1 4 5) eNil)=j7 (xg0 call hs u rec3) 0 1 4 5 17 18 19:=by kernel_rfl
theorem x1l8{rec3:AV->AV->AV->AV->AV->AV->AV->Mem->Nat->O2}:x2jo call hs u x1kq (j7 (xg0 call hs u rec3) 0 1 4 5 17 18 19) (setE 0 (j4 (x2h call hs u) 0 1 4 5) eNil)=j7 (xm3 call hs u rec3) 0 1 4 5 17 18 19:=by kernel_rfl
theorem x1l9{rec3:AV->AV->AV->AV->AV->AV->AV->Mem->Nat->O2}:x2jo call hs u xnf (j7 rec3 0 1 4 5 17 18 19) (setE 0 (j4 (x2h call hs u) 0 1 4 5) eNil)=j7 (xm3 call hs u rec3) 0 1 4 5 17 18 19:=sq2 x1l7 x1l8
theorem x1la{rec3:AV->AV->AV->AV->AV->AV->AV->Mem->Nat->O2}:x2jo call hs u xxc (j7 rec3 0 1 4 5 17 18 19) (setE 0 (j4 (x2h call hs u) 0 1 4 5) eNil)=j7 (xui call hs u rec3) 0 1 4 5 17 18 19:=tr (sqN 2 x1l9)
theorem x1lb:x2jo call hs u xxb (j4 (x2h call hs u) 0 1 4 5) (setE 0 (j4 (x2h call hs u) 0 1 4 5) eNil)=j7 (xaj call hs u NN) 0 1 4 5 17 18 19:=lp (Ln:=fun n=>j7 (xaj call hs u n) 0 1 4 5 17 18 19) fun n=>tr x1la
theorem x1lc:x2jo call hs u xxa (j4 (x2h call hs u) 0 1 4 5) eNil=j7 (xaj call hs u NN) 0 1 4 5 17 18 19:=bk x1lb
theorem x1ld:x2jo call hs u xwz (j4 (x2h call hs u) 0 1 4 5) eNil=j4 (xm4 call hs u) 0 1 4 5:=tr (sqN 1 x1lc)
theorem x1le:x2jo call hs u xnc r_17 eNil=j4 (xm4 call hs u) 0 1 4 5:=sq2 x1l6 x1ld
theorem x1j3:x2jo call hs u xwy r_17 eNil=j2 (xuj call hs u) 0 1:=tr (sqN 2 x1le)
noncomputable abbrev x2mj:=VX xc8 53 r_3
noncomputable def xxd:=x2ia xc8
noncomputable def xng:=nRs 2 xxd
noncomputable def xxe:=nL xng
noncomputable def x1lf:=nR xng
noncomputable def xxf:=nR xxe
noncomputable def xxg:=nR xxf
noncomputable def xxh:=nR xxg
noncomputable def xnh:=nRs 2 xxh
noncomputable def x1lg:=nL xnh
noncomputable def x1lh:=nR xnh
theorem x1li:x2mj call hs u x1lf r_3 eNil=j2 (x2i call hs u) 1 3:=by kernel_rfl
theorem x1lj{rec0:AV->AV->AV->AV->AV->Mem->Nat->O2}:x2mj call hs u x1lh (j5 rec0 1 3 12 13 14) (setE 0 (j2 (x2i call hs u) 1 3) eNil)=j5 (xg1 call hs u rec0) 1 3 12 13 14:=by kernel_rfl
theorem x1lk{rec0:AV->AV->AV->AV->AV->Mem->Nat->O2}:x2mj call hs u x1lg (j5 (xg1 call hs u rec0) 1 3 12 13 14) (setE 0 (j2 (x2i call hs u) 1 3) eNil)=j5 (xm5 call hs u rec0) 1 3 12 13 14:=by kernel_rfl
theorem x1ll{rec0:AV->AV->AV->AV->AV->Mem->Nat->O2}:x2mj call hs u xnh (j5 rec0 1 3 12 13 14) (setE 0 (j2 (x2i call hs u) 1 3) eNil)=j5 (xm5 call hs u rec0) 1 3 12 13 14:=sq2 x1lj x1lk
theorem x1lm{rec0:AV->AV->AV->AV->AV->Mem->Nat->O2}:x2mj call hs u xxh (j5 rec0 1 3 12 13 14) (setE 0 (j2 (x2i call hs u) 1 3) eNil)=j5 (xuk call hs u rec0) 1 3 12 13 14:=tr (sqN 2 x1ll)
theorem x1ln:x2mj call hs u xxg (j2 (x2i call hs u) 1 3) (setE 0 (j2 (x2i call hs u) 1 3) eNil)=j5 (xak call hs u NN) 1 3 12 13 14:=lp (Ln:=fun n=>j5 (xak call hs u n) 1 3 12 13 14) fun n=>tr x1lm
theorem x1lo:x2mj call hs u xxf (j2 (x2i call hs u) 1 3) eNil=j5 (xak call hs u NN) 1 3 12 13 14:=bk x1ln
theorem x1lp:x2mj call hs u xxe (j2 (x2i call hs u) 1 3) eNil=j2 (xm6 call hs u) 1 3:=tr (sqN 1 x1lo)
theorem x1lq:x2mj call hs u xng r_3 eNil=j2 (xm6 call hs u) 1 3:=sq2 x1li x1lp
theorem x1j4:x2mj call hs u xxd r_3 eNil=j1 (xul call hs u) 0:=tr (sqN 2 x1lq)
noncomputable abbrev x308:=VX xbh 7 r_3
noncomputable def x1lr:=x2ia xbh
theorem x1g3:x308 call hs u x1lr r_3 eNil=j1 (xum call hs u) 0:=by kernel_rfl
noncomputable abbrev x309:=VX xbg 19 r_0
noncomputable def x1ls:=x2ia xbg
theorem x1g2:x309 call hs u x1ls r_0 eNil=j2 (xun call hs u) 0 1:=by kernel_rfl
noncomputable abbrev x2k5:=VX x8w 63 r_17
noncomputable def xxi:=x2ia x8w
noncomputable def xni:=nRs 2 xxi
noncomputable def xxj:=nL xni
noncomputable def xxk:=nR xni
noncomputable def xxl:=nR xxk
noncomputable def xxm:=nR xxl
noncomputable def xxn:=nR xxm
noncomputable def xxo:=nR xxn
noncomputable def xxp:=nR xxo
noncomputable def xnj:=nR xxp
noncomputable def xxq:=nL xnj
noncomputable def xnk:=nR xnj
noncomputable def x1lt:=nL xnk
noncomputable def x1lu:=nR xnk
noncomputable def xxr:=nR xxq
noncomputable def x1lv:=nR xxr
noncomputable def xxs:=nR xxj
noncomputable def x1lw:=nR xxs
theorem x1lx{rec0:AV->AV->AV->AV->Mem->Nat->O2}:x2k5 call hs u x1lu (j4 rec0 0 1 2 6) (setE 3 (j4 rec0 0 1 2 6) (setE 2 r_17 eNil))=j4 (xg2 call hs u rec0) 0 1 2 6:=by kernel_rfl
theorem x1ly{rec0:AV->AV->AV->AV->Mem->Nat->O2}:x2k5 call hs u x1lt (j4 (xg2 call hs u rec0) 0 1 2 6) (setE 3 (j4 rec0 0 1 2 6) (setE 2 r_17 eNil))=j5 (x6u call hs u rec0) 0 1 2 6 7:=by kernel_rfl
theorem x1lz{rec0:AV->AV->AV->AV->Mem->Nat->O2}:x2k5 call hs u xnk (j4 rec0 0 1 2 6) (setE 3 (j4 rec0 0 1 2 6) (setE 2 r_17 eNil))=j5 (x6u call hs u rec0) 0 1 2 6 7:=sq2 x1lx x1ly
theorem x1m0{rec0:AV->AV->AV->AV->Mem->Nat->O2}{rec1:AV->AV->AV->AV->AV->AV->Mem->Nat->O2}:x2k5 call hs u x1lv (j6 rec1 0 1 2 6 7 8) (setE 4 (j5 (x6u call hs u rec0) 0 1 2 6 7) (setE 3 (j4 rec0 0 1 2 6) (setE 2 r_17 eNil)))=j6 (xuo call hs u rec0 rec1) 0 1 2 6 7 8:=by kernel_rfl
theorem x1m1{rec0:AV->AV->AV->AV->Mem->Nat->O2}:x2k5 call hs u xxr (j5 (x6u call hs u rec0) 0 1 2 6 7) (setE 4 (j5 (x6u call hs u rec0) 0 1 2 6 7) (setE 3 (j4 rec0 0 1 2 6) (setE 2 r_17 eNil)))=j6 (x85 call hs u rec0 NN) 0 1 2 6 7 8:=lp (Ln:=fun n=>j6 (x85 call hs u rec0 n) 0 1 2 6 7 8) fun n=>tr x1m0
theorem x1m2{rec0:AV->AV->AV->AV->Mem->Nat->O2}:x2k5 call hs u xxq (j5 (x6u call hs u rec0) 0 1 2 6 7) (setE 3 (j4 rec0 0 1 2 6) (setE 2 r_17 eNil))=j6 (x85 call hs u rec0 NN) 0 1 2 6 7 8:=bk x1m1
theorem x1m3{rec0:AV->AV->AV->AV->Mem->Nat->O2}:x2k5 call hs u xnj (j4 rec0 0 1 2 6) (setE 3 (j4 rec0 0 1 2 6) (setE 2 r_17 eNil))=j6 (x85 call hs u rec0 NN) 0 1 2 6 7 8:=sq2 x1lz x1m2
theorem x1m4{rec0:AV->AV->AV->AV->Mem->Nat->O2}:x2k5 call hs u xxp (j4 rec0 0 1 2 6) (setE 3 (j4 rec0 0 1 2 6) (setE 2 r_17 eNil))=j4 (xm7 call hs u rec0) 0 1 2 6:=tr (sqN 1 x1m3)
theorem x1m5{rec0:AV->AV->AV->AV->Mem->Nat->O2}:x2k5 call hs u xxo (j4 rec0 0 1 2 6) (setE 2 r_17 eNil)=j4 (xm7 call hs u rec0) 0 1 2 6:=bk x1m4
theorem x1m6{rec0:AV->AV->AV->AV->Mem->Nat->O2}:x2k5 call hs u xxn (j4 rec0 0 1 2 6) (setE 2 r_17 eNil)=j4 (xm8 call hs u rec0) 0 1 2 6:=tr (sqN 1 x1m5)
theorem x1m7:x2k5 call hs u xxm r_17 (setE 2 r_17 eNil)=j4 (x86 call hs u NN) 0 1 2 6:=lp (Ln:=fun n=>j4 (x86 call hs u n) 0 1 2 6) fun n=>tr x1m6
theorem x1m8:x2k5 call hs u xxl r_17 eNil=j4 (x86 call hs u NN) 0 1 2 6:=bk x1m7
theorem x1m9:x2k5 call hs u xxk r_17 eNil=j5 (x6v call hs u) 0 1 2 6 7:=tr (sqN 1 x1m8)
theorem x1ma{rec2:AV->AV->AV->AV->AV->AV->Mem->Nat->O2}:x2k5 call hs u x1lw (j6 rec2 0 1 2 6 7 8) (setE 0 (j5 (x6v call hs u) 0 1 2 6 7) eNil)=j6 (xm9 call hs u rec2) 0 1 2 6 7 8:=by kernel_rfl
theorem x1mb:x2k5 call hs u xxs (j5 (x6v call hs u) 0 1 2 6 7) (setE 0 (j5 (x6v call hs u) 0 1 2 6 7) eNil)=j6 (x6w call hs u NN) 0 1 2 6 7 8:=lp (Ln:=fun n=>j6 (x6w call hs u n) 0 1 2 6 7 8) fun n=>tr x1ma
theorem x1mc:x2k5 call hs u xxj (j5 (x6v call hs u) 0 1 2 6 7) eNil=j6 (x6w call hs u NN) 0 1 2 6 7 8:=bk x1mb
theorem x1md:x2k5 call hs u xni r_17 eNil=j6 (x6w call hs u NN) 0 1 2 6 7 8:=sq2 x1m9 x1mc
theorem x1j5:x2k5 call hs u xxi r_17 eNil=j3 (xma call hs u) 0 1 2:=tr (sqN 2 x1md)
noncomputable abbrev x2ld:=VX x6a 134 r_17
noncomputable def xxt:=x2ia x6a
noncomputable def xxu:=nRs 2 xxt
noncomputable def xxv:=nR xxu
noncomputable def xxw:=nR xxv
noncomputable def xxx:=nR xxw
noncomputable def xnl:=nRs 3 xxx
noncomputable def x1me:=nL xnl
noncomputable def xxy:=nR xnl
noncomputable def xnm:=nR xxy
noncomputable def x1mf:=nL xnm
noncomputable def xnn:=nR xnm
noncomputable def x1mg:=nL xnn
noncomputable def x1mh:=nR xnn
theorem x1mi{rec0:AV->AV->AV->AV->AV->AV->Mem->Nat->O2}:x2ld call hs u x1mh (j6 rec0 0 1 2 3 8 9) (setE 1 (j6 rec0 0 1 2 3 8 9) (setE 0 r_17 eNil))=j8 (xg3 call hs u rec0) 0 1 2 3 8 9 10 11:=by kernel_rfl
theorem x1mj{rec0:AV->AV->AV->AV->AV->AV->Mem->Nat->O2}:x2ld call hs u x1mg (j8 (xg3 call hs u rec0) 0 1 2 3 8 9 10 11) (setE 1 (j6 rec0 0 1 2 3 8 9) (setE 0 r_17 eNil))=j9 (xal call hs u rec0) 0 1 2 3 8 9 10 11 12:=by kernel_rfl
theorem x1mk{rec0:AV->AV->AV->AV->AV->AV->Mem->Nat->O2}:x2ld call hs u xnn (j6 rec0 0 1 2 3 8 9) (setE 1 (j6 rec0 0 1 2 3 8 9) (setE 0 r_17 eNil))=j9 (xal call hs u rec0) 0 1 2 3 8 9 10 11 12:=sq2 x1mi x1mj
theorem x1ml{rec0:AV->AV->AV->AV->AV->AV->Mem->Nat->O2}:x2ld call hs u x1mf (j9 (xal call hs u rec0) 0 1 2 3 8 9 10 11 12) (setE 1 (j6 rec0 0 1 2 3 8 9) (setE 0 r_17 eNil))=j9 (xmb call hs u rec0) 0 1 2 3 8 9 10 11 12:=by kernel_rfl
theorem x1mm{rec0:AV->AV->AV->AV->AV->AV->Mem->Nat->O2}:x2ld call hs u xnm (j6 rec0 0 1 2 3 8 9) (setE 1 (j6 rec0 0 1 2 3 8 9) (setE 0 r_17 eNil))=j9 (xmb call hs u rec0) 0 1 2 3 8 9 10 11 12:=sq2 x1mk x1ml
theorem x1mn{rec0:AV->AV->AV->AV->AV->AV->Mem->Nat->O2}:x2ld call hs u xxy (j6 rec0 0 1 2 3 8 9) (setE 1 (j6 rec0 0 1 2 3 8 9) (setE 0 r_17 eNil))=j7 (xg4 call hs u rec0) 0 1 2 3 8 9 10:=tr (sqN 1 x1mm)
theorem x1mo{rec0:AV->AV->AV->AV->AV->AV->Mem->Nat->O2}:x2ld call hs u x1me (j7 (xg4 call hs u rec0) 0 1 2 3 8 9 10) (setE 1 (j6 rec0 0 1 2 3 8 9) (setE 0 r_17 eNil))=j7 (xmc call hs u rec0) 0 1 2 3 8 9 10:=by kernel_rfl
theorem x1mp{rec0:AV->AV->AV->AV->AV->AV->Mem->Nat->O2}:x2ld call hs u xnl (j6 rec0 0 1 2 3 8 9) (setE 1 (j6 rec0 0 1 2 3 8 9) (setE 0 r_17 eNil))=j7 (xmc call hs u rec0) 0 1 2 3 8 9 10:=sq2 x1mn x1mo
theorem x1mq{rec0:AV->AV->AV->AV->AV->AV->Mem->Nat->O2}:x2ld call hs u xxx (j6 rec0 0 1 2 3 8 9) (setE 1 (j6 rec0 0 1 2 3 8 9) (setE 0 r_17 eNil))=j6 (xg5 call hs u rec0) 0 1 2 3 8 9:=tr (sqN 3 x1mp)
theorem x1mr{rec0:AV->AV->AV->AV->AV->AV->Mem->Nat->O2}:x2ld call hs u xxw (j6 rec0 0 1 2 3 8 9) (setE 0 r_17 eNil)=j6 (xg5 call hs u rec0) 0 1 2 3 8 9:=bk x1mq
theorem x1ms:x2ld call hs u xxv r_17 (setE 0 r_17 eNil)=j6 (x87 call hs u NN) 0 1 2 3 8 9:=lp (Ln:=fun n=>j6 (x87 call hs u n) 0 1 2 3 8 9) fun n=>tr x1mr
theorem x1mt:x2ld call hs u xxu r_17 eNil=j6 (x87 call hs u NN) 0 1 2 3 8 9:=bk x1ms
theorem x1j6:x2ld call hs u xxt r_17 eNil=j4 (xmd call hs u) 0 1 2 3:=tr (sqN 2 x1mt)
noncomputable abbrev x30a:=VX x6b 8 r_3
noncomputable def x1mu:=x2ia x6b
theorem x1j7:x30a call hs u x1mu r_3 eNil=j1 (xme call hs u) 0:=by kernel_rfl
noncomputable abbrev x30b:=VX x1o 15 r_1
noncomputable def x1mv:=x2ia x1o
theorem x1fv:x30b call hs u x1mv r_1 eNil=j3 (xmf call hs u) 0 1 2:=by kernel_rfl
noncomputable abbrev x30c:=VX x2z 5 r_3
noncomputable def x1mw:=x2ia x2z
theorem x1j8:x30c call hs u x1mw r_3 eNil=j1 (xmg call hs u) 0:=by kernel_rfl
noncomputable abbrev x30d:=VX x7n 5 r_3
noncomputable def x1mx:=x2ia x7n
theorem x1j9:x30d call hs u x1mx r_3 eNil=j1 (xmh call hs u) 0:=by kernel_rfl
noncomputable abbrev x2ki:=VX x5t 139 r_20
noncomputable abbrev x2xk:=VX (R:=Mem) x5t 139 fNil
noncomputable def xxz:=x2ia x5t
noncomputable def xy0:=nRs 4 xxz
noncomputable def xy1:=nR xy0
noncomputable def xy2:=nR xy1
noncomputable def xy3:=nR xy2
noncomputable def xno:=nR xy3
noncomputable def xy4:=nL xno
noncomputable def xy5:=nR xno
noncomputable def xy6:=nRs 3 xy5
noncomputable def xgj:=nR xy6
noncomputable def x1my:=nL xgj
noncomputable def x1mz:=nR xgj
noncomputable def xy7:=nR xy4
noncomputable def xy8:=nR xy7
noncomputable def xy9:=nR xy8
noncomputable def xnp:=nRs 2 xy9
noncomputable def x1n0:=nL xnp
noncomputable def x1n1:=nR xnp
theorem x1n2:x2xk call hs u x1mz (fun s=>some s.m) eNil=j4 (xmi call hs u) 2 5 7 10:=by kernel_rfl
theorem x1n3:x2xk call hs u x1my (j4 (xmi call hs u) 2 5 7 10) eNil=j4 (xup call hs u) 2 5 7 87:=by kernel_rfl
theorem x1n4{rec0:AV->AV->AV->AV->Mem->Nat->O2}:x2ki call hs u xgj (j4 rec0 2 4 5 6) (setE 4 (j4 rec0 2 4 5 6) (setE 1 (j4 rec0 2 4 5 6) (setE 0 r_20 eNil)))=j6 (xmj call hs u rec0) 2 4 5 6 7 86:=tr (rg (C:=xgj) (c:={f:=x5t,u:=u,nt:=139,hs:=hs}) (f:=(.tmp 86)) (ps:=#[87]) (fun u=>x1n2) (fun u=>x1n3))
theorem x1n5{rec0:AV->AV->AV->AV->Mem->Nat->O2}:x2ki call hs u xy6 (j4 rec0 2 4 5 6) (setE 1 (j4 rec0 2 4 5 6) (setE 0 r_20 eNil))=j6 (xmj call hs u rec0) 2 4 5 6 7 86:=bk x1n4
theorem x1n6{rec0:AV->AV->AV->AV->Mem->Nat->O2}:x2ki call hs u xy5 (j4 rec0 2 4 5 6) (setE 1 (j4 rec0 2 4 5 6) (setE 0 r_20 eNil))=j5 (x2j call hs u rec0) 2 4 5 6 7:=tr (sqN 3 x1n5)
theorem x1n7{rec0:AV->AV->AV->AV->Mem->Nat->O2}{rec1:AV->AV->AV->AV->AV->AV->AV->AV->Mem->Nat->O2}:x2ki call hs u x1n1 (j8 rec1 2 4 5 6 7 47 48 49) (setE 2 (j5 (x2j call hs u rec0) 2 4 5 6 7) (setE 1 (j4 rec0 2 4 5 6) (setE 0 r_20 eNil)))=j8 (xg6 call hs u rec0 rec1) 2 4 5 6 7 47 48 49:=by kernel_rfl
theorem x1n8{rec0:AV->AV->AV->AV->Mem->Nat->O2}{rec1:AV->AV->AV->AV->AV->AV->AV->AV->Mem->Nat->O2}:x2ki call hs u x1n0 (j8 (xg6 call hs u rec0 rec1) 2 4 5 6 7 47 48 49) (setE 2 (j5 (x2j call hs u rec0) 2 4 5 6 7) (setE 1 (j4 rec0 2 4 5 6) (setE 0 r_20 eNil)))=j8 (xmk call hs u rec0 rec1) 2 4 5 6 7 47 48 49:=by kernel_rfl
theorem x1n9{rec0:AV->AV->AV->AV->Mem->Nat->O2}{rec1:AV->AV->AV->AV->AV->AV->AV->AV->Mem->Nat->O2}:x2ki call hs u xnp (j8 rec1 2 4 5 6 7 47 48 49) (setE 2 (j5 (x2j call hs u rec0) 2 4 5 6 7) (setE 1 (j4 rec0 2 4 5 6) (setE 0 r_20 eNil)))=j8 (xmk call hs u rec0 rec1) 2 4 5 6 7 47 48 49:=sq2 x1n7 x1n8
theorem x1na{rec0:AV->AV->AV->AV->Mem->Nat->O2}{rec1:AV->AV->AV->AV->AV->AV->AV->AV->Mem->Nat->O2}:x2ki call hs u xy9 (j8 rec1 2 4 5 6 7 47 48 49) (setE 2 (j5 (x2j call hs u rec0) 2 4 5 6 7) (setE 1 (j4 rec0 2 4 5 6) (setE 0 r_20 eNil)))=j8 (xuq call hs u rec0 rec1) 2 4 5 6 7 47 48 49:=tr (sqN 2 x1n9)
theorem x1nb{rec0:AV->AV->AV->AV->Mem->Nat->O2}:x2ki call hs u xy8 (j5 (x2j call hs u rec0) 2 4 5 6 7) (setE 2 (j5 (x2j call hs u rec0) 2 4 5 6 7) (setE 1 (j4 rec0 2 4 5 6) (setE 0 r_20 eNil)))=j8 (xan call hs u rec0 NN) 2 4 5 6 7 47 48 49:=lp (Ln:=fun n=>j8 (xan call hs u rec0 n) 2 4 5 6 7 47 48 49) fun n=>tr x1na
theorem x1nc{rec0:AV->AV->AV->AV->Mem->Nat->O2}:x2ki call hs u xy7 (j5 (x2j call hs u rec0) 2 4 5 6 7) (setE 1 (j4 rec0 2 4 5 6) (setE 0 r_20 eNil))=j8 (xan call hs u rec0 NN) 2 4 5 6 7 47 48 49:=bk x1nb
theorem x1nd{rec0:AV->AV->AV->AV->Mem->Nat->O2}:x2ki call hs u xy4 (j5 (x2j call hs u rec0) 2 4 5 6 7) (setE 1 (j4 rec0 2 4 5 6) (setE 0 r_20 eNil))=j5 (xml call hs u rec0) 2 4 5 6 7:=tr (sqN 1 x1nc)
theorem x1ne{rec0:AV->AV->AV->AV->Mem->Nat->O2}:x2ki call hs u xno (j4 rec0 2 4 5 6) (setE 1 (j4 rec0 2 4 5 6) (setE 0 r_20 eNil))=j5 (xml call hs u rec0) 2 4 5 6 7:=sq2 x1n6 x1nd
theorem x1nf{rec0:AV->AV->AV->AV->Mem->Nat->O2}:x2ki call hs u xy3 (j4 rec0 2 4 5 6) (setE 1 (j4 rec0 2 4 5 6) (setE 0 r_20 eNil))=j4 (xmm call hs u rec0) 2 4 5 6:=tr (sqN 1 x1ne)
theorem x1ng{rec0:AV->AV->AV->AV->Mem->Nat->O2}:x2ki call hs u xy2 (j4 rec0 2 4 5 6) (setE 0 r_20 eNil)=j4 (xmm call hs u rec0) 2 4 5 6:=bk x1nf
theorem x1nh:x2ki call hs u xy1 r_20 (setE 0 r_20 eNil)=j4 (xao call hs u NN) 2 4 5 6:=lp (Ln:=fun n=>j4 (xao call hs u n) 2 4 5 6) fun n=>tr x1ng
theorem x1ni:x2ki call hs u xy0 r_20 eNil=j4 (xao call hs u NN) 2 4 5 6:=bk x1nh
theorem x1fx:x2ki call hs u xxz r_20 eNil=j2 (xur call hs u) 0 1:=tr (sqN 4 x1ni)
noncomputable abbrev x2lq:=VX x8x 48 r_0
noncomputable def xya:=x2ia x8x
noncomputable def xnq:=nR xya
noncomputable def x1nj:=nL xnq
noncomputable def xyb:=nR xnq
noncomputable def xnr:=nR xyb
noncomputable def x1nk:=nL xnr
noncomputable def xyc:=nR xnr
noncomputable def xns:=nRs 2 xyc
noncomputable def xyd:=nL xns
noncomputable def x1nl:=nR xns
noncomputable def xye:=nR xyd
noncomputable def x1nm:=nR xye
theorem x1nn:x2lq call hs u x1nl r_0 eNil=j1 (x88 call hs u) 7:=by kernel_rfl
theorem x1no{rec0:AV->AV->Mem->Nat->O2}:x2lq call hs u x1nm (j2 rec0 7 8) (setE 0 (j1 (x88 call hs u) 7) eNil)=j2 (xus call hs u rec0) 7 8:=by kernel_rfl
theorem x1np:x2lq call hs u xye (j1 (x88 call hs u) 7) (setE 0 (j1 (x88 call hs u) 7) eNil)=j2 (x89 call hs u NN) 7 8:=lp (Ln:=fun n=>j2 (x89 call hs u n) 7 8) fun n=>tr x1no
theorem x1nq:x2lq call hs u xyd (j1 (x88 call hs u) 7) eNil=j2 (x89 call hs u NN) 7 8:=bk x1np
theorem x1nr:x2lq call hs u xns r_0 eNil=j2 (x89 call hs u NN) 7 8:=sq2 x1nn x1nq
theorem x1ns:x2lq call hs u xyc r_0 eNil=j2 (xmn call hs u) 0 6:=tr (sqN 2 x1nr)
theorem x1nt:x2lq call hs u x1nk (j2 (xmn call hs u) 0 6) eNil=j3 (xmo call hs u) 0 5 6:=by kernel_rfl
theorem x1nu:x2lq call hs u xnr r_0 eNil=j3 (xmo call hs u) 0 5 6:=sq2 x1ns x1nt
theorem x1nv:x2lq call hs u xyb r_0 eNil=j2 (xmp call hs u) 0 1:=tr (sqN 1 x1nu)
theorem x1nw:x2lq call hs u x1nj (j2 (xmp call hs u) 0 1) eNil=j2 (xmq call hs u) 0 1:=by kernel_rfl
theorem x1nx:x2lq call hs u xnq r_0 eNil=j2 (xmq call hs u) 0 1:=sq2 x1nv x1nw
theorem x1ja:x2lq call hs u xya r_0 eNil=j2 (xut call hs u) 0 1:=tr (sqN 1 x1nx)
noncomputable abbrev x30e:=VX xbb 18 r_17
noncomputable def x1ny:=x2ia xbb
theorem x1fw:x30e call hs u x1ny r_17 eNil=j4 (xuu call hs u) 0 1 2 3:=by kernel_rfl
noncomputable abbrev x2s7:=VX xbd 20 r_17
noncomputable def xyf:=x2ia xbd
noncomputable def xyg:=nR xyf
noncomputable def xyh:=nR xyg
noncomputable def x1nz:=nR xyh
theorem x1o0{rec0:AV->AV->AV->AV->Mem->Nat->O2}:x2s7 call hs u x1nz (j4 rec0 1 10 11 12) (setE 0 r_17 eNil)=j4 (xuv call hs u rec0) 1 10 11 12:=by kernel_rfl
theorem x1o1:x2s7 call hs u xyh r_17 (setE 0 r_17 eNil)=j4 (xap call hs u NN) 1 10 11 12:=lp (Ln:=fun n=>j4 (xap call hs u n) 1 10 11 12) fun n=>tr x1o0
theorem x1o2:x2s7 call hs u xyg r_17 eNil=j4 (xap call hs u NN) 1 10 11 12:=bk x1o1
theorem x1fz:x2s7 call hs u xyf r_17 eNil=j3 (xuw call hs u) 0 1 2:=tr (sqN 1 x1o2)
noncomputable abbrev x2m4:=VX x6c 53 r_17
noncomputable def xyi:=x2ia x6c
noncomputable def xyj:=nR xyi
noncomputable def xyk:=nR xyj
noncomputable def xyl:=nR xyk
noncomputable def xnt:=nR xyl
noncomputable def xym:=nL xnt
noncomputable def x1o3:=nR xnt
noncomputable def xyn:=nR xym
noncomputable def xyo:=nR xyn
noncomputable def xyp:=nR xyo
noncomputable def x1o4:=nR xyp
theorem x1o5{rec0:AV->AV->AV->AV->AV->Mem->Nat->O2}:x2m4 call hs u x1o3 (j5 rec0 0 1 2 3 8) (setE 0 r_17 eNil)=j5 (x1b call hs u rec0) 0 1 2 3 8:=by kernel_rfl
theorem x1o6{rec0:AV->AV->AV->AV->AV->Mem->Nat->O2}{rec1:AV->AV->AV->AV->AV->AV->Mem->Nat->O2}:x2m4 call hs u x1o4 (j6 rec1 0 1 2 3 8 9) (setE 2 (j5 (x1b call hs u rec0) 0 1 2 3 8) (setE 1 (j5 (x1b call hs u rec0) 0 1 2 3 8) (setE 0 r_17 eNil)))=j6 (xg7 call hs u rec0 rec1) 0 1 2 3 8 9:=by kernel_rfl
theorem x1o7{rec0:AV->AV->AV->AV->AV->Mem->Nat->O2}:x2m4 call hs u xyp (j5 (x1b call hs u rec0) 0 1 2 3 8) (setE 2 (j5 (x1b call hs u rec0) 0 1 2 3 8) (setE 1 (j5 (x1b call hs u rec0) 0 1 2 3 8) (setE 0 r_17 eNil)))=j6 (x5n call hs u rec0 NN) 0 1 2 3 8 9:=lp (Ln:=fun n=>j6 (x5n call hs u rec0 n) 0 1 2 3 8 9) fun n=>tr x1o6
theorem x1o8{rec0:AV->AV->AV->AV->AV->Mem->Nat->O2}:x2m4 call hs u xyo (j5 (x1b call hs u rec0) 0 1 2 3 8) (setE 1 (j5 (x1b call hs u rec0) 0 1 2 3 8) (setE 0 r_17 eNil))=j6 (x5n call hs u rec0 NN) 0 1 2 3 8 9:=bk x1o7
theorem x1o9{rec0:AV->AV->AV->AV->AV->Mem->Nat->O2}:x2m4 call hs u xyn (j5 (x1b call hs u rec0) 0 1 2 3 8) (setE 1 (j5 (x1b call hs u rec0) 0 1 2 3 8) (setE 0 r_17 eNil))=j5 (xaq call hs u rec0) 0 1 2 3 8:=tr (sqN 1 x1o8)
theorem x1oa{rec0:AV->AV->AV->AV->AV->Mem->Nat->O2}:x2m4 call hs u xym (j5 (x1b call hs u rec0) 0 1 2 3 8) (setE 0 r_17 eNil)=j5 (xaq call hs u rec0) 0 1 2 3 8:=bk x1o9
theorem x1ob{rec0:AV->AV->AV->AV->AV->Mem->Nat->O2}:x2m4 call hs u xnt (j5 rec0 0 1 2 3 8) (setE 0 r_17 eNil)=j5 (xaq call hs u rec0) 0 1 2 3 8:=sq2 x1o5 x1oa
theorem x1oc{rec0:AV->AV->AV->AV->AV->Mem->Nat->O2}:x2m4 call hs u xyl (j5 rec0 0 1 2 3 8) (setE 0 r_17 eNil)=j5 (xar call hs u rec0) 0 1 2 3 8:=tr (sqN 1 x1ob)
theorem x1od:x2m4 call hs u xyk r_17 (setE 0 r_17 eNil)=j5 (x2k call hs u NN) 0 1 2 3 8:=lp (Ln:=fun n=>j5 (x2k call hs u n) 0 1 2 3 8) fun n=>tr x1oc
theorem x1oe:x2m4 call hs u xyj r_17 eNil=j5 (x2k call hs u NN) 0 1 2 3 8:=bk x1od
theorem x1jb:x2m4 call hs u xyi r_17 eNil=j4 (xmr call hs u) 0 1 2 3:=tr (sqN 1 x1oe)
noncomputable abbrev x2it:=VX x6d 220 r_17
noncomputable def xnu:=x2ia x6d
noncomputable def xyq:=nL xnu
noncomputable def xnv:=nR xnu
noncomputable def xyr:=nL xnv
noncomputable def xys:=nR xnv
noncomputable def xnw:=nRs 3 xys
noncomputable def x1of:=nL xnw
noncomputable def xyt:=nR xnw
noncomputable def xnx:=nR xyt
noncomputable def xyu:=nL xnx
noncomputable def xyv:=nR xnx
noncomputable def xny:=nR xyv
noncomputable def x1og:=nL xny
noncomputable def xnz:=nR xny
noncomputable def x1oh:=nL xnz
noncomputable def x1oi:=nR xnz
noncomputable def xyw:=nR xyu
noncomputable def x1oj:=nR xyw
noncomputable def xo0:=nR xyr
noncomputable def xyx:=nL xo0
noncomputable def x1ok:=nR xo0
noncomputable def xo1:=nRs 2 xyx
noncomputable def xyy:=nL xo1
noncomputable def xo2:=nR xo1
noncomputable def xyz:=nL xo2
noncomputable def x1ol:=nR xo2
noncomputable def xz0:=nR xyz
noncomputable def xz1:=nR xz0
noncomputable def x1om:=nR xz1
noncomputable def xz2:=nR xyy
noncomputable def x1on:=nR xz2
noncomputable def xo3:=nR xyq
noncomputable def xz3:=nL xo3
noncomputable def x1oo:=nR xo3
noncomputable def xo4:=nRs 2 xz3
noncomputable def xz4:=nL xo4
noncomputable def xo5:=nR xo4
noncomputable def xz5:=nL xo5
noncomputable def x1op:=nR xo5
noncomputable def xz6:=nR xz5
noncomputable def xz7:=nR xz6
noncomputable def x1oq:=nR xz7
noncomputable def xz8:=nR xz4
noncomputable def x1or:=nR xz8
theorem x1os:x2it call hs u x1oi r_17 eNil=j5 (xg8 call hs u) 0 3 4 18 24:=by kernel_rfl
theorem x1ot:x2it call hs u x1oh (j5 (xg8 call hs u) 0 3 4 18 24) eNil=j7 (xas call hs u) 0 1 3 4 18 20 24:=by kernel_rfl
theorem x1ou:x2it call hs u xnz r_17 eNil=j7 (xas call hs u) 0 1 3 4 18 20 24:=sq2 x1os x1ot
theorem x1ov:x2it call hs u x1og (j7 (xas call hs u) 0 1 3 4 18 20 24) eNil=j8 (xms call hs u) 0 1 2 3 4 18 20 24:=by kernel_rfl
theorem x1ow:x2it call hs u xny r_17 eNil=j8 (xms call hs u) 0 1 2 3 4 18 20 24:=sq2 x1ou x1ov
theorem x1ox:x2it call hs u xyv r_17 eNil=j8 (x8a call hs u) 0 1 2 3 4 18 19 20:=tr (sqN 1 x1ow)
theorem x1oy{rec0:AV->AV->AV->AV->AV->AV->AV->AV->AV->AV->Mem->Nat->O2}:x2it call hs u x1oj (j10 rec0 0 1 2 3 4 18 19 20 21 22) (setE 8 (j8 (x8a call hs u) 0 1 2 3 4 18 19 20) eNil)=j10 (xux call hs u rec0) 0 1 2 3 4 18 19 20 21 22:=by kernel_rfl
theorem x1oz:x2it call hs u xyw (j8 (x8a call hs u) 0 1 2 3 4 18 19 20) (setE 8 (j8 (x8a call hs u) 0 1 2 3 4 18 19 20) eNil)=j10 (x8b call hs u NN) 0 1 2 3 4 18 19 20 21 22:=lp (Ln:=fun n=>j10 (x8b call hs u n) 0 1 2 3 4 18 19 20 21 22) fun n=>tr x1oy
theorem x1p0:x2it call hs u xyu (j8 (x8a call hs u) 0 1 2 3 4 18 19 20) eNil=j10 (x8b call hs u NN) 0 1 2 3 4 18 19 20 21 22:=bk x1oz
theorem x1p1:x2it call hs u xnx r_17 eNil=j10 (x8b call hs u NN) 0 1 2 3 4 18 19 20 21 22:=sq2 x1ox x1p0
theorem x1p2:x2it call hs u xyt r_17 eNil=j9 (xg9 call hs u) 0 1 2 3 4 18 19 20 21:=tr (sqN 1 x1p1)
theorem x1p3:x2it call hs u x1of (j9 (xg9 call hs u) 0 1 2 3 4 18 19 20 21) eNil=j7 (xmt call hs u) 0 1 2 3 4 18 19:=by kernel_rfl
theorem x1p4:x2it call hs u xnw r_17 eNil=j7 (xmt call hs u) 0 1 2 3 4 18 19:=sq2 x1p2 x1p3
theorem x1p5:x2it call hs u xys r_17 eNil=j5 (x3g call hs u) 0 1 2 3 4:=tr (sqN 3 x1p4)
theorem x1p6:x2it call hs u x1ol (j5 (x3g call hs u) 0 1 2 3 4) eNil=j0 (x6x call hs u):=by kernel_rfl
theorem x1p7{rec1:AV->AV->AV->Mem->Nat->O2}:x2it call hs u x1om (j3 rec1 0 14 17) (setE 6 (j0 (x6x call hs u)) eNil)=j3 (xuy call hs u rec1) 0 14 17:=by kernel_rfl
theorem x1p8:x2it call hs u xz1 (j0 (x6x call hs u)) (setE 6 (j0 (x6x call hs u)) eNil)=j3 (xat call hs u NN) 0 14 17:=lp (Ln:=fun n=>j3 (xat call hs u n) 0 14 17) fun n=>tr x1p7
theorem x1p9:x2it call hs u xz0 (j0 (x6x call hs u)) eNil=j3 (xat call hs u NN) 0 14 17:=bk x1p8
theorem x1pa:x2it call hs u xyz (j0 (x6x call hs u)) eNil=j3 (x6y call hs u) 0 2 14:=tr (sqN 1 x1p9)
theorem x1pb:x2it call hs u xo2 (j5 (x3g call hs u) 0 1 2 3 4) eNil=j3 (x6y call hs u) 0 2 14:=sq2 x1p6 x1pa
theorem x1pc{rec2:AV->AV->AV->AV->AV->Mem->Nat->O2}:x2it call hs u x1on (j5 rec2 0 2 4 14 15) (setE 4 (j3 (x6y call hs u) 0 2 14) eNil)=j5 (xuz call hs u rec2) 0 2 4 14 15:=by kernel_rfl
theorem x1pd:x2it call hs u xz2 (j3 (x6y call hs u) 0 2 14) (setE 4 (j3 (x6y call hs u) 0 2 14) eNil)=j5 (x8c call hs u NN) 0 2 4 14 15:=lp (Ln:=fun n=>j5 (x8c call hs u n) 0 2 4 14 15) fun n=>tr x1pc
theorem x1pe:x2it call hs u xyy (j3 (x6y call hs u) 0 2 14) eNil=j5 (x8c call hs u NN) 0 2 4 14 15:=bk x1pd
theorem x1pf:x2it call hs u xo1 (j5 (x3g call hs u) 0 1 2 3 4) eNil=j5 (x8c call hs u NN) 0 2 4 14 15:=sq2 x1pb x1pe
theorem x1pg:x2it call hs u xyx (j5 (x3g call hs u) 0 1 2 3 4) eNil=j4 (xv0 call hs u) 0 1 2 4:=tr (sqN 2 x1pf)
theorem x1ph:x2it call hs u x1ok (j5 (x3g call hs u) 0 1 2 3 4) eNil=j5 (xv1 call hs u) 0 1 2 3 4:=by kernel_rfl
theorem x1pi:x2it call hs u xo0 (j5 (x3g call hs u) 0 1 2 3 4) eNil=j6 (xv2 call hs u) 0 1 2 3 4 80:=tr (cd x1pg x1ph)
theorem x1pj:x2it call hs u xyr (j5 (x3g call hs u) 0 1 2 3 4) eNil=j5 (x2l call hs u) 0 1 2 3 4:=tr (sqN 1 x1pi)
theorem x1pk:x2it call hs u xnv r_17 eNil=j5 (x2l call hs u) 0 1 2 3 4:=sq2 x1p5 x1pj
theorem x1pl:x2it call hs u x1op (j5 (x2l call hs u) 0 1 2 3 4) eNil=j0 (x6z call hs u):=by kernel_rfl
theorem x1pm{rec3:AV->AV->AV->Mem->Nat->O2}:x2it call hs u x1oq (j3 rec3 0 10 13) (setE 2 (j0 (x6z call hs u)) eNil)=j3 (xv3 call hs u rec3) 0 10 13:=by kernel_rfl
theorem x1pn:x2it call hs u xz7 (j0 (x6z call hs u)) (setE 2 (j0 (x6z call hs u)) eNil)=j3 (xau call hs u NN) 0 10 13:=lp (Ln:=fun n=>j3 (xau call hs u n) 0 10 13) fun n=>tr x1pm
theorem x1po:x2it call hs u xz6 (j0 (x6z call hs u)) eNil=j3 (xau call hs u NN) 0 10 13:=bk x1pn
theorem x1pp:x2it call hs u xz5 (j0 (x6z call hs u)) eNil=j3 (x70 call hs u) 0 1 10:=tr (sqN 1 x1po)
theorem x1pq:x2it call hs u xo5 (j5 (x2l call hs u) 0 1 2 3 4) eNil=j3 (x70 call hs u) 0 1 10:=sq2 x1pl x1pp
theorem x1pr{rec4:AV->AV->AV->AV->AV->Mem->Nat->O2}:x2it call hs u x1or (j5 rec4 0 1 4 10 11) (setE 0 (j3 (x70 call hs u) 0 1 10) eNil)=j5 (xv4 call hs u rec4) 0 1 4 10 11:=by kernel_rfl
theorem x1ps:x2it call hs u xz8 (j3 (x70 call hs u) 0 1 10) (setE 0 (j3 (x70 call hs u) 0 1 10) eNil)=j5 (x8d call hs u NN) 0 1 4 10 11:=lp (Ln:=fun n=>j5 (x8d call hs u n) 0 1 4 10 11) fun n=>tr x1pr
theorem x1pt:x2it call hs u xz4 (j3 (x70 call hs u) 0 1 10) eNil=j5 (x8d call hs u NN) 0 1 4 10 11:=bk x1ps
theorem x1pu:x2it call hs u xo4 (j5 (x2l call hs u) 0 1 2 3 4) eNil=j5 (x8d call hs u NN) 0 1 4 10 11:=sq2 x1pq x1pt
theorem x1pv:x2it call hs u xz3 (j5 (x2l call hs u) 0 1 2 3 4) eNil=j5 (xv5 call hs u) 0 1 2 3 4:=tr (sqN 2 x1pu)
theorem x1pw:x2it call hs u x1oo (j5 (x2l call hs u) 0 1 2 3 4) eNil=j5 (xv6 call hs u) 0 1 2 3 4:=by kernel_rfl
theorem x1px:x2it call hs u xo3 (j5 (x2l call hs u) 0 1 2 3 4) eNil=j6 (xv7 call hs u) 0 1 2 3 4 28:=tr (cd x1pv x1pw)
theorem x1py:x2it call hs u xyq (j5 (x2l call hs u) 0 1 2 3 4) eNil=j5 (xmu call hs u) 0 1 2 3 4:=tr (sqN 1 x1px)
theorem x1jc:x2it call hs u xnu r_17 eNil=j5 (xmu call hs u) 0 1 2 3 4:=sq2 x1pk x1py
noncomputable abbrev x2m5:=VX x7o 49 r_17
noncomputable def xz9:=x2ia x7o
noncomputable def xza:=nR xz9
noncomputable def xzb:=nR xza
noncomputable def xzc:=nR xzb
noncomputable def xo6:=nR xzc
noncomputable def xzd:=nL xo6
noncomputable def x1pz:=nR xo6
noncomputable def xze:=nR xzd
noncomputable def xzf:=nR xze
noncomputable def xzg:=nR xzf
noncomputable def x1q0:=nR xzg
theorem x1q1{rec0:AV->AV->AV->AV->Mem->Nat->O2}:x2m5 call hs u x1pz (j4 rec0 0 1 2 6) (setE 0 r_17 eNil)=j4 (x1c call hs u rec0) 0 1 2 6:=by kernel_rfl
theorem x1q2{rec0:AV->AV->AV->AV->Mem->Nat->O2}{rec1:AV->AV->AV->AV->AV->Mem->Nat->O2}:x2m5 call hs u x1q0 (j5 rec1 0 1 2 6 7) (setE 2 (j4 (x1c call hs u rec0) 0 1 2 6) (setE 1 (j4 (x1c call hs u rec0) 0 1 2 6) (setE 0 r_17 eNil)))=j5 (xga call hs u rec0 rec1) 0 1 2 6 7:=by kernel_rfl
theorem x1q3{rec0:AV->AV->AV->AV->Mem->Nat->O2}:x2m5 call hs u xzg (j4 (x1c call hs u rec0) 0 1 2 6) (setE 2 (j4 (x1c call hs u rec0) 0 1 2 6) (setE 1 (j4 (x1c call hs u rec0) 0 1 2 6) (setE 0 r_17 eNil)))=j5 (x5o call hs u rec0 NN) 0 1 2 6 7:=lp (Ln:=fun n=>j5 (x5o call hs u rec0 n) 0 1 2 6 7) fun n=>tr x1q2
theorem x1q4{rec0:AV->AV->AV->AV->Mem->Nat->O2}:x2m5 call hs u xzf (j4 (x1c call hs u rec0) 0 1 2 6) (setE 1 (j4 (x1c call hs u rec0) 0 1 2 6) (setE 0 r_17 eNil))=j5 (x5o call hs u rec0 NN) 0 1 2 6 7:=bk x1q3
theorem x1q5{rec0:AV->AV->AV->AV->Mem->Nat->O2}:x2m5 call hs u xze (j4 (x1c call hs u rec0) 0 1 2 6) (setE 1 (j4 (x1c call hs u rec0) 0 1 2 6) (setE 0 r_17 eNil))=j4 (xav call hs u rec0) 0 1 2 6:=tr (sqN 1 x1q4)
theorem x1q6{rec0:AV->AV->AV->AV->Mem->Nat->O2}:x2m5 call hs u xzd (j4 (x1c call hs u rec0) 0 1 2 6) (setE 0 r_17 eNil)=j4 (xav call hs u rec0) 0 1 2 6:=bk x1q5
theorem x1q7{rec0:AV->AV->AV->AV->Mem->Nat->O2}:x2m5 call hs u xo6 (j4 rec0 0 1 2 6) (setE 0 r_17 eNil)=j4 (xav call hs u rec0) 0 1 2 6:=sq2 x1q1 x1q6
theorem x1q8{rec0:AV->AV->AV->AV->Mem->Nat->O2}:x2m5 call hs u xzc (j4 rec0 0 1 2 6) (setE 0 r_17 eNil)=j4 (xaw call hs u rec0) 0 1 2 6:=tr (sqN 1 x1q7)
theorem x1q9:x2m5 call hs u xzb r_17 (setE 0 r_17 eNil)=j4 (x2m call hs u NN) 0 1 2 6:=lp (Ln:=fun n=>j4 (x2m call hs u n) 0 1 2 6) fun n=>tr x1q8
theorem x1qa:x2m5 call hs u xza r_17 eNil=j4 (x2m call hs u NN) 0 1 2 6:=bk x1q9
theorem x1jd:x2m5 call hs u xz9 r_17 eNil=j3 (xmv call hs u) 0 1 2:=tr (sqN 1 x1qa)
noncomputable abbrev x2mk:=VX xc9 56 r_17
noncomputable def xzh:=x2ia xc9
noncomputable def xo7:=nRs 3 xzh
noncomputable def xzi:=nL xo7
noncomputable def xzj:=nR xo7
noncomputable def xzk:=nR xzj
noncomputable def xzl:=nR xzk
noncomputable def x1qb:=nR xzl
noncomputable def xzm:=nR xzi
noncomputable def xzn:=nR xzm
noncomputable def x1qc:=nR xzn
theorem x1qd{rec0:AV->AV->AV->AV->Mem->Nat->O2}:x2mk call hs u x1qb (j4 rec0 0 6 7 10) (setE 2 r_17 eNil)=j4 (xv8 call hs u rec0) 0 6 7 10:=by kernel_rfl
theorem x1qe:x2mk call hs u xzl r_17 (setE 2 r_17 eNil)=j4 (xax call hs u NN) 0 6 7 10:=lp (Ln:=fun n=>j4 (xax call hs u n) 0 6 7 10) fun n=>tr x1qd
theorem x1qf:x2mk call hs u xzk r_17 eNil=j4 (xax call hs u NN) 0 6 7 10:=bk x1qe
theorem x1qg:x2mk call hs u xzj r_17 eNil=j4 (x71 call hs u) 0 6 7 8:=tr (sqN 1 x1qf)
theorem x1qh{rec1:AV->AV->AV->AV->AV->Mem->Nat->O2}:x2mk call hs u x1qc (j5 rec1 0 6 7 8 9) (setE 0 (j4 (x71 call hs u) 0 6 7 8) eNil)=j5 (xv9 call hs u rec1) 0 6 7 8 9:=by kernel_rfl
theorem x1qi:x2mk call hs u xzn (j4 (x71 call hs u) 0 6 7 8) (setE 0 (j4 (x71 call hs u) 0 6 7 8) eNil)=j5 (xay call hs u NN) 0 6 7 8 9:=lp (Ln:=fun n=>j5 (xay call hs u n) 0 6 7 8 9) fun n=>tr x1qh
theorem x1qj:x2mk call hs u xzm (j4 (x71 call hs u) 0 6 7 8) eNil=j5 (xay call hs u NN) 0 6 7 8 9:=bk x1qi
theorem x1qk:x2mk call hs u xzi (j4 (x71 call hs u) 0 6 7 8) eNil=j4 (xmw call hs u) 0 6 7 8:=tr (sqN 1 x1qj)
theorem x1ql:x2mk call hs u xo7 r_17 eNil=j4 (xmw call hs u) 0 6 7 8:=sq2 x1qg x1qk
theorem x1je:x2mk call hs u xzh r_17 eNil=j3 (xva call hs u) 0 1 2:=tr (sqN 3 x1ql)
noncomputable abbrev x2l2:=VX xca 65 r_17
noncomputable def xzo:=x2ia xca
noncomputable def xo8:=nRs 2 xzo
noncomputable def xzp:=nL xo8
noncomputable def x1qm:=nR xo8
noncomputable def xzq:=nRs 3 xzp
noncomputable def xzr:=nR xzq
noncomputable def xzs:=nR xzr
noncomputable def xo9:=nR xzs
noncomputable def xzt:=nL xo9
noncomputable def x1qn:=nR xo9
noncomputable def xzu:=nR xzt
noncomputable def xoa:=nR xzu
noncomputable def x1qo:=nL xoa
noncomputable def x1qp:=nR xoa
theorem x1qq{rec0:AV->AV->AV->AV->AV->AV->Mem->Nat->O2}:x2l2 call hs u x1qn (j6 rec0 0 1 6 7 8 9) (setE 0 r_17 eNil)=j6 (x2n call hs u rec0) 0 1 6 7 8 9:=by kernel_rfl
theorem x1qr{rec0:AV->AV->AV->AV->AV->AV->Mem->Nat->O2}:x2l2 call hs u x1qp (j6 (x2n call hs u rec0) 0 1 6 7 8 9) (setE 1 (j6 (x2n call hs u rec0) 0 1 6 7 8 9) (setE 0 r_17 eNil))=j7 (xgb call hs u rec0) 0 1 6 7 8 9 10:=by kernel_rfl
theorem x1qs{rec0:AV->AV->AV->AV->AV->AV->Mem->Nat->O2}:x2l2 call hs u x1qo (j7 (xgb call hs u rec0) 0 1 6 7 8 9 10) (setE 1 (j6 (x2n call hs u rec0) 0 1 6 7 8 9) (setE 0 r_17 eNil))=j7 (xmx call hs u rec0) 0 1 6 7 8 9 10:=by kernel_rfl
theorem x1qt{rec0:AV->AV->AV->AV->AV->AV->Mem->Nat->O2}:x2l2 call hs u xoa (j6 (x2n call hs u rec0) 0 1 6 7 8 9) (setE 1 (j6 (x2n call hs u rec0) 0 1 6 7 8 9) (setE 0 r_17 eNil))=j7 (xmx call hs u rec0) 0 1 6 7 8 9 10:=sq2 x1qr x1qs
theorem x1qu{rec0:AV->AV->AV->AV->AV->AV->Mem->Nat->O2}:x2l2 call hs u xzu (j6 (x2n call hs u rec0) 0 1 6 7 8 9) (setE 1 (j6 (x2n call hs u rec0) 0 1 6 7 8 9) (setE 0 r_17 eNil))=j6 (xgc call hs u rec0) 0 1 6 7 8 9:=tr (sqN 1 x1qt)
theorem x1qv{rec0:AV->AV->AV->AV->AV->AV->Mem->Nat->O2}:x2l2 call hs u xzt (j6 (x2n call hs u rec0) 0 1 6 7 8 9) (setE 0 r_17 eNil)=j6 (xgc call hs u rec0) 0 1 6 7 8 9:=bk x1qu
theorem x1qw{rec0:AV->AV->AV->AV->AV->AV->Mem->Nat->O2}:x2l2 call hs u xo9 (j6 rec0 0 1 6 7 8 9) (setE 0 r_17 eNil)=j6 (xgc call hs u rec0) 0 1 6 7 8 9:=sq2 x1qq x1qv
theorem x1qx{rec0:AV->AV->AV->AV->AV->AV->Mem->Nat->O2}:x2l2 call hs u xzs (j6 rec0 0 1 6 7 8 9) (setE 0 r_17 eNil)=j6 (xvb call hs u rec0) 0 1 6 7 8 9:=tr (sqN 1 x1qw)
theorem x1qy:x2l2 call hs u xzr r_17 (setE 0 r_17 eNil)=j6 (xaz call hs u NN) 0 1 6 7 8 9:=lp (Ln:=fun n=>j6 (xaz call hs u n) 0 1 6 7 8 9) fun n=>tr x1qx
theorem x1qz:x2l2 call hs u xzq r_17 eNil=j6 (xaz call hs u NN) 0 1 6 7 8 9:=bk x1qy
theorem x1r0:x2l2 call hs u xzp r_17 eNil=j3 (xvc call hs u) 0 1 6:=tr (sqN 3 x1qz)
theorem x1r1:x2l2 call hs u x1qm r_17 eNil=j0 (xvd call hs u):=by kernel_rfl
theorem x1r2:x2l2 call hs u xo8 r_17 eNil=j4 (xve call hs u) 0 1 6 15:=tr (cd x1r0 x1r1)
theorem x1jf:x2l2 call hs u xzo r_17 eNil=j3 (xvf call hs u) 0 1 2:=tr (sqN 2 x1r2)
noncomputable abbrev x2n8:=VX xcb 57 r_7
noncomputable def xzv:=x2ia xcb
noncomputable def xob:=nRs 6 xzv
noncomputable def xzw:=nL xob
noncomputable def x1r3:=nR xob
noncomputable def xoc:=nR xzw
noncomputable def xod:=nL xoc
noncomputable def x1r4:=nR xoc
noncomputable def x1r5:=nL xod
noncomputable def x1r6:=nR xod
theorem x1r7:x2n8 call hs u x1r3 r_7 eNil=j2 (x5q call hs u) 9 11:=by kernel_rfl
theorem x1r8:x2n8 call hs u x1r6 (j2 (x5q call hs u) 9 11) eNil=j5 (xgd call hs u) 0 9 10 11 12:=by kernel_rfl
theorem x1r9:x2n8 call hs u x1r5 (j5 (xgd call hs u) 0 9 10 11 12) eNil=j6 (xmy call hs u) 0 8 9 10 11 12:=by kernel_rfl
theorem x1ra:x2n8 call hs u xod (j2 (x5q call hs u) 9 11) eNil=j6 (xmy call hs u) 0 8 9 10 11 12:=sq2 x1r8 x1r9
theorem x1rb:x2n8 call hs u x1r4 (j2 (x5q call hs u) 9 11) eNil=j2 (xvg call hs u) 9 11:=by kernel_rfl
theorem x1rc:x2n8 call hs u xoc (j2 (x5q call hs u) 9 11) eNil=j7 (xvh call hs u) 0 8 9 10 11 12 32:=tr (cd x1ra x1rb)
theorem x1rd:x2n8 call hs u xzw (j2 (x5q call hs u) 9 11) eNil=j6 (xmz call hs u) 0 8 9 10 11 12:=tr (sqN 1 x1rc)
theorem x1re:x2n8 call hs u xob r_7 eNil=j6 (xmz call hs u) 0 8 9 10 11 12:=sq2 x1r7 x1rd
theorem x1jg:x2n8 call hs u xzv r_7 eNil=j3 (xvi call hs u) 0 1 2:=tr (sqN 6 x1re)
noncomputable abbrev x2s8:=VX xcc 32 r_17
noncomputable def xzx:=x2ia xcc
noncomputable def xzy:=nRs 2 xzx
noncomputable def xzz:=nR xzy
noncomputable def x1rf:=nR xzz
theorem x1rg{rec0:AV->AV->AV->Mem->Nat->O2}:x2s8 call hs u x1rf (j3 rec0 0 6 7) (setE 0 r_17 eNil)=j3 (xvj call hs u rec0) 0 6 7:=by kernel_rfl
theorem x1rh:x2s8 call hs u xzz r_17 (setE 0 r_17 eNil)=j3 (xb0 call hs u NN) 0 6 7:=lp (Ln:=fun n=>j3 (xb0 call hs u n) 0 6 7) fun n=>tr x1rg
theorem x1ri:x2s8 call hs u xzy r_17 eNil=j3 (xb0 call hs u NN) 0 6 7:=bk x1rh
theorem x1jh:x2s8 call hs u xzx r_17 eNil=j3 (xvk call hs u) 0 1 2:=tr (sqN 2 x1ri)
noncomputable abbrev x2j7:=VX xcd 133 r_1
noncomputable def x100:=x2ia xcd
noncomputable def xoe:=nRs 2 x100
noncomputable def x101:=nL xoe
noncomputable def x1rj:=nR xoe
noncomputable def x102:=nR x101
noncomputable def x103:=nR x102
noncomputable def x104:=nR x103
noncomputable def xof:=nR x104
noncomputable def x105:=nL xof
noncomputable def x1rk:=nR xof
noncomputable def xog:=nR x105
noncomputable def x106:=nL xog
noncomputable def x107:=nR xog
noncomputable def xoh:=nRs 3 x107
noncomputable def x108:=nL xoh
noncomputable def x109:=nR xoh
noncomputable def xoi:=nR x109
noncomputable def x10a:=nL xoi
noncomputable def x1rl:=nR xoi
noncomputable def x10b:=nR x10a
noncomputable def x10c:=nR x10b
noncomputable def x1rm:=nR x10c
noncomputable def xoj:=nR x108
noncomputable def x10d:=nL xoj
noncomputable def x1rn:=nR xoj
noncomputable def x10e:=nR x10d
noncomputable def x10f:=nR x10e
noncomputable def x1ro:=nR x10f
noncomputable def x10g:=nR x106
noncomputable def x1rp:=nR x10g
theorem x1rq:x2j7 call hs u x1rj r_1 eNil=j0 (x7 call hs u):=by kernel_rfl
theorem x1rr{rec0:AV->AV->AV->AV->AV->Mem->Nat->O2}:x2j7 call hs u x1rk (j5 rec0 0 1 2 7 8) (setE 0 (j0 (x7 call hs u)) eNil)=j5 (x5 call hs u rec0) 0 1 2 7 8:=by kernel_rfl
theorem x1rs{rec0:AV->AV->AV->AV->AV->Mem->Nat->O2}{rec1:AV->AV->AV->AV->AV->AV->Mem->Nat->O2}:x2j7 call hs u x1rm (j6 rec1 0 1 2 7 8 10) (setE 6 (j5 (x5 call hs u rec0) 0 1 2 7 8) (setE 1 (j5 (x5 call hs u rec0) 0 1 2 7 8) (setE 0 (j0 (x7 call hs u)) eNil)))=j6 (xvl call hs u rec0 rec1) 0 1 2 7 8 10:=by kernel_rfl
theorem x1rt{rec0:AV->AV->AV->AV->AV->Mem->Nat->O2}:x2j7 call hs u x10c (j5 (x5 call hs u rec0) 0 1 2 7 8) (setE 6 (j5 (x5 call hs u rec0) 0 1 2 7 8) (setE 1 (j5 (x5 call hs u rec0) 0 1 2 7 8) (setE 0 (j0 (x7 call hs u)) eNil)))=j6 (xb1 call hs u rec0 NN) 0 1 2 7 8 10:=lp (Ln:=fun n=>j6 (xb1 call hs u rec0 n) 0 1 2 7 8 10) fun n=>tr x1rs
theorem x1ru{rec0:AV->AV->AV->AV->AV->Mem->Nat->O2}:x2j7 call hs u x10b (j5 (x5 call hs u rec0) 0 1 2 7 8) (setE 1 (j5 (x5 call hs u rec0) 0 1 2 7 8) (setE 0 (j0 (x7 call hs u)) eNil))=j6 (xb1 call hs u rec0 NN) 0 1 2 7 8 10:=bk x1rt
theorem x1rv{rec0:AV->AV->AV->AV->AV->Mem->Nat->O2}:x2j7 call hs u x10a (j5 (x5 call hs u rec0) 0 1 2 7 8) (setE 1 (j5 (x5 call hs u rec0) 0 1 2 7 8) (setE 0 (j0 (x7 call hs u)) eNil))=j5 (xvm call hs u rec0) 0 1 2 7 8:=tr (sqN 1 x1ru)
theorem x1rw{rec0:AV->AV->AV->AV->AV->Mem->Nat->O2}:x2j7 call hs u x1rl (j5 (x5 call hs u rec0) 0 1 2 7 8) (setE 1 (j5 (x5 call hs u rec0) 0 1 2 7 8) (setE 0 (j0 (x7 call hs u)) eNil))=j5 (xvn call hs u rec0) 0 1 2 7 8:=by kernel_rfl
theorem x1rx{rec0:AV->AV->AV->AV->AV->Mem->Nat->O2}:x2j7 call hs u xoi (j5 (x5 call hs u rec0) 0 1 2 7 8) (setE 1 (j5 (x5 call hs u rec0) 0 1 2 7 8) (setE 0 (j0 (x7 call hs u)) eNil))=j6 (xvo call hs u rec0) 0 1 2 7 8 98:=tr (cd x1rv x1rw)
theorem x1ry{rec0:AV->AV->AV->AV->AV->Mem->Nat->O2}:x2j7 call hs u x109 (j5 (x5 call hs u rec0) 0 1 2 7 8) (setE 1 (j5 (x5 call hs u rec0) 0 1 2 7 8) (setE 0 (j0 (x7 call hs u)) eNil))=j5 (x1n call hs u rec0) 0 1 2 7 8:=tr (sqN 1 x1rx)
theorem x1rz{rec0:AV->AV->AV->AV->AV->Mem->Nat->O2}{rec2:AV->AV->AV->AV->AV->AV->Mem->Nat->O2}:x2j7 call hs u x1ro (j6 rec2 0 1 2 7 8 9) (setE 4 (j5 (x1n call hs u rec0) 0 1 2 7 8) (setE 1 (j5 (x5 call hs u rec0) 0 1 2 7 8) (setE 0 (j0 (x7 call hs u)) eNil)))=j6 (xvp call hs u rec0 rec2) 0 1 2 7 8 9:=by kernel_rfl
theorem x1s0{rec0:AV->AV->AV->AV->AV->Mem->Nat->O2}:x2j7 call hs u x10f (j5 (x1n call hs u rec0) 0 1 2 7 8) (setE 4 (j5 (x1n call hs u rec0) 0 1 2 7 8) (setE 1 (j5 (x5 call hs u rec0) 0 1 2 7 8) (setE 0 (j0 (x7 call hs u)) eNil)))=j6 (xb2 call hs u rec0 NN) 0 1 2 7 8 9:=lp (Ln:=fun n=>j6 (xb2 call hs u rec0 n) 0 1 2 7 8 9) fun n=>tr x1rz
theorem x1s1{rec0:AV->AV->AV->AV->AV->Mem->Nat->O2}:x2j7 call hs u x10e (j5 (x1n call hs u rec0) 0 1 2 7 8) (setE 1 (j5 (x5 call hs u rec0) 0 1 2 7 8) (setE 0 (j0 (x7 call hs u)) eNil))=j6 (xb2 call hs u rec0 NN) 0 1 2 7 8 9:=bk x1s0
theorem x1s2{rec0:AV->AV->AV->AV->AV->Mem->Nat->O2}:x2j7 call hs u x10d (j5 (x1n call hs u rec0) 0 1 2 7 8) (setE 1 (j5 (x5 call hs u rec0) 0 1 2 7 8) (setE 0 (j0 (x7 call hs u)) eNil))=j5 (xvq call hs u rec0) 0 1 2 7 8:=tr (sqN 1 x1s1)
theorem x1s3{rec0:AV->AV->AV->AV->AV->Mem->Nat->O2}:x2j7 call hs u x1rn (j5 (x1n call hs u rec0) 0 1 2 7 8) (setE 1 (j5 (x5 call hs u rec0) 0 1 2 7 8) (setE 0 (j0 (x7 call hs u)) eNil))=j5 (xvr call hs u rec0) 0 1 2 7 8:=by kernel_rfl
theorem x1s4{rec0:AV->AV->AV->AV->AV->Mem->Nat->O2}:x2j7 call hs u xoj (j5 (x1n call hs u rec0) 0 1 2 7 8) (setE 1 (j5 (x5 call hs u rec0) 0 1 2 7 8) (setE 0 (j0 (x7 call hs u)) eNil))=j6 (xvs call hs u rec0) 0 1 2 7 8 61:=tr (cd x1s2 x1s3)
theorem x1s5{rec0:AV->AV->AV->AV->AV->Mem->Nat->O2}:x2j7 call hs u x108 (j5 (x1n call hs u rec0) 0 1 2 7 8) (setE 1 (j5 (x5 call hs u rec0) 0 1 2 7 8) (setE 0 (j0 (x7 call hs u)) eNil))=j5 (xn0 call hs u rec0) 0 1 2 7 8:=tr (sqN 1 x1s4)
theorem x1s6{rec0:AV->AV->AV->AV->AV->Mem->Nat->O2}:x2j7 call hs u xoh (j5 (x5 call hs u rec0) 0 1 2 7 8) (setE 1 (j5 (x5 call hs u rec0) 0 1 2 7 8) (setE 0 (j0 (x7 call hs u)) eNil))=j5 (xn0 call hs u rec0) 0 1 2 7 8:=sq2 x1ry x1s5
theorem x1s7{rec0:AV->AV->AV->AV->AV->Mem->Nat->O2}:x2j7 call hs u x107 (j5 (x5 call hs u rec0) 0 1 2 7 8) (setE 1 (j5 (x5 call hs u rec0) 0 1 2 7 8) (setE 0 (j0 (x7 call hs u)) eNil))=j5 (x8e call hs u rec0) 0 1 2 7 8:=tr (sqN 3 x1s6)
theorem x1s8{rec0:AV->AV->AV->AV->AV->Mem->Nat->O2}{rec3:AV->AV->AV->AV->AV->Mem->Nat->O2}:x2j7 call hs u x1rp (j5 rec3 0 1 2 7 8) (setE 2 (j5 (x8e call hs u rec0) 0 1 2 7 8) (setE 1 (j5 (x5 call hs u rec0) 0 1 2 7 8) (setE 0 (j0 (x7 call hs u)) eNil)))=j5 (xvt call hs u rec0 rec3) 0 1 2 7 8:=by kernel_rfl
theorem x1s9{rec0:AV->AV->AV->AV->AV->Mem->Nat->O2}:x2j7 call hs u x10g (j5 (x8e call hs u rec0) 0 1 2 7 8) (setE 2 (j5 (x8e call hs u rec0) 0 1 2 7 8) (setE 1 (j5 (x5 call hs u rec0) 0 1 2 7 8) (setE 0 (j0 (x7 call hs u)) eNil)))=j5 (x5r call hs u rec0 NN) 0 1 2 7 8:=lp (Ln:=fun n=>j5 (x5r call hs u rec0 n) 0 1 2 7 8) fun n=>tr x1s8
theorem x1sa{rec0:AV->AV->AV->AV->AV->Mem->Nat->O2}:x2j7 call hs u x106 (j5 (x8e call hs u rec0) 0 1 2 7 8) (setE 1 (j5 (x5 call hs u rec0) 0 1 2 7 8) (setE 0 (j0 (x7 call hs u)) eNil))=j5 (x5r call hs u rec0 NN) 0 1 2 7 8:=bk x1s9
theorem x1sb{rec0:AV->AV->AV->AV->AV->Mem->Nat->O2}:x2j7 call hs u xog (j5 (x5 call hs u rec0) 0 1 2 7 8) (setE 1 (j5 (x5 call hs u rec0) 0 1 2 7 8) (setE 0 (j0 (x7 call hs u)) eNil))=j5 (x5r call hs u rec0 NN) 0 1 2 7 8:=sq2 x1s7 x1sa
theorem x1sc{rec0:AV->AV->AV->AV->AV->Mem->Nat->O2}:x2j7 call hs u x105 (j5 (x5 call hs u rec0) 0 1 2 7 8) (setE 0 (j0 (x7 call hs u)) eNil)=j5 (x5r call hs u rec0 NN) 0 1 2 7 8:=bk x1sb
theorem x1sd{rec0:AV->AV->AV->AV->AV->Mem->Nat->O2}:x2j7 call hs u xof (j5 rec0 0 1 2 7 8) (setE 0 (j0 (x7 call hs u)) eNil)=j5 (x5r call hs u rec0 NN) 0 1 2 7 8:=sq2 x1rr x1sc
theorem x1se{rec0:AV->AV->AV->AV->AV->Mem->Nat->O2}:x2j7 call hs u x104 (j5 rec0 0 1 2 7 8) (setE 0 (j0 (x7 call hs u)) eNil)=j5 (xvu call hs u rec0) 0 1 2 7 8:=tr (sqN 1 x1sd)
theorem x1sf:x2j7 call hs u x103 (j0 (x7 call hs u)) (setE 0 (j0 (x7 call hs u)) eNil)=j5 (xb3 call hs u NN) 0 1 2 7 8:=lp (Ln:=fun n=>j5 (xb3 call hs u n) 0 1 2 7 8) fun n=>tr x1se
theorem x1sg:x2j7 call hs u x102 (j0 (x7 call hs u)) eNil=j5 (xb3 call hs u NN) 0 1 2 7 8:=bk x1sf
theorem x1sh:x2j7 call hs u x101 (j0 (x7 call hs u)) eNil=j4 (xn1 call hs u) 0 1 2 7:=tr (sqN 1 x1sg)
theorem x1si:x2j7 call hs u xoe r_1 eNil=j4 (xn1 call hs u) 0 1 2 7:=sq2 x1rq x1sh
theorem x1ji:x2j7 call hs u x100 r_1 eNil=j3 (xvv call hs u) 0 1 2:=tr (sqN 2 x1si)
noncomputable abbrev x30f:=VX xh 17 r_0
noncomputable def x1sj:=x2ia xh
theorem x1jj:x30f call hs u x1sj r_0 eNil=j2 (xn2 call hs u) 0 1:=by kernel_rfl
noncomputable abbrev x2ku:=VX xce 84 r_16
noncomputable def x10h:=x2ia xce
noncomputable def xok:=nRs 3 x10h
noncomputable def x10i:=nL xok
noncomputable def x1sk:=nR xok
noncomputable def x10j:=nR x10i
noncomputable def x10k:=nR x10j
noncomputable def xol:=nR x10k
noncomputable def x10l:=nL xol
noncomputable def xom:=nR xol
noncomputable def x10m:=nL xom
noncomputable def x1sl:=nR xom
noncomputable def x10n:=nR x10m
noncomputable def x1sm:=nR x10n
noncomputable def x10o:=nR x10l
noncomputable def x1sn:=nR x10o
theorem x1so:x2ku call hs u x1sk r_16 eNil=j1 (x12 call hs u) 9:=by kernel_rfl
theorem x1sp{rec0:AV->AV->AV->AV->Mem->Nat->O2}:x2ku call hs u x1sl (j4 rec0 0 1 9 10) (setE 1 (j4 rec0 0 1 9 10) (setE 0 (j1 (x12 call hs u) 9) eNil))=j4 (x8f call hs u rec0) 0 1 9 10:=by kernel_rfl
theorem x1sq{rec0:AV->AV->AV->AV->Mem->Nat->O2}{rec1:AV->AV->AV->AV->Mem->Nat->O2}:x2ku call hs u x1sm (j4 rec1 0 1 9 10) (setE 4 (j4 (x8f call hs u rec0) 0 1 9 10) (setE 1 (j4 rec0 0 1 9 10) (setE 0 (j1 (x12 call hs u) 9) eNil)))=j4 (xvw call hs u rec0 rec1) 0 1 9 10:=by kernel_rfl
theorem x1sr{rec0:AV->AV->AV->AV->Mem->Nat->O2}:x2ku call hs u x10n (j4 (x8f call hs u rec0) 0 1 9 10) (setE 4 (j4 (x8f call hs u rec0) 0 1 9 10) (setE 1 (j4 rec0 0 1 9 10) (setE 0 (j1 (x12 call hs u) 9) eNil)))=j4 (x2o call hs u rec0 NN) 0 1 9 10:=lp (Ln:=fun n=>j4 (x2o call hs u rec0 n) 0 1 9 10) fun n=>tr x1sq
theorem x1ss{rec0:AV->AV->AV->AV->Mem->Nat->O2}:x2ku call hs u x10m (j4 (x8f call hs u rec0) 0 1 9 10) (setE 1 (j4 rec0 0 1 9 10) (setE 0 (j1 (x12 call hs u) 9) eNil))=j4 (x2o call hs u rec0 NN) 0 1 9 10:=bk x1sr
theorem x1st{rec0:AV->AV->AV->AV->Mem->Nat->O2}:x2ku call hs u xom (j4 rec0 0 1 9 10) (setE 1 (j4 rec0 0 1 9 10) (setE 0 (j1 (x12 call hs u) 9) eNil))=j4 (x2o call hs u rec0 NN) 0 1 9 10:=sq2 x1sp x1ss
theorem x1su{rec0:AV->AV->AV->AV->Mem->Nat->O2}{rec2:AV->AV->AV->AV->Mem->Nat->O2}:x2ku call hs u x1sn (j4 rec2 0 1 9 10) (setE 2 (j4 (x2o call hs u rec0 NN) 0 1 9 10) (setE 1 (j4 rec0 0 1 9 10) (setE 0 (j1 (x12 call hs u) 9) eNil)))=j4 (xvx call hs u rec0 rec2) 0 1 9 10:=by kernel_rfl
theorem x1sv{rec0:AV->AV->AV->AV->Mem->Nat->O2}:x2ku call hs u x10o (j4 (x2o call hs u rec0 NN) 0 1 9 10) (setE 2 (j4 (x2o call hs u rec0 NN) 0 1 9 10) (setE 1 (j4 rec0 0 1 9 10) (setE 0 (j1 (x12 call hs u) 9) eNil)))=j4 (x72 call hs u rec0 NN) 0 1 9 10:=lp (Ln:=fun n=>j4 (x72 call hs u rec0 n) 0 1 9 10) fun n=>tr x1su
theorem x1sw{rec0:AV->AV->AV->AV->Mem->Nat->O2}:x2ku call hs u x10l (j4 (x2o call hs u rec0 NN) 0 1 9 10) (setE 1 (j4 rec0 0 1 9 10) (setE 0 (j1 (x12 call hs u) 9) eNil))=j4 (x72 call hs u rec0 NN) 0 1 9 10:=bk x1sv
theorem x1sx{rec0:AV->AV->AV->AV->Mem->Nat->O2}:x2ku call hs u xol (j4 rec0 0 1 9 10) (setE 1 (j4 rec0 0 1 9 10) (setE 0 (j1 (x12 call hs u) 9) eNil))=j4 (x72 call hs u rec0 NN) 0 1 9 10:=sq2 x1st x1sw
theorem x1sy{rec0:AV->AV->AV->AV->Mem->Nat->O2}:x2ku call hs u x10k (j4 rec0 0 1 9 10) (setE 0 (j1 (x12 call hs u) 9) eNil)=j4 (x72 call hs u rec0 NN) 0 1 9 10:=bk x1sx
theorem x1sz:x2ku call hs u x10j (j1 (x12 call hs u) 9) (setE 0 (j1 (x12 call hs u) 9) eNil)=j4 (x8g call hs u NN) 0 1 9 10:=lp (Ln:=fun n=>j4 (x8g call hs u n) 0 1 9 10) fun n=>tr x1sy
theorem x1t0:x2ku call hs u x10i (j1 (x12 call hs u) 9) eNil=j4 (x8g call hs u NN) 0 1 9 10:=bk x1sz
theorem x1t1:x2ku call hs u xok r_16 eNil=j4 (x8g call hs u NN) 0 1 9 10:=sq2 x1so x1t0
theorem x1jk:x2ku call hs u x10h r_16 eNil=j4 (xvy call hs u) 0 1 2 3:=tr (sqN 3 x1t1)
noncomputable abbrev x2jp:=VX xcf 168 r_21
noncomputable def x10p:=x2ia xcf
noncomputable def xon:=nRs 3 x10p
noncomputable def x10q:=nL xon
noncomputable def xoo:=nR xon
noncomputable def x10r:=nL xoo
noncomputable def x10s:=nR xoo
noncomputable def xop:=nRs 4 x10s
noncomputable def x10t:=nL xop
noncomputable def x1t2:=nR xop
noncomputable def x10u:=nR x10t
noncomputable def x10v:=nR x10u
noncomputable def xoq:=nR x10v
noncomputable def x10w:=nL xoq
noncomputable def xos:=nR xoq
noncomputable def x10x:=nL xos
noncomputable def x1t3:=nR xos
noncomputable def x10y:=nR x10x
noncomputable def x1t4:=nR x10y
noncomputable def x10z:=nR x10w
noncomputable def x1t5:=nR x10z
noncomputable def x110:=nR x10r
noncomputable def x1t6:=nR x110
noncomputable def x111:=nR x10q
noncomputable def x1t7:=nR x111
theorem x1t8:x2jp call hs u x1t2 r_21 eNil=j3 (x13 call hs u) 0 1 11:=by kernel_rfl
theorem x1t9{rec0:AV->AV->AV->AV->Mem->Nat->O2}:x2jp call hs u x1t3 (j4 rec0 0 1 10 11) (setE 5 (j4 rec0 0 1 10 11) (setE 4 (j3 (x13 call hs u) 0 1 11) eNil))=j4 (x8h call hs u rec0) 0 1 10 11:=by kernel_rfl
theorem x1ta{rec0:AV->AV->AV->AV->Mem->Nat->O2}{rec1:AV->AV->AV->AV->Mem->Nat->O2}:x2jp call hs u x1t4 (j4 rec1 0 1 10 11) (setE 8 (j4 (x8h call hs u rec0) 0 1 10 11) (setE 5 (j4 rec0 0 1 10 11) (setE 4 (j3 (x13 call hs u) 0 1 11) eNil)))=j4 (xvz call hs u rec0 rec1) 0 1 10 11:=by kernel_rfl
theorem x1tb{rec0:AV->AV->AV->AV->Mem->Nat->O2}:x2jp call hs u x10y (j4 (x8h call hs u rec0) 0 1 10 11) (setE 8 (j4 (x8h call hs u rec0) 0 1 10 11) (setE 5 (j4 rec0 0 1 10 11) (setE 4 (j3 (x13 call hs u) 0 1 11) eNil)))=j4 (x2p call hs u rec0 NN) 0 1 10 11:=lp (Ln:=fun n=>j4 (x2p call hs u rec0 n) 0 1 10 11) fun n=>tr x1ta
theorem x1tc{rec0:AV->AV->AV->AV->Mem->Nat->O2}:x2jp call hs u x10x (j4 (x8h call hs u rec0) 0 1 10 11) (setE 5 (j4 rec0 0 1 10 11) (setE 4 (j3 (x13 call hs u) 0 1 11) eNil))=j4 (x2p call hs u rec0 NN) 0 1 10 11:=bk x1tb
theorem x1td{rec0:AV->AV->AV->AV->Mem->Nat->O2}:x2jp call hs u xos (j4 rec0 0 1 10 11) (setE 5 (j4 rec0 0 1 10 11) (setE 4 (j3 (x13 call hs u) 0 1 11) eNil))=j4 (x2p call hs u rec0 NN) 0 1 10 11:=sq2 x1t9 x1tc
theorem x1te{rec0:AV->AV->AV->AV->Mem->Nat->O2}{rec2:AV->AV->AV->AV->Mem->Nat->O2}:x2jp call hs u x1t5 (j4 rec2 0 1 10 11) (setE 6 (j4 (x2p call hs u rec0 NN) 0 1 10 11) (setE 5 (j4 rec0 0 1 10 11) (setE 4 (j3 (x13 call hs u) 0 1 11) eNil)))=j4 (xw0 call hs u rec0 rec2) 0 1 10 11:=by kernel_rfl
theorem x1tf{rec0:AV->AV->AV->AV->Mem->Nat->O2}:x2jp call hs u x10z (j4 (x2p call hs u rec0 NN) 0 1 10 11) (setE 6 (j4 (x2p call hs u rec0 NN) 0 1 10 11) (setE 5 (j4 rec0 0 1 10 11) (setE 4 (j3 (x13 call hs u) 0 1 11) eNil)))=j4 (x73 call hs u rec0 NN) 0 1 10 11:=lp (Ln:=fun n=>j4 (x73 call hs u rec0 n) 0 1 10 11) fun n=>tr x1te
theorem x1tg{rec0:AV->AV->AV->AV->Mem->Nat->O2}:x2jp call hs u x10w (j4 (x2p call hs u rec0 NN) 0 1 10 11) (setE 5 (j4 rec0 0 1 10 11) (setE 4 (j3 (x13 call hs u) 0 1 11) eNil))=j4 (x73 call hs u rec0 NN) 0 1 10 11:=bk x1tf
theorem x1th{rec0:AV->AV->AV->AV->Mem->Nat->O2}:x2jp call hs u xoq (j4 rec0 0 1 10 11) (setE 5 (j4 rec0 0 1 10 11) (setE 4 (j3 (x13 call hs u) 0 1 11) eNil))=j4 (x73 call hs u rec0 NN) 0 1 10 11:=sq2 x1td x1tg
theorem x1ti{rec0:AV->AV->AV->AV->Mem->Nat->O2}:x2jp call hs u x10v (j4 rec0 0 1 10 11) (setE 4 (j3 (x13 call hs u) 0 1 11) eNil)=j4 (x73 call hs u rec0 NN) 0 1 10 11:=bk x1th
theorem x1tj:x2jp call hs u x10u (j3 (x13 call hs u) 0 1 11) (setE 4 (j3 (x13 call hs u) 0 1 11) eNil)=j4 (x8i call hs u NN) 0 1 10 11:=lp (Ln:=fun n=>j4 (x8i call hs u n) 0 1 10 11) fun n=>tr x1ti
theorem x1tk:x2jp call hs u x10t (j3 (x13 call hs u) 0 1 11) eNil=j4 (x8i call hs u NN) 0 1 10 11:=bk x1tj
theorem x1tl:x2jp call hs u xop r_21 eNil=j4 (x8i call hs u NN) 0 1 10 11:=sq2 x1t8 x1tk
theorem x1tm:x2jp call hs u x10s r_21 eNil=j4 (x8j call hs u) 0 1 10 11:=tr (sqN 4 x1tl)
theorem x1tn{rec3:AV->AV->AV->AV->Mem->Nat->O2}:x2jp call hs u x1t6 (j4 rec3 0 1 10 11) (setE 2 (j4 (x8j call hs u) 0 1 10 11) eNil)=j4 (xw1 call hs u rec3) 0 1 10 11:=by kernel_rfl
theorem x1to:x2jp call hs u x110 (j4 (x8j call hs u) 0 1 10 11) (setE 2 (j4 (x8j call hs u) 0 1 10 11) eNil)=j4 (x2q call hs u NN) 0 1 10 11:=lp (Ln:=fun n=>j4 (x2q call hs u n) 0 1 10 11) fun n=>tr x1tn
theorem x1tp:x2jp call hs u x10r (j4 (x8j call hs u) 0 1 10 11) eNil=j4 (x2q call hs u NN) 0 1 10 11:=bk x1to
theorem x1tq:x2jp call hs u xoo r_21 eNil=j4 (x2q call hs u NN) 0 1 10 11:=sq2 x1tm x1tp
theorem x1tr{rec4:AV->AV->AV->AV->Mem->Nat->O2}:x2jp call hs u x1t7 (j4 rec4 0 1 10 11) (setE 0 (j4 (x2q call hs u NN) 0 1 10 11) eNil)=j4 (xw2 call hs u rec4) 0 1 10 11:=by kernel_rfl
theorem x1ts:x2jp call hs u x111 (j4 (x2q call hs u NN) 0 1 10 11) (setE 0 (j4 (x2q call hs u NN) 0 1 10 11) eNil)=j4 (x8k call hs u NN) 0 1 10 11:=lp (Ln:=fun n=>j4 (x8k call hs u n) 0 1 10 11) fun n=>tr x1tr
theorem x1tt:x2jp call hs u x10q (j4 (x2q call hs u NN) 0 1 10 11) eNil=j4 (x8k call hs u NN) 0 1 10 11:=bk x1ts
theorem x1tu:x2jp call hs u xon r_21 eNil=j4 (x8k call hs u NN) 0 1 10 11:=sq2 x1tq x1tt
theorem x1jl:x2jp call hs u x10p r_21 eNil=j4 (xw3 call hs u) 0 1 2 3:=tr (sqN 3 x1tu)
noncomputable abbrev x2pr:=VX xcg 19 r_3
noncomputable def x112:=x2ia xcg
noncomputable def xot:=nR x112
noncomputable def x1tv:=nL xot
noncomputable def xou:=nR xot
noncomputable def x1tw:=nL xou
noncomputable def x1tx:=nR xou
theorem x1ty:x2pr call hs u x1tx r_3 eNil=j2 (xge call hs u) 0 2:=by kernel_rfl
theorem x1tz:x2pr call hs u x1tw (j2 (xge call hs u) 0 2) eNil=j2 (xb4 call hs u) 0 2:=by kernel_rfl
theorem x1u0:x2pr call hs u xou r_3 eNil=j2 (xb4 call hs u) 0 2:=sq2 x1ty x1tz
theorem x1u1:x2pr call hs u x1tv (j2 (xb4 call hs u) 0 2) eNil=j2 (xn3 call hs u) 0 2:=by kernel_rfl
theorem x1u2:x2pr call hs u xot r_3 eNil=j2 (xn3 call hs u) 0 2:=sq2 x1u0 x1u1
theorem x1jm:x2pr call hs u x112 r_3 eNil=j1 (xw4 call hs u) 0:=tr (sqN 1 x1u2)
noncomputable abbrev x2nv:=VX x7p 25 r_3
noncomputable def x113:=x2ia x7p
noncomputable def xov:=nR x113
noncomputable def x1u3:=nL xov
noncomputable def xow:=nR xov
noncomputable def x1u4:=nL xow
noncomputable def xox:=nR xow
noncomputable def x1u5:=nL xox
noncomputable def x1u6:=nR xox
theorem x1u7:x2nv call hs u x1u6 r_3 eNil=j2 (xgf call hs u) 0 2:=by kernel_rfl
theorem x1u8:x2nv call hs u x1u5 (j2 (xgf call hs u) 0 2) eNil=j2 (xb5 call hs u) 0 2:=by kernel_rfl
theorem x1u9:x2nv call hs u xox r_3 eNil=j2 (xb5 call hs u) 0 2:=sq2 x1u7 x1u8
theorem x1ua:x2nv call hs u x1u4 (j2 (xb5 call hs u) 0 2) eNil=j2 (xb6 call hs u) 0 2:=by kernel_rfl
theorem x1ub:x2nv call hs u xow r_3 eNil=j2 (xb6 call hs u) 0 2:=sq2 x1u9 x1ua
theorem x1uc:x2nv call hs u x1u3 (j2 (xb6 call hs u) 0 2) eNil=j2 (xn4 call hs u) 0 2:=by kernel_rfl
theorem x1ud:x2nv call hs u xov r_3 eNil=j2 (xn4 call hs u) 0 2:=sq2 x1ub x1uc
theorem x1jn:x2nv call hs u x113 r_3 eNil=j1 (xw5 call hs u) 0:=tr (sqN 1 x1ud)
noncomputable abbrev x30g:=VX xbc 6 r_0
noncomputable def x1ue:=x2ia xbc
theorem x1fy:x30g call hs u x1ue r_0 eNil=j2 (xw6 call hs u) 0 1:=by kernel_rfl
noncomputable abbrev x30h:=VX xch 30 r_6
noncomputable def x1uf:=x2ia xch
theorem x1jo:x30h call hs u x1uf r_6 eNil=j2 (xw7 call hs u) 0 1:=by kernel_rfl
noncomputable abbrev x2ps:=VX xci 58 r_17
noncomputable def x114:=x2ia xci
noncomputable def xoy:=nRs 2 x114
noncomputable def x115:=nL xoy
noncomputable def x1ug:=nR xoy
noncomputable def x116:=nR x115
noncomputable def x1uh:=nR x116
theorem x1ui:x2ps call hs u x1ug r_17 eNil=j4 (x8l call hs u) 0 2 4 10:=by kernel_rfl
theorem x1uj{rec0:AV->AV->AV->AV->AV->Mem->Nat->O2}:x2ps call hs u x1uh (j5 rec0 0 2 4 10 11) (setE 0 (j4 (x8l call hs u) 0 2 4 10) eNil)=j5 (xw8 call hs u rec0) 0 2 4 10 11:=by kernel_rfl
theorem x1uk:x2ps call hs u x116 (j4 (x8l call hs u) 0 2 4 10) (setE 0 (j4 (x8l call hs u) 0 2 4 10) eNil)=j5 (x8m call hs u NN) 0 2 4 10 11:=lp (Ln:=fun n=>j5 (x8m call hs u n) 0 2 4 10 11) fun n=>tr x1uj
theorem x1ul:x2ps call hs u x115 (j4 (x8l call hs u) 0 2 4 10) eNil=j5 (x8m call hs u NN) 0 2 4 10 11:=bk x1uk
theorem x1um:x2ps call hs u xoy r_17 eNil=j5 (x8m call hs u NN) 0 2 4 10 11:=sq2 x1ui x1ul
theorem x1jp:x2ps call hs u x114 r_17 eNil=j5 (xw9 call hs u) 0 1 2 3 4:=tr (sqN 2 x1um)
noncomputable abbrev x2nw:=VX x8y 76 r_17
noncomputable def x117:=x2ia x8y
noncomputable def x118:=nR x117
noncomputable def x119:=nR x118
noncomputable def x11a:=nR x119
noncomputable def x11b:=nR x11a
noncomputable def xoz:=nRs 2 x11b
noncomputable def x1un:=nL xoz
noncomputable def x1uo:=nR xoz
theorem x1up{rec0:AV->AV->AV->AV->Mem->Nat->O2}:x2nw call hs u x1uo (j4 rec0 0 2 3 8) (setE 1 (j4 rec0 0 2 3 8) (setE 0 r_17 eNil))=j5 (xgg call hs u rec0) 0 2 3 8 9:=by kernel_rfl
theorem x1uq{rec0:AV->AV->AV->AV->Mem->Nat->O2}:x2nw call hs u x1un (j5 (xgg call hs u rec0) 0 2 3 8 9) (setE 1 (j4 rec0 0 2 3 8) (setE 0 r_17 eNil))=j5 (xn5 call hs u rec0) 0 2 3 8 9:=by kernel_rfl
theorem x1ur{rec0:AV->AV->AV->AV->Mem->Nat->O2}:x2nw call hs u xoz (j4 rec0 0 2 3 8) (setE 1 (j4 rec0 0 2 3 8) (setE 0 r_17 eNil))=j5 (xn5 call hs u rec0) 0 2 3 8 9:=sq2 x1up x1uq
theorem x1us{rec0:AV->AV->AV->AV->Mem->Nat->O2}:x2nw call hs u x11b (j4 rec0 0 2 3 8) (setE 1 (j4 rec0 0 2 3 8) (setE 0 r_17 eNil))=j4 (xn6 call hs u rec0) 0 2 3 8:=tr (sqN 2 x1ur)
theorem x1ut{rec0:AV->AV->AV->AV->Mem->Nat->O2}:x2nw call hs u x11a (j4 rec0 0 2 3 8) (setE 0 r_17 eNil)=j4 (xn6 call hs u rec0) 0 2 3 8:=bk x1us
theorem x1uu:x2nw call hs u x119 r_17 (setE 0 r_17 eNil)=j4 (xb7 call hs u NN) 0 2 3 8:=lp (Ln:=fun n=>j4 (xb7 call hs u n) 0 2 3 8) fun n=>tr x1ut
theorem x1uv:x2nw call hs u x118 r_17 eNil=j4 (xb7 call hs u NN) 0 2 3 8:=bk x1uu
theorem x1jq:x2nw call hs u x117 r_17 eNil=j4 (xwa call hs u) 0 1 2 3:=tr (sqN 1 x1uv)
noncomputable abbrev x30i:=VX xcj 7 r_3
noncomputable def x1uw:=x2ia xcj
theorem x1jr:x30i call hs u x1uw r_3 eNil=j1 (xwb call hs u) 0:=by kernel_rfl
noncomputable abbrev x30j:=VX xck 33 r_3
noncomputable def x1ux:=x2ia xck
theorem x1js:x30j call hs u x1ux r_3 eNil=j1 (xwc call hs u) 0:=by kernel_rfl
noncomputable abbrev x30k:=VX x7q 15 r_1
noncomputable def x1uy:=x2ia x7q
theorem x1jt:x30k call hs u x1uy r_1 eNil=j3 (xwd call hs u) 0 1 2:=by kernel_rfl
noncomputable abbrev x30l:=VX x8z 36 r_22
noncomputable def x1uz:=x2ia x8z
theorem x1ju:x30l call hs u x1uz r_22 eNil=j5 (xwe call hs u) 0 1 2 3 4:=by kernel_rfl
noncomputable abbrev x30m:=VX x6e 6 r_3
noncomputable def x1v0:=x2ia x6e
theorem x1jv:x30m call hs u x1v0 r_3 eNil=j1 (xn7 call hs u) 0:=by kernel_rfl
noncomputable abbrev x2m6:=VX xba 76 r_17
noncomputable def x11c:=x2ia xba
noncomputable def x11d:=nR x11c
noncomputable def x11e:=nR x11d
noncomputable def x11f:=nR x11e
noncomputable def xp0:=nRs 2 x11f
noncomputable def x11g:=nL xp0
noncomputable def x1v1:=nR xp0
noncomputable def x11h:=nR x11g
noncomputable def xp1:=nRs 3 x11h
noncomputable def x1v2:=nL xp1
noncomputable def x1v3:=nR xp1
theorem x1v4{rec0:AV->AV->AV->AV->AV->AV->Mem->Nat->O2}:x2m6 call hs u x1v1 (j6 rec0 0 1 2 14 15 16) (setE 0 r_17 eNil)=j6 (x2r call hs u rec0) 0 1 2 14 15 16:=by kernel_rfl
theorem x1v5{rec0:AV->AV->AV->AV->AV->AV->Mem->Nat->O2}:x2m6 call hs u x1v3 (j6 (x2r call hs u rec0) 0 1 2 14 15 16) (setE 1 (j6 (x2r call hs u rec0) 0 1 2 14 15 16) (setE 0 r_17 eNil))=j7 (xgh call hs u rec0) 0 1 2 7 14 15 16:=by kernel_rfl
theorem x1v6{rec0:AV->AV->AV->AV->AV->AV->Mem->Nat->O2}:x2m6 call hs u x1v2 (j7 (xgh call hs u rec0) 0 1 2 7 14 15 16) (setE 1 (j6 (x2r call hs u rec0) 0 1 2 14 15 16) (setE 0 r_17 eNil))=j9 (xn8 call hs u rec0) 0 1 2 5 6 7 14 15 16:=by kernel_rfl
theorem x1v7{rec0:AV->AV->AV->AV->AV->AV->Mem->Nat->O2}:x2m6 call hs u xp1 (j6 (x2r call hs u rec0) 0 1 2 14 15 16) (setE 1 (j6 (x2r call hs u rec0) 0 1 2 14 15 16) (setE 0 r_17 eNil))=j9 (xn8 call hs u rec0) 0 1 2 5 6 7 14 15 16:=sq2 x1v5 x1v6
theorem x1v8{rec0:AV->AV->AV->AV->AV->AV->Mem->Nat->O2}:x2m6 call hs u x11h (j6 (x2r call hs u rec0) 0 1 2 14 15 16) (setE 1 (j6 (x2r call hs u rec0) 0 1 2 14 15 16) (setE 0 r_17 eNil))=j6 (xgi call hs u rec0) 0 1 2 14 15 16:=tr (sqN 3 x1v7)
theorem x1v9{rec0:AV->AV->AV->AV->AV->AV->Mem->Nat->O2}:x2m6 call hs u x11g (j6 (x2r call hs u rec0) 0 1 2 14 15 16) (setE 0 r_17 eNil)=j6 (xgi call hs u rec0) 0 1 2 14 15 16:=bk x1v8
theorem x1va{rec0:AV->AV->AV->AV->AV->AV->Mem->Nat->O2}:x2m6 call hs u xp0 (j6 rec0 0 1 2 14 15 16) (setE 0 r_17 eNil)=j6 (xgi call hs u rec0) 0 1 2 14 15 16:=sq2 x1v4 x1v9
theorem x1vb{rec0:AV->AV->AV->AV->AV->AV->Mem->Nat->O2}:x2m6 call hs u x11f (j6 rec0 0 1 2 14 15 16) (setE 0 r_17 eNil)=j6 (xwf call hs u rec0) 0 1 2 14 15 16:=tr (sqN 2 x1va)
theorem x1vc:x2m6 call hs u x11e r_17 (setE 0 r_17 eNil)=j6 (xb8 call hs u NN) 0 1 2 14 15 16:=lp (Ln:=fun n=>j6 (xb8 call hs u n) 0 1 2 14 15 16) fun n=>tr x1vb
theorem x1vd:x2m6 call hs u x11d r_17 eNil=j6 (xb8 call hs u NN) 0 1 2 14 15 16:=bk x1vc
theorem x1fu:x2m6 call hs u x11c r_17 eNil=j3 (xwg call hs u) 0 1 2:=tr (sqN 1 x1vd)
noncomputable abbrev x30n:=VX xcl 17 r_6
noncomputable def x1ve:=x2ia xcl
theorem x1jw:x30n call hs u x1ve r_6 eNil=j2 (xwh call hs u) 0 1:=by kernel_rfl
noncomputable abbrev x30o:=VX xbe 51 r_6
noncomputable def x1vf:=x2ia xbe
theorem x1g0:x30o call hs u x1vf r_6 eNil=j2 (xwi call hs u) 0 1:=by kernel_rfl
noncomputable abbrev x2s9:=VX x7r 38 r_17
noncomputable def x11i:=x2ia x7r
noncomputable def x11j:=nR x11i
noncomputable def x11k:=nR x11j
noncomputable def x1vg:=nR x11k
theorem x1vh{rec0:AV->AV->AV->AV->AV->Mem->Nat->O2}:x2s9 call hs u x1vg (j5 rec0 0 1 2 3 10) (setE 0 r_17 eNil)=j5 (xwj call hs u rec0) 0 1 2 3 10:=by kernel_rfl
theorem x1vi:x2s9 call hs u x11k r_17 (setE 0 r_17 eNil)=j5 (xb9 call hs u NN) 0 1 2 3 10:=lp (Ln:=fun n=>j5 (xb9 call hs u n) 0 1 2 3 10) fun n=>tr x1vh
theorem x1vj:x2s9 call hs u x11j r_17 eNil=j5 (xb9 call hs u NN) 0 1 2 3 10:=bk x1vi
theorem x1jx:x2s9 call hs u x11i r_17 eNil=j4 (xwk call hs u) 0 1 2 3:=tr (sqN 1 x1vj)
noncomputable abbrev x30p:=VX x7s 28 r_21
noncomputable def x1vk:=x2ia x7s
theorem x1jy:x30p call hs u x1vk r_21 eNil=j4 (xwl call hs u) 0 1 2 3:=by kernel_rfl
end Go.Ix
