import Derived.Test.YtpeakdjfagbpcaaGreatFxText0
import Derived.Test.YtpeakdjfagbpcaaGreatFxText1
import Derived.Test.YtpeakdjfagbpcaaGreatFxEnt
import Derived.Test.YtpeakdjfagbpcaaGreatFxRules
import Derived.Test.YtpeakdjfagbpcaaGreatFxProj
import Derived.ProofKit
set_option linter.unusedVariables false
namespace Go.Ix
open Go.Proofs
variable{call:x2ee}{hs:FHs}{u:Nat}
noncomputable abbrev x2hn:=VX xee 135 r_0
noncomputable def xyx:=x2ei xee
noncomputable def xks:=nRs 5 xyx
noncomputable def x1s2:=nL xks
noncomputable def xyy:=nR xks
noncomputable def xkt:=nRs 4 xyy
noncomputable def xyz:=nL xkt
noncomputable def x1s3:=nR xkt
noncomputable def xz0:=nR xyz
noncomputable def xz1:=nR xz0
noncomputable def x1s4:=nR xz1
theorem x1s5:x2hn call hs u x1s3 r_0 eNil=j0 (x45 call hs u):=by kernel_rfl
theorem x1s6{rec0:AV->AV->AV->Mem->Nat->O2}:x2hn call hs u x1s4 (j3 rec0 2 5 11) (setE 0 (j0 (x45 call hs u)) eNil)=j3 (xny call hs u rec0) 2 5 11:=by kernel_rfl
theorem x1s7:x2hn call hs u xz1 (j0 (x45 call hs u)) (setE 0 (j0 (x45 call hs u)) eNil)=j3 (x72 call hs u NN) 2 5 11:=lp (Ln:=fun n=>j3 (x72 call hs u n) 2 5 11) fun n=>tr x1s6
theorem x1s8:x2hn call hs u xz0 (j0 (x45 call hs u)) eNil=j3 (x72 call hs u NN) 2 5 11:=bk x1s7
theorem x1s9:x2hn call hs u xyz (j0 (x45 call hs u)) eNil=j2 (xfh call hs u) 2 5:=tr (sqN 1 x1s8)
theorem x1sa:x2hn call hs u xkt r_0 eNil=j2 (xfh call hs u) 2 5:=sq2 x1s5 x1s9
theorem x1sb:x2hn call hs u xyy r_0 eNil=j6 (xbn call hs u) 1 2 5 6 7 8:=tr (sqN 4 x1sa)
theorem x1sc:x2hn call hs u x1s2 (j6 (xbn call hs u) 1 2 5 6 7 8) eNil=j6 (xfi call hs u) 1 2 5 6 7 8:=by kernel_rfl
theorem x1sd:x2hn call hs u xks r_0 eNil=j6 (xfi call hs u) 1 2 5 6 7 8:=sq2 x1sb x1sc
theorem x1db:x2hn call hs u xyx r_0 eNil=j2 (xnz call hs u) 0 1:=tr (sqN 5 x1sd)
noncomputable abbrev x2ho:=VX xef 88 r_1
noncomputable def xz2:=x2ei xef
noncomputable def xku:=nRs 3 xz2
noncomputable def xz3:=nL xku
noncomputable def xz4:=nR xku
noncomputable def xkv:=nRs 2 xz4
noncomputable def x1se:=nL xkv
noncomputable def x1sf:=nR xkv
noncomputable def xz5:=nR xz3
noncomputable def xz6:=nR xz5
noncomputable def x1sg:=nR xz6
theorem x1sh:x2ho call hs u x1sf r_1 eNil=j6 (xbo call hs u) 0 1 2 8 9 11:=by kernel_rfl
theorem x1si:x2ho call hs u x1se (j6 (xbo call hs u) 0 1 2 8 9 11) eNil=j6 (xfj call hs u) 0 1 2 8 9 11:=by kernel_rfl
theorem x1sj:x2ho call hs u xkv r_1 eNil=j6 (xfj call hs u) 0 1 2 8 9 11:=sq2 x1sh x1si
theorem x1sk:x2ho call hs u xz4 r_1 eNil=j3 (x46 call hs u) 0 1 2:=tr (sqN 2 x1sj)
theorem x1sl{rec0:AV->AV->AV->AV->Mem->Nat->O2}:x2ho call hs u x1sg (j4 rec0 0 1 2 7) (setE 0 (j3 (x46 call hs u) 0 1 2) eNil)=j4 (xo0 call hs u rec0) 0 1 2 7:=by kernel_rfl
theorem x1sm:x2ho call hs u xz6 (j3 (x46 call hs u) 0 1 2) (setE 0 (j3 (x46 call hs u) 0 1 2) eNil)=j4 (x73 call hs u NN) 0 1 2 7:=lp (Ln:=fun n=>j4 (x73 call hs u n) 0 1 2 7) fun n=>tr x1sl
theorem x1sn:x2ho call hs u xz5 (j3 (x46 call hs u) 0 1 2) eNil=j4 (x73 call hs u NN) 0 1 2 7:=bk x1sm
theorem x1so:x2ho call hs u xz3 (j3 (x46 call hs u) 0 1 2) eNil=j3 (xfk call hs u) 0 1 2:=tr (sqN 1 x1sn)
theorem x1sp:x2ho call hs u xku r_1 eNil=j3 (xfk call hs u) 0 1 2:=sq2 x1sk x1so
theorem x1dc:x2ho call hs u xz2 r_1 eNil=j3 (xo1 call hs u) 0 1 2:=tr (sqN 3 x1sp)
noncomputable abbrev x2sp:=VX x6e 63 r_2
noncomputable def x1sq:=x2ei x6e
theorem x1dd:x2sp call hs u x1sq r_2 eNil=j1 (xfl call hs u) 0:=by kernel_rfl
noncomputable abbrev x2sq:=VX x2w 82 r_3
noncomputable def x1sr:=x2ei x2w
theorem x1de:x2sq call hs u x1sr r_3 eNil=j0 (xo2 call hs u):=by kernel_rfl
noncomputable abbrev x2jb:=VX xa6 63 r_2
noncomputable def xz7:=x2ei xa6
noncomputable def xkw:=nRs 3 xz7
noncomputable def xz8:=nL xkw
noncomputable def x1ss:=nR xkw
noncomputable def xz9:=nR xz8
noncomputable def xza:=nR xz9
noncomputable def x1st:=nR xza
theorem x1su:x2jb call hs u x1ss r_2 eNil=j0 (x47 call hs u):=by kernel_rfl
theorem x1sv{rec0:AV->AV->Mem->Nat->O2}:x2jb call hs u x1st (j2 rec0 1 3) (setE 0 (j0 (x47 call hs u)) eNil)=j2 (xo3 call hs u rec0) 1 3:=by kernel_rfl
theorem x1sw:x2jb call hs u xza (j0 (x47 call hs u)) (setE 0 (j0 (x47 call hs u)) eNil)=j2 (x74 call hs u NN) 1 3:=lp (Ln:=fun n=>j2 (x74 call hs u n) 1 3) fun n=>tr x1sv
theorem x1sx:x2jb call hs u xz9 (j0 (x47 call hs u)) eNil=j2 (x74 call hs u NN) 1 3:=bk x1sw
theorem x1sy:x2jb call hs u xz8 (j0 (x47 call hs u)) eNil=j1 (xfm call hs u) 1:=tr (sqN 1 x1sx)
theorem x1sz:x2jb call hs u xkw r_2 eNil=j1 (xfm call hs u) 1:=sq2 x1su x1sy
theorem x1df:x2jb call hs u xz7 r_2 eNil=j1 (xo4 call hs u) 0:=tr (sqN 3 x1sz)
noncomputable abbrev x2fq:=VX x6f 90 r_4
noncomputable def xzb:=x2ei x6f
noncomputable def xkx:=nRs 5 xzb
noncomputable def xzc:=nL xkx
noncomputable def xzd:=nR xkx
noncomputable def xky:=nRs 3 xzd
noncomputable def xze:=nL xky
noncomputable def x1t0:=nR xky
noncomputable def xzf:=nR xze
noncomputable def xzg:=nR xzf
noncomputable def xzh:=nR xzg
noncomputable def xkz:=nRs 2 xzh
noncomputable def x1t1:=nL xkz
noncomputable def x1t2:=nR xkz
noncomputable def xzi:=nR xzc
noncomputable def xzj:=nR xzi
noncomputable def xzk:=nR xzj
noncomputable def xl0:=nRs 2 xzk
noncomputable def x1t3:=nL xl0
noncomputable def x1t4:=nR xl0
theorem x1t5:x2fq call hs u x1t0 r_4 eNil=j1 (x1q call hs u) 14:=by kernel_rfl
theorem x1t6{rec0:AV->AV->AV->AV->AV->AV->AV->Mem->Nat->O2}:x2fq call hs u x1t2 (j7 rec0 1 12 13 14 60 61 62) (setE 2 (j1 (x1q call hs u) 14) eNil)=j7 (xbp call hs u rec0) 1 12 13 14 60 61 62:=by kernel_rfl
theorem x1t7{rec0:AV->AV->AV->AV->AV->AV->AV->Mem->Nat->O2}:x2fq call hs u x1t1 (j7 (xbp call hs u rec0) 1 12 13 14 60 61 62) (setE 2 (j1 (x1q call hs u) 14) eNil)=j7 (xfn call hs u rec0) 1 12 13 14 60 61 62:=by kernel_rfl
theorem x1t8{rec0:AV->AV->AV->AV->AV->AV->AV->Mem->Nat->O2}:x2fq call hs u xkz (j7 rec0 1 12 13 14 60 61 62) (setE 2 (j1 (x1q call hs u) 14) eNil)=j7 (xfn call hs u rec0) 1 12 13 14 60 61 62:=sq2 x1t6 x1t7
theorem x1t9{rec0:AV->AV->AV->AV->AV->AV->AV->Mem->Nat->O2}:x2fq call hs u xzh (j7 rec0 1 12 13 14 60 61 62) (setE 2 (j1 (x1q call hs u) 14) eNil)=j7 (xo5 call hs u rec0) 1 12 13 14 60 61 62:=tr (sqN 2 x1t8)
theorem x1ta:x2fq call hs u xzg (j1 (x1q call hs u) 14) (setE 2 (j1 (x1q call hs u) 14) eNil)=j7 (x75 call hs u NN) 1 12 13 14 60 61 62:=lp (Ln:=fun n=>j7 (x75 call hs u n) 1 12 13 14 60 61 62) fun n=>tr x1t9
theorem x1tb:x2fq call hs u xzf (j1 (x1q call hs u) 14) eNil=j7 (x75 call hs u NN) 1 12 13 14 60 61 62:=bk x1ta
theorem x1tc:x2fq call hs u xze (j1 (x1q call hs u) 14) eNil=j4 (xfo call hs u) 1 12 13 14:=tr (sqN 1 x1tb)
theorem x1td:x2fq call hs u xky r_4 eNil=j4 (xfo call hs u) 1 12 13 14:=sq2 x1t5 x1tc
theorem x1te:x2fq call hs u xzd r_4 eNil=j4 (x1r call hs u) 1 2 8 9:=tr (sqN 3 x1td)
theorem x1tf{rec1:AV->AV->AV->AV->AV->AV->AV->Mem->Nat->O2}:x2fq call hs u x1t4 (j7 rec1 1 2 8 9 36 37 38) (setE 0 (j4 (x1r call hs u) 1 2 8 9) eNil)=j7 (xbq call hs u rec1) 1 2 8 9 36 37 38:=by kernel_rfl
theorem x1tg{rec1:AV->AV->AV->AV->AV->AV->AV->Mem->Nat->O2}:x2fq call hs u x1t3 (j7 (xbq call hs u rec1) 1 2 8 9 36 37 38) (setE 0 (j4 (x1r call hs u) 1 2 8 9) eNil)=j7 (xfp call hs u rec1) 1 2 8 9 36 37 38:=by kernel_rfl
theorem x1th{rec1:AV->AV->AV->AV->AV->AV->AV->Mem->Nat->O2}:x2fq call hs u xl0 (j7 rec1 1 2 8 9 36 37 38) (setE 0 (j4 (x1r call hs u) 1 2 8 9) eNil)=j7 (xfp call hs u rec1) 1 2 8 9 36 37 38:=sq2 x1tf x1tg
theorem x1ti{rec1:AV->AV->AV->AV->AV->AV->AV->Mem->Nat->O2}:x2fq call hs u xzk (j7 rec1 1 2 8 9 36 37 38) (setE 0 (j4 (x1r call hs u) 1 2 8 9) eNil)=j7 (xo6 call hs u rec1) 1 2 8 9 36 37 38:=tr (sqN 2 x1th)
theorem x1tj:x2fq call hs u xzj (j4 (x1r call hs u) 1 2 8 9) (setE 0 (j4 (x1r call hs u) 1 2 8 9) eNil)=j7 (x76 call hs u NN) 1 2 8 9 36 37 38:=lp (Ln:=fun n=>j7 (x76 call hs u n) 1 2 8 9 36 37 38) fun n=>tr x1ti
theorem x1tk:x2fq call hs u xzi (j4 (x1r call hs u) 1 2 8 9) eNil=j7 (x76 call hs u NN) 1 2 8 9 36 37 38:=bk x1tj
theorem x1tl:x2fq call hs u xzc (j4 (x1r call hs u) 1 2 8 9) eNil=j4 (xfq call hs u) 1 2 8 9:=tr (sqN 1 x1tk)
theorem x1tm:x2fq call hs u xkx r_4 eNil=j4 (xfq call hs u) 1 2 8 9:=sq2 x1te x1tl
theorem x1dg:x2fq call hs u xzb r_4 eNil=j2 (xo7 call hs u) 0 1:=tr (sqN 5 x1tm)
noncomputable abbrev x2sr:=VX xa7 13 r_5
noncomputable def x1tn:=x2ei xa7
theorem x1dh:x2sr call hs u x1tn r_5 eNil=j1 (xo8 call hs u) 0:=by kernel_rfl
noncomputable abbrev x2gx:=VX x6g 58 r_2
noncomputable def xzl:=x2ei x6g
noncomputable def xl1:=nRs 3 xzl
noncomputable def xzm:=nL xl1
noncomputable def xl2:=nR xl1
noncomputable def xzn:=nL xl2
noncomputable def x1to:=nR xl2
noncomputable def xzo:=nR xzn
noncomputable def xzp:=nR xzo
noncomputable def x1tp:=nR xzp
noncomputable def xzq:=nR xzm
noncomputable def xzr:=nR xzq
noncomputable def x1tq:=nR xzr
theorem x1tr:x2gx call hs u x1to r_2 eNil=j0 (x48 call hs u):=by kernel_rfl
theorem x1ts{rec0:AV->AV->Mem->Nat->O2}:x2gx call hs u x1tp (j2 rec0 1 5) (setE 2 (j0 (x48 call hs u)) eNil)=j2 (xo9 call hs u rec0) 1 5:=by kernel_rfl
theorem x1tt:x2gx call hs u xzp (j0 (x48 call hs u)) (setE 2 (j0 (x48 call hs u)) eNil)=j2 (x77 call hs u NN) 1 5:=lp (Ln:=fun n=>j2 (x77 call hs u n) 1 5) fun n=>tr x1ts
theorem x1tu:x2gx call hs u xzo (j0 (x48 call hs u)) eNil=j2 (x77 call hs u NN) 1 5:=bk x1tt
theorem x1tv:x2gx call hs u xzn (j0 (x48 call hs u)) eNil=j1 (x33 call hs u) 1:=tr (sqN 1 x1tu)
theorem x1tw:x2gx call hs u xl2 r_2 eNil=j1 (x33 call hs u) 1:=sq2 x1tr x1tv
theorem x1tx{rec1:AV->AV->Mem->Nat->O2}:x2gx call hs u x1tq (j2 rec1 1 4) (setE 0 (j1 (x33 call hs u) 1) eNil)=j2 (xoa call hs u rec1) 1 4:=by kernel_rfl
theorem x1ty:x2gx call hs u xzr (j1 (x33 call hs u) 1) (setE 0 (j1 (x33 call hs u) 1) eNil)=j2 (x78 call hs u NN) 1 4:=lp (Ln:=fun n=>j2 (x78 call hs u n) 1 4) fun n=>tr x1tx
theorem x1tz:x2gx call hs u xzq (j1 (x33 call hs u) 1) eNil=j2 (x78 call hs u NN) 1 4:=bk x1ty
theorem x1u0:x2gx call hs u xzm (j1 (x33 call hs u) 1) eNil=j1 (xfr call hs u) 1:=tr (sqN 1 x1tz)
theorem x1u1:x2gx call hs u xl1 r_2 eNil=j1 (xfr call hs u) 1:=sq2 x1tw x1u0
theorem x1di:x2gx call hs u xzl r_2 eNil=j1 (xob call hs u) 0:=tr (sqN 3 x1u1)
noncomputable abbrev x2ss:=VX xk 15 r_1
noncomputable def x1u2:=x2ei xk
theorem x1dj:x2ss call hs u x1u2 r_1 eNil=j3 (xfs call hs u) 0 1 2:=by kernel_rfl
noncomputable abbrev x2fr:=VX xa8 79 r_6
noncomputable def xzs:=x2ei xa8
noncomputable def xl3:=nRs 3 xzs
noncomputable def xzt:=nL xl3
noncomputable def xzu:=nR xl3
noncomputable def xl4:=nRs 4 xzu
noncomputable def xzv:=nL xl4
noncomputable def x1u3:=nR xl4
noncomputable def xzw:=nR xzv
noncomputable def xzx:=nR xzw
noncomputable def xzy:=nR xzx
noncomputable def xl5:=nR xzy
noncomputable def x1u4:=nL xl5
noncomputable def x1u5:=nR xl5
noncomputable def xzz:=nR xzt
noncomputable def x100:=nR xzz
noncomputable def x101:=nR x100
noncomputable def xl6:=nR x101
noncomputable def x1u6:=nL xl6
noncomputable def x1u7:=nR xl6
theorem x1u8:x2fr call hs u x1u3 r_6 eNil=j1 (x1s call hs u) 13:=by kernel_rfl
theorem x1u9{rec0:AV->AV->AV->AV->AV->Mem->Nat->O2}:x2fr call hs u x1u5 (j5 rec0 1 11 12 13 14) (setE 2 (j1 (x1s call hs u) 13) eNil)=j5 (xbs call hs u rec0) 1 11 12 13 14:=by kernel_rfl
theorem x1ua{rec0:AV->AV->AV->AV->AV->Mem->Nat->O2}:x2fr call hs u x1u4 (j5 (xbs call hs u rec0) 1 11 12 13 14) (setE 2 (j1 (x1s call hs u) 13) eNil)=j5 (xft call hs u rec0) 1 11 12 13 14:=by kernel_rfl
theorem x1ub{rec0:AV->AV->AV->AV->AV->Mem->Nat->O2}:x2fr call hs u xl5 (j5 rec0 1 11 12 13 14) (setE 2 (j1 (x1s call hs u) 13) eNil)=j5 (xft call hs u rec0) 1 11 12 13 14:=sq2 x1u9 x1ua
theorem x1uc{rec0:AV->AV->AV->AV->AV->Mem->Nat->O2}:x2fr call hs u xzy (j5 rec0 1 11 12 13 14) (setE 2 (j1 (x1s call hs u) 13) eNil)=j5 (xoc call hs u rec0) 1 11 12 13 14:=tr (sqN 1 x1ub)
theorem x1ud:x2fr call hs u xzx (j1 (x1s call hs u) 13) (setE 2 (j1 (x1s call hs u) 13) eNil)=j5 (x79 call hs u NN) 1 11 12 13 14:=lp (Ln:=fun n=>j5 (x79 call hs u n) 1 11 12 13 14) fun n=>tr x1uc
theorem x1ue:x2fr call hs u xzw (j1 (x1s call hs u) 13) eNil=j5 (x79 call hs u NN) 1 11 12 13 14:=bk x1ud
theorem x1uf:x2fr call hs u xzv (j1 (x1s call hs u) 13) eNil=j4 (xfu call hs u) 1 11 12 13:=tr (sqN 1 x1ue)
theorem x1ug:x2fr call hs u xl4 r_6 eNil=j4 (xfu call hs u) 1 11 12 13:=sq2 x1u8 x1uf
theorem x1uh:x2fr call hs u xzu r_6 eNil=j3 (x1t call hs u) 1 2 7:=tr (sqN 4 x1ug)
theorem x1ui{rec1:AV->AV->AV->AV->AV->Mem->Nat->O2}:x2fr call hs u x1u7 (j5 rec1 1 2 6 7 8) (setE 0 (j3 (x1t call hs u) 1 2 7) eNil)=j5 (xbt call hs u rec1) 1 2 6 7 8:=by kernel_rfl
theorem x1uj{rec1:AV->AV->AV->AV->AV->Mem->Nat->O2}:x2fr call hs u x1u6 (j5 (xbt call hs u rec1) 1 2 6 7 8) (setE 0 (j3 (x1t call hs u) 1 2 7) eNil)=j5 (xfv call hs u rec1) 1 2 6 7 8:=by kernel_rfl
theorem x1uk{rec1:AV->AV->AV->AV->AV->Mem->Nat->O2}:x2fr call hs u xl6 (j5 rec1 1 2 6 7 8) (setE 0 (j3 (x1t call hs u) 1 2 7) eNil)=j5 (xfv call hs u rec1) 1 2 6 7 8:=sq2 x1ui x1uj
theorem x1ul{rec1:AV->AV->AV->AV->AV->Mem->Nat->O2}:x2fr call hs u x101 (j5 rec1 1 2 6 7 8) (setE 0 (j3 (x1t call hs u) 1 2 7) eNil)=j5 (xod call hs u rec1) 1 2 6 7 8:=tr (sqN 1 x1uk)
theorem x1um:x2fr call hs u x100 (j3 (x1t call hs u) 1 2 7) (setE 0 (j3 (x1t call hs u) 1 2 7) eNil)=j5 (x7a call hs u NN) 1 2 6 7 8:=lp (Ln:=fun n=>j5 (x7a call hs u n) 1 2 6 7 8) fun n=>tr x1ul
theorem x1un:x2fr call hs u xzz (j3 (x1t call hs u) 1 2 7) eNil=j5 (x7a call hs u NN) 1 2 6 7 8:=bk x1um
theorem x1uo:x2fr call hs u xzt (j3 (x1t call hs u) 1 2 7) eNil=j4 (xfw call hs u) 1 2 6 7:=tr (sqN 1 x1un)
theorem x1up:x2fr call hs u xl3 r_6 eNil=j4 (xfw call hs u) 1 2 6 7:=sq2 x1uh x1uo
theorem x1dk:x2fr call hs u xzs r_6 eNil=j2 (xoe call hs u) 0 1:=tr (sqN 3 x1up)
noncomputable abbrev x2jc:=VX x16 26 r_0
noncomputable def x102:=x2ei x16
noncomputable def xl7:=nRs 2 x102
noncomputable def x103:=nL xl7
noncomputable def x1uq:=nR xl7
noncomputable def x104:=nR x103
noncomputable def x105:=nR x104
noncomputable def x1ur:=nR x105
theorem x1us:x2jc call hs u x1uq r_0 eNil=j0 (x34 call hs u):=by kernel_rfl
theorem x1ut{rec0:AV->AV->AV->Mem->Nat->O2}:x2jc call hs u x1ur (j3 rec0 0 1 5) (setE 0 (j0 (x34 call hs u)) eNil)=j3 (xbu call hs u rec0) 0 1 5:=by kernel_rfl
theorem x1uu:x2jc call hs u x105 (j0 (x34 call hs u)) (setE 0 (j0 (x34 call hs u)) eNil)=j3 (x35 call hs u NN) 0 1 5:=lp (Ln:=fun n=>j3 (x35 call hs u n) 0 1 5) fun n=>tr x1ut
theorem x1uv:x2jc call hs u x104 (j0 (x34 call hs u)) eNil=j3 (x35 call hs u NN) 0 1 5:=bk x1uu
theorem x1uw:x2jc call hs u x103 (j0 (x34 call hs u)) eNil=j2 (xbv call hs u) 0 1:=tr (sqN 1 x1uv)
theorem x1ux:x2jc call hs u xl7 r_0 eNil=j2 (xbv call hs u) 0 1:=sq2 x1us x1uw
theorem x1dl:x2jc call hs u x102 r_0 eNil=j2 (xfx call hs u) 0 1:=tr (sqN 2 x1ux)
noncomputable abbrev x2fy:=VX xa9 77 r_7
noncomputable def x106:=x2ei xa9
noncomputable def xl8:=nRs 4 x106
noncomputable def x107:=nL xl8
noncomputable def x1uy:=nR xl8
noncomputable def x108:=nR x107
noncomputable def x109:=nR x108
noncomputable def x10a:=nR x109
noncomputable def xl9:=nRs 2 x10a
noncomputable def x10b:=nL xl9
noncomputable def x1uz:=nR xl9
noncomputable def x10c:=nR x10b
noncomputable def x10d:=nRs 2 x10c
noncomputable def x10e:=nR x10d
noncomputable def x10f:=nR x10e
noncomputable def xla:=nR x10f
noncomputable def x1v0:=nL xla
noncomputable def x1v1:=nR xla
theorem x1v2:x2fy call hs u x1uy r_7 eNil=j1 (xm call hs u) 10:=by kernel_rfl
theorem x1v3{rec0:AV->AV->AV->AV->AV->AV->AV->Mem->Nat->O2}:x2fy call hs u x1uz (j7 rec0 0 1 2 10 31 32 33) (setE 0 (j1 (xm call hs u) 10) eNil)=j7 (xe call hs u rec0) 0 1 2 10 31 32 33:=by kernel_rfl
theorem x1v4{rec0:AV->AV->AV->AV->AV->AV->AV->Mem->Nat->O2}{rec1:AV->AV->AV->AV->AV->AV->AV->AV->AV->AV->Mem->Nat->O2}:x2fy call hs u x1v1 (j10 rec1 0 1 2 10 11 12 13 31 32 33) (setE 2 (j7 (xe call hs u rec0) 0 1 2 10 31 32 33) (setE 1 (j7 (xe call hs u rec0) 0 1 2 10 31 32 33) (setE 0 (j1 (xm call hs u) 10) eNil)))=j10 (xbw call hs u rec0 rec1) 0 1 2 10 11 12 13 31 32 33:=by kernel_rfl
theorem x1v5{rec0:AV->AV->AV->AV->AV->AV->AV->Mem->Nat->O2}{rec1:AV->AV->AV->AV->AV->AV->AV->AV->AV->AV->Mem->Nat->O2}:x2fy call hs u x1v0 (j10 (xbw call hs u rec0 rec1) 0 1 2 10 11 12 13 31 32 33) (setE 2 (j7 (xe call hs u rec0) 0 1 2 10 31 32 33) (setE 1 (j7 (xe call hs u rec0) 0 1 2 10 31 32 33) (setE 0 (j1 (xm call hs u) 10) eNil)))=j10 (xfy call hs u rec0 rec1) 0 1 2 10 11 12 13 31 32 33:=by kernel_rfl
theorem x1v6{rec0:AV->AV->AV->AV->AV->AV->AV->Mem->Nat->O2}{rec1:AV->AV->AV->AV->AV->AV->AV->AV->AV->AV->Mem->Nat->O2}:x2fy call hs u xla (j10 rec1 0 1 2 10 11 12 13 31 32 33) (setE 2 (j7 (xe call hs u rec0) 0 1 2 10 31 32 33) (setE 1 (j7 (xe call hs u rec0) 0 1 2 10 31 32 33) (setE 0 (j1 (xm call hs u) 10) eNil)))=j10 (xfy call hs u rec0 rec1) 0 1 2 10 11 12 13 31 32 33:=sq2 x1v4 x1v5
theorem x1v7{rec0:AV->AV->AV->AV->AV->AV->AV->Mem->Nat->O2}{rec1:AV->AV->AV->AV->AV->AV->AV->AV->AV->AV->Mem->Nat->O2}:x2fy call hs u x10f (j10 rec1 0 1 2 10 11 12 13 31 32 33) (setE 2 (j7 (xe call hs u rec0) 0 1 2 10 31 32 33) (setE 1 (j7 (xe call hs u rec0) 0 1 2 10 31 32 33) (setE 0 (j1 (xm call hs u) 10) eNil)))=j10 (xof call hs u rec0 rec1) 0 1 2 10 11 12 13 31 32 33:=tr (sqN 1 x1v6)
theorem x1v8{rec0:AV->AV->AV->AV->AV->AV->AV->Mem->Nat->O2}:x2fy call hs u x10e (j7 (xe call hs u rec0) 0 1 2 10 31 32 33) (setE 2 (j7 (xe call hs u rec0) 0 1 2 10 31 32 33) (setE 1 (j7 (xe call hs u rec0) 0 1 2 10 31 32 33) (setE 0 (j1 (xm call hs u) 10) eNil)))=j10 (x7b call hs u rec0 NN) 0 1 2 10 11 12 13 31 32 33:=lp (Ln:=fun n=>j10 (x7b call hs u rec0 n) 0 1 2 10 11 12 13 31 32 33) fun n=>tr x1v7
theorem x1v9{rec0:AV->AV->AV->AV->AV->AV->AV->Mem->Nat->O2}:x2fy call hs u x10d (j7 (xe call hs u rec0) 0 1 2 10 31 32 33) (setE 1 (j7 (xe call hs u rec0) 0 1 2 10 31 32 33) (setE 0 (j1 (xm call hs u) 10) eNil))=j10 (x7b call hs u rec0 NN) 0 1 2 10 11 12 13 31 32 33:=bk x1v8
theorem x1va{rec0:AV->AV->AV->AV->AV->AV->AV->Mem->Nat->O2}:x2fy call hs u x10c (j7 (xe call hs u rec0) 0 1 2 10 31 32 33) (setE 1 (j7 (xe call hs u rec0) 0 1 2 10 31 32 33) (setE 0 (j1 (xm call hs u) 10) eNil))=j7 (xbx call hs u rec0) 0 1 2 10 31 32 33:=tr (sqN 2 x1v9)
theorem x1vb{rec0:AV->AV->AV->AV->AV->AV->AV->Mem->Nat->O2}:x2fy call hs u x10b (j7 (xe call hs u rec0) 0 1 2 10 31 32 33) (setE 0 (j1 (xm call hs u) 10) eNil)=j7 (xbx call hs u rec0) 0 1 2 10 31 32 33:=bk x1va
theorem x1vc{rec0:AV->AV->AV->AV->AV->AV->AV->Mem->Nat->O2}:x2fy call hs u xl9 (j7 rec0 0 1 2 10 31 32 33) (setE 0 (j1 (xm call hs u) 10) eNil)=j7 (xbx call hs u rec0) 0 1 2 10 31 32 33:=sq2 x1v3 x1vb
theorem x1vd{rec0:AV->AV->AV->AV->AV->AV->AV->Mem->Nat->O2}:x2fy call hs u x10a (j7 rec0 0 1 2 10 31 32 33) (setE 0 (j1 (xm call hs u) 10) eNil)=j7 (xog call hs u rec0) 0 1 2 10 31 32 33:=tr (sqN 2 x1vc)
theorem x1ve:x2fy call hs u x109 (j1 (xm call hs u) 10) (setE 0 (j1 (xm call hs u) 10) eNil)=j7 (x7c call hs u NN) 0 1 2 10 31 32 33:=lp (Ln:=fun n=>j7 (x7c call hs u n) 0 1 2 10 31 32 33) fun n=>tr x1vd
theorem x1vf:x2fy call hs u x108 (j1 (xm call hs u) 10) eNil=j7 (x7c call hs u NN) 0 1 2 10 31 32 33:=bk x1ve
theorem x1vg:x2fy call hs u x107 (j1 (xm call hs u) 10) eNil=j4 (xfz call hs u) 0 1 2 10:=tr (sqN 1 x1vf)
theorem x1vh:x2fy call hs u xl8 r_7 eNil=j4 (xfz call hs u) 0 1 2 10:=sq2 x1v2 x1vg
theorem x1dm:x2fy call hs u x106 r_7 eNil=j3 (xoh call hs u) 0 1 2:=tr (sqN 4 x1vh)
noncomputable abbrev x2fz:=VX x2x 50 r_8
noncomputable def x10g:=x2ei x2x
noncomputable def xlb:=nRs 2 x10g
noncomputable def x10h:=nL xlb
noncomputable def x1vi:=nR xlb
noncomputable def x10i:=nR x10h
noncomputable def x10j:=nR x10i
noncomputable def x10k:=nR x10j
noncomputable def xlc:=nR x10k
noncomputable def x10l:=nL xlc
noncomputable def x1vj:=nR xlc
noncomputable def x10m:=nR x10l
noncomputable def xld:=nRs 2 x10m
noncomputable def x10n:=nL xld
noncomputable def x1vk:=nR xld
noncomputable def x10o:=nR x10n
noncomputable def x10p:=nR x10o
noncomputable def x1vl:=nR x10p
theorem x1vm:x2fz call hs u x1vi r_8 eNil=j0 (xf call hs u):=by kernel_rfl
theorem x1vn{rec0:AV->AV->Mem->Nat->O2}:x2fz call hs u x1vj (j2 rec0 0 4) (setE 0 (j0 (xf call hs u)) eNil)=j2 (x10 call hs u rec0) 0 4:=by kernel_rfl
theorem x1vo{rec0:AV->AV->Mem->Nat->O2}:x2fz call hs u x1vk (j2 (x10 call hs u rec0) 0 4) (setE 1 (j2 (x10 call hs u rec0) 0 4) (setE 0 (j0 (xf call hs u)) eNil))=j3 (x2j call hs u rec0) 0 4 5:=by kernel_rfl
theorem x1vp{rec0:AV->AV->Mem->Nat->O2}{rec1:AV->AV->AV->AV->Mem->Nat->O2}:x2fz call hs u x1vl (j4 rec1 0 4 5 6) (setE 2 (j3 (x2j call hs u rec0) 0 4 5) (setE 1 (j2 (x10 call hs u rec0) 0 4) (setE 0 (j0 (xf call hs u)) eNil)))=j4 (xby call hs u rec0 rec1) 0 4 5 6:=by kernel_rfl
theorem x1vq{rec0:AV->AV->Mem->Nat->O2}:x2fz call hs u x10p (j3 (x2j call hs u rec0) 0 4 5) (setE 2 (j3 (x2j call hs u rec0) 0 4 5) (setE 1 (j2 (x10 call hs u rec0) 0 4) (setE 0 (j0 (xf call hs u)) eNil)))=j4 (x36 call hs u rec0 NN) 0 4 5 6:=lp (Ln:=fun n=>j4 (x36 call hs u rec0 n) 0 4 5 6) fun n=>tr x1vp
theorem x1vr{rec0:AV->AV->Mem->Nat->O2}:x2fz call hs u x10o (j3 (x2j call hs u rec0) 0 4 5) (setE 1 (j2 (x10 call hs u rec0) 0 4) (setE 0 (j0 (xf call hs u)) eNil))=j4 (x36 call hs u rec0 NN) 0 4 5 6:=bk x1vq
theorem x1vs{rec0:AV->AV->Mem->Nat->O2}:x2fz call hs u x10n (j3 (x2j call hs u rec0) 0 4 5) (setE 1 (j2 (x10 call hs u rec0) 0 4) (setE 0 (j0 (xf call hs u)) eNil))=j3 (xbz call hs u rec0) 0 4 5:=tr (sqN 1 x1vr)
theorem x1vt{rec0:AV->AV->Mem->Nat->O2}:x2fz call hs u xld (j2 (x10 call hs u rec0) 0 4) (setE 1 (j2 (x10 call hs u rec0) 0 4) (setE 0 (j0 (xf call hs u)) eNil))=j3 (xbz call hs u rec0) 0 4 5:=sq2 x1vo x1vs
theorem x1vu{rec0:AV->AV->Mem->Nat->O2}:x2fz call hs u x10m (j2 (x10 call hs u rec0) 0 4) (setE 1 (j2 (x10 call hs u rec0) 0 4) (setE 0 (j0 (xf call hs u)) eNil))=j2 (x7d call hs u rec0) 0 4:=tr (sqN 2 x1vt)
theorem x1vv{rec0:AV->AV->Mem->Nat->O2}:x2fz call hs u x10l (j2 (x10 call hs u rec0) 0 4) (setE 0 (j0 (xf call hs u)) eNil)=j2 (x7d call hs u rec0) 0 4:=bk x1vu
theorem x1vw{rec0:AV->AV->Mem->Nat->O2}:x2fz call hs u xlc (j2 rec0 0 4) (setE 0 (j0 (xf call hs u)) eNil)=j2 (x7d call hs u rec0) 0 4:=sq2 x1vn x1vv
theorem x1vx{rec0:AV->AV->Mem->Nat->O2}:x2fz call hs u x10k (j2 rec0 0 4) (setE 0 (j0 (xf call hs u)) eNil)=j2 (xc0 call hs u rec0) 0 4:=tr (sqN 1 x1vw)
theorem x1vy:x2fz call hs u x10j (j0 (xf call hs u)) (setE 0 (j0 (xf call hs u)) eNil)=j2 (x1u call hs u NN) 0 4:=lp (Ln:=fun n=>j2 (x1u call hs u n) 0 4) fun n=>tr x1vx
theorem x1vz:x2fz call hs u x10i (j0 (xf call hs u)) eNil=j2 (x1u call hs u NN) 0 4:=bk x1vy
theorem x1w0:x2fz call hs u x10h (j0 (xf call hs u)) eNil=j1 (xc1 call hs u) 0:=tr (sqN 1 x1vz)
theorem x1w1:x2fz call hs u xlb r_8 eNil=j1 (xc1 call hs u) 0:=sq2 x1vm x1w0
theorem x1dn:x2fz call hs u x10g r_8 eNil=j1 (xg0 call hs u) 0:=tr (sqN 2 x1w1)
noncomputable abbrev x2g0:=VX xaa 61 r_1
noncomputable def x10q:=x2ei xaa
noncomputable def xle:=nRs 2 x10q
noncomputable def x10r:=nL xle
noncomputable def x1w2:=nR xle
noncomputable def x10s:=nR x10r
noncomputable def x10t:=nR x10s
noncomputable def x10u:=nR x10t
noncomputable def xlf:=nR x10u
noncomputable def x10v:=nL xlf
noncomputable def x1w3:=nR xlf
noncomputable def x10w:=nR x10v
noncomputable def x10x:=nR x10w
noncomputable def x10y:=nR x10x
noncomputable def x10z:=nR x10y
noncomputable def xlg:=nR x10z
noncomputable def x1w4:=nL xlg
noncomputable def x1w5:=nR xlg
theorem x1w6:x2g0 call hs u x1w2 r_1 eNil=j1 (xn call hs u) 7:=by kernel_rfl
theorem x1w7{rec0:AV->AV->AV->AV->AV->Mem->Nat->O2}:x2g0 call hs u x1w3 (j5 rec0 0 1 2 7 8) (setE 0 (j1 (xn call hs u) 7) eNil)=j5 (xh call hs u rec0) 0 1 2 7 8:=by kernel_rfl
theorem x1w8{rec0:AV->AV->AV->AV->AV->Mem->Nat->O2}{rec1:AV->AV->AV->AV->AV->AV->Mem->Nat->O2}:x2g0 call hs u x1w5 (j6 rec1 0 1 2 7 8 9) (setE 2 (j5 (xh call hs u rec0) 0 1 2 7 8) (setE 1 (j5 (xh call hs u rec0) 0 1 2 7 8) (setE 0 (j1 (xn call hs u) 7) eNil)))=j6 (xc2 call hs u rec0 rec1) 0 1 2 7 8 9:=by kernel_rfl
theorem x1w9{rec0:AV->AV->AV->AV->AV->Mem->Nat->O2}{rec1:AV->AV->AV->AV->AV->AV->Mem->Nat->O2}:x2g0 call hs u x1w4 (j6 (xc2 call hs u rec0 rec1) 0 1 2 7 8 9) (setE 2 (j5 (xh call hs u rec0) 0 1 2 7 8) (setE 1 (j5 (xh call hs u rec0) 0 1 2 7 8) (setE 0 (j1 (xn call hs u) 7) eNil)))=j6 (xg1 call hs u rec0 rec1) 0 1 2 7 8 9:=by kernel_rfl
theorem x1wa{rec0:AV->AV->AV->AV->AV->Mem->Nat->O2}{rec1:AV->AV->AV->AV->AV->AV->Mem->Nat->O2}:x2g0 call hs u xlg (j6 rec1 0 1 2 7 8 9) (setE 2 (j5 (xh call hs u rec0) 0 1 2 7 8) (setE 1 (j5 (xh call hs u rec0) 0 1 2 7 8) (setE 0 (j1 (xn call hs u) 7) eNil)))=j6 (xg1 call hs u rec0 rec1) 0 1 2 7 8 9:=sq2 x1w8 x1w9
theorem x1wb{rec0:AV->AV->AV->AV->AV->Mem->Nat->O2}{rec1:AV->AV->AV->AV->AV->AV->Mem->Nat->O2}:x2g0 call hs u x10z (j6 rec1 0 1 2 7 8 9) (setE 2 (j5 (xh call hs u rec0) 0 1 2 7 8) (setE 1 (j5 (xh call hs u rec0) 0 1 2 7 8) (setE 0 (j1 (xn call hs u) 7) eNil)))=j6 (xoi call hs u rec0 rec1) 0 1 2 7 8 9:=tr (sqN 1 x1wa)
theorem x1wc{rec0:AV->AV->AV->AV->AV->Mem->Nat->O2}:x2g0 call hs u x10y (j5 (xh call hs u rec0) 0 1 2 7 8) (setE 2 (j5 (xh call hs u rec0) 0 1 2 7 8) (setE 1 (j5 (xh call hs u rec0) 0 1 2 7 8) (setE 0 (j1 (xn call hs u) 7) eNil)))=j6 (x7e call hs u rec0 NN) 0 1 2 7 8 9:=lp (Ln:=fun n=>j6 (x7e call hs u rec0 n) 0 1 2 7 8 9) fun n=>tr x1wb
theorem x1wd{rec0:AV->AV->AV->AV->AV->Mem->Nat->O2}:x2g0 call hs u x10x (j5 (xh call hs u rec0) 0 1 2 7 8) (setE 1 (j5 (xh call hs u rec0) 0 1 2 7 8) (setE 0 (j1 (xn call hs u) 7) eNil))=j6 (x7e call hs u rec0 NN) 0 1 2 7 8 9:=bk x1wc
theorem x1we{rec0:AV->AV->AV->AV->AV->Mem->Nat->O2}:x2g0 call hs u x10w (j5 (xh call hs u rec0) 0 1 2 7 8) (setE 1 (j5 (xh call hs u rec0) 0 1 2 7 8) (setE 0 (j1 (xn call hs u) 7) eNil))=j5 (xc3 call hs u rec0) 0 1 2 7 8:=tr (sqN 1 x1wd)
theorem x1wf{rec0:AV->AV->AV->AV->AV->Mem->Nat->O2}:x2g0 call hs u x10v (j5 (xh call hs u rec0) 0 1 2 7 8) (setE 0 (j1 (xn call hs u) 7) eNil)=j5 (xc3 call hs u rec0) 0 1 2 7 8:=bk x1we
theorem x1wg{rec0:AV->AV->AV->AV->AV->Mem->Nat->O2}:x2g0 call hs u xlf (j5 rec0 0 1 2 7 8) (setE 0 (j1 (xn call hs u) 7) eNil)=j5 (xc3 call hs u rec0) 0 1 2 7 8:=sq2 x1w7 x1wf
theorem x1wh{rec0:AV->AV->AV->AV->AV->Mem->Nat->O2}:x2g0 call hs u x10u (j5 rec0 0 1 2 7 8) (setE 0 (j1 (xn call hs u) 7) eNil)=j5 (xoj call hs u rec0) 0 1 2 7 8:=tr (sqN 1 x1wg)
theorem x1wi:x2g0 call hs u x10t (j1 (xn call hs u) 7) (setE 0 (j1 (xn call hs u) 7) eNil)=j5 (x7f call hs u NN) 0 1 2 7 8:=lp (Ln:=fun n=>j5 (x7f call hs u n) 0 1 2 7 8) fun n=>tr x1wh
theorem x1wj:x2g0 call hs u x10s (j1 (xn call hs u) 7) eNil=j5 (x7f call hs u NN) 0 1 2 7 8:=bk x1wi
theorem x1wk:x2g0 call hs u x10r (j1 (xn call hs u) 7) eNil=j4 (xg2 call hs u) 0 1 2 7:=tr (sqN 1 x1wj)
theorem x1wl:x2g0 call hs u xle r_1 eNil=j4 (xg2 call hs u) 0 1 2 7:=sq2 x1w6 x1wk
theorem x1do:x2g0 call hs u x10q r_1 eNil=j3 (xok call hs u) 0 1 2:=tr (sqN 2 x1wl)
noncomputable abbrev x2jd:=VX xab 26 r_0
noncomputable def x110:=x2ei xab
noncomputable def xlh:=nRs 2 x110
noncomputable def x111:=nL xlh
noncomputable def x1wm:=nR xlh
noncomputable def x112:=nR x111
noncomputable def x113:=nR x112
noncomputable def x1wn:=nR x113
theorem x1wo:x2jd call hs u x1wm r_0 eNil=j0 (x49 call hs u):=by kernel_rfl
theorem x1wp{rec0:AV->AV->AV->Mem->Nat->O2}:x2jd call hs u x1wn (j3 rec0 0 1 5) (setE 0 (j0 (x49 call hs u)) eNil)=j3 (xol call hs u rec0) 0 1 5:=by kernel_rfl
theorem x1wq:x2jd call hs u x113 (j0 (x49 call hs u)) (setE 0 (j0 (x49 call hs u)) eNil)=j3 (x7g call hs u NN) 0 1 5:=lp (Ln:=fun n=>j3 (x7g call hs u n) 0 1 5) fun n=>tr x1wp
theorem x1wr:x2jd call hs u x112 (j0 (x49 call hs u)) eNil=j3 (x7g call hs u NN) 0 1 5:=bk x1wq
theorem x1ws:x2jd call hs u x111 (j0 (x49 call hs u)) eNil=j2 (xg3 call hs u) 0 1:=tr (sqN 1 x1wr)
theorem x1wt:x2jd call hs u xlh r_0 eNil=j2 (xg3 call hs u) 0 1:=sq2 x1wo x1ws
theorem x1dp:x2jd call hs u x110 r_0 eNil=j2 (xom call hs u) 0 1:=tr (sqN 2 x1wt)
noncomputable abbrev x2je:=VX x3v 53 r_2
noncomputable def x114:=x2ei x3v
noncomputable def xli:=nRs 2 x114
noncomputable def x115:=nL xli
noncomputable def x1wu:=nR xli
noncomputable def x116:=nR x115
noncomputable def x117:=nR x116
noncomputable def x1wv:=nR x117
theorem x1ww:x2je call hs u x1wu r_2 eNil=j0 (x37 call hs u):=by kernel_rfl
theorem x1wx{rec0:AV->AV->Mem->Nat->O2}:x2je call hs u x1wv (j2 rec0 1 3) (setE 0 (j0 (x37 call hs u)) eNil)=j2 (xc4 call hs u rec0) 1 3:=by kernel_rfl
theorem x1wy:x2je call hs u x117 (j0 (x37 call hs u)) (setE 0 (j0 (x37 call hs u)) eNil)=j2 (x38 call hs u NN) 1 3:=lp (Ln:=fun n=>j2 (x38 call hs u n) 1 3) fun n=>tr x1wx
theorem x1wz:x2je call hs u x116 (j0 (x37 call hs u)) eNil=j2 (x38 call hs u NN) 1 3:=bk x1wy
theorem x1x0:x2je call hs u x115 (j0 (x37 call hs u)) eNil=j1 (x7h call hs u) 1:=tr (sqN 1 x1wz)
theorem x1x1:x2je call hs u xli r_2 eNil=j1 (x7h call hs u) 1:=sq2 x1ww x1x0
theorem x1dq:x2je call hs u x114 r_2 eNil=j1 (xg4 call hs u) 0:=tr (sqN 2 x1x1)
noncomputable abbrev x2jf:=VX xel 64 r_6
noncomputable def x118:=x2ei xel
noncomputable def xlj:=nRs 3 x118
noncomputable def x119:=nL xlj
noncomputable def x1x2:=nR xlj
noncomputable def x11a:=nR x119
noncomputable def x11b:=nR x11a
noncomputable def x1x3:=nR x11b
theorem x1x4:x2jf call hs u x1x2 r_6 eNil=j3 (x4a call hs u) 1 2 7:=by kernel_rfl
theorem x1x5{rec0:AV->AV->AV->AV->AV->AV->Mem->Nat->O2}:x2jf call hs u x1x3 (j6 rec0 1 2 7 19 20 21) (setE 0 (j3 (x4a call hs u) 1 2 7) eNil)=j6 (xon call hs u rec0) 1 2 7 19 20 21:=by kernel_rfl
theorem x1x6:x2jf call hs u x11b (j3 (x4a call hs u) 1 2 7) (setE 0 (j3 (x4a call hs u) 1 2 7) eNil)=j6 (x7i call hs u NN) 1 2 7 19 20 21:=lp (Ln:=fun n=>j6 (x7i call hs u n) 1 2 7 19 20 21) fun n=>tr x1x5
theorem x1x7:x2jf call hs u x11a (j3 (x4a call hs u) 1 2 7) eNil=j6 (x7i call hs u NN) 1 2 7 19 20 21:=bk x1x6
theorem x1x8:x2jf call hs u x119 (j3 (x4a call hs u) 1 2 7) eNil=j3 (xg5 call hs u) 1 2 7:=tr (sqN 1 x1x7)
theorem x1x9:x2jf call hs u xlj r_6 eNil=j3 (xg5 call hs u) 1 2 7:=sq2 x1x4 x1x8
theorem x1dr:x2jf call hs u x118 r_6 eNil=j2 (xoo call hs u) 0 1:=tr (sqN 3 x1x9)
noncomputable abbrev x2st:=VX x2g 12 r_9
noncomputable def x1xa:=x2ei x2g
theorem x1ds:x2st call hs u x1xa r_9 eNil=j1 (xg6 call hs u) 0:=by kernel_rfl
noncomputable abbrev x2su:=VX x6h 6 r_2
noncomputable def x1xb:=x2ei x6h
theorem x1dt:x2su call hs u x1xb r_2 eNil=j1 (xop call hs u) 0:=by kernel_rfl
noncomputable abbrev x2sv:=VX x3w 11 r_2
noncomputable def x1xc:=x2ei x3w
theorem x1du:x2sv call hs u x1xc r_2 eNil=j1 (xg7 call hs u) 0:=by kernel_rfl
noncomputable abbrev x2go:=VX xeo 109 r_6
noncomputable def x11c:=x2ei xeo
noncomputable def xlk:=nRs 2 x11c
noncomputable def x11d:=nL xlk
noncomputable def x11e:=nR xlk
noncomputable def xll:=nR x11e
noncomputable def x11f:=nL xll
noncomputable def x1xd:=nR xll
noncomputable def x11g:=nR x11f
noncomputable def x11h:=nR x11g
noncomputable def x1xe:=nR x11h
noncomputable def x11i:=nR x11d
noncomputable def x11j:=nR x11i
noncomputable def x1xf:=nR x11j
theorem x1xg:x2go call hs u x1xd r_6 eNil=j1 (x4b call hs u) 6:=by kernel_rfl
theorem x1xh{rec0:AV->AV->AV->AV->Mem->Nat->O2}:x2go call hs u x1xe (j4 rec0 2 6 9 10) (setE 2 (j1 (x4b call hs u) 6) eNil)=j4 (xoq call hs u rec0) 2 6 9 10:=by kernel_rfl
theorem x1xi:x2go call hs u x11h (j1 (x4b call hs u) 6) (setE 2 (j1 (x4b call hs u) 6) eNil)=j4 (x7k call hs u NN) 2 6 9 10:=lp (Ln:=fun n=>j4 (x7k call hs u n) 2 6 9 10) fun n=>tr x1xh
theorem x1xj:x2go call hs u x11g (j1 (x4b call hs u) 6) eNil=j4 (x7k call hs u NN) 2 6 9 10:=bk x1xi
theorem x1xk:x2go call hs u x11f (j1 (x4b call hs u) 6) eNil=j3 (xg8 call hs u) 2 6 9:=tr (sqN 1 x1xj)
theorem x1xl:x2go call hs u xll r_6 eNil=j3 (xg8 call hs u) 2 6 9:=sq2 x1xg x1xk
theorem x1xm:x2go call hs u x11e r_6 eNil=j3 (x4c call hs u) 1 2 6:=tr (sqN 1 x1xl)
theorem x1xn{rec1:AV->AV->AV->AV->Mem->Nat->O2}:x2go call hs u x1xf (j4 rec1 1 2 6 7) (setE 0 (j3 (x4c call hs u) 1 2 6) eNil)=j4 (xos call hs u rec1) 1 2 6 7:=by kernel_rfl
theorem x1xo:x2go call hs u x11j (j3 (x4c call hs u) 1 2 6) (setE 0 (j3 (x4c call hs u) 1 2 6) eNil)=j4 (x7l call hs u NN) 1 2 6 7:=lp (Ln:=fun n=>j4 (x7l call hs u n) 1 2 6 7) fun n=>tr x1xn
theorem x1xp:x2go call hs u x11i (j3 (x4c call hs u) 1 2 6) eNil=j4 (x7l call hs u NN) 1 2 6 7:=bk x1xo
theorem x1xq:x2go call hs u x11d (j3 (x4c call hs u) 1 2 6) eNil=j3 (xg9 call hs u) 1 2 6:=tr (sqN 1 x1xp)
theorem x1xr:x2go call hs u xlk r_6 eNil=j3 (xg9 call hs u) 1 2 6:=sq2 x1xm x1xq
theorem x1dv:x2go call hs u x11c r_6 eNil=j2 (xot call hs u) 0 1:=tr (sqN 2 x1xr)
noncomputable abbrev x2hp:=VX xac 51 r_8
noncomputable def x11k:=x2ei xac
noncomputable def xlm:=nRs 6 x11k
noncomputable def x11l:=nL xlm
noncomputable def x1xs:=nR xlm
noncomputable def x11m:=nR x11l
noncomputable def x11n:=nR x11m
noncomputable def x11o:=nR x11n
noncomputable def xln:=nRs 2 x11o
noncomputable def x1xt:=nL xln
noncomputable def x1xu:=nR xln
theorem x1xv:x2hp call hs u x1xs r_8 eNil=j1 (x1v call hs u) 7:=by kernel_rfl
theorem x1xw{rec0:AV->AV->AV->AV->AV->Mem->Nat->O2}:x2hp call hs u x1xu (j5 rec0 6 7 27 28 29) (setE 0 (j1 (x1v call hs u) 7) eNil)=j5 (xc5 call hs u rec0) 6 7 27 28 29:=by kernel_rfl
theorem x1xx{rec0:AV->AV->AV->AV->AV->Mem->Nat->O2}:x2hp call hs u x1xt (j5 (xc5 call hs u rec0) 6 7 27 28 29) (setE 0 (j1 (x1v call hs u) 7) eNil)=j5 (xga call hs u rec0) 6 7 27 28 29:=by kernel_rfl
theorem x1xy{rec0:AV->AV->AV->AV->AV->Mem->Nat->O2}:x2hp call hs u xln (j5 rec0 6 7 27 28 29) (setE 0 (j1 (x1v call hs u) 7) eNil)=j5 (xga call hs u rec0) 6 7 27 28 29:=sq2 x1xw x1xx
theorem x1xz{rec0:AV->AV->AV->AV->AV->Mem->Nat->O2}:x2hp call hs u x11o (j5 rec0 6 7 27 28 29) (setE 0 (j1 (x1v call hs u) 7) eNil)=j5 (xou call hs u rec0) 6 7 27 28 29:=tr (sqN 2 x1xy)
theorem x1y0:x2hp call hs u x11n (j1 (x1v call hs u) 7) (setE 0 (j1 (x1v call hs u) 7) eNil)=j5 (x7m call hs u NN) 6 7 27 28 29:=lp (Ln:=fun n=>j5 (x7m call hs u n) 6 7 27 28 29) fun n=>tr x1xz
theorem x1y1:x2hp call hs u x11m (j1 (x1v call hs u) 7) eNil=j5 (x7m call hs u NN) 6 7 27 28 29:=bk x1y0
theorem x1y2:x2hp call hs u x11l (j1 (x1v call hs u) 7) eNil=j3 (xgb call hs u) 4 6 7:=tr (sqN 1 x1y1)
theorem x1y3:x2hp call hs u xlm r_8 eNil=j3 (xgb call hs u) 4 6 7:=sq2 x1xv x1y2
theorem x1dw:x2hp call hs u x11k r_8 eNil=j1 (xov call hs u) 0:=tr (sqN 6 x1y3)
noncomputable abbrev x2jg:=VX xad 60 r_10
noncomputable def x11p:=x2ei xad
noncomputable def xlo:=nRs 6 x11p
noncomputable def x11q:=nL xlo
noncomputable def x1y4:=nR xlo
noncomputable def x11r:=nR x11q
noncomputable def x11s:=nR x11r
noncomputable def x1y5:=nR x11s
theorem x1y6:x2jg call hs u x1y4 r_10 eNil=j3 (x4d call hs u) 9 10 11:=by kernel_rfl
theorem x1y7{rec0:AV->AV->AV->AV->AV->AV->AV->Mem->Nat->O2}:x2jg call hs u x1y5 (j7 rec0 8 9 10 11 33 34 35) (setE 0 (j3 (x4d call hs u) 9 10 11) eNil)=j7 (xow call hs u rec0) 8 9 10 11 33 34 35:=by kernel_rfl
theorem x1y8:x2jg call hs u x11s (j3 (x4d call hs u) 9 10 11) (setE 0 (j3 (x4d call hs u) 9 10 11) eNil)=j7 (x7n call hs u NN) 8 9 10 11 33 34 35:=lp (Ln:=fun n=>j7 (x7n call hs u n) 8 9 10 11 33 34 35) fun n=>tr x1y7
theorem x1y9:x2jg call hs u x11r (j3 (x4d call hs u) 9 10 11) eNil=j7 (x7n call hs u NN) 8 9 10 11 33 34 35:=bk x1y8
theorem x1ya:x2jg call hs u x11q (j3 (x4d call hs u) 9 10 11) eNil=j5 (xgc call hs u) 6 8 9 10 11:=tr (sqN 1 x1y9)
theorem x1yb:x2jg call hs u xlo r_10 eNil=j5 (xgc call hs u) 6 8 9 10 11:=sq2 x1y6 x1ya
theorem x1dx:x2jg call hs u x11p r_10 eNil=j1 (xox call hs u) 0:=tr (sqN 6 x1yb)
noncomputable abbrev x2jh:=VX xae 18 r_0
noncomputable def x11t:=x2ei xae
noncomputable def xlp:=nR x11t
noncomputable def x11u:=nL xlp
noncomputable def x1yc:=nR xlp
noncomputable def x11v:=nR x11u
noncomputable def x11w:=nR x11v
noncomputable def x1yd:=nR x11w
theorem x1ye:x2jh call hs u x1yc r_0 eNil=j0 (x4e call hs u):=by kernel_rfl
theorem x1yf{rec0:AV->AV->AV->Mem->Nat->O2}:x2jh call hs u x1yd (j3 rec0 0 1 5) (setE 0 (j0 (x4e call hs u)) eNil)=j3 (xoy call hs u rec0) 0 1 5:=by kernel_rfl
theorem x1yg:x2jh call hs u x11w (j0 (x4e call hs u)) (setE 0 (j0 (x4e call hs u)) eNil)=j3 (x7o call hs u NN) 0 1 5:=lp (Ln:=fun n=>j3 (x7o call hs u n) 0 1 5) fun n=>tr x1yf
theorem x1yh:x2jh call hs u x11v (j0 (x4e call hs u)) eNil=j3 (x7o call hs u NN) 0 1 5:=bk x1yg
theorem x1yi:x2jh call hs u x11u (j0 (x4e call hs u)) eNil=j2 (xgd call hs u) 0 1:=tr (sqN 1 x1yh)
theorem x1yj:x2jh call hs u xlp r_0 eNil=j2 (xgd call hs u) 0 1:=sq2 x1ye x1yi
theorem x1dy:x2jh call hs u x11t r_0 eNil=j2 (xoz call hs u) 0 1:=tr (sqN 1 x1yj)
noncomputable abbrev x2sw:=VX x3x 14 r_8
noncomputable def x1yk:=x2ei x3x
theorem x1dz:x2sw call hs u x1yk r_8 eNil=j1 (xge call hs u) 0:=by kernel_rfl
noncomputable abbrev x2hq:=VX x3y 43 r_8
noncomputable def x11x:=x2ei x3y
noncomputable def xlq:=nRs 3 x11x
noncomputable def x11y:=nL xlq
noncomputable def x1yl:=nR xlq
noncomputable def x11z:=nR x11y
noncomputable def x120:=nR x11z
noncomputable def x121:=nR x120
noncomputable def xlr:=nRs 2 x121
noncomputable def x1ym:=nL xlr
noncomputable def x1yn:=nR xlr
theorem x1yo:x2hq call hs u x1yl r_8 eNil=j1 (x1j call hs u) 5:=by kernel_rfl
theorem x1yp{rec0:AV->AV->AV->AV->AV->Mem->Nat->O2}:x2hq call hs u x1yn (j5 rec0 1 5 15 16 17) (setE 0 (j1 (x1j call hs u) 5) eNil)=j5 (x5l call hs u rec0) 1 5 15 16 17:=by kernel_rfl
theorem x1yq{rec0:AV->AV->AV->AV->AV->Mem->Nat->O2}:x2hq call hs u x1ym (j5 (x5l call hs u rec0) 1 5 15 16 17) (setE 0 (j1 (x1j call hs u) 5) eNil)=j5 (xc6 call hs u rec0) 1 5 15 16 17:=by kernel_rfl
theorem x1yr{rec0:AV->AV->AV->AV->AV->Mem->Nat->O2}:x2hq call hs u xlr (j5 rec0 1 5 15 16 17) (setE 0 (j1 (x1j call hs u) 5) eNil)=j5 (xc6 call hs u rec0) 1 5 15 16 17:=sq2 x1yp x1yq
theorem x1ys{rec0:AV->AV->AV->AV->AV->Mem->Nat->O2}:x2hq call hs u x121 (j5 rec0 1 5 15 16 17) (setE 0 (j1 (x1j call hs u) 5) eNil)=j5 (xc7 call hs u rec0) 1 5 15 16 17:=tr (sqN 2 x1yr)
theorem x1yt:x2hq call hs u x120 (j1 (x1j call hs u) 5) (setE 0 (j1 (x1j call hs u) 5) eNil)=j5 (x39 call hs u NN) 1 5 15 16 17:=lp (Ln:=fun n=>j5 (x39 call hs u n) 1 5 15 16 17) fun n=>tr x1ys
theorem x1yu:x2hq call hs u x11z (j1 (x1j call hs u) 5) eNil=j5 (x39 call hs u NN) 1 5 15 16 17:=bk x1yt
theorem x1yv:x2hq call hs u x11y (j1 (x1j call hs u) 5) eNil=j2 (xc8 call hs u) 1 5:=tr (sqN 1 x1yu)
theorem x1yw:x2hq call hs u xlq r_8 eNil=j2 (xc8 call hs u) 1 5:=sq2 x1yo x1yv
theorem x1e0:x2hq call hs u x11x r_8 eNil=j1 (xgf call hs u) 0:=tr (sqN 3 x1yw)
noncomputable abbrev x2sx:=VX x2y 8 r_2
noncomputable def x1yx:=x2ei x2y
theorem x1e1:x2sx call hs u x1yx r_2 eNil=j1 (xgg call hs u) 0:=by kernel_rfl
noncomputable abbrev x2hr:=VX x56 42 r_2
noncomputable def x122:=x2ei x56
noncomputable def xls:=nRs 2 x122
noncomputable def x123:=nL xls
noncomputable def x1yy:=nR xls
noncomputable def x124:=nR x123
noncomputable def x125:=nR x124
noncomputable def x126:=nR x125
noncomputable def xlt:=nR x126
noncomputable def x1yz:=nL xlt
noncomputable def x1z0:=nR xlt
theorem x1z1:x2hr call hs u x1yy r_2 eNil=j1 (x1k call hs u) 3:=by kernel_rfl
theorem x1z2{rec0:AV->AV->AV->Mem->Nat->O2}:x2hr call hs u x1z0 (j3 rec0 1 3 4) (setE 0 (j1 (x1k call hs u) 3) eNil)=j3 (x5m call hs u rec0) 1 3 4:=by kernel_rfl
theorem x1z3{rec0:AV->AV->AV->Mem->Nat->O2}:x2hr call hs u x1yz (j3 (x5m call hs u rec0) 1 3 4) (setE 0 (j1 (x1k call hs u) 3) eNil)=j3 (xc9 call hs u rec0) 1 3 4:=by kernel_rfl
theorem x1z4{rec0:AV->AV->AV->Mem->Nat->O2}:x2hr call hs u xlt (j3 rec0 1 3 4) (setE 0 (j1 (x1k call hs u) 3) eNil)=j3 (xc9 call hs u rec0) 1 3 4:=sq2 x1z2 x1z3
theorem x1z5{rec0:AV->AV->AV->Mem->Nat->O2}:x2hr call hs u x126 (j3 rec0 1 3 4) (setE 0 (j1 (x1k call hs u) 3) eNil)=j3 (xca call hs u rec0) 1 3 4:=tr (sqN 1 x1z4)
theorem x1z6:x2hr call hs u x125 (j1 (x1k call hs u) 3) (setE 0 (j1 (x1k call hs u) 3) eNil)=j3 (x3a call hs u NN) 1 3 4:=lp (Ln:=fun n=>j3 (x3a call hs u n) 1 3 4) fun n=>tr x1z5
theorem x1z7:x2hr call hs u x124 (j1 (x1k call hs u) 3) eNil=j3 (x3a call hs u NN) 1 3 4:=bk x1z6
theorem x1z8:x2hr call hs u x123 (j1 (x1k call hs u) 3) eNil=j2 (xcb call hs u) 1 3:=tr (sqN 1 x1z7)
theorem x1z9:x2hr call hs u xls r_2 eNil=j2 (xcb call hs u) 1 3:=sq2 x1z1 x1z8
theorem x1e2:x2hr call hs u x122 r_2 eNil=j1 (xgh call hs u) 0:=tr (sqN 2 x1z9)
noncomputable abbrev x2gh:=VX xet 70 r_0
noncomputable def x127:=x2ei xet
noncomputable def xlu:=nRs 4 x127
noncomputable def x128:=nL xlu
noncomputable def x1za:=nR xlu
noncomputable def x129:=nR x128
noncomputable def x12a:=nR x129
noncomputable def x12b:=nR x12a
noncomputable def xlv:=nRs 2 x12b
noncomputable def x12c:=nL xlv
noncomputable def x1zb:=nR xlv
noncomputable def x12d:=nR x12c
noncomputable def xlw:=nRs 3 x12d
noncomputable def x1zc:=nL xlw
noncomputable def x1zd:=nR xlw
theorem x1ze:x2gh call hs u x1za r_0 eNil=j2 (x11 call hs u) 6 7:=by kernel_rfl
theorem x1zf{rec0:AV->AV->AV->AV->AV->AV->Mem->Nat->O2}:x2gh call hs u x1zb (j6 rec0 2 6 7 25 26 27) (setE 1 (j2 (x11 call hs u) 6 7) eNil)=j6 (x1w call hs u rec0) 2 6 7 25 26 27:=by kernel_rfl
theorem x1zg{rec0:AV->AV->AV->AV->AV->AV->Mem->Nat->O2}:x2gh call hs u x1zd (j6 (x1w call hs u rec0) 2 6 7 25 26 27) (setE 2 (j6 (x1w call hs u rec0) 2 6 7 25 26 27) (setE 1 (j2 (x11 call hs u) 6 7) eNil))=j6 (xcc call hs u rec0) 2 6 11 25 26 27:=by kernel_rfl
theorem x1zh{rec0:AV->AV->AV->AV->AV->AV->Mem->Nat->O2}:x2gh call hs u x1zc (j6 (xcc call hs u rec0) 2 6 11 25 26 27) (setE 2 (j6 (x1w call hs u rec0) 2 6 7 25 26 27) (setE 1 (j2 (x11 call hs u) 6 7) eNil))=j9 (xgi call hs u rec0) 2 6 7 8 10 11 25 26 27:=by kernel_rfl
theorem x1zi{rec0:AV->AV->AV->AV->AV->AV->Mem->Nat->O2}:x2gh call hs u xlw (j6 (x1w call hs u rec0) 2 6 7 25 26 27) (setE 2 (j6 (x1w call hs u rec0) 2 6 7 25 26 27) (setE 1 (j2 (x11 call hs u) 6 7) eNil))=j9 (xgi call hs u rec0) 2 6 7 8 10 11 25 26 27:=sq2 x1zg x1zh
theorem x1zj{rec0:AV->AV->AV->AV->AV->AV->Mem->Nat->O2}:x2gh call hs u x12d (j6 (x1w call hs u rec0) 2 6 7 25 26 27) (setE 2 (j6 (x1w call hs u rec0) 2 6 7 25 26 27) (setE 1 (j2 (x11 call hs u) 6 7) eNil))=j6 (xcd call hs u rec0) 2 6 7 25 26 27:=tr (sqN 3 x1zi)
theorem x1zk{rec0:AV->AV->AV->AV->AV->AV->Mem->Nat->O2}:x2gh call hs u x12c (j6 (x1w call hs u rec0) 2 6 7 25 26 27) (setE 1 (j2 (x11 call hs u) 6 7) eNil)=j6 (xcd call hs u rec0) 2 6 7 25 26 27:=bk x1zj
theorem x1zl{rec0:AV->AV->AV->AV->AV->AV->Mem->Nat->O2}:x2gh call hs u xlv (j6 rec0 2 6 7 25 26 27) (setE 1 (j2 (x11 call hs u) 6 7) eNil)=j6 (xcd call hs u rec0) 2 6 7 25 26 27:=sq2 x1zf x1zk
theorem x1zm{rec0:AV->AV->AV->AV->AV->AV->Mem->Nat->O2}:x2gh call hs u x12b (j6 rec0 2 6 7 25 26 27) (setE 1 (j2 (x11 call hs u) 6 7) eNil)=j6 (xp0 call hs u rec0) 2 6 7 25 26 27:=tr (sqN 2 x1zl)
theorem x1zn:x2gh call hs u x12a (j2 (x11 call hs u) 6 7) (setE 1 (j2 (x11 call hs u) 6 7) eNil)=j6 (x7p call hs u NN) 2 6 7 25 26 27:=lp (Ln:=fun n=>j6 (x7p call hs u n) 2 6 7 25 26 27) fun n=>tr x1zm
theorem x1zo:x2gh call hs u x129 (j2 (x11 call hs u) 6 7) eNil=j6 (x7p call hs u NN) 2 6 7 25 26 27:=bk x1zn
theorem x1zp:x2gh call hs u x128 (j2 (x11 call hs u) 6 7) eNil=j4 (xgj call hs u) 1 2 6 7:=tr (sqN 1 x1zo)
theorem x1zq:x2gh call hs u xlu r_0 eNil=j4 (xgj call hs u) 1 2 6 7:=sq2 x1ze x1zp
theorem x1e3:x2gh call hs u x127 r_0 eNil=j2 (xp1 call hs u) 0 1:=tr (sqN 4 x1zq)
noncomputable abbrev x2gi:=VX xeu 59 r_0
noncomputable def x12e:=x2ei xeu
noncomputable def xlx:=nRs 4 x12e
noncomputable def x12f:=nL xlx
noncomputable def x1zr:=nR xlx
noncomputable def x12g:=nR x12f
noncomputable def x12h:=nR x12g
noncomputable def x12i:=nR x12h
noncomputable def xly:=nR x12i
noncomputable def x12j:=nL xly
noncomputable def x1zs:=nR xly
noncomputable def x12k:=nR x12j
noncomputable def xlz:=nRs 4 x12k
noncomputable def x1zt:=nL xlz
noncomputable def x1zu:=nR xlz
theorem x1zv:x2gi call hs u x1zr r_0 eNil=j2 (x12 call hs u) 5 6:=by kernel_rfl
theorem x1zw{rec0:AV->AV->AV->AV->AV->Mem->Nat->O2}:x2gi call hs u x1zs (j5 rec0 1 2 5 6 7) (setE 0 (j2 (x12 call hs u) 5 6) eNil)=j5 (x1x call hs u rec0) 1 2 5 6 7:=by kernel_rfl
theorem x1zx{rec0:AV->AV->AV->AV->AV->Mem->Nat->O2}:x2gi call hs u x1zu (j5 (x1x call hs u rec0) 1 2 5 6 7) (setE 1 (j5 (x1x call hs u rec0) 1 2 5 6 7) (setE 0 (j2 (x12 call hs u) 5 6) eNil))=j5 (xce call hs u rec0) 1 2 5 7 10:=by kernel_rfl
theorem x1zy{rec0:AV->AV->AV->AV->AV->Mem->Nat->O2}:x2gi call hs u x1zt (j5 (xce call hs u rec0) 1 2 5 7 10) (setE 1 (j5 (x1x call hs u rec0) 1 2 5 6 7) (setE 0 (j2 (x12 call hs u) 5 6) eNil))=j7 (xgk call hs u rec0) 1 2 5 6 7 9 10:=by kernel_rfl
theorem x1zz{rec0:AV->AV->AV->AV->AV->Mem->Nat->O2}:x2gi call hs u xlz (j5 (x1x call hs u rec0) 1 2 5 6 7) (setE 1 (j5 (x1x call hs u rec0) 1 2 5 6 7) (setE 0 (j2 (x12 call hs u) 5 6) eNil))=j7 (xgk call hs u rec0) 1 2 5 6 7 9 10:=sq2 x1zx x1zy
theorem x200{rec0:AV->AV->AV->AV->AV->Mem->Nat->O2}:x2gi call hs u x12k (j5 (x1x call hs u rec0) 1 2 5 6 7) (setE 1 (j5 (x1x call hs u rec0) 1 2 5 6 7) (setE 0 (j2 (x12 call hs u) 5 6) eNil))=j5 (xcf call hs u rec0) 1 2 5 6 7:=tr (sqN 4 x1zz)
theorem x201{rec0:AV->AV->AV->AV->AV->Mem->Nat->O2}:x2gi call hs u x12j (j5 (x1x call hs u rec0) 1 2 5 6 7) (setE 0 (j2 (x12 call hs u) 5 6) eNil)=j5 (xcf call hs u rec0) 1 2 5 6 7:=bk x200
theorem x202{rec0:AV->AV->AV->AV->AV->Mem->Nat->O2}:x2gi call hs u xly (j5 rec0 1 2 5 6 7) (setE 0 (j2 (x12 call hs u) 5 6) eNil)=j5 (xcf call hs u rec0) 1 2 5 6 7:=sq2 x1zw x201
theorem x203{rec0:AV->AV->AV->AV->AV->Mem->Nat->O2}:x2gi call hs u x12i (j5 rec0 1 2 5 6 7) (setE 0 (j2 (x12 call hs u) 5 6) eNil)=j5 (xp2 call hs u rec0) 1 2 5 6 7:=tr (sqN 1 x202)
theorem x204:x2gi call hs u x12h (j2 (x12 call hs u) 5 6) (setE 0 (j2 (x12 call hs u) 5 6) eNil)=j5 (x7q call hs u NN) 1 2 5 6 7:=lp (Ln:=fun n=>j5 (x7q call hs u n) 1 2 5 6 7) fun n=>tr x203
theorem x205:x2gi call hs u x12g (j2 (x12 call hs u) 5 6) eNil=j5 (x7q call hs u NN) 1 2 5 6 7:=bk x204
theorem x206:x2gi call hs u x12f (j2 (x12 call hs u) 5 6) eNil=j4 (xgl call hs u) 1 2 5 6:=tr (sqN 1 x205)
theorem x207:x2gi call hs u xlx r_0 eNil=j4 (xgl call hs u) 1 2 5 6:=sq2 x1zv x206
theorem x1e4:x2gi call hs u x12e r_0 eNil=j2 (xp3 call hs u) 0 1:=tr (sqN 4 x207)
noncomputable abbrev x2sy:=VX xaf 20 r_11
noncomputable def x208:=x2ei xaf
theorem x1e5:x2sy call hs u x208 r_11 eNil=j1 (xp4 call hs u) 0:=by kernel_rfl
noncomputable abbrev x2gy:=VX xev 91 r_6
noncomputable def x12l:=x2ei xev
noncomputable def xm0:=nRs 4 x12l
noncomputable def x12m:=nL xm0
noncomputable def xm1:=nR xm0
noncomputable def x12n:=nL xm1
noncomputable def x209:=nR xm1
noncomputable def x12o:=nR x12n
noncomputable def x12p:=nR x12o
noncomputable def x20a:=nR x12p
noncomputable def x12q:=nR x12m
noncomputable def x12r:=nR x12q
noncomputable def x20b:=nR x12r
theorem x20c:x2gy call hs u x209 r_6 eNil=j1 (x4g call hs u) 7:=by kernel_rfl
theorem x20d{rec0:AV->AV->AV->AV->Mem->Nat->O2}:x2gy call hs u x20a (j4 rec0 2 6 7 10) (setE 2 (j1 (x4g call hs u) 7) eNil)=j4 (xp5 call hs u rec0) 2 6 7 10:=by kernel_rfl
theorem x20e:x2gy call hs u x12p (j1 (x4g call hs u) 7) (setE 2 (j1 (x4g call hs u) 7) eNil)=j4 (x7r call hs u NN) 2 6 7 10:=lp (Ln:=fun n=>j4 (x7r call hs u n) 2 6 7 10) fun n=>tr x20d
theorem x20f:x2gy call hs u x12o (j1 (x4g call hs u) 7) eNil=j4 (x7r call hs u NN) 2 6 7 10:=bk x20e
theorem x20g:x2gy call hs u x12n (j1 (x4g call hs u) 7) eNil=j3 (x3b call hs u) 2 6 7:=tr (sqN 1 x20f)
theorem x20h:x2gy call hs u xm1 r_6 eNil=j3 (x3b call hs u) 2 6 7:=sq2 x20c x20g
theorem x20i{rec1:AV->AV->AV->AV->AV->Mem->Nat->O2}:x2gy call hs u x20b (j5 rec1 1 2 6 7 8) (setE 0 (j3 (x3b call hs u) 2 6 7) eNil)=j5 (xp6 call hs u rec1) 1 2 6 7 8:=by kernel_rfl
theorem x20j:x2gy call hs u x12r (j3 (x3b call hs u) 2 6 7) (setE 0 (j3 (x3b call hs u) 2 6 7) eNil)=j5 (x7s call hs u NN) 1 2 6 7 8:=lp (Ln:=fun n=>j5 (x7s call hs u n) 1 2 6 7 8) fun n=>tr x20i
theorem x20k:x2gy call hs u x12q (j3 (x3b call hs u) 2 6 7) eNil=j5 (x7s call hs u NN) 1 2 6 7 8:=bk x20j
theorem x20l:x2gy call hs u x12m (j3 (x3b call hs u) 2 6 7) eNil=j4 (xgm call hs u) 1 2 6 7:=tr (sqN 1 x20k)
theorem x20m:x2gy call hs u xm0 r_6 eNil=j4 (xgm call hs u) 1 2 6 7:=sq2 x20h x20l
theorem x1e6:x2gy call hs u x12l r_6 eNil=j2 (xp7 call hs u) 0 1:=tr (sqN 4 x20m)
noncomputable abbrev x2f6:=VX x6i 98 r_8
noncomputable def x12s:=x2ei x6i
noncomputable def xm2:=nRs 4 x12s
noncomputable def x12t:=nL xm2
noncomputable def x12u:=nR xm2
noncomputable def xm3:=nR x12u
noncomputable def x12v:=nL xm3
noncomputable def x20n:=nR xm3
noncomputable def x12w:=nR x12v
noncomputable def x12x:=nR x12w
noncomputable def x12y:=nR x12x
noncomputable def xm4:=nR x12y
noncomputable def x20o:=nL xm4
noncomputable def x20p:=nR xm4
noncomputable def x12z:=nR x12t
noncomputable def x130:=nR x12z
noncomputable def x131:=nR x130
noncomputable def xm5:=nRs 2 x131
noncomputable def x132:=nL xm5
noncomputable def x20q:=nR xm5
noncomputable def x133:=nR x132
noncomputable def xm6:=nR x133
noncomputable def x134:=nL xm6
noncomputable def x20r:=nR xm6
noncomputable def x135:=nR x134
noncomputable def x136:=nR x135
noncomputable def x137:=nR x136
noncomputable def xm7:=nR x137
noncomputable def x20s:=nL xm7
noncomputable def x20t:=nR xm7
theorem x20u:x2f6 call hs u x20n r_8 eNil=j2 (x1y call hs u) 5 10:=by kernel_rfl
theorem x20v{rec0:AV->AV->AV->AV->AV->Mem->Nat->O2}:x2f6 call hs u x20p (j5 rec0 1 4 5 10 11) (setE 4 (j2 (x1y call hs u) 5 10) eNil)=j5 (xcg call hs u rec0) 1 4 5 10 11:=by kernel_rfl
theorem x20w{rec0:AV->AV->AV->AV->AV->Mem->Nat->O2}:x2f6 call hs u x20o (j5 (xcg call hs u rec0) 1 4 5 10 11) (setE 4 (j2 (x1y call hs u) 5 10) eNil)=j5 (xgn call hs u rec0) 1 4 5 10 11:=by kernel_rfl
theorem x20x{rec0:AV->AV->AV->AV->AV->Mem->Nat->O2}:x2f6 call hs u xm4 (j5 rec0 1 4 5 10 11) (setE 4 (j2 (x1y call hs u) 5 10) eNil)=j5 (xgn call hs u rec0) 1 4 5 10 11:=sq2 x20v x20w
theorem x20y{rec0:AV->AV->AV->AV->AV->Mem->Nat->O2}:x2f6 call hs u x12y (j5 rec0 1 4 5 10 11) (setE 4 (j2 (x1y call hs u) 5 10) eNil)=j5 (xp8 call hs u rec0) 1 4 5 10 11:=tr (sqN 1 x20x)
theorem x20z:x2f6 call hs u x12x (j2 (x1y call hs u) 5 10) (setE 4 (j2 (x1y call hs u) 5 10) eNil)=j5 (x7t call hs u NN) 1 4 5 10 11:=lp (Ln:=fun n=>j5 (x7t call hs u n) 1 4 5 10 11) fun n=>tr x20y
theorem x210:x2f6 call hs u x12w (j2 (x1y call hs u) 5 10) eNil=j5 (x7t call hs u NN) 1 4 5 10 11:=bk x20z
theorem x211:x2f6 call hs u x12v (j2 (x1y call hs u) 5 10) eNil=j4 (xgo call hs u) 1 4 5 10:=tr (sqN 1 x210)
theorem x212:x2f6 call hs u xm3 r_8 eNil=j4 (xgo call hs u) 1 4 5 10:=sq2 x20u x211
theorem x213:x2f6 call hs u x12u r_8 eNil=j3 (xc call hs u) 1 4 5:=tr (sqN 1 x212)
theorem x214{rec1:AV->AV->AV->AV->AV->AV->Mem->Nat->O2}:x2f6 call hs u x20q (j6 rec1 1 4 5 6 18 19) (setE 0 (j3 (xc call hs u) 1 4 5) eNil)=j6 (xo call hs u rec1) 1 4 5 6 18 19:=by kernel_rfl
theorem x215{rec1:AV->AV->AV->AV->AV->AV->Mem->Nat->O2}:x2f6 call hs u x20r (j6 (xo call hs u rec1) 1 4 5 6 18 19) (setE 1 (j6 (xo call hs u rec1) 1 4 5 6 18 19) (setE 0 (j3 (xc call hs u) 1 4 5) eNil))=j7 (x1z call hs u rec1) 1 4 5 6 7 18 19:=by kernel_rfl
theorem x216{rec1:AV->AV->AV->AV->AV->AV->Mem->Nat->O2}{rec2:AV->AV->AV->AV->AV->AV->AV->AV->Mem->Nat->O2}:x2f6 call hs u x20t (j8 rec2 1 4 5 6 7 8 18 19) (setE 2 (j7 (x1z call hs u rec1) 1 4 5 6 7 18 19) (setE 1 (j6 (xo call hs u rec1) 1 4 5 6 18 19) (setE 0 (j3 (xc call hs u) 1 4 5) eNil)))=j8 (xch call hs u rec1 rec2) 1 4 5 6 7 8 18 19:=by kernel_rfl
theorem x217{rec1:AV->AV->AV->AV->AV->AV->Mem->Nat->O2}{rec2:AV->AV->AV->AV->AV->AV->AV->AV->Mem->Nat->O2}:x2f6 call hs u x20s (j8 (xch call hs u rec1 rec2) 1 4 5 6 7 8 18 19) (setE 2 (j7 (x1z call hs u rec1) 1 4 5 6 7 18 19) (setE 1 (j6 (xo call hs u rec1) 1 4 5 6 18 19) (setE 0 (j3 (xc call hs u) 1 4 5) eNil)))=j8 (xgp call hs u rec1 rec2) 1 4 5 6 7 8 18 19:=by kernel_rfl
theorem x218{rec1:AV->AV->AV->AV->AV->AV->Mem->Nat->O2}{rec2:AV->AV->AV->AV->AV->AV->AV->AV->Mem->Nat->O2}:x2f6 call hs u xm7 (j8 rec2 1 4 5 6 7 8 18 19) (setE 2 (j7 (x1z call hs u rec1) 1 4 5 6 7 18 19) (setE 1 (j6 (xo call hs u rec1) 1 4 5 6 18 19) (setE 0 (j3 (xc call hs u) 1 4 5) eNil)))=j8 (xgp call hs u rec1 rec2) 1 4 5 6 7 8 18 19:=sq2 x216 x217
theorem x219{rec1:AV->AV->AV->AV->AV->AV->Mem->Nat->O2}{rec2:AV->AV->AV->AV->AV->AV->AV->AV->Mem->Nat->O2}:x2f6 call hs u x137 (j8 rec2 1 4 5 6 7 8 18 19) (setE 2 (j7 (x1z call hs u rec1) 1 4 5 6 7 18 19) (setE 1 (j6 (xo call hs u rec1) 1 4 5 6 18 19) (setE 0 (j3 (xc call hs u) 1 4 5) eNil)))=j8 (xp9 call hs u rec1 rec2) 1 4 5 6 7 8 18 19:=tr (sqN 1 x218)
theorem x21a{rec1:AV->AV->AV->AV->AV->AV->Mem->Nat->O2}:x2f6 call hs u x136 (j7 (x1z call hs u rec1) 1 4 5 6 7 18 19) (setE 2 (j7 (x1z call hs u rec1) 1 4 5 6 7 18 19) (setE 1 (j6 (xo call hs u rec1) 1 4 5 6 18 19) (setE 0 (j3 (xc call hs u) 1 4 5) eNil)))=j8 (x7u call hs u rec1 NN) 1 4 5 6 7 8 18 19:=lp (Ln:=fun n=>j8 (x7u call hs u rec1 n) 1 4 5 6 7 8 18 19) fun n=>tr x219
theorem x21b{rec1:AV->AV->AV->AV->AV->AV->Mem->Nat->O2}:x2f6 call hs u x135 (j7 (x1z call hs u rec1) 1 4 5 6 7 18 19) (setE 1 (j6 (xo call hs u rec1) 1 4 5 6 18 19) (setE 0 (j3 (xc call hs u) 1 4 5) eNil))=j8 (x7u call hs u rec1 NN) 1 4 5 6 7 8 18 19:=bk x21a
theorem x21c{rec1:AV->AV->AV->AV->AV->AV->Mem->Nat->O2}:x2f6 call hs u x134 (j7 (x1z call hs u rec1) 1 4 5 6 7 18 19) (setE 1 (j6 (xo call hs u rec1) 1 4 5 6 18 19) (setE 0 (j3 (xc call hs u) 1 4 5) eNil))=j7 (xgq call hs u rec1) 1 4 5 6 7 18 19:=tr (sqN 1 x21b)
theorem x21d{rec1:AV->AV->AV->AV->AV->AV->Mem->Nat->O2}:x2f6 call hs u xm6 (j6 (xo call hs u rec1) 1 4 5 6 18 19) (setE 1 (j6 (xo call hs u rec1) 1 4 5 6 18 19) (setE 0 (j3 (xc call hs u) 1 4 5) eNil))=j7 (xgq call hs u rec1) 1 4 5 6 7 18 19:=sq2 x215 x21c
theorem x21e{rec1:AV->AV->AV->AV->AV->AV->Mem->Nat->O2}:x2f6 call hs u x133 (j6 (xo call hs u rec1) 1 4 5 6 18 19) (setE 1 (j6 (xo call hs u rec1) 1 4 5 6 18 19) (setE 0 (j3 (xc call hs u) 1 4 5) eNil))=j6 (xci call hs u rec1) 1 4 5 6 18 19:=tr (sqN 1 x21d)
theorem x21f{rec1:AV->AV->AV->AV->AV->AV->Mem->Nat->O2}:x2f6 call hs u x132 (j6 (xo call hs u rec1) 1 4 5 6 18 19) (setE 0 (j3 (xc call hs u) 1 4 5) eNil)=j6 (xci call hs u rec1) 1 4 5 6 18 19:=bk x21e
theorem x21g{rec1:AV->AV->AV->AV->AV->AV->Mem->Nat->O2}:x2f6 call hs u xm5 (j6 rec1 1 4 5 6 18 19) (setE 0 (j3 (xc call hs u) 1 4 5) eNil)=j6 (xci call hs u rec1) 1 4 5 6 18 19:=sq2 x214 x21f
theorem x21h{rec1:AV->AV->AV->AV->AV->AV->Mem->Nat->O2}:x2f6 call hs u x131 (j6 rec1 1 4 5 6 18 19) (setE 0 (j3 (xc call hs u) 1 4 5) eNil)=j6 (xpa call hs u rec1) 1 4 5 6 18 19:=tr (sqN 2 x21g)
theorem x21i:x2f6 call hs u x130 (j3 (xc call hs u) 1 4 5) (setE 0 (j3 (xc call hs u) 1 4 5) eNil)=j6 (x7v call hs u NN) 1 4 5 6 18 19:=lp (Ln:=fun n=>j6 (x7v call hs u n) 1 4 5 6 18 19) fun n=>tr x21h
theorem x21j:x2f6 call hs u x12z (j3 (xc call hs u) 1 4 5) eNil=j6 (x7v call hs u NN) 1 4 5 6 18 19:=bk x21i
theorem x21k:x2f6 call hs u x12t (j3 (xc call hs u) 1 4 5) eNil=j4 (xgr call hs u) 1 4 5 6:=tr (sqN 1 x21j)
theorem x21l:x2f6 call hs u xm2 r_8 eNil=j4 (xgr call hs u) 1 4 5 6:=sq2 x213 x21k
theorem x1e7:x2f6 call hs u x12s r_8 eNil=j1 (xpb call hs u) 0:=tr (sqN 4 x21l)
noncomputable abbrev x2sz:=VX x3z 40 r_0
noncomputable def x21m:=x2ei x3z
theorem x1e8:x2sz call hs u x21m r_0 eNil=j2 (xpc call hs u) 0 1:=by kernel_rfl
noncomputable abbrev x2t0:=VX x6j 36 r_2
noncomputable def x21n:=x2ei x6j
theorem x1e9:x2t0 call hs u x21n r_2 eNil=j1 (xpd call hs u) 0:=by kernel_rfl
noncomputable abbrev x2ji:=VX xag 30 r_0
noncomputable def x138:=x2ei xag
noncomputable def xm8:=nRs 2 x138
noncomputable def x139:=nL xm8
noncomputable def x21o:=nR xm8
noncomputable def x13a:=nR x139
noncomputable def x13b:=nR x13a
noncomputable def x21p:=nR x13b
theorem x21q:x2ji call hs u x21o r_0 eNil=j1 (x4h call hs u) 5:=by kernel_rfl
theorem x21r{rec0:AV->AV->AV->AV->Mem->Nat->O2}:x2ji call hs u x21p (j4 rec0 0 1 5 6) (setE 0 (j1 (x4h call hs u) 5) eNil)=j4 (xpe call hs u rec0) 0 1 5 6:=by kernel_rfl
theorem x21s:x2ji call hs u x13b (j1 (x4h call hs u) 5) (setE 0 (j1 (x4h call hs u) 5) eNil)=j4 (x7w call hs u NN) 0 1 5 6:=lp (Ln:=fun n=>j4 (x7w call hs u n) 0 1 5 6) fun n=>tr x21r
theorem x21t:x2ji call hs u x13a (j1 (x4h call hs u) 5) eNil=j4 (x7w call hs u NN) 0 1 5 6:=bk x21s
theorem x21u:x2ji call hs u x139 (j1 (x4h call hs u) 5) eNil=j3 (xgs call hs u) 0 1 5:=tr (sqN 1 x21t)
theorem x21v:x2ji call hs u xm8 r_0 eNil=j3 (xgs call hs u) 0 1 5:=sq2 x21q x21u
theorem x1ea:x2ji call hs u x138 r_0 eNil=j2 (xpf call hs u) 0 1:=tr (sqN 2 x21v)
noncomputable abbrev x2t1:=VX x6k 12 r_12
noncomputable def x21w:=x2ei x6k
theorem x1eb:x2t1 call hs u x21w r_12 eNil=j0 (xpg call hs u):=by kernel_rfl
noncomputable abbrev x2t2:=VX x57 10 r_13
noncomputable def x21x:=x2ei x57
theorem x1ec:x2t2 call hs u x21x r_13 eNil=j2 (xph call hs u) 0 1:=by kernel_rfl
noncomputable abbrev x2t3:=VX x2z 7 r_2
noncomputable def x21y:=x2ei x2z
theorem x1ed:x2t3 call hs u x21y r_2 eNil=j1 (xpi call hs u) 0:=by kernel_rfl
noncomputable abbrev x2t4:=VX xv 15 r_1
noncomputable def x21z:=x2ei xv
theorem x1ee:x2t4 call hs u x21z r_1 eNil=j3 (xgt call hs u) 0 1 2:=by kernel_rfl
noncomputable abbrev x2jj:=VX x6l 42 r_0
noncomputable def x13c:=x2ei x6l
noncomputable def xm9:=nRs 3 x13c
noncomputable def x13d:=nL xm9
noncomputable def x220:=nR xm9
noncomputable def x13e:=nR x13d
noncomputable def x13f:=nR x13e
noncomputable def x221:=nR x13f
theorem x222:x2jj call hs u x220 r_0 eNil=j1 (x4i call hs u) 6:=by kernel_rfl
theorem x223{rec0:AV->AV->AV->AV->AV->AV->Mem->Nat->O2}:x2jj call hs u x221 (j6 rec0 1 5 6 14 15 16) (setE 0 (j1 (x4i call hs u) 6) eNil)=j6 (xpj call hs u rec0) 1 5 6 14 15 16:=by kernel_rfl
theorem x224:x2jj call hs u x13f (j1 (x4i call hs u) 6) (setE 0 (j1 (x4i call hs u) 6) eNil)=j6 (x7x call hs u NN) 1 5 6 14 15 16:=lp (Ln:=fun n=>j6 (x7x call hs u n) 1 5 6 14 15 16) fun n=>tr x223
theorem x225:x2jj call hs u x13e (j1 (x4i call hs u) 6) eNil=j6 (x7x call hs u NN) 1 5 6 14 15 16:=bk x224
theorem x226:x2jj call hs u x13d (j1 (x4i call hs u) 6) eNil=j4 (xgu call hs u) 1 2 5 6:=tr (sqN 1 x225)
theorem x227:x2jj call hs u xm9 r_0 eNil=j4 (xgu call hs u) 1 2 5 6:=sq2 x222 x226
theorem x1ef:x2jj call hs u x13c r_0 eNil=j2 (xpk call hs u) 0 1:=tr (sqN 3 x227)
noncomputable abbrev x2hs:=VX x6m 38 r_0
noncomputable def x13g:=x2ei x6m
noncomputable def xma:=nRs 5 x13g
noncomputable def x13h:=nL xma
noncomputable def x228:=nR xma
noncomputable def x13i:=nR x13h
noncomputable def x13j:=nR x13i
noncomputable def x13k:=nR x13j
noncomputable def xmb:=nRs 2 x13k
noncomputable def x229:=nL xmb
noncomputable def x22a:=nR xmb
theorem x22b:x2hs call hs u x228 r_0 eNil=j1 (x20 call hs u) 5:=by kernel_rfl
theorem x22c{rec0:AV->AV->AV->AV->AV->Mem->Nat->O2}:x2hs call hs u x22a (j5 rec0 5 6 8 24 25) (setE 0 (j1 (x20 call hs u) 5) eNil)=j5 (xck call hs u rec0) 5 6 8 24 25:=by kernel_rfl
theorem x22d{rec0:AV->AV->AV->AV->AV->Mem->Nat->O2}:x2hs call hs u x229 (j5 (xck call hs u rec0) 5 6 8 24 25) (setE 0 (j1 (x20 call hs u) 5) eNil)=j5 (xgv call hs u rec0) 5 6 8 24 25:=by kernel_rfl
theorem x22e{rec0:AV->AV->AV->AV->AV->Mem->Nat->O2}:x2hs call hs u xmb (j5 rec0 5 6 8 24 25) (setE 0 (j1 (x20 call hs u) 5) eNil)=j5 (xgv call hs u rec0) 5 6 8 24 25:=sq2 x22c x22d
theorem x22f{rec0:AV->AV->AV->AV->AV->Mem->Nat->O2}:x2hs call hs u x13k (j5 rec0 5 6 8 24 25) (setE 0 (j1 (x20 call hs u) 5) eNil)=j5 (xpl call hs u rec0) 5 6 8 24 25:=tr (sqN 2 x22e)
theorem x22g:x2hs call hs u x13j (j1 (x20 call hs u) 5) (setE 0 (j1 (x20 call hs u) 5) eNil)=j5 (x7y call hs u NN) 5 6 8 24 25:=lp (Ln:=fun n=>j5 (x7y call hs u n) 5 6 8 24 25) fun n=>tr x22f
theorem x22h:x2hs call hs u x13i (j1 (x20 call hs u) 5) eNil=j5 (x7y call hs u NN) 5 6 8 24 25:=bk x22g
theorem x22i:x2hs call hs u x13h (j1 (x20 call hs u) 5) eNil=j3 (xgw call hs u) 5 6 8:=tr (sqN 1 x22h)
theorem x22j:x2hs call hs u xma r_0 eNil=j3 (xgw call hs u) 5 6 8:=sq2 x22b x22i
theorem x1eg:x2hs call hs u x13g r_0 eNil=j2 (xpm call hs u) 0 1:=tr (sqN 5 x22j)
noncomputable abbrev x2ht:=VX x2h 30 r_0
noncomputable def x13l:=x2ei x2h
noncomputable def xmc:=nRs 2 x13l
noncomputable def x13m:=nL xmc
noncomputable def x22k:=nR xmc
noncomputable def x13n:=nR x13m
noncomputable def x13o:=nR x13n
noncomputable def x13p:=nR x13o
noncomputable def xmd:=nRs 2 x13p
noncomputable def x22l:=nL xmd
noncomputable def x22m:=nR xmd
theorem x22n:x2ht call hs u x22k r_0 eNil=j1 (x1l call hs u) 5:=by kernel_rfl
theorem x22o{rec0:AV->AV->AV->AV->AV->Mem->Nat->O2}:x2ht call hs u x22m (j5 rec0 1 5 15 16 17) (setE 0 (j1 (x1l call hs u) 5) eNil)=j5 (x5n call hs u rec0) 1 5 15 16 17:=by kernel_rfl
theorem x22p{rec0:AV->AV->AV->AV->AV->Mem->Nat->O2}:x2ht call hs u x22l (j5 (x5n call hs u rec0) 1 5 15 16 17) (setE 0 (j1 (x1l call hs u) 5) eNil)=j5 (xcl call hs u rec0) 1 5 15 16 17:=by kernel_rfl
theorem x22q{rec0:AV->AV->AV->AV->AV->Mem->Nat->O2}:x2ht call hs u xmd (j5 rec0 1 5 15 16 17) (setE 0 (j1 (x1l call hs u) 5) eNil)=j5 (xcl call hs u rec0) 1 5 15 16 17:=sq2 x22o x22p
theorem x22r{rec0:AV->AV->AV->AV->AV->Mem->Nat->O2}:x2ht call hs u x13p (j5 rec0 1 5 15 16 17) (setE 0 (j1 (x1l call hs u) 5) eNil)=j5 (xcm call hs u rec0) 1 5 15 16 17:=tr (sqN 2 x22q)
theorem x22s:x2ht call hs u x13o (j1 (x1l call hs u) 5) (setE 0 (j1 (x1l call hs u) 5) eNil)=j5 (x3c call hs u NN) 1 5 15 16 17:=lp (Ln:=fun n=>j5 (x3c call hs u n) 1 5 15 16 17) fun n=>tr x22r
theorem x22t:x2ht call hs u x13n (j1 (x1l call hs u) 5) eNil=j5 (x3c call hs u NN) 1 5 15 16 17:=bk x22s
theorem x22u:x2ht call hs u x13m (j1 (x1l call hs u) 5) eNil=j3 (xcn call hs u) 1 2 5:=tr (sqN 1 x22t)
theorem x22v:x2ht call hs u xmc r_0 eNil=j3 (xcn call hs u) 1 2 5:=sq2 x22n x22u
theorem x1eh:x2ht call hs u x13l r_0 eNil=j2 (xgx call hs u) 0 1:=tr (sqN 2 x22v)
noncomputable abbrev x2jk:=VX xah 52 r_2
noncomputable def x13q:=x2ei xah
noncomputable def xme:=nRs 4 x13q
noncomputable def x13r:=nL xme
noncomputable def x22w:=nR xme
noncomputable def x13s:=nR x13r
noncomputable def x13t:=nR x13s
noncomputable def x22x:=nR x13t
theorem x22y:x2jk call hs u x22w r_2 eNil=j1 (x4k call hs u) 6:=by kernel_rfl
theorem x22z{rec0:AV->AV->AV->AV->Mem->Nat->O2}:x2jk call hs u x22x (j4 rec0 1 5 6 7) (setE 0 (j1 (x4k call hs u) 6) eNil)=j4 (xpn call hs u rec0) 1 5 6 7:=by kernel_rfl
theorem x230:x2jk call hs u x13t (j1 (x4k call hs u) 6) (setE 0 (j1 (x4k call hs u) 6) eNil)=j4 (x7z call hs u NN) 1 5 6 7:=lp (Ln:=fun n=>j4 (x7z call hs u n) 1 5 6 7) fun n=>tr x22z
theorem x231:x2jk call hs u x13s (j1 (x4k call hs u) 6) eNil=j4 (x7z call hs u NN) 1 5 6 7:=bk x230
theorem x232:x2jk call hs u x13r (j1 (x4k call hs u) 6) eNil=j3 (xgy call hs u) 1 5 6:=tr (sqN 1 x231)
theorem x233:x2jk call hs u xme r_2 eNil=j3 (xgy call hs u) 1 5 6:=sq2 x22y x232
theorem x1ei:x2jk call hs u x13q r_2 eNil=j1 (xpo call hs u) 0:=tr (sqN 4 x233)
noncomputable abbrev x2jl:=VX x6n 36 r_0
noncomputable def x13u:=x2ei x6n
noncomputable def xmf:=nRs 3 x13u
noncomputable def x13v:=nL xmf
noncomputable def x234:=nR xmf
noncomputable def x13w:=nR x13v
noncomputable def x13x:=nR x13w
noncomputable def x235:=nR x13x
theorem x236:x2jl call hs u x234 r_0 eNil=j1 (x4l call hs u) 6:=by kernel_rfl
theorem x237{rec0:AV->AV->AV->AV->AV->Mem->Nat->O2}:x2jl call hs u x235 (j5 rec0 1 2 5 6 7) (setE 0 (j1 (x4l call hs u) 6) eNil)=j5 (xpp call hs u rec0) 1 2 5 6 7:=by kernel_rfl
theorem x238:x2jl call hs u x13x (j1 (x4l call hs u) 6) (setE 0 (j1 (x4l call hs u) 6) eNil)=j5 (x80 call hs u NN) 1 2 5 6 7:=lp (Ln:=fun n=>j5 (x80 call hs u n) 1 2 5 6 7) fun n=>tr x237
theorem x239:x2jl call hs u x13w (j1 (x4l call hs u) 6) eNil=j5 (x80 call hs u NN) 1 2 5 6 7:=bk x238
theorem x23a:x2jl call hs u x13v (j1 (x4l call hs u) 6) eNil=j4 (xgz call hs u) 1 2 5 6:=tr (sqN 1 x239)
theorem x23b:x2jl call hs u xmf r_0 eNil=j4 (xgz call hs u) 1 2 5 6:=sq2 x236 x23a
theorem x1ej:x2jl call hs u x13u r_0 eNil=j2 (xpq call hs u) 0 1:=tr (sqN 3 x23b)
noncomputable abbrev x2jm:=VX x30 42 r_8
noncomputable def x13y:=x2ei x30
noncomputable def xmg:=nRs 2 x13y
noncomputable def x13z:=nL xmg
noncomputable def x23c:=nR xmg
noncomputable def x140:=nR x13z
noncomputable def x141:=nR x140
noncomputable def x23d:=nR x141
theorem x23e:x2jm call hs u x23c r_8 eNil=j0 (x3d call hs u):=by kernel_rfl
theorem x23f{rec0:AV->AV->AV->AV->Mem->Nat->O2}:x2jm call hs u x23d (j4 rec0 0 9 10 11) (setE 0 (j0 (x3d call hs u)) eNil)=j4 (xco call hs u rec0) 0 9 10 11:=by kernel_rfl
theorem x23g:x2jm call hs u x141 (j0 (x3d call hs u)) (setE 0 (j0 (x3d call hs u)) eNil)=j4 (x2m call hs u NN) 0 9 10 11:=lp (Ln:=fun n=>j4 (x2m call hs u n) 0 9 10 11) fun n=>tr x23f
theorem x23h:x2jm call hs u x140 (j0 (x3d call hs u)) eNil=j4 (x2m call hs u NN) 0 9 10 11:=bk x23g
theorem x23i:x2jm call hs u x13z (j0 (x3d call hs u)) eNil=j1 (xcp call hs u) 0:=tr (sqN 1 x23h)
theorem x23j:x2jm call hs u xmg r_8 eNil=j1 (xcp call hs u) 0:=sq2 x23e x23i
theorem x1ek:x2jm call hs u x13y r_8 eNil=j1 (xh0 call hs u) 0:=tr (sqN 2 x23j)
noncomputable abbrev x2t5:=VX x1p 10 r_0
noncomputable def x23k:=x2ei x1p
theorem x1el:x2t5 call hs u x23k r_0 eNil=j2 (xh1 call hs u) 0 1:=by kernel_rfl
noncomputable abbrev x2jn:=VX x58 55 r_2
noncomputable def x142:=x2ei x58
noncomputable def xmh:=nRs 2 x142
noncomputable def x143:=nL xmh
noncomputable def x23l:=nR xmh
noncomputable def x144:=nR x143
noncomputable def x145:=nR x144
noncomputable def x23m:=nR x145
theorem x23n:x2jn call hs u x23l r_2 eNil=j0 (x3e call hs u):=by kernel_rfl
theorem x23o{rec0:AV->AV->Mem->Nat->O2}:x2jn call hs u x23m (j2 rec0 0 3) (setE 0 (j0 (x3e call hs u)) eNil)=j2 (xcq call hs u rec0) 0 3:=by kernel_rfl
theorem x23p:x2jn call hs u x145 (j0 (x3e call hs u)) (setE 0 (j0 (x3e call hs u)) eNil)=j2 (x2n call hs u NN) 0 3:=lp (Ln:=fun n=>j2 (x2n call hs u n) 0 3) fun n=>tr x23o
theorem x23q:x2jn call hs u x144 (j0 (x3e call hs u)) eNil=j2 (x2n call hs u NN) 0 3:=bk x23p
theorem x23r:x2jn call hs u x143 (j0 (x3e call hs u)) eNil=j1 (xcr call hs u) 0:=tr (sqN 1 x23q)
theorem x23s:x2jn call hs u xmh r_2 eNil=j1 (xcr call hs u) 0:=sq2 x23n x23r
theorem x1em:x2jn call hs u x142 r_2 eNil=j1 (xh2 call hs u) 0:=tr (sqN 2 x23s)
noncomputable abbrev x2t6:=VX x1f 11 r_2
noncomputable def x23t:=x2ei x1f
theorem x1en:x2t6 call hs u x23t r_2 eNil=j1 (xh3 call hs u) 0:=by kernel_rfl
noncomputable abbrev x2jo:=VX x2i 15 r_2
noncomputable def x146:=x2ei x2i
noncomputable def xmi:=nRs 2 x146
noncomputable def x147:=nL xmi
noncomputable def x23u:=nR xmi
noncomputable def x148:=nR x147
noncomputable def x149:=nR x148
noncomputable def x23v:=nR x149
theorem x23w:x2jo call hs u x23u r_2 eNil=j1 (x3f call hs u) 3:=by kernel_rfl
theorem x23x{rec0:AV->AV->AV->Mem->Nat->O2}:x2jo call hs u x23v (j3 rec0 3 5 6) (setE 0 (j1 (x3f call hs u) 3) eNil)=j3 (xcs call hs u rec0) 3 5 6:=by kernel_rfl
theorem x23y:x2jo call hs u x149 (j1 (x3f call hs u) 3) (setE 0 (j1 (x3f call hs u) 3) eNil)=j3 (x3g call hs u NN) 3 5 6:=lp (Ln:=fun n=>j3 (x3g call hs u n) 3 5 6) fun n=>tr x23x
theorem x23z:x2jo call hs u x148 (j1 (x3f call hs u) 3) eNil=j3 (x3g call hs u NN) 3 5 6:=bk x23y
theorem x240:x2jo call hs u x147 (j1 (x3f call hs u) 3) eNil=j2 (xct call hs u) 0 3:=tr (sqN 1 x23z)
theorem x241:x2jo call hs u xmi r_2 eNil=j2 (xct call hs u) 0 3:=sq2 x23w x240
theorem x1eo:x2jo call hs u x146 r_2 eNil=j1 (xh4 call hs u) 0:=tr (sqN 2 x241)
noncomputable abbrev x2hu:=VX x31 44 r_0
noncomputable def x14a:=x2ei x31
noncomputable def xmj:=nRs 2 x14a
noncomputable def x14b:=nL xmj
noncomputable def x242:=nR xmj
noncomputable def x14c:=nR x14b
noncomputable def x14d:=nR x14c
noncomputable def x14e:=nR x14d
noncomputable def xmk:=nRs 2 x14e
noncomputable def x243:=nL xmk
noncomputable def x244:=nR xmk
theorem x245:x2hu call hs u x242 r_0 eNil=j2 (x1m call hs u) 5 6:=by kernel_rfl
theorem x246{rec0:AV->AV->AV->AV->AV->AV->Mem->Nat->O2}:x2hu call hs u x244 (j6 rec0 0 5 6 19 20 21) (setE 0 (j2 (x1m call hs u) 5 6) eNil)=j6 (x81 call hs u rec0) 0 5 6 19 20 21:=by kernel_rfl
theorem x247{rec0:AV->AV->AV->AV->AV->AV->Mem->Nat->O2}:x2hu call hs u x243 (j6 (x81 call hs u rec0) 0 5 6 19 20 21) (setE 0 (j2 (x1m call hs u) 5 6) eNil)=j6 (xcu call hs u rec0) 0 5 6 19 20 21:=by kernel_rfl
theorem x248{rec0:AV->AV->AV->AV->AV->AV->Mem->Nat->O2}:x2hu call hs u xmk (j6 rec0 0 5 6 19 20 21) (setE 0 (j2 (x1m call hs u) 5 6) eNil)=j6 (xcu call hs u rec0) 0 5 6 19 20 21:=sq2 x246 x247
theorem x249{rec0:AV->AV->AV->AV->AV->AV->Mem->Nat->O2}:x2hu call hs u x14e (j6 rec0 0 5 6 19 20 21) (setE 0 (j2 (x1m call hs u) 5 6) eNil)=j6 (xcv call hs u rec0) 0 5 6 19 20 21:=tr (sqN 2 x248)
theorem x24a:x2hu call hs u x14d (j2 (x1m call hs u) 5 6) (setE 0 (j2 (x1m call hs u) 5 6) eNil)=j6 (x3h call hs u NN) 0 5 6 19 20 21:=lp (Ln:=fun n=>j6 (x3h call hs u n) 0 5 6 19 20 21) fun n=>tr x249
theorem x24b:x2hu call hs u x14c (j2 (x1m call hs u) 5 6) eNil=j6 (x3h call hs u NN) 0 5 6 19 20 21:=bk x24a
theorem x24c:x2hu call hs u x14b (j2 (x1m call hs u) 5 6) eNil=j3 (xcw call hs u) 0 5 6:=tr (sqN 1 x24b)
theorem x24d:x2hu call hs u xmj r_0 eNil=j3 (xcw call hs u) 0 5 6:=sq2 x245 x24c
theorem x1ep:x2hu call hs u x14a r_0 eNil=j2 (xh5 call hs u) 0 1:=tr (sqN 2 x24d)
noncomputable abbrev x2t7:=VX xai 9 r_0
noncomputable def x24e:=x2ei xai
theorem x1eq:x2t7 call hs u x24e r_0 eNil=j2 (xpr call hs u) 0 1:=by kernel_rfl
noncomputable abbrev x2t8:=VX xaj 15 r_14
noncomputable def x24f:=x2ei xaj
theorem x1er:x2t8 call hs u x24f r_14 eNil=j2 (xps call hs u) 0 1:=by kernel_rfl
noncomputable abbrev x2jp:=VX x6o 21 r_0
noncomputable def x14f:=x2ei x6o
noncomputable def xml:=nRs 2 x14f
noncomputable def x14g:=nL xml
noncomputable def x24g:=nR xml
noncomputable def x14h:=nR x14g
noncomputable def x14i:=nR x14h
noncomputable def x24h:=nR x14i
theorem x24i:x2jp call hs u x24g r_0 eNil=j1 (x4m call hs u) 5:=by kernel_rfl
theorem x24j{rec0:AV->AV->AV->AV->AV->Mem->Nat->O2}:x2jp call hs u x24h (j5 rec0 2 5 8 9 10) (setE 0 (j1 (x4m call hs u) 5) eNil)=j5 (xpt call hs u rec0) 2 5 8 9 10:=by kernel_rfl
theorem x24k:x2jp call hs u x14i (j1 (x4m call hs u) 5) (setE 0 (j1 (x4m call hs u) 5) eNil)=j5 (x82 call hs u NN) 2 5 8 9 10:=lp (Ln:=fun n=>j5 (x82 call hs u n) 2 5 8 9 10) fun n=>tr x24j
theorem x24l:x2jp call hs u x14h (j1 (x4m call hs u) 5) eNil=j5 (x82 call hs u NN) 2 5 8 9 10:=bk x24k
theorem x24m:x2jp call hs u x14g (j1 (x4m call hs u) 5) eNil=j3 (xh6 call hs u) 1 2 5:=tr (sqN 1 x24l)
theorem x24n:x2jp call hs u xml r_0 eNil=j3 (xh6 call hs u) 1 2 5:=sq2 x24i x24m
theorem x1es:x2jp call hs u x14f r_0 eNil=j2 (xpu call hs u) 0 1:=tr (sqN 2 x24n)
noncomputable abbrev x2gj:=VX x59 73 r_8
noncomputable def x14j:=x2ei x59
noncomputable def xmm:=nRs 3 x14j
noncomputable def x14k:=nL xmm
noncomputable def x24o:=nR xmm
noncomputable def x14l:=nR x14k
noncomputable def x14m:=nR x14l
noncomputable def x14n:=nR x14m
noncomputable def xmn:=nR x14n
noncomputable def x14o:=nL xmn
noncomputable def x24p:=nR xmn
noncomputable def x14p:=nR x14o
noncomputable def x14q:=nRs 4 x14p
noncomputable def x14r:=nR x14q
noncomputable def x24q:=nR x14r
theorem x24r:x2gj call hs u x24o r_8 eNil=j0 (xw call hs u):=by kernel_rfl
theorem x24s{rec0:AV->AV->Mem->Nat->O2}:x2gj call hs u x24p (j2 rec0 1 6) (setE 0 (j0 (xw call hs u)) eNil)=j2 (x18 call hs u rec0) 1 6:=by kernel_rfl
theorem x24t{rec0:AV->AV->Mem->Nat->O2}{rec1:AV->AV->AV->AV->Mem->Nat->O2}:x2gj call hs u x24q (j4 rec1 1 6 7 8) (setE 2 (j2 (x18 call hs u rec0) 1 6) (setE 1 (j2 (x18 call hs u rec0) 1 6) (setE 0 (j0 (xw call hs u)) eNil)))=j4 (xcy call hs u rec0 rec1) 1 6 7 8:=by kernel_rfl
theorem x24u{rec0:AV->AV->Mem->Nat->O2}:x2gj call hs u x14r (j2 (x18 call hs u rec0) 1 6) (setE 2 (j2 (x18 call hs u rec0) 1 6) (setE 1 (j2 (x18 call hs u rec0) 1 6) (setE 0 (j0 (xw call hs u)) eNil)))=j4 (x2o call hs u rec0 NN) 1 6 7 8:=lp (Ln:=fun n=>j4 (x2o call hs u rec0 n) 1 6 7 8) fun n=>tr x24t
theorem x24v{rec0:AV->AV->Mem->Nat->O2}:x2gj call hs u x14q (j2 (x18 call hs u rec0) 1 6) (setE 1 (j2 (x18 call hs u rec0) 1 6) (setE 0 (j0 (xw call hs u)) eNil))=j4 (x2o call hs u rec0 NN) 1 6 7 8:=bk x24u
theorem x24w{rec0:AV->AV->Mem->Nat->O2}:x2gj call hs u x14p (j2 (x18 call hs u rec0) 1 6) (setE 1 (j2 (x18 call hs u rec0) 1 6) (setE 0 (j0 (xw call hs u)) eNil))=j2 (x83 call hs u rec0) 1 6:=tr (sqN 4 x24v)
theorem x24x{rec0:AV->AV->Mem->Nat->O2}:x2gj call hs u x14o (j2 (x18 call hs u rec0) 1 6) (setE 0 (j0 (xw call hs u)) eNil)=j2 (x83 call hs u rec0) 1 6:=bk x24w
theorem x24y{rec0:AV->AV->Mem->Nat->O2}:x2gj call hs u xmn (j2 rec0 1 6) (setE 0 (j0 (xw call hs u)) eNil)=j2 (x83 call hs u rec0) 1 6:=sq2 x24s x24x
theorem x24z{rec0:AV->AV->Mem->Nat->O2}:x2gj call hs u x14n (j2 rec0 1 6) (setE 0 (j0 (xw call hs u)) eNil)=j2 (xcz call hs u rec0) 1 6:=tr (sqN 1 x24y)
theorem x250:x2gj call hs u x14m (j0 (xw call hs u)) (setE 0 (j0 (xw call hs u)) eNil)=j2 (x21 call hs u NN) 1 6:=lp (Ln:=fun n=>j2 (x21 call hs u n) 1 6) fun n=>tr x24z
theorem x251:x2gj call hs u x14l (j0 (xw call hs u)) eNil=j2 (x21 call hs u NN) 1 6:=bk x250
theorem x252:x2gj call hs u x14k (j0 (xw call hs u)) eNil=j1 (xd0 call hs u) 1:=tr (sqN 1 x251)
theorem x253:x2gj call hs u xmm r_8 eNil=j1 (xd0 call hs u) 1:=sq2 x24r x252
theorem x1et:x2gj call hs u x14j r_8 eNil=j1 (xh7 call hs u) 0:=tr (sqN 3 x253)
noncomputable abbrev x2fl:=VX x17 68 r_0
noncomputable def x14s:=x2ei x17
noncomputable def xmo:=nRs 2 x14s
noncomputable def x14t:=nL xmo
noncomputable def xmp:=nR xmo
noncomputable def x14u:=nL xmp
noncomputable def x254:=nR xmp
noncomputable def x14v:=nR x14u
noncomputable def x14w:=nR x14v
noncomputable def x14x:=nR x14w
noncomputable def xmq:=nR x14x
noncomputable def x14y:=nL xmq
noncomputable def x255:=nR xmq
noncomputable def x14z:=nR x14y
noncomputable def x150:=nRs 3 x14z
noncomputable def x151:=nR x150
noncomputable def x152:=nR x151
noncomputable def xmr:=nR x152
noncomputable def x256:=nL xmr
noncomputable def x257:=nR xmr
noncomputable def x153:=nR x14t
noncomputable def x154:=nR x153
noncomputable def x258:=nR x154
theorem x259:x2fl call hs u x254 r_0 eNil=j1 (xi call hs u) 5:=by kernel_rfl
theorem x25a{rec0:AV->AV->AV->AV->Mem->Nat->O2}:x2fl call hs u x255 (j4 rec0 1 2 5 7) (setE 2 (j1 (xi call hs u) 5) eNil)=j4 (xd call hs u rec0) 1 2 5 7:=by kernel_rfl
theorem x25b{rec0:AV->AV->AV->AV->Mem->Nat->O2}{rec1:AV->AV->AV->AV->AV->AV->AV->Mem->Nat->O2}:x2fl call hs u x257 (j7 rec1 1 2 5 7 9 10 11) (setE 4 (j4 (xd call hs u rec0) 1 2 5 7) (setE 3 (j4 (xd call hs u rec0) 1 2 5 7) (setE 2 (j1 (xi call hs u) 5) eNil)))=j7 (x84 call hs u rec0 rec1) 1 2 5 7 9 10 11:=by kernel_rfl
theorem x25c{rec0:AV->AV->AV->AV->Mem->Nat->O2}{rec1:AV->AV->AV->AV->AV->AV->AV->Mem->Nat->O2}:x2fl call hs u x256 (j7 (x84 call hs u rec0 rec1) 1 2 5 7 9 10 11) (setE 4 (j4 (xd call hs u rec0) 1 2 5 7) (setE 3 (j4 (xd call hs u rec0) 1 2 5 7) (setE 2 (j1 (xi call hs u) 5) eNil)))=j7 (xd1 call hs u rec0 rec1) 1 2 5 7 9 10 11:=by kernel_rfl
theorem x25d{rec0:AV->AV->AV->AV->Mem->Nat->O2}{rec1:AV->AV->AV->AV->AV->AV->AV->Mem->Nat->O2}:x2fl call hs u xmr (j7 rec1 1 2 5 7 9 10 11) (setE 4 (j4 (xd call hs u rec0) 1 2 5 7) (setE 3 (j4 (xd call hs u rec0) 1 2 5 7) (setE 2 (j1 (xi call hs u) 5) eNil)))=j7 (xd1 call hs u rec0 rec1) 1 2 5 7 9 10 11:=sq2 x25b x25c
theorem x25e{rec0:AV->AV->AV->AV->Mem->Nat->O2}{rec1:AV->AV->AV->AV->AV->AV->AV->Mem->Nat->O2}:x2fl call hs u x152 (j7 rec1 1 2 5 7 9 10 11) (setE 4 (j4 (xd call hs u rec0) 1 2 5 7) (setE 3 (j4 (xd call hs u rec0) 1 2 5 7) (setE 2 (j1 (xi call hs u) 5) eNil)))=j7 (xd2 call hs u rec0 rec1) 1 2 5 7 9 10 11:=tr (sqN 1 x25d)
theorem x25f{rec0:AV->AV->AV->AV->Mem->Nat->O2}:x2fl call hs u x151 (j4 (xd call hs u rec0) 1 2 5 7) (setE 4 (j4 (xd call hs u rec0) 1 2 5 7) (setE 3 (j4 (xd call hs u rec0) 1 2 5 7) (setE 2 (j1 (xi call hs u) 5) eNil)))=j7 (x2p call hs u rec0 NN) 1 2 5 7 9 10 11:=lp (Ln:=fun n=>j7 (x2p call hs u rec0 n) 1 2 5 7 9 10 11) fun n=>tr x25e
theorem x25g{rec0:AV->AV->AV->AV->Mem->Nat->O2}:x2fl call hs u x150 (j4 (xd call hs u rec0) 1 2 5 7) (setE 3 (j4 (xd call hs u rec0) 1 2 5 7) (setE 2 (j1 (xi call hs u) 5) eNil))=j7 (x2p call hs u rec0 NN) 1 2 5 7 9 10 11:=bk x25f
theorem x25h{rec0:AV->AV->AV->AV->Mem->Nat->O2}:x2fl call hs u x14z (j4 (xd call hs u rec0) 1 2 5 7) (setE 3 (j4 (xd call hs u rec0) 1 2 5 7) (setE 2 (j1 (xi call hs u) 5) eNil))=j4 (x85 call hs u rec0) 1 2 5 7:=tr (sqN 3 x25g)
theorem x25i{rec0:AV->AV->AV->AV->Mem->Nat->O2}:x2fl call hs u x14y (j4 (xd call hs u rec0) 1 2 5 7) (setE 2 (j1 (xi call hs u) 5) eNil)=j4 (x85 call hs u rec0) 1 2 5 7:=bk x25h
theorem x25j{rec0:AV->AV->AV->AV->Mem->Nat->O2}:x2fl call hs u xmq (j4 rec0 1 2 5 7) (setE 2 (j1 (xi call hs u) 5) eNil)=j4 (x85 call hs u rec0) 1 2 5 7:=sq2 x25a x25i
theorem x25k{rec0:AV->AV->AV->AV->Mem->Nat->O2}:x2fl call hs u x14x (j4 rec0 1 2 5 7) (setE 2 (j1 (xi call hs u) 5) eNil)=j4 (xd3 call hs u rec0) 1 2 5 7:=tr (sqN 1 x25j)
theorem x25l:x2fl call hs u x14w (j1 (xi call hs u) 5) (setE 2 (j1 (xi call hs u) 5) eNil)=j4 (x2q call hs u NN) 1 2 5 7:=lp (Ln:=fun n=>j4 (x2q call hs u n) 1 2 5 7) fun n=>tr x25k
theorem x25m:x2fl call hs u x14v (j1 (xi call hs u) 5) eNil=j4 (x2q call hs u NN) 1 2 5 7:=bk x25l
theorem x25n:x2fl call hs u x14u (j1 (xi call hs u) 5) eNil=j3 (x2r call hs u) 1 2 5:=tr (sqN 1 x25m)
theorem x25o:x2fl call hs u xmp r_0 eNil=j3 (x2r call hs u) 1 2 5:=sq2 x259 x25n
theorem x25p{rec2:AV->AV->AV->AV->Mem->Nat->O2}:x2fl call hs u x258 (j4 rec2 1 2 5 6) (setE 0 (j3 (x2r call hs u) 1 2 5) eNil)=j4 (xd4 call hs u rec2) 1 2 5 6:=by kernel_rfl
theorem x25q:x2fl call hs u x154 (j3 (x2r call hs u) 1 2 5) (setE 0 (j3 (x2r call hs u) 1 2 5) eNil)=j4 (x3i call hs u NN) 1 2 5 6:=lp (Ln:=fun n=>j4 (x3i call hs u n) 1 2 5 6) fun n=>tr x25p
theorem x25r:x2fl call hs u x153 (j3 (x2r call hs u) 1 2 5) eNil=j4 (x3i call hs u NN) 1 2 5 6:=bk x25q
theorem x25s:x2fl call hs u x14t (j3 (x2r call hs u) 1 2 5) eNil=j3 (xd5 call hs u) 1 2 5:=tr (sqN 1 x25r)
theorem x25t:x2fl call hs u xmo r_0 eNil=j3 (xd5 call hs u) 1 2 5:=sq2 x25o x25s
theorem x1eu:x2fl call hs u x14s r_0 eNil=j2 (xh8 call hs u) 0 1:=tr (sqN 2 x25t)
noncomputable abbrev x2t9:=VX x40 9 r_0
noncomputable def x25u:=x2ei x40
theorem x1ev:x2t9 call hs u x25u r_0 eNil=j2 (xpv call hs u) 0 1:=by kernel_rfl
noncomputable abbrev x2ta:=VX x6p 15 r_15
noncomputable def x25v:=x2ei x6p
theorem x1ew:x2ta call hs u x25v r_15 eNil=j1 (xpw call hs u) 0:=by kernel_rfl
noncomputable abbrev x2tb:=VX xak 16 r_8
noncomputable def x25w:=x2ei xak
theorem x1ex:x2tb call hs u x25w r_8 eNil=j1 (xpx call hs u) 0:=by kernel_rfl
noncomputable abbrev x2m5:=VX xf6 14 r_0
noncomputable def x155:=x2ei xf6
noncomputable def xms:=nRs 2 x155
noncomputable def x25x:=nL xms
noncomputable def x25y:=nR xms
theorem x25z:x2m5 call hs u x25y r_0 eNil=j1 (xd6 call hs u) 0:=by kernel_rfl
theorem x260:x2m5 call hs u x25x (j1 (xd6 call hs u) 0) eNil=j2 (xh9 call hs u) 0 1:=by kernel_rfl
theorem x261:x2m5 call hs u xms r_0 eNil=j2 (xh9 call hs u) 0 1:=sq2 x25z x260
theorem x1ey:x2m5 call hs u x155 r_0 eNil=j2 (xpy call hs u) 0 1:=tr (sqN 2 x261)
noncomputable abbrev x2tc:=VX xal 33 r_10
noncomputable def x262:=x2ei xal
theorem x1ez:x2tc call hs u x262 r_10 eNil=j1 (xpz call hs u) 0:=by kernel_rfl
noncomputable abbrev x2td:=VX xf7 8 r_2
noncomputable def x263:=x2ei xf7
theorem x1f0:x2td call hs u x263 r_2 eNil=j1 (xq0 call hs u) 0:=by kernel_rfl
noncomputable abbrev x2te:=VX x6q 7 r_2
noncomputable def x264:=x2ei x6q
theorem x1f1:x2te call hs u x264 r_2 eNil=j1 (xq1 call hs u) 0:=by kernel_rfl
noncomputable abbrev x2gk:=VX x41 35 r_2
noncomputable def x156:=x2ei x41
noncomputable def xmt:=nRs 3 x156
noncomputable def x157:=nL xmt
noncomputable def x265:=nR xmt
noncomputable def x158:=nR x157
noncomputable def x159:=nR x158
noncomputable def x15a:=nR x159
noncomputable def xmu:=nRs 2 x15a
noncomputable def x15b:=nL xmu
noncomputable def x266:=nR xmu
noncomputable def x15c:=nR x15b
noncomputable def xmv:=nRs 2 x15c
noncomputable def x267:=nL xmv
noncomputable def x268:=nR xmv
theorem x269:x2gk call hs u x265 r_2 eNil=j1 (xx call hs u) 4:=by kernel_rfl
theorem x26a{rec0:AV->AV->AV->AV->AV->Mem->Nat->O2}:x2gk call hs u x266 (j5 rec0 3 4 10 11 12) (setE 0 (j1 (xx call hs u) 4) eNil)=j5 (x1a call hs u rec0) 3 4 10 11 12:=by kernel_rfl
theorem x26b{rec0:AV->AV->AV->AV->AV->Mem->Nat->O2}:x2gk call hs u x268 (j5 (x1a call hs u rec0) 3 4 10 11 12) (setE 1 (j5 (x1a call hs u rec0) 3 4 10 11 12) (setE 0 (j1 (xx call hs u) 4) eNil))=j6 (x5o call hs u rec0) 3 4 7 10 11 12:=by kernel_rfl
theorem x26c{rec0:AV->AV->AV->AV->AV->Mem->Nat->O2}:x2gk call hs u x267 (j6 (x5o call hs u rec0) 3 4 7 10 11 12) (setE 1 (j5 (x1a call hs u rec0) 3 4 10 11 12) (setE 0 (j1 (xx call hs u) 4) eNil))=j8 (x87 call hs u rec0) 3 4 6 7 8 10 11 12:=by kernel_rfl
theorem x26d{rec0:AV->AV->AV->AV->AV->Mem->Nat->O2}:x2gk call hs u xmv (j5 (x1a call hs u rec0) 3 4 10 11 12) (setE 1 (j5 (x1a call hs u rec0) 3 4 10 11 12) (setE 0 (j1 (xx call hs u) 4) eNil))=j8 (x87 call hs u rec0) 3 4 6 7 8 10 11 12:=sq2 x26b x26c
theorem x26e{rec0:AV->AV->AV->AV->AV->Mem->Nat->O2}:x2gk call hs u x15c (j5 (x1a call hs u rec0) 3 4 10 11 12) (setE 1 (j5 (x1a call hs u rec0) 3 4 10 11 12) (setE 0 (j1 (xx call hs u) 4) eNil))=j5 (x88 call hs u rec0) 3 4 10 11 12:=tr (sqN 2 x26d)
theorem x26f{rec0:AV->AV->AV->AV->AV->Mem->Nat->O2}:x2gk call hs u x15b (j5 (x1a call hs u rec0) 3 4 10 11 12) (setE 0 (j1 (xx call hs u) 4) eNil)=j5 (x88 call hs u rec0) 3 4 10 11 12:=bk x26e
theorem x26g{rec0:AV->AV->AV->AV->AV->Mem->Nat->O2}:x2gk call hs u xmu (j5 rec0 3 4 10 11 12) (setE 0 (j1 (xx call hs u) 4) eNil)=j5 (x88 call hs u rec0) 3 4 10 11 12:=sq2 x26a x26f
theorem x26h{rec0:AV->AV->AV->AV->AV->Mem->Nat->O2}:x2gk call hs u x15a (j5 rec0 3 4 10 11 12) (setE 0 (j1 (xx call hs u) 4) eNil)=j5 (xd7 call hs u rec0) 3 4 10 11 12:=tr (sqN 2 x26g)
theorem x26i:x2gk call hs u x159 (j1 (xx call hs u) 4) (setE 0 (j1 (xx call hs u) 4) eNil)=j5 (x3k call hs u NN) 3 4 10 11 12:=lp (Ln:=fun n=>j5 (x3k call hs u n) 3 4 10 11 12) fun n=>tr x26h
theorem x26j:x2gk call hs u x158 (j1 (xx call hs u) 4) eNil=j5 (x3k call hs u NN) 3 4 10 11 12:=bk x26i
theorem x26k:x2gk call hs u x157 (j1 (xx call hs u) 4) eNil=j3 (xd8 call hs u) 0 3 4:=tr (sqN 1 x26j)
theorem x26l:x2gk call hs u xmt r_2 eNil=j3 (xd8 call hs u) 0 3 4:=sq2 x269 x26k
theorem x1f2:x2gk call hs u x156 r_2 eNil=j1 (xha call hs u) 0:=tr (sqN 3 x26l)
noncomputable abbrev x2hv:=VX x42 38 r_2
noncomputable def x15d:=x2ei x42
noncomputable def xmw:=nRs 3 x15d
noncomputable def x15e:=nL xmw
noncomputable def x26m:=nR xmw
noncomputable def x15f:=nR x15e
noncomputable def x15g:=nR x15f
noncomputable def x15h:=nR x15g
noncomputable def xmx:=nR x15h
noncomputable def x26n:=nL xmx
noncomputable def x26o:=nR xmx
theorem x26p:x2hv call hs u x26m r_2 eNil=j1 (x1n call hs u) 3:=by kernel_rfl
theorem x26q{rec0:AV->AV->AV->AV->Mem->Nat->O2}:x2hv call hs u x26o (j4 rec0 0 3 4 5) (setE 0 (j1 (x1n call hs u) 3) eNil)=j4 (x5p call hs u rec0) 0 3 4 5:=by kernel_rfl
theorem x26r{rec0:AV->AV->AV->AV->Mem->Nat->O2}:x2hv call hs u x26n (j4 (x5p call hs u rec0) 0 3 4 5) (setE 0 (j1 (x1n call hs u) 3) eNil)=j4 (x89 call hs u rec0) 0 3 4 5:=by kernel_rfl
theorem x26s{rec0:AV->AV->AV->AV->Mem->Nat->O2}:x2hv call hs u xmx (j4 rec0 0 3 4 5) (setE 0 (j1 (x1n call hs u) 3) eNil)=j4 (x89 call hs u rec0) 0 3 4 5:=sq2 x26q x26r
theorem x26t{rec0:AV->AV->AV->AV->Mem->Nat->O2}:x2hv call hs u x15h (j4 rec0 0 3 4 5) (setE 0 (j1 (x1n call hs u) 3) eNil)=j4 (x8a call hs u rec0) 0 3 4 5:=tr (sqN 1 x26s)
theorem x26u:x2hv call hs u x15g (j1 (x1n call hs u) 3) (setE 0 (j1 (x1n call hs u) 3) eNil)=j4 (x2s call hs u NN) 0 3 4 5:=lp (Ln:=fun n=>j4 (x2s call hs u n) 0 3 4 5) fun n=>tr x26t
theorem x26v:x2hv call hs u x15f (j1 (x1n call hs u) 3) eNil=j4 (x2s call hs u NN) 0 3 4 5:=bk x26u
theorem x26w:x2hv call hs u x15e (j1 (x1n call hs u) 3) eNil=j3 (xd9 call hs u) 0 3 4:=tr (sqN 1 x26v)
theorem x26x:x2hv call hs u xmw r_2 eNil=j3 (xd9 call hs u) 0 3 4:=sq2 x26p x26w
theorem x1f3:x2hv call hs u x15d r_2 eNil=j1 (xhb call hs u) 0:=tr (sqN 3 x26x)
noncomputable abbrev x2hw:=VX x32 22 r_0
noncomputable def x15i:=x2ei x32
noncomputable def xmy:=nRs 2 x15i
noncomputable def x15j:=nL xmy
noncomputable def x26y:=nR xmy
noncomputable def x15k:=nR x15j
noncomputable def x15l:=nR x15k
noncomputable def x15m:=nR x15l
noncomputable def xmz:=nR x15m
noncomputable def x26z:=nL xmz
noncomputable def x270:=nR xmz
theorem x271:x2hw call hs u x26y r_0 eNil=j1 (x1o call hs u) 5:=by kernel_rfl
theorem x272{rec0:AV->AV->AV->AV->Mem->Nat->O2}:x2hw call hs u x270 (j4 rec0 1 2 5 6) (setE 0 (j1 (x1o call hs u) 5) eNil)=j4 (x5q call hs u rec0) 1 2 5 6:=by kernel_rfl
theorem x273{rec0:AV->AV->AV->AV->Mem->Nat->O2}:x2hw call hs u x26z (j4 (x5q call hs u rec0) 1 2 5 6) (setE 0 (j1 (x1o call hs u) 5) eNil)=j4 (xda call hs u rec0) 1 2 5 6:=by kernel_rfl
theorem x274{rec0:AV->AV->AV->AV->Mem->Nat->O2}:x2hw call hs u xmz (j4 rec0 1 2 5 6) (setE 0 (j1 (x1o call hs u) 5) eNil)=j4 (xda call hs u rec0) 1 2 5 6:=sq2 x272 x273
theorem x275{rec0:AV->AV->AV->AV->Mem->Nat->O2}:x2hw call hs u x15m (j4 rec0 1 2 5 6) (setE 0 (j1 (x1o call hs u) 5) eNil)=j4 (xdb call hs u rec0) 1 2 5 6:=tr (sqN 1 x274)
theorem x276:x2hw call hs u x15l (j1 (x1o call hs u) 5) (setE 0 (j1 (x1o call hs u) 5) eNil)=j4 (x3l call hs u NN) 1 2 5 6:=lp (Ln:=fun n=>j4 (x3l call hs u n) 1 2 5 6) fun n=>tr x275
theorem x277:x2hw call hs u x15k (j1 (x1o call hs u) 5) eNil=j4 (x3l call hs u NN) 1 2 5 6:=bk x276
theorem x278:x2hw call hs u x15j (j1 (x1o call hs u) 5) eNil=j3 (xdc call hs u) 1 2 5:=tr (sqN 1 x277)
theorem x279:x2hw call hs u xmy r_0 eNil=j3 (xdc call hs u) 1 2 5:=sq2 x271 x278
theorem x1f4:x2hw call hs u x15i r_0 eNil=j2 (xhc call hs u) 0 1:=tr (sqN 2 x279)
noncomputable abbrev x2tf:=VX x6r 25 r_6
noncomputable def x27a:=x2ei x6r
theorem x1f5:x2tf call hs u x27a r_6 eNil=j2 (xq2 call hs u) 0 1:=by kernel_rfl
noncomputable abbrev x2tg:=VX x5a 24 r_6
noncomputable def x27b:=x2ei x5a
theorem x1f6:x2tg call hs u x27b r_6 eNil=j2 (xq3 call hs u) 0 1:=by kernel_rfl
noncomputable abbrev x2g4:=VX x6s 51 r_2
noncomputable def x15n:=x2ei x6s
noncomputable def xn0:=nRs 2 x15n
noncomputable def x15o:=nL xn0
noncomputable def x15p:=nR xn0
noncomputable def xn1:=nRs 2 x15p
noncomputable def x15q:=nL xn1
noncomputable def x27c:=nR xn1
noncomputable def x15r:=nR x15q
noncomputable def x15s:=nR x15r
noncomputable def x15t:=nR x15s
noncomputable def xn2:=nRs 2 x15t
noncomputable def x27d:=nL xn2
noncomputable def x27e:=nR xn2
noncomputable def x15u:=nR x15o
noncomputable def x15v:=nR x15u
noncomputable def x27f:=nR x15v
theorem x27g:x2g4 call hs u x27c r_2 eNil=j1 (x22 call hs u) 4:=by kernel_rfl
theorem x27h{rec0:AV->AV->AV->AV->AV->AV->Mem->Nat->O2}:x2g4 call hs u x27e (j6 rec0 1 4 6 29 30 31) (setE 2 (j1 (x22 call hs u) 4) eNil)=j6 (xdd call hs u rec0) 1 4 6 29 30 31:=by kernel_rfl
theorem x27i{rec0:AV->AV->AV->AV->AV->AV->Mem->Nat->O2}:x2g4 call hs u x27d (j6 (xdd call hs u rec0) 1 4 6 29 30 31) (setE 2 (j1 (x22 call hs u) 4) eNil)=j6 (xhd call hs u rec0) 1 4 6 29 30 31:=by kernel_rfl
theorem x27j{rec0:AV->AV->AV->AV->AV->AV->Mem->Nat->O2}:x2g4 call hs u xn2 (j6 rec0 1 4 6 29 30 31) (setE 2 (j1 (x22 call hs u) 4) eNil)=j6 (xhd call hs u rec0) 1 4 6 29 30 31:=sq2 x27h x27i
theorem x27k{rec0:AV->AV->AV->AV->AV->AV->Mem->Nat->O2}:x2g4 call hs u x15t (j6 rec0 1 4 6 29 30 31) (setE 2 (j1 (x22 call hs u) 4) eNil)=j6 (xq4 call hs u rec0) 1 4 6 29 30 31:=tr (sqN 2 x27j)
theorem x27l:x2g4 call hs u x15s (j1 (x22 call hs u) 4) (setE 2 (j1 (x22 call hs u) 4) eNil)=j6 (x8b call hs u NN) 1 4 6 29 30 31:=lp (Ln:=fun n=>j6 (x8b call hs u n) 1 4 6 29 30 31) fun n=>tr x27k
theorem x27m:x2g4 call hs u x15r (j1 (x22 call hs u) 4) eNil=j6 (x8b call hs u NN) 1 4 6 29 30 31:=bk x27l
theorem x27n:x2g4 call hs u x15q (j1 (x22 call hs u) 4) eNil=j4 (xhe call hs u) 1 3 4 6:=tr (sqN 1 x27m)
theorem x27o:x2g4 call hs u xn1 r_2 eNil=j4 (xhe call hs u) 1 3 4 6:=sq2 x27g x27n
theorem x27p:x2g4 call hs u x15p r_2 eNil=j3 (x4n call hs u) 1 3 4:=tr (sqN 2 x27o)
theorem x27q{rec1:AV->AV->AV->AV->AV->Mem->Nat->O2}:x2g4 call hs u x27f (j5 rec1 1 3 4 12 13) (setE 0 (j3 (x4n call hs u) 1 3 4) eNil)=j5 (xq5 call hs u rec1) 1 3 4 12 13:=by kernel_rfl
theorem x27r:x2g4 call hs u x15v (j3 (x4n call hs u) 1 3 4) (setE 0 (j3 (x4n call hs u) 1 3 4) eNil)=j5 (x8c call hs u NN) 1 3 4 12 13:=lp (Ln:=fun n=>j5 (x8c call hs u n) 1 3 4 12 13) fun n=>tr x27q
theorem x27s:x2g4 call hs u x15u (j3 (x4n call hs u) 1 3 4) eNil=j5 (x8c call hs u NN) 1 3 4 12 13:=bk x27r
theorem x27t:x2g4 call hs u x15o (j3 (x4n call hs u) 1 3 4) eNil=j3 (xhf call hs u) 1 3 4:=tr (sqN 1 x27s)
theorem x27u:x2g4 call hs u xn0 r_2 eNil=j3 (xhf call hs u) 1 3 4:=sq2 x27p x27t
theorem x1f7:x2g4 call hs u x15n r_2 eNil=j1 (xq6 call hs u) 0:=tr (sqN 2 x27u)
noncomputable abbrev x2th:=VX xfb 21 r_6
noncomputable def x27v:=x2ei xfb
theorem x1f8:x2th call hs u x27v r_6 eNil=j2 (xq7 call hs u) 0 1:=by kernel_rfl
noncomputable abbrev x2ti:=VX xam 6 r_2
noncomputable def x27w:=x2ei xam
theorem x1f9:x2ti call hs u x27w r_2 eNil=j1 (xq8 call hs u) 0:=by kernel_rfl
noncomputable abbrev x2tj:=VX xan 6 r_2
noncomputable def x27x:=x2ei xan
theorem x1fa:x2tj call hs u x27x r_2 eNil=j1 (xq9 call hs u) 0:=by kernel_rfl
noncomputable abbrev x2f5:=VX xao 96 r_16
noncomputable def x15w:=x2ei xao
noncomputable def xn3:=nRs 4 x15w
noncomputable def x15x:=nL xn3
noncomputable def x15y:=nR xn3
noncomputable def xn4:=nR x15y
noncomputable def x15z:=nL xn4
noncomputable def x27y:=nR xn4
noncomputable def x160:=nR x15z
noncomputable def x161:=nR x160
noncomputable def x27z:=nR x161
noncomputable def x162:=nR x15x
noncomputable def x163:=nR x162
noncomputable def x164:=nR x163
noncomputable def xn5:=nRs 2 x164
noncomputable def x165:=nL xn5
noncomputable def x280:=nR xn5
noncomputable def x166:=nR x165
noncomputable def x167:=nR x166
noncomputable def x168:=nR x167
noncomputable def x169:=nR x168
noncomputable def xn6:=nR x169
noncomputable def x16a:=nL xn6
noncomputable def x281:=nR xn6
noncomputable def x16b:=nR x16a
noncomputable def x16c:=nR x16b
noncomputable def x16d:=nR x16c
noncomputable def x16e:=nR x16d
noncomputable def xn7:=nR x16e
noncomputable def x282:=nL xn7
noncomputable def x283:=nR xn7
theorem x284:x2f5 call hs u x27y r_16 eNil=j1 (x4o call hs u) 16:=by kernel_rfl
theorem x285{rec0:AV->AV->AV->AV->AV->Mem->Nat->O2}:x2f5 call hs u x27z (j5 rec0 2 4 9 16 17) (setE 6 (j1 (x4o call hs u) 16) eNil)=j5 (xqa call hs u rec0) 2 4 9 16 17:=by kernel_rfl
theorem x286:x2f5 call hs u x161 (j1 (x4o call hs u) 16) (setE 6 (j1 (x4o call hs u) 16) eNil)=j5 (x8d call hs u NN) 2 4 9 16 17:=lp (Ln:=fun n=>j5 (x8d call hs u n) 2 4 9 16 17) fun n=>tr x285
theorem x287:x2f5 call hs u x160 (j1 (x4o call hs u) 16) eNil=j5 (x8d call hs u NN) 2 4 9 16 17:=bk x286
theorem x288:x2f5 call hs u x15z (j1 (x4o call hs u) 16) eNil=j5 (xhg call hs u) 2 3 4 9 16:=tr (sqN 1 x287)
theorem x289:x2f5 call hs u xn4 r_16 eNil=j5 (xhg call hs u) 2 3 4 9 16:=sq2 x284 x288
theorem x28a:x2f5 call hs u x15y r_16 eNil=j4 (xa call hs u) 2 3 4 9:=tr (sqN 1 x289)
theorem x28b{rec1:AV->AV->AV->AV->AV->AV->AV->AV->Mem->Nat->O2}:x2f5 call hs u x280 (j8 rec1 1 2 3 4 9 10 31 32) (setE 0 (j4 (xa call hs u) 2 3 4 9) eNil)=j8 (x4 call hs u rec1) 1 2 3 4 9 10 31 32:=by kernel_rfl
theorem x28c{rec1:AV->AV->AV->AV->AV->AV->AV->AV->Mem->Nat->O2}{rec2:AV->AV->AV->AV->AV->AV->AV->AV->AV->Mem->Nat->O2}:x2f5 call hs u x281 (j9 rec2 1 2 3 4 9 10 11 31 32) (setE 2 (j8 (x4 call hs u rec1) 1 2 3 4 9 10 31 32) (setE 1 (j8 (x4 call hs u rec1) 1 2 3 4 9 10 31 32) (setE 0 (j4 (xa call hs u) 2 3 4 9) eNil)))=j9 (xj call hs u rec1 rec2) 1 2 3 4 9 10 11 31 32:=by kernel_rfl
theorem x28d{rec1:AV->AV->AV->AV->AV->AV->AV->AV->Mem->Nat->O2}{rec2:AV->AV->AV->AV->AV->AV->AV->AV->AV->Mem->Nat->O2}{rec3:AV->AV->AV->AV->AV->AV->AV->AV->AV->AV->Mem->Nat->O2}:x2f5 call hs u x283 (j10 rec3 1 2 3 4 9 10 11 12 31 32) (setE 4 (j9 (xj call hs u rec1 rec2) 1 2 3 4 9 10 11 31 32) (setE 3 (j9 (xj call hs u rec1 rec2) 1 2 3 4 9 10 11 31 32) (setE 2 (j8 (x4 call hs u rec1) 1 2 3 4 9 10 31 32) (setE 1 (j8 (x4 call hs u rec1) 1 2 3 4 9 10 31 32) (setE 0 (j4 (xa call hs u) 2 3 4 9) eNil)))))=j10 (xde call hs u rec1 rec2 rec3) 1 2 3 4 9 10 11 12 31 32:=by kernel_rfl
theorem x28e{rec1:AV->AV->AV->AV->AV->AV->AV->AV->Mem->Nat->O2}{rec2:AV->AV->AV->AV->AV->AV->AV->AV->AV->Mem->Nat->O2}{rec3:AV->AV->AV->AV->AV->AV->AV->AV->AV->AV->Mem->Nat->O2}:x2f5 call hs u x282 (j10 (xde call hs u rec1 rec2 rec3) 1 2 3 4 9 10 11 12 31 32) (setE 4 (j9 (xj call hs u rec1 rec2) 1 2 3 4 9 10 11 31 32) (setE 3 (j9 (xj call hs u rec1 rec2) 1 2 3 4 9 10 11 31 32) (setE 2 (j8 (x4 call hs u rec1) 1 2 3 4 9 10 31 32) (setE 1 (j8 (x4 call hs u rec1) 1 2 3 4 9 10 31 32) (setE 0 (j4 (xa call hs u) 2 3 4 9) eNil)))))=j10 (xhh call hs u rec1 rec2 rec3) 1 2 3 4 9 10 11 12 31 32:=by kernel_rfl
theorem x28f{rec1:AV->AV->AV->AV->AV->AV->AV->AV->Mem->Nat->O2}{rec2:AV->AV->AV->AV->AV->AV->AV->AV->AV->Mem->Nat->O2}{rec3:AV->AV->AV->AV->AV->AV->AV->AV->AV->AV->Mem->Nat->O2}:x2f5 call hs u xn7 (j10 rec3 1 2 3 4 9 10 11 12 31 32) (setE 4 (j9 (xj call hs u rec1 rec2) 1 2 3 4 9 10 11 31 32) (setE 3 (j9 (xj call hs u rec1 rec2) 1 2 3 4 9 10 11 31 32) (setE 2 (j8 (x4 call hs u rec1) 1 2 3 4 9 10 31 32) (setE 1 (j8 (x4 call hs u rec1) 1 2 3 4 9 10 31 32) (setE 0 (j4 (xa call hs u) 2 3 4 9) eNil)))))=j10 (xhh call hs u rec1 rec2 rec3) 1 2 3 4 9 10 11 12 31 32:=sq2 x28d x28e
theorem x28g{rec1:AV->AV->AV->AV->AV->AV->AV->AV->Mem->Nat->O2}{rec2:AV->AV->AV->AV->AV->AV->AV->AV->AV->Mem->Nat->O2}{rec3:AV->AV->AV->AV->AV->AV->AV->AV->AV->AV->Mem->Nat->O2}:x2f5 call hs u x16e (j10 rec3 1 2 3 4 9 10 11 12 31 32) (setE 4 (j9 (xj call hs u rec1 rec2) 1 2 3 4 9 10 11 31 32) (setE 3 (j9 (xj call hs u rec1 rec2) 1 2 3 4 9 10 11 31 32) (setE 2 (j8 (x4 call hs u rec1) 1 2 3 4 9 10 31 32) (setE 1 (j8 (x4 call hs u rec1) 1 2 3 4 9 10 31 32) (setE 0 (j4 (xa call hs u) 2 3 4 9) eNil)))))=j10 (xqb call hs u rec1 rec2 rec3) 1 2 3 4 9 10 11 12 31 32:=tr (sqN 1 x28f)
theorem x28h{rec1:AV->AV->AV->AV->AV->AV->AV->AV->Mem->Nat->O2}{rec2:AV->AV->AV->AV->AV->AV->AV->AV->AV->Mem->Nat->O2}:x2f5 call hs u x16d (j9 (xj call hs u rec1 rec2) 1 2 3 4 9 10 11 31 32) (setE 4 (j9 (xj call hs u rec1 rec2) 1 2 3 4 9 10 11 31 32) (setE 3 (j9 (xj call hs u rec1 rec2) 1 2 3 4 9 10 11 31 32) (setE 2 (j8 (x4 call hs u rec1) 1 2 3 4 9 10 31 32) (setE 1 (j8 (x4 call hs u rec1) 1 2 3 4 9 10 31 32) (setE 0 (j4 (xa call hs u) 2 3 4 9) eNil)))))=j10 (x8e call hs u rec1 rec2 NN) 1 2 3 4 9 10 11 12 31 32:=lp (Ln:=fun n=>j10 (x8e call hs u rec1 rec2 n) 1 2 3 4 9 10 11 12 31 32) fun n=>tr x28g
theorem x28i{rec1:AV->AV->AV->AV->AV->AV->AV->AV->Mem->Nat->O2}{rec2:AV->AV->AV->AV->AV->AV->AV->AV->AV->Mem->Nat->O2}:x2f5 call hs u x16c (j9 (xj call hs u rec1 rec2) 1 2 3 4 9 10 11 31 32) (setE 3 (j9 (xj call hs u rec1 rec2) 1 2 3 4 9 10 11 31 32) (setE 2 (j8 (x4 call hs u rec1) 1 2 3 4 9 10 31 32) (setE 1 (j8 (x4 call hs u rec1) 1 2 3 4 9 10 31 32) (setE 0 (j4 (xa call hs u) 2 3 4 9) eNil))))=j10 (x8e call hs u rec1 rec2 NN) 1 2 3 4 9 10 11 12 31 32:=bk x28h
theorem x28j{rec1:AV->AV->AV->AV->AV->AV->AV->AV->Mem->Nat->O2}{rec2:AV->AV->AV->AV->AV->AV->AV->AV->AV->Mem->Nat->O2}:x2f5 call hs u x16b (j9 (xj call hs u rec1 rec2) 1 2 3 4 9 10 11 31 32) (setE 3 (j9 (xj call hs u rec1 rec2) 1 2 3 4 9 10 11 31 32) (setE 2 (j8 (x4 call hs u rec1) 1 2 3 4 9 10 31 32) (setE 1 (j8 (x4 call hs u rec1) 1 2 3 4 9 10 31 32) (setE 0 (j4 (xa call hs u) 2 3 4 9) eNil))))=j9 (xdf call hs u rec1 rec2) 1 2 3 4 9 10 11 31 32:=tr (sqN 1 x28i)
theorem x28k{rec1:AV->AV->AV->AV->AV->AV->AV->AV->Mem->Nat->O2}{rec2:AV->AV->AV->AV->AV->AV->AV->AV->AV->Mem->Nat->O2}:x2f5 call hs u x16a (j9 (xj call hs u rec1 rec2) 1 2 3 4 9 10 11 31 32) (setE 2 (j8 (x4 call hs u rec1) 1 2 3 4 9 10 31 32) (setE 1 (j8 (x4 call hs u rec1) 1 2 3 4 9 10 31 32) (setE 0 (j4 (xa call hs u) 2 3 4 9) eNil)))=j9 (xdf call hs u rec1 rec2) 1 2 3 4 9 10 11 31 32:=bk x28j
theorem x28l{rec1:AV->AV->AV->AV->AV->AV->AV->AV->Mem->Nat->O2}{rec2:AV->AV->AV->AV->AV->AV->AV->AV->AV->Mem->Nat->O2}:x2f5 call hs u xn6 (j9 rec2 1 2 3 4 9 10 11 31 32) (setE 2 (j8 (x4 call hs u rec1) 1 2 3 4 9 10 31 32) (setE 1 (j8 (x4 call hs u rec1) 1 2 3 4 9 10 31 32) (setE 0 (j4 (xa call hs u) 2 3 4 9) eNil)))=j9 (xdf call hs u rec1 rec2) 1 2 3 4 9 10 11 31 32:=sq2 x28c x28k
theorem x28m{rec1:AV->AV->AV->AV->AV->AV->AV->AV->Mem->Nat->O2}{rec2:AV->AV->AV->AV->AV->AV->AV->AV->AV->Mem->Nat->O2}:x2f5 call hs u x169 (j9 rec2 1 2 3 4 9 10 11 31 32) (setE 2 (j8 (x4 call hs u rec1) 1 2 3 4 9 10 31 32) (setE 1 (j8 (x4 call hs u rec1) 1 2 3 4 9 10 31 32) (setE 0 (j4 (xa call hs u) 2 3 4 9) eNil)))=j9 (xqc call hs u rec1 rec2) 1 2 3 4 9 10 11 31 32:=tr (sqN 1 x28l)
theorem x28n{rec1:AV->AV->AV->AV->AV->AV->AV->AV->Mem->Nat->O2}:x2f5 call hs u x168 (j8 (x4 call hs u rec1) 1 2 3 4 9 10 31 32) (setE 2 (j8 (x4 call hs u rec1) 1 2 3 4 9 10 31 32) (setE 1 (j8 (x4 call hs u rec1) 1 2 3 4 9 10 31 32) (setE 0 (j4 (xa call hs u) 2 3 4 9) eNil)))=j9 (x8f call hs u rec1 NN) 1 2 3 4 9 10 11 31 32:=lp (Ln:=fun n=>j9 (x8f call hs u rec1 n) 1 2 3 4 9 10 11 31 32) fun n=>tr x28m
theorem x28o{rec1:AV->AV->AV->AV->AV->AV->AV->AV->Mem->Nat->O2}:x2f5 call hs u x167 (j8 (x4 call hs u rec1) 1 2 3 4 9 10 31 32) (setE 1 (j8 (x4 call hs u rec1) 1 2 3 4 9 10 31 32) (setE 0 (j4 (xa call hs u) 2 3 4 9) eNil))=j9 (x8f call hs u rec1 NN) 1 2 3 4 9 10 11 31 32:=bk x28n
theorem x28p{rec1:AV->AV->AV->AV->AV->AV->AV->AV->Mem->Nat->O2}:x2f5 call hs u x166 (j8 (x4 call hs u rec1) 1 2 3 4 9 10 31 32) (setE 1 (j8 (x4 call hs u rec1) 1 2 3 4 9 10 31 32) (setE 0 (j4 (xa call hs u) 2 3 4 9) eNil))=j8 (xdg call hs u rec1) 1 2 3 4 9 10 31 32:=tr (sqN 1 x28o)
theorem x28q{rec1:AV->AV->AV->AV->AV->AV->AV->AV->Mem->Nat->O2}:x2f5 call hs u x165 (j8 (x4 call hs u rec1) 1 2 3 4 9 10 31 32) (setE 0 (j4 (xa call hs u) 2 3 4 9) eNil)=j8 (xdg call hs u rec1) 1 2 3 4 9 10 31 32:=bk x28p
theorem x28r{rec1:AV->AV->AV->AV->AV->AV->AV->AV->Mem->Nat->O2}:x2f5 call hs u xn5 (j8 rec1 1 2 3 4 9 10 31 32) (setE 0 (j4 (xa call hs u) 2 3 4 9) eNil)=j8 (xdg call hs u rec1) 1 2 3 4 9 10 31 32:=sq2 x28b x28q
theorem x28s{rec1:AV->AV->AV->AV->AV->AV->AV->AV->Mem->Nat->O2}:x2f5 call hs u x164 (j8 rec1 1 2 3 4 9 10 31 32) (setE 0 (j4 (xa call hs u) 2 3 4 9) eNil)=j8 (xqd call hs u rec1) 1 2 3 4 9 10 31 32:=tr (sqN 2 x28r)
theorem x28t:x2f5 call hs u x163 (j4 (xa call hs u) 2 3 4 9) (setE 0 (j4 (xa call hs u) 2 3 4 9) eNil)=j8 (x8g call hs u NN) 1 2 3 4 9 10 31 32:=lp (Ln:=fun n=>j8 (x8g call hs u n) 1 2 3 4 9 10 31 32) fun n=>tr x28s
theorem x28u:x2f5 call hs u x162 (j4 (xa call hs u) 2 3 4 9) eNil=j8 (x8g call hs u NN) 1 2 3 4 9 10 31 32:=bk x28t
theorem x28v:x2f5 call hs u x15x (j4 (xa call hs u) 2 3 4 9) eNil=j6 (xhi call hs u) 1 2 3 4 9 10:=tr (sqN 1 x28u)
theorem x28w:x2f5 call hs u xn3 r_16 eNil=j6 (xhi call hs u) 1 2 3 4 9 10:=sq2 x28a x28v
theorem x1fb:x2f5 call hs u x15w r_16 eNil=j4 (xqe call hs u) 0 1 2 3:=tr (sqN 4 x28w)
noncomputable abbrev x2nn:=VX x43 43 r_17
noncomputable abbrev x2q9:=VX (R:=Mem) x43 43 fNil
noncomputable def x16f:=x2ei x43
noncomputable def x16g:=nRs 3 x16f
noncomputable def xed:=nR x16g
noncomputable def x28x:=nL xed
noncomputable def x28y:=nR xed
theorem x28z:x2q9 call hs u x28y (fun s=>some s.m) eNil=j7 (xhj call hs u) 1 4 5 6 7 8 9:=by kernel_rfl
theorem x290:x2q9 call hs u x28x (j7 (xhj call hs u) 1 4 5 6 7 8 9) eNil=j7 (xqf call hs u) 1 4 5 6 7 17 18:=by kernel_rfl
theorem x291:x2nn call hs u xed r_17 (setE 0 r_17 eNil)=j6 (xhk call hs u) 1 4 5 6 7 16:=tr (rg (C:=xed) (c:={f:=x43,u:=u,nt:=43,hs:=hs}) (f:=(.tmp 16)) (ps:=#[17,18]) (fun u=>x28z) (fun u=>x290))
theorem x292:x2nn call hs u x16g r_17 eNil=j6 (xhk call hs u) 1 4 5 6 7 16:=bk x291
theorem x1fc:x2nn call hs u x16f r_17 eNil=j7 (xqg call hs u) 0 1 2 3 4 5 6:=tr (sqN 3 x292)
noncomputable abbrev x2tk:=VX xap 8 r_1
noncomputable def x293:=x2ei xap
theorem x1fd:x2tk call hs u x293 r_1 eNil=j3 (xqh call hs u) 0 1 2:=by kernel_rfl
noncomputable abbrev x2gc:=VX x5b 49 r_2
noncomputable def x16h:=x2ei x5b
noncomputable def xn8:=nRs 2 x16h
noncomputable def x16i:=nL xn8
noncomputable def x294:=nR xn8
noncomputable def x16j:=nR x16i
noncomputable def x16k:=nR x16j
noncomputable def x16l:=nR x16k
noncomputable def xn9:=nRs 2 x16l
noncomputable def x16m:=nL xn9
noncomputable def x295:=nR xn9
noncomputable def x16n:=nR x16m
noncomputable def x16o:=nR x16n
noncomputable def xna:=nR x16o
noncomputable def x296:=nL xna
noncomputable def x297:=nR xna
theorem x298:x2gc call hs u x294 r_2 eNil=j0 (xt call hs u):=by kernel_rfl
theorem x299{rec0:AV->AV->AV->Mem->Nat->O2}:x2gc call hs u x295 (j3 rec0 13 14 15) (setE 0 (j0 (xt call hs u)) eNil)=j3 (xp call hs u rec0) 13 14 15:=by kernel_rfl
theorem x29a{rec0:AV->AV->AV->Mem->Nat->O2}:x2gc call hs u x297 (j3 (xp call hs u rec0) 13 14 15) (setE 2 (j3 (xp call hs u rec0) 13 14 15) (setE 1 (j3 (xp call hs u rec0) 13 14 15) (setE 0 (j0 (xt call hs u)) eNil)))=j6 (x8h call hs u rec0) 3 4 13 14 15 20:=by kernel_rfl
theorem x29b{rec0:AV->AV->AV->Mem->Nat->O2}:x2gc call hs u x296 (j6 (x8h call hs u rec0) 3 4 13 14 15 20) (setE 2 (j3 (xp call hs u rec0) 13 14 15) (setE 1 (j3 (xp call hs u rec0) 13 14 15) (setE 0 (j0 (xt call hs u)) eNil)))=j5 (x8i call hs u rec0) 3 4 13 14 15:=by kernel_rfl
theorem x29c{rec0:AV->AV->AV->Mem->Nat->O2}:x2gc call hs u xna (j3 (xp call hs u rec0) 13 14 15) (setE 2 (j3 (xp call hs u rec0) 13 14 15) (setE 1 (j3 (xp call hs u rec0) 13 14 15) (setE 0 (j0 (xt call hs u)) eNil)))=j5 (x8i call hs u rec0) 3 4 13 14 15:=sq2 x29a x29b
theorem x29d{rec0:AV->AV->AV->Mem->Nat->O2}:x2gc call hs u x16o (j3 (xp call hs u rec0) 13 14 15) (setE 1 (j3 (xp call hs u rec0) 13 14 15) (setE 0 (j0 (xt call hs u)) eNil))=j5 (x8i call hs u rec0) 3 4 13 14 15:=bk x29c
theorem x29e{rec0:AV->AV->AV->Mem->Nat->O2}:x2gc call hs u x16n (j3 (xp call hs u rec0) 13 14 15) (setE 1 (j3 (xp call hs u rec0) 13 14 15) (setE 0 (j0 (xt call hs u)) eNil))=j3 (x8j call hs u rec0) 13 14 15:=tr (sqN 1 x29d)
theorem x29f{rec0:AV->AV->AV->Mem->Nat->O2}:x2gc call hs u x16m (j3 (xp call hs u rec0) 13 14 15) (setE 0 (j0 (xt call hs u)) eNil)=j3 (x8j call hs u rec0) 13 14 15:=bk x29e
theorem x29g{rec0:AV->AV->AV->Mem->Nat->O2}:x2gc call hs u xn9 (j3 rec0 13 14 15) (setE 0 (j0 (xt call hs u)) eNil)=j3 (x8j call hs u rec0) 13 14 15:=sq2 x299 x29f
theorem x29h{rec0:AV->AV->AV->Mem->Nat->O2}:x2gc call hs u x16l (j3 rec0 13 14 15) (setE 0 (j0 (xt call hs u)) eNil)=j3 (xdh call hs u rec0) 13 14 15:=tr (sqN 2 x29g)
theorem x29i:x2gc call hs u x16k (j0 (xt call hs u)) (setE 0 (j0 (xt call hs u)) eNil)=j3 (x2t call hs u NN) 13 14 15:=lp (Ln:=fun n=>j3 (x2t call hs u n) 13 14 15) fun n=>tr x29h
theorem x29j:x2gc call hs u x16j (j0 (xt call hs u)) eNil=j3 (x2t call hs u NN) 13 14 15:=bk x29i
theorem x29k:x2gc call hs u x16i (j0 (xt call hs u)) eNil=j1 (xdi call hs u) 0:=tr (sqN 1 x29j)
theorem x29l:x2gc call hs u xn8 r_2 eNil=j1 (xdi call hs u) 0:=sq2 x298 x29k
theorem x1fe:x2gc call hs u x16h r_2 eNil=j1 (xhl call hs u) 0:=tr (sqN 2 x29l)
noncomputable abbrev x2tl:=VX x5c 9 r_0
noncomputable def x29m:=x2ei x5c
theorem x1ff:x2tl call hs u x29m r_0 eNil=j2 (xhm call hs u) 0 1:=by kernel_rfl
noncomputable abbrev x2tm:=VX xq 9 r_14
noncomputable def x29n:=x2ei xq
theorem x1fg:x2tm call hs u x29n r_14 eNil=j2 (xhn call hs u) 0 1:=by kernel_rfl
noncomputable abbrev x2jq:=VX x5d 66 r_8
noncomputable def x16p:=x2ei x5d
noncomputable def xnb:=nRs 4 x16p
noncomputable def x16q:=nL xnb
noncomputable def x29o:=nR xnb
noncomputable def x16r:=nR x16q
noncomputable def x16s:=nR x16r
noncomputable def x29p:=nR x16s
theorem x29q:x2jq call hs u x29o r_8 eNil=j0 (x3m call hs u):=by kernel_rfl
theorem x29r{rec0:AV->AV->AV->AV->AV->Mem->Nat->O2}:x2jq call hs u x29p (j5 rec0 1 6 26 27 28) (setE 0 (j0 (x3m call hs u)) eNil)=j5 (xdj call hs u rec0) 1 6 26 27 28:=by kernel_rfl
theorem x29s:x2jq call hs u x16s (j0 (x3m call hs u)) (setE 0 (j0 (x3m call hs u)) eNil)=j5 (x2u call hs u NN) 1 6 26 27 28:=lp (Ln:=fun n=>j5 (x2u call hs u n) 1 6 26 27 28) fun n=>tr x29r
theorem x29t:x2jq call hs u x16r (j0 (x3m call hs u)) eNil=j5 (x2u call hs u NN) 1 6 26 27 28:=bk x29s
theorem x29u:x2jq call hs u x16q (j0 (x3m call hs u)) eNil=j2 (xdk call hs u) 1 6:=tr (sqN 1 x29t)
theorem x29v:x2jq call hs u xnb r_8 eNil=j2 (xdk call hs u) 1 6:=sq2 x29q x29u
theorem x1fh:x2jq call hs u x16p r_8 eNil=j1 (xhp call hs u) 0:=tr (sqN 4 x29v)
noncomputable abbrev x2jr:=VX xaq 19 r_0
noncomputable def x16t:=x2ei xaq
noncomputable def xnc:=nR x16t
noncomputable def x16u:=nL xnc
noncomputable def x29w:=nR xnc
noncomputable def x16v:=nR x16u
noncomputable def x16w:=nR x16v
noncomputable def x29x:=nR x16w
theorem x29y:x2jr call hs u x29w r_0 eNil=j0 (x4p call hs u):=by kernel_rfl
theorem x29z{rec0:AV->AV->AV->AV->Mem->Nat->O2}:x2jr call hs u x29x (j4 rec0 0 1 7 8) (setE 0 (j0 (x4p call hs u)) eNil)=j4 (xqi call hs u rec0) 0 1 7 8:=by kernel_rfl
theorem x2a0:x2jr call hs u x16w (j0 (x4p call hs u)) (setE 0 (j0 (x4p call hs u)) eNil)=j4 (x8l call hs u NN) 0 1 7 8:=lp (Ln:=fun n=>j4 (x8l call hs u n) 0 1 7 8) fun n=>tr x29z
theorem x2a1:x2jr call hs u x16v (j0 (x4p call hs u)) eNil=j4 (x8l call hs u NN) 0 1 7 8:=bk x2a0
theorem x2a2:x2jr call hs u x16u (j0 (x4p call hs u)) eNil=j2 (xhq call hs u) 0 1:=tr (sqN 1 x2a1)
theorem x2a3:x2jr call hs u xnc r_0 eNil=j2 (xhq call hs u) 0 1:=sq2 x29y x2a2
theorem x1fi:x2jr call hs u x16t r_0 eNil=j2 (xqj call hs u) 0 1:=tr (sqN 1 x2a3)
noncomputable abbrev x2tn:=VX x5e 41 r_0
noncomputable def x2a4:=x2ei x5e
theorem x1fj:x2tn call hs u x2a4 r_0 eNil=j2 (xqk call hs u) 0 1:=by kernel_rfl
noncomputable abbrev x2js:=VX x6d 19 r_0
noncomputable def x16x:=x2ei x6d
noncomputable def xnd:=nR x16x
noncomputable def x16y:=nL xnd
noncomputable def x2a5:=nR xnd
noncomputable def x16z:=nR x16y
noncomputable def x170:=nR x16z
noncomputable def x2a6:=nR x170
theorem x2a7:x2js call hs u x2a5 r_0 eNil=j0 (x4q call hs u):=by kernel_rfl
theorem x2a8{rec0:AV->AV->AV->AV->Mem->Nat->O2}:x2js call hs u x2a6 (j4 rec0 0 1 7 8) (setE 0 (j0 (x4q call hs u)) eNil)=j4 (xql call hs u rec0) 0 1 7 8:=by kernel_rfl
theorem x2a9:x2js call hs u x170 (j0 (x4q call hs u)) (setE 0 (j0 (x4q call hs u)) eNil)=j4 (x8m call hs u NN) 0 1 7 8:=lp (Ln:=fun n=>j4 (x8m call hs u n) 0 1 7 8) fun n=>tr x2a8
theorem x2aa:x2js call hs u x16z (j0 (x4q call hs u)) eNil=j4 (x8m call hs u NN) 0 1 7 8:=bk x2a9
theorem x2ab:x2js call hs u x16y (j0 (x4q call hs u)) eNil=j2 (xhr call hs u) 0 1:=tr (sqN 1 x2aa)
theorem x2ac:x2js call hs u xnd r_0 eNil=j2 (xhr call hs u) 0 1:=sq2 x2a7 x2ab
theorem x1d9:x2js call hs u x16x r_0 eNil=j2 (xqm call hs u) 0 1:=tr (sqN 1 x2ac)
noncomputable abbrev x2jt:=VX xar 59 r_15
noncomputable def x171:=x2ei xar
noncomputable def xne:=nRs 4 x171
noncomputable def x172:=nL xne
noncomputable def x2ad:=nR xne
noncomputable def x173:=nR x172
noncomputable def x174:=nR x173
noncomputable def x2ae:=nR x174
theorem x2af:x2jt call hs u x2ad r_15 eNil=j2 (x4r call hs u) 2 5:=by kernel_rfl
theorem x2ag{rec0:AV->AV->AV->AV->AV->AV->AV->Mem->Nat->O2}:x2jt call hs u x2ae (j7 rec0 1 2 4 5 25 26 27) (setE 0 (j2 (x4r call hs u) 2 5) eNil)=j7 (xqn call hs u rec0) 1 2 4 5 25 26 27:=by kernel_rfl
theorem x2ah:x2jt call hs u x174 (j2 (x4r call hs u) 2 5) (setE 0 (j2 (x4r call hs u) 2 5) eNil)=j7 (x8n call hs u NN) 1 2 4 5 25 26 27:=lp (Ln:=fun n=>j7 (x8n call hs u n) 1 2 4 5 25 26 27) fun n=>tr x2ag
theorem x2ai:x2jt call hs u x173 (j2 (x4r call hs u) 2 5) eNil=j7 (x8n call hs u NN) 1 2 4 5 25 26 27:=bk x2ah
theorem x2aj:x2jt call hs u x172 (j2 (x4r call hs u) 2 5) eNil=j4 (xhs call hs u) 1 2 4 5:=tr (sqN 1 x2ai)
theorem x2ak:x2jt call hs u xne r_15 eNil=j4 (xhs call hs u) 1 2 4 5:=sq2 x2af x2aj
theorem x1fk:x2jt call hs u x171 r_15 eNil=j1 (xqo call hs u) 0:=tr (sqN 4 x2ak)
noncomputable abbrev x2to:=VX x5f 14 r_18
noncomputable def x2al:=x2ei x5f
theorem x1fl:x2to call hs u x2al r_18 eNil=j1 (xqp call hs u) 0:=by kernel_rfl
noncomputable abbrev x2ju:=VX xas 26 r_2
noncomputable def x175:=x2ei xas
noncomputable def xnf:=nRs 3 x175
noncomputable def x176:=nL xnf
noncomputable def x2am:=nR xnf
noncomputable def x177:=nR x176
noncomputable def x178:=nR x177
noncomputable def x2an:=nR x178
theorem x2ao:x2ju call hs u x2am r_2 eNil=j2 (x4s call hs u) 1 4:=by kernel_rfl
theorem x2ap{rec0:AV->AV->AV->AV->AV->Mem->Nat->O2}:x2ju call hs u x2an (j5 rec0 1 3 4 10 11) (setE 0 (j2 (x4s call hs u) 1 4) eNil)=j5 (xqq call hs u rec0) 1 3 4 10 11:=by kernel_rfl
theorem x2aq:x2ju call hs u x178 (j2 (x4s call hs u) 1 4) (setE 0 (j2 (x4s call hs u) 1 4) eNil)=j5 (x8o call hs u NN) 1 3 4 10 11:=lp (Ln:=fun n=>j5 (x8o call hs u n) 1 3 4 10 11) fun n=>tr x2ap
theorem x2ar:x2ju call hs u x177 (j2 (x4s call hs u) 1 4) eNil=j5 (x8o call hs u NN) 1 3 4 10 11:=bk x2aq
theorem x2as:x2ju call hs u x176 (j2 (x4s call hs u) 1 4) eNil=j3 (xht call hs u) 1 3 4:=tr (sqN 1 x2ar)
theorem x2at:x2ju call hs u xnf r_2 eNil=j3 (xht call hs u) 1 3 4:=sq2 x2ao x2as
theorem x1fm:x2ju call hs u x175 r_2 eNil=j1 (xqr call hs u) 0:=tr (sqN 3 x2at)
noncomputable abbrev x2fs:=VX x6t 64 r_2
noncomputable def x179:=x2ei x6t
noncomputable def xng:=nRs 2 x179
noncomputable def x17a:=nL xng
noncomputable def x17b:=nR xng
noncomputable def xnh:=nRs 2 x17b
noncomputable def x17c:=nL xnh
noncomputable def x2au:=nR xnh
noncomputable def x17d:=nR x17c
noncomputable def x17e:=nR x17d
noncomputable def x17f:=nR x17e
noncomputable def xni:=nRs 2 x17f
noncomputable def x17g:=nL xni
noncomputable def x2av:=nR xni
noncomputable def x17h:=nR x17g
noncomputable def xnj:=nR x17h
noncomputable def x2aw:=nL xnj
noncomputable def x2ax:=nR xnj
noncomputable def x17i:=nR x17a
noncomputable def x2ay:=nR x17i
theorem x2az:x2fs call hs u x2au r_2 eNil=j1 (x13 call hs u) 3:=by kernel_rfl
theorem x2b0{rec0:AV->AV->AV->AV->AV->Mem->Nat->O2}:x2fs call hs u x2av (j5 rec0 3 6 26 27 28) (setE 2 (j1 (x13 call hs u) 3) eNil)=j5 (x23 call hs u rec0) 3 6 26 27 28:=by kernel_rfl
theorem x2b1{rec0:AV->AV->AV->AV->AV->Mem->Nat->O2}:x2fs call hs u x2ax (j5 (x23 call hs u rec0) 3 6 26 27 28) (setE 3 (j5 (x23 call hs u rec0) 3 6 26 27 28) (setE 2 (j1 (x13 call hs u) 3) eNil))=j7 (xdl call hs u rec0) 3 6 7 8 26 27 28:=by kernel_rfl
theorem x2b2{rec0:AV->AV->AV->AV->AV->Mem->Nat->O2}:x2fs call hs u x2aw (j7 (xdl call hs u rec0) 3 6 7 8 26 27 28) (setE 3 (j5 (x23 call hs u rec0) 3 6 26 27 28) (setE 2 (j1 (x13 call hs u) 3) eNil))=j7 (xhu call hs u rec0) 3 6 7 8 26 27 28:=by kernel_rfl
theorem x2b3{rec0:AV->AV->AV->AV->AV->Mem->Nat->O2}:x2fs call hs u xnj (j5 (x23 call hs u rec0) 3 6 26 27 28) (setE 3 (j5 (x23 call hs u rec0) 3 6 26 27 28) (setE 2 (j1 (x13 call hs u) 3) eNil))=j7 (xhu call hs u rec0) 3 6 7 8 26 27 28:=sq2 x2b1 x2b2
theorem x2b4{rec0:AV->AV->AV->AV->AV->Mem->Nat->O2}:x2fs call hs u x17h (j5 (x23 call hs u rec0) 3 6 26 27 28) (setE 3 (j5 (x23 call hs u rec0) 3 6 26 27 28) (setE 2 (j1 (x13 call hs u) 3) eNil))=j5 (xdm call hs u rec0) 3 6 26 27 28:=tr (sqN 1 x2b3)
theorem x2b5{rec0:AV->AV->AV->AV->AV->Mem->Nat->O2}:x2fs call hs u x17g (j5 (x23 call hs u rec0) 3 6 26 27 28) (setE 2 (j1 (x13 call hs u) 3) eNil)=j5 (xdm call hs u rec0) 3 6 26 27 28:=bk x2b4
theorem x2b6{rec0:AV->AV->AV->AV->AV->Mem->Nat->O2}:x2fs call hs u xni (j5 rec0 3 6 26 27 28) (setE 2 (j1 (x13 call hs u) 3) eNil)=j5 (xdm call hs u rec0) 3 6 26 27 28:=sq2 x2b0 x2b5
theorem x2b7{rec0:AV->AV->AV->AV->AV->Mem->Nat->O2}:x2fs call hs u x17f (j5 rec0 3 6 26 27 28) (setE 2 (j1 (x13 call hs u) 3) eNil)=j5 (xqt call hs u rec0) 3 6 26 27 28:=tr (sqN 2 x2b6)
theorem x2b8:x2fs call hs u x17e (j1 (x13 call hs u) 3) (setE 2 (j1 (x13 call hs u) 3) eNil)=j5 (x8p call hs u NN) 3 6 26 27 28:=lp (Ln:=fun n=>j5 (x8p call hs u n) 3 6 26 27 28) fun n=>tr x2b7
theorem x2b9:x2fs call hs u x17d (j1 (x13 call hs u) 3) eNil=j5 (x8p call hs u NN) 3 6 26 27 28:=bk x2b8
theorem x2ba:x2fs call hs u x17c (j1 (x13 call hs u) 3) eNil=j3 (xhv call hs u) 3 5 6:=tr (sqN 1 x2b9)
theorem x2bb:x2fs call hs u xnh r_2 eNil=j3 (xhv call hs u) 3 5 6:=sq2 x2az x2ba
theorem x2bc:x2fs call hs u x17b r_2 eNil=j2 (x5r call hs u) 1 3:=tr (sqN 2 x2bb)
theorem x2bd{rec1:AV->AV->Mem->Nat->O2}:x2fs call hs u x2ay (j2 rec1 1 3) (setE 0 (j2 (x5r call hs u) 1 3) eNil)=j2 (xqu call hs u rec1) 1 3:=by kernel_rfl
theorem x2be:x2fs call hs u x17i (j2 (x5r call hs u) 1 3) (setE 0 (j2 (x5r call hs u) 1 3) eNil)=j2 (x5s call hs u NN) 1 3:=lp (Ln:=fun n=>j2 (x5s call hs u n) 1 3) fun n=>tr x2bd
theorem x2bf:x2fs call hs u x17a (j2 (x5r call hs u) 1 3) eNil=j2 (x5s call hs u NN) 1 3:=bk x2be
theorem x2bg:x2fs call hs u xng r_2 eNil=j2 (x5s call hs u NN) 1 3:=sq2 x2bc x2bf
theorem x1fn:x2fs call hs u x179 r_2 eNil=j1 (xqv call hs u) 0:=tr (sqN 2 x2bg)
noncomputable abbrev x2jv:=VX xat 27 r_0
noncomputable def x17j:=x2ei xat
noncomputable def xnk:=nRs 2 x17j
noncomputable def x17k:=nL xnk
noncomputable def x2bh:=nR xnk
noncomputable def x17l:=nR x17k
noncomputable def x17m:=nR x17l
noncomputable def x2bi:=nR x17m
theorem x2bj:x2jv call hs u x2bh r_0 eNil=j1 (x4t call hs u) 5:=by kernel_rfl
theorem x2bk{rec0:AV->AV->AV->AV->AV->Mem->Nat->O2}:x2jv call hs u x2bi (j5 rec0 1 5 10 11 12) (setE 0 (j1 (x4t call hs u) 5) eNil)=j5 (xqw call hs u rec0) 1 5 10 11 12:=by kernel_rfl
theorem x2bl:x2jv call hs u x17m (j1 (x4t call hs u) 5) (setE 0 (j1 (x4t call hs u) 5) eNil)=j5 (x8q call hs u NN) 1 5 10 11 12:=lp (Ln:=fun n=>j5 (x8q call hs u n) 1 5 10 11 12) fun n=>tr x2bk
theorem x2bm:x2jv call hs u x17l (j1 (x4t call hs u) 5) eNil=j5 (x8q call hs u NN) 1 5 10 11 12:=bk x2bl
theorem x2bn:x2jv call hs u x17k (j1 (x4t call hs u) 5) eNil=j3 (xhw call hs u) 1 2 5:=tr (sqN 1 x2bm)
theorem x2bo:x2jv call hs u xnk r_0 eNil=j3 (xhw call hs u) 1 2 5:=sq2 x2bj x2bn
theorem x1fo:x2jv call hs u x17j r_0 eNil=j2 (xqx call hs u) 0 1:=tr (sqN 2 x2bo)
noncomputable abbrev x2tp:=VX xau 9 r_17
noncomputable def x2bp:=x2ei xau
theorem x1fp:x2tp call hs u x2bp r_17 eNil=j2 (xqy call hs u) 0 1:=by kernel_rfl
noncomputable abbrev x2tq:=VX xav 13 r_19
noncomputable def x2bq:=x2ei xav
theorem x1fq:x2tq call hs u x2bq r_19 eNil=j3 (xqz call hs u) 0 1 2:=by kernel_rfl
noncomputable abbrev x2tr:=VX xaw 11 r_17
noncomputable def x2br:=x2ei xaw
theorem x1fr:x2tr call hs u x2br r_17 eNil=j1 (xr0 call hs u) 0:=by kernel_rfl
noncomputable abbrev x2jw:=VX xax 76 r_6
noncomputable def x17n:=x2ei xax
noncomputable def xnl:=nRs 3 x17n
noncomputable def x17o:=nL xnl
noncomputable def x2bs:=nR xnl
noncomputable def x17p:=nR x17o
noncomputable def x17q:=nR x17p
noncomputable def x2bt:=nR x17q
theorem x2bu:x2jw call hs u x2bs r_6 eNil=j2 (x4u call hs u) 6 7:=by kernel_rfl
theorem x2bv{rec0:AV->AV->AV->AV->AV->AV->Mem->Nat->O2}:x2jw call hs u x2bt (j6 rec0 1 6 7 23 24 25) (setE 0 (j2 (x4u call hs u) 6 7) eNil)=j6 (xr1 call hs u rec0) 1 6 7 23 24 25:=by kernel_rfl
theorem x2bw:x2jw call hs u x17q (j2 (x4u call hs u) 6 7) (setE 0 (j2 (x4u call hs u) 6 7) eNil)=j6 (x8r call hs u NN) 1 6 7 23 24 25:=lp (Ln:=fun n=>j6 (x8r call hs u n) 1 6 7 23 24 25) fun n=>tr x2bv
theorem x2bx:x2jw call hs u x17p (j2 (x4u call hs u) 6 7) eNil=j6 (x8r call hs u NN) 1 6 7 23 24 25:=bk x2bw
theorem x2by:x2jw call hs u x17o (j2 (x4u call hs u) 6 7) eNil=j4 (xhx call hs u) 1 2 6 7:=tr (sqN 1 x2bx)
theorem x2bz:x2jw call hs u xnl r_6 eNil=j4 (xhx call hs u) 1 2 6 7:=sq2 x2bu x2by
theorem x1fs:x2jw call hs u x17n r_6 eNil=j2 (xr2 call hs u) 0 1:=tr (sqN 3 x2bz)
noncomputable abbrev x2ha:=VX xay 43 r_17
noncomputable def x17r:=x2ei xay
noncomputable def x17s:=nR x17r
noncomputable def x17t:=nR x17s
noncomputable def x17u:=nR x17t
noncomputable def xnm:=nRs 2 x17u
noncomputable def x17v:=nL xnm
noncomputable def x2c0:=nR xnm
noncomputable def x17w:=nR x17v
noncomputable def x17x:=nRs 2 x17w
noncomputable def x17y:=nR x17x
noncomputable def x2c1:=nR x17y
theorem x2c2{rec0:AV->AV->AV->AV->AV->AV->Mem->Nat->O2}:x2ha call hs u x2c0 (j6 rec0 0 2 3 12 13 14) (setE 0 r_17 eNil)=j6 (x1b call hs u rec0) 0 2 3 12 13 14:=by kernel_rfl
theorem x2c3{rec0:AV->AV->AV->AV->AV->AV->Mem->Nat->O2}{rec1:AV->AV->AV->AV->AV->AV->AV->AV->AV->Mem->Nat->O2}:x2ha call hs u x2c1 (j9 rec1 0 2 3 6 12 13 14 18 19) (setE 2 (j6 (x1b call hs u rec0) 0 2 3 12 13 14) (setE 1 (j6 (x1b call hs u rec0) 0 2 3 12 13 14) (setE 0 r_17 eNil)))=j9 (xr3 call hs u rec0 rec1) 0 2 3 6 12 13 14 18 19:=by kernel_rfl
theorem x2c4{rec0:AV->AV->AV->AV->AV->AV->Mem->Nat->O2}:x2ha call hs u x17y (j6 (x1b call hs u rec0) 0 2 3 12 13 14) (setE 2 (j6 (x1b call hs u rec0) 0 2 3 12 13 14) (setE 1 (j6 (x1b call hs u rec0) 0 2 3 12 13 14) (setE 0 r_17 eNil)))=j9 (x8s call hs u rec0 NN) 0 2 3 6 12 13 14 18 19:=lp (Ln:=fun n=>j9 (x8s call hs u rec0 n) 0 2 3 6 12 13 14 18 19) fun n=>tr x2c3
theorem x2c5{rec0:AV->AV->AV->AV->AV->AV->Mem->Nat->O2}:x2ha call hs u x17x (j6 (x1b call hs u rec0) 0 2 3 12 13 14) (setE 1 (j6 (x1b call hs u rec0) 0 2 3 12 13 14) (setE 0 r_17 eNil))=j9 (x8s call hs u rec0 NN) 0 2 3 6 12 13 14 18 19:=bk x2c4
theorem x2c6{rec0:AV->AV->AV->AV->AV->AV->Mem->Nat->O2}:x2ha call hs u x17w (j6 (x1b call hs u rec0) 0 2 3 12 13 14) (setE 1 (j6 (x1b call hs u rec0) 0 2 3 12 13 14) (setE 0 r_17 eNil))=j6 (xdn call hs u rec0) 0 2 3 12 13 14:=tr (sqN 2 x2c5)
theorem x2c7{rec0:AV->AV->AV->AV->AV->AV->Mem->Nat->O2}:x2ha call hs u x17v (j6 (x1b call hs u rec0) 0 2 3 12 13 14) (setE 0 r_17 eNil)=j6 (xdn call hs u rec0) 0 2 3 12 13 14:=bk x2c6
theorem x2c8{rec0:AV->AV->AV->AV->AV->AV->Mem->Nat->O2}:x2ha call hs u xnm (j6 rec0 0 2 3 12 13 14) (setE 0 r_17 eNil)=j6 (xdn call hs u rec0) 0 2 3 12 13 14:=sq2 x2c2 x2c7
theorem x2c9{rec0:AV->AV->AV->AV->AV->AV->Mem->Nat->O2}:x2ha call hs u x17u (j6 rec0 0 2 3 12 13 14) (setE 0 r_17 eNil)=j6 (xr5 call hs u rec0) 0 2 3 12 13 14:=tr (sqN 2 x2c8)
theorem x2ca:x2ha call hs u x17t r_17 (setE 0 r_17 eNil)=j6 (x8t call hs u NN) 0 2 3 12 13 14:=lp (Ln:=fun n=>j6 (x8t call hs u n) 0 2 3 12 13 14) fun n=>tr x2c9
theorem x2cb:x2ha call hs u x17s r_17 eNil=j6 (x8t call hs u NN) 0 2 3 12 13 14:=bk x2ca
theorem x1ft:x2ha call hs u x17r r_17 eNil=j4 (xr6 call hs u) 0 1 2 3:=tr (sqN 1 x2cb)
noncomputable abbrev x2jx:=VX x5g 19 r_0
noncomputable def x17z:=x2ei x5g
noncomputable def xnn:=nR x17z
noncomputable def x180:=nL xnn
noncomputable def x2cc:=nR xnn
noncomputable def x181:=nR x180
noncomputable def x182:=nR x181
noncomputable def x2cd:=nR x182
theorem x2ce:x2jx call hs u x2cc r_0 eNil=j0 (x3n call hs u):=by kernel_rfl
theorem x2cf{rec0:AV->AV->AV->AV->Mem->Nat->O2}:x2jx call hs u x2cd (j4 rec0 0 1 7 8) (setE 0 (j0 (x3n call hs u)) eNil)=j4 (xdo call hs u rec0) 0 1 7 8:=by kernel_rfl
theorem x2cg:x2jx call hs u x182 (j0 (x3n call hs u)) (setE 0 (j0 (x3n call hs u)) eNil)=j4 (x3o call hs u NN) 0 1 7 8:=lp (Ln:=fun n=>j4 (x3o call hs u n) 0 1 7 8) fun n=>tr x2cf
theorem x2ch:x2jx call hs u x181 (j0 (x3n call hs u)) eNil=j4 (x3o call hs u NN) 0 1 7 8:=bk x2cg
theorem x2ci:x2jx call hs u x180 (j0 (x3n call hs u)) eNil=j2 (xdp call hs u) 0 1:=tr (sqN 1 x2ch)
theorem x2cj:x2jx call hs u xnn r_0 eNil=j2 (xdp call hs u) 0 1:=sq2 x2ce x2ci
theorem x1fu:x2jx call hs u x17z r_0 eNil=j2 (xhy call hs u) 0 1:=tr (sqN 1 x2cj)
noncomputable abbrev x2ts:=VX xaz 6 r_2
noncomputable def x2ck:=x2ei xaz
theorem x1fv:x2ts call hs u x2ck r_2 eNil=j1 (xr7 call hs u) 0:=by kernel_rfl
noncomputable abbrev x2jy:=VX xb0 62 r_8
noncomputable def x183:=x2ei xb0
noncomputable def xno:=nRs 2 x183
noncomputable def x184:=nL xno
noncomputable def x2cl:=nR xno
noncomputable def x185:=nR x184
noncomputable def x186:=nR x185
noncomputable def x2cm:=nR x186
theorem x2cn:x2jy call hs u x2cl r_8 eNil=j0 (x4v call hs u):=by kernel_rfl
theorem x2co{rec0:AV->AV->AV->AV->Mem->Nat->O2}:x2jy call hs u x2cm (j4 rec0 1 17 18 19) (setE 1 (j0 (x4v call hs u)) eNil)=j4 (xr8 call hs u rec0) 1 17 18 19:=by kernel_rfl
theorem x2cp:x2jy call hs u x186 (j0 (x4v call hs u)) (setE 1 (j0 (x4v call hs u)) eNil)=j4 (x8u call hs u NN) 1 17 18 19:=lp (Ln:=fun n=>j4 (x8u call hs u n) 1 17 18 19) fun n=>tr x2co
theorem x2cq:x2jy call hs u x185 (j0 (x4v call hs u)) eNil=j4 (x8u call hs u NN) 1 17 18 19:=bk x2cp
theorem x2cr:x2jy call hs u x184 (j0 (x4v call hs u)) eNil=j1 (xhz call hs u) 1:=tr (sqN 1 x2cq)
theorem x2cs:x2jy call hs u xno r_8 eNil=j1 (xhz call hs u) 1:=sq2 x2cn x2cr
theorem x1fw:x2jy call hs u x183 r_8 eNil=j1 (xr9 call hs u) 0:=tr (sqN 2 x2cs)
noncomputable abbrev x2hx:=VX xb1 47 r_0
noncomputable def x187:=x2ei xb1
noncomputable def xnp:=nRs 2 x187
noncomputable def x188:=nL xnp
noncomputable def x2ct:=nR xnp
noncomputable def x189:=nR x188
noncomputable def x18a:=nR x189
noncomputable def x18b:=nR x18a
noncomputable def xnq:=nRs 2 x18b
noncomputable def x2cu:=nL xnq
noncomputable def x2cv:=nR xnq
theorem x2cw:x2hx call hs u x2ct r_0 eNil=j1 (x24 call hs u) 5:=by kernel_rfl
theorem x2cx{rec0:AV->AV->AV->AV->AV->Mem->Nat->O2}:x2hx call hs u x2cv (j5 rec0 0 1 5 12 13) (setE 0 (j1 (x24 call hs u) 5) eNil)=j5 (xdq call hs u rec0) 0 1 5 12 13:=by kernel_rfl
theorem x2cy{rec0:AV->AV->AV->AV->AV->Mem->Nat->O2}:x2hx call hs u x2cu (j5 (xdq call hs u rec0) 0 1 5 12 13) (setE 0 (j1 (x24 call hs u) 5) eNil)=j5 (xi0 call hs u rec0) 0 1 5 12 13:=by kernel_rfl
theorem x2cz{rec0:AV->AV->AV->AV->AV->Mem->Nat->O2}:x2hx call hs u xnq (j5 rec0 0 1 5 12 13) (setE 0 (j1 (x24 call hs u) 5) eNil)=j5 (xi0 call hs u rec0) 0 1 5 12 13:=sq2 x2cx x2cy
theorem x2d0{rec0:AV->AV->AV->AV->AV->Mem->Nat->O2}:x2hx call hs u x18b (j5 rec0 0 1 5 12 13) (setE 0 (j1 (x24 call hs u) 5) eNil)=j5 (xra call hs u rec0) 0 1 5 12 13:=tr (sqN 2 x2cz)
theorem x2d1:x2hx call hs u x18a (j1 (x24 call hs u) 5) (setE 0 (j1 (x24 call hs u) 5) eNil)=j5 (x8v call hs u NN) 0 1 5 12 13:=lp (Ln:=fun n=>j5 (x8v call hs u n) 0 1 5 12 13) fun n=>tr x2d0
theorem x2d2:x2hx call hs u x189 (j1 (x24 call hs u) 5) eNil=j5 (x8v call hs u NN) 0 1 5 12 13:=bk x2d1
theorem x2d3:x2hx call hs u x188 (j1 (x24 call hs u) 5) eNil=j3 (xi1 call hs u) 0 1 5:=tr (sqN 1 x2d2)
theorem x2d4:x2hx call hs u xnp r_0 eNil=j3 (xi1 call hs u) 0 1 5:=sq2 x2cw x2d3
theorem x1fx:x2hx call hs u x187 r_0 eNil=j2 (xrb call hs u) 0 1:=tr (sqN 2 x2d4)
noncomputable abbrev x2g5:=VX x6u 45 r_0
noncomputable def x18c:=x2ei x6u
noncomputable def xnr:=nRs 3 x18c
noncomputable def x18d:=nL xnr
noncomputable def x2d5:=nR xnr
noncomputable def x18e:=nR x18d
noncomputable def x18f:=nR x18e
noncomputable def x18g:=nR x18f
noncomputable def xns:=nRs 2 x18g
noncomputable def x18h:=nL xns
noncomputable def x2d6:=nR xns
noncomputable def x18i:=nR x18h
noncomputable def xnt:=nRs 4 x18i
noncomputable def x18j:=nL xnt
noncomputable def x2d7:=nR xnt
noncomputable def x18k:=nR x18j
noncomputable def x2d8:=nR x18k
theorem x2d9:x2g5 call hs u x2d5 r_0 eNil=j1 (xu call hs u) 5:=by kernel_rfl
theorem x2da{rec0:AV->AV->AV->AV->AV->Mem->Nat->O2}:x2g5 call hs u x2d6 (j5 rec0 1 5 6 14 15) (setE 0 (j1 (xu call hs u) 5) eNil)=j5 (x19 call hs u rec0) 1 5 6 14 15:=by kernel_rfl
theorem x2db{rec0:AV->AV->AV->AV->AV->Mem->Nat->O2}:x2g5 call hs u x2d7 (j5 (x19 call hs u rec0) 1 5 6 14 15) (setE 1 (j5 (x19 call hs u rec0) 1 5 6 14 15) (setE 0 (j1 (xu call hs u) 5) eNil))=j5 (x5t call hs u rec0) 1 5 6 14 15:=by kernel_rfl
theorem x2dc{rec0:AV->AV->AV->AV->AV->Mem->Nat->O2}{rec1:AV->AV->AV->AV->AV->AV->Mem->Nat->O2}:x2g5 call hs u x2d8 (j6 rec1 1 5 6 8 14 15) (setE 2 (j5 (x5t call hs u rec0) 1 5 6 14 15) (setE 1 (j5 (x19 call hs u rec0) 1 5 6 14 15) (setE 0 (j1 (xu call hs u) 5) eNil)))=j6 (xrc call hs u rec0 rec1) 1 5 6 8 14 15:=by kernel_rfl
theorem x2dd{rec0:AV->AV->AV->AV->AV->Mem->Nat->O2}:x2g5 call hs u x18k (j5 (x5t call hs u rec0) 1 5 6 14 15) (setE 2 (j5 (x5t call hs u rec0) 1 5 6 14 15) (setE 1 (j5 (x19 call hs u rec0) 1 5 6 14 15) (setE 0 (j1 (xu call hs u) 5) eNil)))=j6 (x5u call hs u rec0 NN) 1 5 6 8 14 15:=lp (Ln:=fun n=>j6 (x5u call hs u rec0 n) 1 5 6 8 14 15) fun n=>tr x2dc
theorem x2de{rec0:AV->AV->AV->AV->AV->Mem->Nat->O2}:x2g5 call hs u x18j (j5 (x5t call hs u rec0) 1 5 6 14 15) (setE 1 (j5 (x19 call hs u rec0) 1 5 6 14 15) (setE 0 (j1 (xu call hs u) 5) eNil))=j6 (x5u call hs u rec0 NN) 1 5 6 8 14 15:=bk x2dd
theorem x2df{rec0:AV->AV->AV->AV->AV->Mem->Nat->O2}:x2g5 call hs u xnt (j5 (x19 call hs u rec0) 1 5 6 14 15) (setE 1 (j5 (x19 call hs u rec0) 1 5 6 14 15) (setE 0 (j1 (xu call hs u) 5) eNil))=j6 (x5u call hs u rec0 NN) 1 5 6 8 14 15:=sq2 x2db x2de
theorem x2dg{rec0:AV->AV->AV->AV->AV->Mem->Nat->O2}:x2g5 call hs u x18i (j5 (x19 call hs u rec0) 1 5 6 14 15) (setE 1 (j5 (x19 call hs u rec0) 1 5 6 14 15) (setE 0 (j1 (xu call hs u) 5) eNil))=j5 (xdr call hs u rec0) 1 5 6 14 15:=tr (sqN 4 x2df)
theorem x2dh{rec0:AV->AV->AV->AV->AV->Mem->Nat->O2}:x2g5 call hs u x18h (j5 (x19 call hs u rec0) 1 5 6 14 15) (setE 0 (j1 (xu call hs u) 5) eNil)=j5 (xdr call hs u rec0) 1 5 6 14 15:=bk x2dg
theorem x2di{rec0:AV->AV->AV->AV->AV->Mem->Nat->O2}:x2g5 call hs u xns (j5 rec0 1 5 6 14 15) (setE 0 (j1 (xu call hs u) 5) eNil)=j5 (xdr call hs u rec0) 1 5 6 14 15:=sq2 x2da x2dh
theorem x2dj{rec0:AV->AV->AV->AV->AV->Mem->Nat->O2}:x2g5 call hs u x18g (j5 rec0 1 5 6 14 15) (setE 0 (j1 (xu call hs u) 5) eNil)=j5 (xrd call hs u rec0) 1 5 6 14 15:=tr (sqN 2 x2di)
theorem x2dk:x2g5 call hs u x18f (j1 (xu call hs u) 5) (setE 0 (j1 (xu call hs u) 5) eNil)=j5 (x8x call hs u NN) 1 5 6 14 15:=lp (Ln:=fun n=>j5 (x8x call hs u n) 1 5 6 14 15) fun n=>tr x2dj
theorem x2dl:x2g5 call hs u x18e (j1 (xu call hs u) 5) eNil=j5 (x8x call hs u NN) 1 5 6 14 15:=bk x2dk
theorem x2dm:x2g5 call hs u x18d (j1 (xu call hs u) 5) eNil=j3 (xi2 call hs u) 1 5 6:=tr (sqN 1 x2dl)
theorem x2dn:x2g5 call hs u xnr r_0 eNil=j3 (xi2 call hs u) 1 5 6:=sq2 x2d9 x2dm
theorem x1fy:x2g5 call hs u x18c r_0 eNil=j2 (xre call hs u) 0 1:=tr (sqN 3 x2dn)
noncomputable abbrev x2jz:=VX xa2 53 r_17
noncomputable def x18l:=x2ei xa2
noncomputable def x18m:=nR x18l
noncomputable def x18n:=nR x18m
noncomputable def x18o:=nR x18n
noncomputable def xnu:=nRs 2 x18o
noncomputable def x2do:=nL xnu
noncomputable def x2dp:=nR xnu
theorem x2dq{rec0:AV->AV->AV->AV->AV->Mem->Nat->O2}:x2jz call hs u x2dp (j5 rec0 0 1 3 9 10) (setE 0 r_17 eNil)=j5 (xds call hs u rec0) 0 1 3 9 10:=by kernel_rfl
theorem x2dr{rec0:AV->AV->AV->AV->AV->Mem->Nat->O2}:x2jz call hs u x2do (j5 (xds call hs u rec0) 0 1 3 9 10) (setE 0 r_17 eNil)=j5 (xi3 call hs u rec0) 0 1 3 9 10:=by kernel_rfl
theorem x2ds{rec0:AV->AV->AV->AV->AV->Mem->Nat->O2}:x2jz call hs u xnu (j5 rec0 0 1 3 9 10) (setE 0 r_17 eNil)=j5 (xi3 call hs u rec0) 0 1 3 9 10:=sq2 x2dq x2dr
theorem x2dt{rec0:AV->AV->AV->AV->AV->Mem->Nat->O2}:x2jz call hs u x18o (j5 rec0 0 1 3 9 10) (setE 0 r_17 eNil)=j5 (xrf call hs u rec0) 0 1 3 9 10:=tr (sqN 2 x2ds)
theorem x2du:x2jz call hs u x18n r_17 (setE 0 r_17 eNil)=j5 (x8y call hs u NN) 0 1 3 9 10:=lp (Ln:=fun n=>j5 (x8y call hs u n) 0 1 3 9 10) fun n=>tr x2dt
theorem x2dv:x2jz call hs u x18m r_17 eNil=j5 (x8y call hs u NN) 0 1 3 9 10:=bk x2du
theorem x1d6:x2jz call hs u x18l r_17 eNil=j4 (xrg call hs u) 0 1 2 3:=tr (sqN 1 x2dv)
noncomputable abbrev x2gl:=VX xb2 132 r_2
noncomputable def x18p:=x2ei xb2
noncomputable def xnv:=nRs 2 x18p
noncomputable def x18q:=nL xnv
noncomputable def x2dw:=nR xnv
noncomputable def x18r:=nR x18q
noncomputable def x18s:=nR x18r
noncomputable def x18t:=nR x18s
noncomputable def xnw:=nRs 2 x18t
noncomputable def x18u:=nL xnw
noncomputable def x2dx:=nR xnw
noncomputable def x18v:=nR x18u
noncomputable def xnx:=nR x18v
noncomputable def x2dy:=nL xnx
noncomputable def x2dz:=nR xnx
theorem x2e0:x2gl call hs u x2dw r_2 eNil=j1 (x14 call hs u) 3:=by kernel_rfl
theorem x2e1{rec0:AV->AV->AV->AV->Mem->Nat->O2}:x2gl call hs u x2dx (j4 rec0 3 28 29 30) (setE 0 (j1 (x14 call hs u) 3) eNil)=j4 (x25 call hs u rec0) 3 28 29 30:=by kernel_rfl
theorem x2e2{rec0:AV->AV->AV->AV->Mem->Nat->O2}:x2gl call hs u x2dz (j4 (x25 call hs u rec0) 3 28 29 30) (setE 1 (j4 (x25 call hs u rec0) 3 28 29 30) (setE 0 (j1 (x14 call hs u) 3) eNil))=j6 (x8z call hs u rec0) 3 4 5 28 29 30:=by kernel_rfl
theorem x2e3{rec0:AV->AV->AV->AV->Mem->Nat->O2}:x2gl call hs u x2dy (j6 (x8z call hs u rec0) 3 4 5 28 29 30) (setE 1 (j4 (x25 call hs u rec0) 3 28 29 30) (setE 0 (j1 (x14 call hs u) 3) eNil))=j6 (xi4 call hs u rec0) 3 4 5 28 29 30:=by kernel_rfl
theorem x2e4{rec0:AV->AV->AV->AV->Mem->Nat->O2}:x2gl call hs u xnx (j4 (x25 call hs u rec0) 3 28 29 30) (setE 1 (j4 (x25 call hs u rec0) 3 28 29 30) (setE 0 (j1 (x14 call hs u) 3) eNil))=j6 (xi4 call hs u rec0) 3 4 5 28 29 30:=sq2 x2e2 x2e3
theorem x2e5{rec0:AV->AV->AV->AV->Mem->Nat->O2}:x2gl call hs u x18v (j4 (x25 call hs u rec0) 3 28 29 30) (setE 1 (j4 (x25 call hs u rec0) 3 28 29 30) (setE 0 (j1 (x14 call hs u) 3) eNil))=j4 (xdt call hs u rec0) 3 28 29 30:=tr (sqN 1 x2e4)
theorem x2e6{rec0:AV->AV->AV->AV->Mem->Nat->O2}:x2gl call hs u x18u (j4 (x25 call hs u rec0) 3 28 29 30) (setE 0 (j1 (x14 call hs u) 3) eNil)=j4 (xdt call hs u rec0) 3 28 29 30:=bk x2e5
theorem x2e7{rec0:AV->AV->AV->AV->Mem->Nat->O2}:x2gl call hs u xnw (j4 rec0 3 28 29 30) (setE 0 (j1 (x14 call hs u) 3) eNil)=j4 (xdt call hs u rec0) 3 28 29 30:=sq2 x2e1 x2e6
theorem x2e8{rec0:AV->AV->AV->AV->Mem->Nat->O2}:x2gl call hs u x18t (j4 rec0 3 28 29 30) (setE 0 (j1 (x14 call hs u) 3) eNil)=j4 (xrh call hs u rec0) 3 28 29 30:=tr (sqN 2 x2e7)
theorem x2e9:x2gl call hs u x18s (j1 (x14 call hs u) 3) (setE 0 (j1 (x14 call hs u) 3) eNil)=j4 (x90 call hs u NN) 3 28 29 30:=lp (Ln:=fun n=>j4 (x90 call hs u n) 3 28 29 30) fun n=>tr x2e8
theorem x2ea:x2gl call hs u x18r (j1 (x14 call hs u) 3) eNil=j4 (x90 call hs u NN) 3 28 29 30:=bk x2e9
theorem x2eb:x2gl call hs u x18q (j1 (x14 call hs u) 3) eNil=j2 (xi5 call hs u) 1 3:=tr (sqN 1 x2ea)
theorem x2ec:x2gl call hs u xnv r_2 eNil=j2 (xi5 call hs u) 1 3:=sq2 x2e0 x2eb
theorem x1fz:x2gl call hs u x18p r_2 eNil=j1 (xri call hs u) 0:=tr (sqN 2 x2ec)
noncomputable abbrev x2tt:=VX xa5 5 r_2
noncomputable def x2ed:=x2ei xa5
theorem x1da:x2tt call hs u x2ed r_2 eNil=j1 (xrj call hs u) 0:=by kernel_rfl
end Go.Ix
