import Derived.Test.YtpeakdjfagbpcaaGreatFxText0
import Derived.Test.YtpeakdjfagbpcaaGreatFxText1
import Derived.Test.YtpeakdjfagbpcaaGreatFxEnt
import Derived.Test.YtpeakdjfagbpcaaGreatFxRules
import Derived.Test.YtpeakdjfagbpcaaGreatFxProj
import Derived.ProofKit
set_option linter.unusedVariables false
namespace Go.Ix
open Go.Proofs
variable{call:x2cj}{hs:FHs}{u:Nat}
noncomputable abbrev x2gk:=VX x86 135 r_0
noncomputable def xyk:=x2co x86
noncomputable def xmx:=nRs 5 xyk
noncomputable def x1q8:=nL xmx
noncomputable def xyl:=nR xmx
noncomputable def xmy:=nRs 4 xyl
noncomputable def xym:=nL xmy
noncomputable def x1q9:=nR xmy
noncomputable def xyn:=nR xym
noncomputable def xyo:=nR xyn
noncomputable def x1qa:=nR xyo
theorem x1qb:x2gk call hs u x1q9 r_0 eNil=j0 (x3l call hs u):=by kernel_rfl
theorem x1qc{rec0:AV->AV->AV->Mem->Nat->O2}:x2gk call hs u x1qa (j3 rec0 2 5 11) (setE 0 (j0 (x3l call hs u)) eNil)=j3 (xbx call hs u rec0) 2 5 11:=by kernel_rfl
theorem x1qd:x2gk call hs u xyo (j0 (x3l call hs u)) (setE 0 (j0 (x3l call hs u)) eNil)=j3 (x3m call hs u NN) 2 5 11:=lp (Ln:=fun n=>j3 (x3m call hs u n) 2 5 11) fun n=>tr x1qc
theorem x1qe:x2gk call hs u xyn (j0 (x3l call hs u)) eNil=j3 (x3m call hs u NN) 2 5 11:=bk x1qd
theorem x1qf:x2gk call hs u xym (j0 (x3l call hs u)) eNil=j2 (xby call hs u) 2 5:=tr (sqN 1 x1qe)
theorem x1qg:x2gk call hs u xmy r_0 eNil=j2 (xby call hs u) 2 5:=sq2 x1qb x1qf
theorem x1qh:x2gk call hs u xyl r_0 eNil=j6 (x5w call hs u) 1 2 5 6 7 8:=tr (sqN 4 x1qg)
theorem x1qi:x2gk call hs u x1q8 (j6 (x5w call hs u) 1 2 5 6 7 8) eNil=j6 (xbz call hs u) 1 2 5 6 7 8:=by kernel_rfl
theorem x1qj:x2gk call hs u xmx r_0 eNil=j6 (xbz call hs u) 1 2 5 6 7 8:=sq2 x1qh x1qi
theorem x1ct:x2gk call hs u xyk r_0 eNil=j2 (xhn call hs u) 0 1:=tr (sqN 5 x1qj)
noncomputable abbrev x2gl:=VX xfo 88 r_1
noncomputable def xyp:=x2co xfo
noncomputable def xmz:=nRs 3 xyp
noncomputable def xyq:=nL xmz
noncomputable def xyr:=nR xmz
noncomputable def xn0:=nRs 2 xyr
noncomputable def x1qk:=nL xn0
noncomputable def x1ql:=nR xn0
noncomputable def xys:=nR xyq
noncomputable def xyt:=nR xys
noncomputable def x1qm:=nR xyt
theorem x1qn:x2gl call hs u x1ql r_1 eNil=j6 (xc0 call hs u) 0 1 2 8 9 11:=by kernel_rfl
theorem x1qo:x2gl call hs u x1qk (j6 (xc0 call hs u) 0 1 2 8 9 11) eNil=j6 (xho call hs u) 0 1 2 8 9 11:=by kernel_rfl
theorem x1qp:x2gl call hs u xn0 r_1 eNil=j6 (xho call hs u) 0 1 2 8 9 11:=sq2 x1qn x1qo
theorem x1qq:x2gl call hs u xyr r_1 eNil=j3 (x5x call hs u) 0 1 2:=tr (sqN 2 x1qp)
theorem x1qr{rec0:AV->AV->AV->AV->Mem->Nat->O2}:x2gl call hs u x1qm (j4 rec0 0 1 2 7) (setE 0 (j3 (x5x call hs u) 0 1 2) eNil)=j4 (xq4 call hs u rec0) 0 1 2 7:=by kernel_rfl
theorem x1qs:x2gl call hs u xyt (j3 (x5x call hs u) 0 1 2) (setE 0 (j3 (x5x call hs u) 0 1 2) eNil)=j4 (x8g call hs u NN) 0 1 2 7:=lp (Ln:=fun n=>j4 (x8g call hs u n) 0 1 2 7) fun n=>tr x1qr
theorem x1qt:x2gl call hs u xys (j3 (x5x call hs u) 0 1 2) eNil=j4 (x8g call hs u NN) 0 1 2 7:=bk x1qs
theorem x1qu:x2gl call hs u xyq (j3 (x5x call hs u) 0 1 2) eNil=j3 (xhp call hs u) 0 1 2:=tr (sqN 1 x1qt)
theorem x1qv:x2gl call hs u xmz r_1 eNil=j3 (xhp call hs u) 0 1 2:=sq2 x1qq x1qu
theorem x1cu:x2gl call hs u xyp r_1 eNil=j3 (xq5 call hs u) 0 1 2:=tr (sqN 3 x1qv)
noncomputable abbrev x2tf:=VX x5a 82 r_2
noncomputable def x1qw:=x2co x5a
theorem x1cv:x2tf call hs u x1qw r_2 eNil=j0 (xq6 call hs u):=by kernel_rfl
noncomputable abbrev x2ii:=VX x5b 63 r_3
noncomputable def xyu:=x2co x5b
noncomputable def xn1:=nRs 3 xyu
noncomputable def xyv:=nL xn1
noncomputable def x1qx:=nR xn1
noncomputable def xyw:=nR xyv
noncomputable def xyx:=nR xyw
noncomputable def x1qy:=nR xyx
theorem x1qz:x2ii call hs u x1qx r_3 eNil=j0 (x3n call hs u):=by kernel_rfl
theorem x1r0{rec0:AV->AV->Mem->Nat->O2}:x2ii call hs u x1qy (j2 rec0 1 3) (setE 0 (j0 (x3n call hs u)) eNil)=j2 (xc1 call hs u rec0) 1 3:=by kernel_rfl
theorem x1r1:x2ii call hs u xyx (j0 (x3n call hs u)) (setE 0 (j0 (x3n call hs u)) eNil)=j2 (x3o call hs u NN) 1 3:=lp (Ln:=fun n=>j2 (x3o call hs u n) 1 3) fun n=>tr x1r0
theorem x1r2:x2ii call hs u xyw (j0 (x3n call hs u)) eNil=j2 (x3o call hs u NN) 1 3:=bk x1r1
theorem x1r3:x2ii call hs u xyv (j0 (x3n call hs u)) eNil=j1 (x8h call hs u) 1:=tr (sqN 1 x1r2)
theorem x1r4:x2ii call hs u xn1 r_3 eNil=j1 (x8h call hs u) 1:=sq2 x1qz x1r3
theorem x1cw:x2ii call hs u xyu r_3 eNil=j1 (xhq call hs u) 0:=tr (sqN 3 x1r4)
noncomputable abbrev x2eb:=VX x36 90 r_4
noncomputable def xyy:=x2co x36
noncomputable def xn2:=nRs 5 xyy
noncomputable def xyz:=nL xn2
noncomputable def xz0:=nR xn2
noncomputable def xn3:=nRs 3 xz0
noncomputable def xz1:=nL xn3
noncomputable def x1r5:=nR xn3
noncomputable def xz2:=nR xz1
noncomputable def xz3:=nR xz2
noncomputable def xz4:=nR xz3
noncomputable def xn4:=nRs 2 xz4
noncomputable def x1r6:=nL xn4
noncomputable def x1r7:=nR xn4
noncomputable def xz5:=nR xyz
noncomputable def xz6:=nR xz5
noncomputable def xz7:=nR xz6
noncomputable def xn5:=nRs 2 xz7
noncomputable def x1r8:=nL xn5
noncomputable def x1r9:=nR xn5
theorem x1ra:x2eb call hs u x1r5 r_4 eNil=j1 (x1k call hs u) 14:=by kernel_rfl
theorem x1rb{rec0:AV->AV->AV->AV->AV->AV->AV->Mem->Nat->O2}:x2eb call hs u x1r7 (j7 rec0 1 12 13 14 60 61 62) (setE 2 (j1 (x1k call hs u) 14) eNil)=j7 (x78 call hs u rec0) 1 12 13 14 60 61 62:=by kernel_rfl
theorem x1rc{rec0:AV->AV->AV->AV->AV->AV->AV->Mem->Nat->O2}:x2eb call hs u x1r6 (j7 (x78 call hs u rec0) 1 12 13 14 60 61 62) (setE 2 (j1 (x1k call hs u) 14) eNil)=j7 (xc2 call hs u rec0) 1 12 13 14 60 61 62:=by kernel_rfl
theorem x1rd{rec0:AV->AV->AV->AV->AV->AV->AV->Mem->Nat->O2}:x2eb call hs u xn4 (j7 rec0 1 12 13 14 60 61 62) (setE 2 (j1 (x1k call hs u) 14) eNil)=j7 (xc2 call hs u rec0) 1 12 13 14 60 61 62:=sq2 x1rb x1rc
theorem x1re{rec0:AV->AV->AV->AV->AV->AV->AV->Mem->Nat->O2}:x2eb call hs u xz4 (j7 rec0 1 12 13 14 60 61 62) (setE 2 (j1 (x1k call hs u) 14) eNil)=j7 (xc3 call hs u rec0) 1 12 13 14 60 61 62:=tr (sqN 2 x1rd)
theorem x1rf:x2eb call hs u xz3 (j1 (x1k call hs u) 14) (setE 2 (j1 (x1k call hs u) 14) eNil)=j7 (x3p call hs u NN) 1 12 13 14 60 61 62:=lp (Ln:=fun n=>j7 (x3p call hs u n) 1 12 13 14 60 61 62) fun n=>tr x1re
theorem x1rg:x2eb call hs u xz2 (j1 (x1k call hs u) 14) eNil=j7 (x3p call hs u NN) 1 12 13 14 60 61 62:=bk x1rf
theorem x1rh:x2eb call hs u xz1 (j1 (x1k call hs u) 14) eNil=j4 (xc4 call hs u) 1 12 13 14:=tr (sqN 1 x1rg)
theorem x1ri:x2eb call hs u xn3 r_4 eNil=j4 (xc4 call hs u) 1 12 13 14:=sq2 x1ra x1rh
theorem x1rj:x2eb call hs u xz0 r_4 eNil=j4 (x1l call hs u) 1 2 8 9:=tr (sqN 3 x1ri)
theorem x1rk{rec1:AV->AV->AV->AV->AV->AV->AV->Mem->Nat->O2}:x2eb call hs u x1r9 (j7 rec1 1 2 8 9 36 37 38) (setE 0 (j4 (x1l call hs u) 1 2 8 9) eNil)=j7 (x79 call hs u rec1) 1 2 8 9 36 37 38:=by kernel_rfl
theorem x1rl{rec1:AV->AV->AV->AV->AV->AV->AV->Mem->Nat->O2}:x2eb call hs u x1r8 (j7 (x79 call hs u rec1) 1 2 8 9 36 37 38) (setE 0 (j4 (x1l call hs u) 1 2 8 9) eNil)=j7 (xc5 call hs u rec1) 1 2 8 9 36 37 38:=by kernel_rfl
theorem x1rm{rec1:AV->AV->AV->AV->AV->AV->AV->Mem->Nat->O2}:x2eb call hs u xn5 (j7 rec1 1 2 8 9 36 37 38) (setE 0 (j4 (x1l call hs u) 1 2 8 9) eNil)=j7 (xc5 call hs u rec1) 1 2 8 9 36 37 38:=sq2 x1rk x1rl
theorem x1rn{rec1:AV->AV->AV->AV->AV->AV->AV->Mem->Nat->O2}:x2eb call hs u xz7 (j7 rec1 1 2 8 9 36 37 38) (setE 0 (j4 (x1l call hs u) 1 2 8 9) eNil)=j7 (xc6 call hs u rec1) 1 2 8 9 36 37 38:=tr (sqN 2 x1rm)
theorem x1ro:x2eb call hs u xz6 (j4 (x1l call hs u) 1 2 8 9) (setE 0 (j4 (x1l call hs u) 1 2 8 9) eNil)=j7 (x3q call hs u NN) 1 2 8 9 36 37 38:=lp (Ln:=fun n=>j7 (x3q call hs u n) 1 2 8 9 36 37 38) fun n=>tr x1rn
theorem x1rp:x2eb call hs u xz5 (j4 (x1l call hs u) 1 2 8 9) eNil=j7 (x3q call hs u NN) 1 2 8 9 36 37 38:=bk x1ro
theorem x1rq:x2eb call hs u xyz (j4 (x1l call hs u) 1 2 8 9) eNil=j4 (xc7 call hs u) 1 2 8 9:=tr (sqN 1 x1rp)
theorem x1rr:x2eb call hs u xn2 r_4 eNil=j4 (xc7 call hs u) 1 2 8 9:=sq2 x1rj x1rq
theorem x1cx:x2eb call hs u xyy r_4 eNil=j2 (xhr call hs u) 0 1:=tr (sqN 5 x1rr)
noncomputable abbrev x2tg:=VX x5c 13 r_5
noncomputable def x1rs:=x2co x5c
theorem x1cy:x2tg call hs u x1rs r_5 eNil=j1 (xhs call hs u) 0:=by kernel_rfl
noncomputable abbrev x2fr:=VX x37 58 r_3
noncomputable def xz8:=x2co x37
noncomputable def xn6:=nRs 3 xz8
noncomputable def xz9:=nL xn6
noncomputable def xn7:=nR xn6
noncomputable def xza:=nL xn7
noncomputable def x1rt:=nR xn7
noncomputable def xzb:=nR xza
noncomputable def xzc:=nR xzb
noncomputable def x1ru:=nR xzc
noncomputable def xzd:=nR xz9
noncomputable def xze:=nR xzd
noncomputable def x1rv:=nR xze
theorem x1rw:x2fr call hs u x1rt r_3 eNil=j0 (x3s call hs u):=by kernel_rfl
theorem x1rx{rec0:AV->AV->Mem->Nat->O2}:x2fr call hs u x1ru (j2 rec0 1 5) (setE 2 (j0 (x3s call hs u)) eNil)=j2 (xc8 call hs u rec0) 1 5:=by kernel_rfl
theorem x1ry:x2fr call hs u xzc (j0 (x3s call hs u)) (setE 2 (j0 (x3s call hs u)) eNil)=j2 (x3t call hs u NN) 1 5:=lp (Ln:=fun n=>j2 (x3t call hs u n) 1 5) fun n=>tr x1rx
theorem x1rz:x2fr call hs u xzb (j0 (x3s call hs u)) eNil=j2 (x3t call hs u NN) 1 5:=bk x1ry
theorem x1s0:x2fr call hs u xza (j0 (x3s call hs u)) eNil=j1 (x2q call hs u) 1:=tr (sqN 1 x1rz)
theorem x1s1:x2fr call hs u xn7 r_3 eNil=j1 (x2q call hs u) 1:=sq2 x1rw x1s0
theorem x1s2{rec1:AV->AV->Mem->Nat->O2}:x2fr call hs u x1rv (j2 rec1 1 4) (setE 0 (j1 (x2q call hs u) 1) eNil)=j2 (xc9 call hs u rec1) 1 4:=by kernel_rfl
theorem x1s3:x2fr call hs u xze (j1 (x2q call hs u) 1) (setE 0 (j1 (x2q call hs u) 1) eNil)=j2 (x3u call hs u NN) 1 4:=lp (Ln:=fun n=>j2 (x3u call hs u n) 1 4) fun n=>tr x1s2
theorem x1s4:x2fr call hs u xzd (j1 (x2q call hs u) 1) eNil=j2 (x3u call hs u NN) 1 4:=bk x1s3
theorem x1s5:x2fr call hs u xz9 (j1 (x2q call hs u) 1) eNil=j1 (xca call hs u) 1:=tr (sqN 1 x1s4)
theorem x1s6:x2fr call hs u xn6 r_3 eNil=j1 (xca call hs u) 1:=sq2 x1s1 x1s5
theorem x1cz:x2fr call hs u xz8 r_3 eNil=j1 (xht call hs u) 0:=tr (sqN 3 x1s6)
noncomputable abbrev x2th:=VX xq 15 r_1
noncomputable def x1s7:=x2co xq
theorem x1d0:x2th call hs u x1s7 r_1 eNil=j3 (xhu call hs u) 0 1 2:=by kernel_rfl
noncomputable abbrev x2ec:=VX x5d 79 r_6
noncomputable def xzf:=x2co x5d
noncomputable def xn8:=nRs 3 xzf
noncomputable def xzg:=nL xn8
noncomputable def xzh:=nR xn8
noncomputable def xn9:=nRs 4 xzh
noncomputable def xzi:=nL xn9
noncomputable def x1s8:=nR xn9
noncomputable def xzj:=nR xzi
noncomputable def xzk:=nR xzj
noncomputable def xzl:=nR xzk
noncomputable def xna:=nR xzl
noncomputable def x1s9:=nL xna
noncomputable def x1sa:=nR xna
noncomputable def xzm:=nR xzg
noncomputable def xzn:=nR xzm
noncomputable def xzo:=nR xzn
noncomputable def xnb:=nR xzo
noncomputable def x1sb:=nL xnb
noncomputable def x1sc:=nR xnb
theorem x1sd:x2ec call hs u x1s8 r_6 eNil=j1 (x1m call hs u) 13:=by kernel_rfl
theorem x1se{rec0:AV->AV->AV->AV->AV->Mem->Nat->O2}:x2ec call hs u x1sa (j5 rec0 1 11 12 13 14) (setE 2 (j1 (x1m call hs u) 13) eNil)=j5 (x7a call hs u rec0) 1 11 12 13 14:=by kernel_rfl
theorem x1sf{rec0:AV->AV->AV->AV->AV->Mem->Nat->O2}:x2ec call hs u x1s9 (j5 (x7a call hs u rec0) 1 11 12 13 14) (setE 2 (j1 (x1m call hs u) 13) eNil)=j5 (xcb call hs u rec0) 1 11 12 13 14:=by kernel_rfl
theorem x1sg{rec0:AV->AV->AV->AV->AV->Mem->Nat->O2}:x2ec call hs u xna (j5 rec0 1 11 12 13 14) (setE 2 (j1 (x1m call hs u) 13) eNil)=j5 (xcb call hs u rec0) 1 11 12 13 14:=sq2 x1se x1sf
theorem x1sh{rec0:AV->AV->AV->AV->AV->Mem->Nat->O2}:x2ec call hs u xzl (j5 rec0 1 11 12 13 14) (setE 2 (j1 (x1m call hs u) 13) eNil)=j5 (xcc call hs u rec0) 1 11 12 13 14:=tr (sqN 1 x1sg)
theorem x1si:x2ec call hs u xzk (j1 (x1m call hs u) 13) (setE 2 (j1 (x1m call hs u) 13) eNil)=j5 (x3v call hs u NN) 1 11 12 13 14:=lp (Ln:=fun n=>j5 (x3v call hs u n) 1 11 12 13 14) fun n=>tr x1sh
theorem x1sj:x2ec call hs u xzj (j1 (x1m call hs u) 13) eNil=j5 (x3v call hs u NN) 1 11 12 13 14:=bk x1si
theorem x1sk:x2ec call hs u xzi (j1 (x1m call hs u) 13) eNil=j4 (xcd call hs u) 1 11 12 13:=tr (sqN 1 x1sj)
theorem x1sl:x2ec call hs u xn9 r_6 eNil=j4 (xcd call hs u) 1 11 12 13:=sq2 x1sd x1sk
theorem x1sm:x2ec call hs u xzh r_6 eNil=j3 (x1n call hs u) 1 2 7:=tr (sqN 4 x1sl)
theorem x1sn{rec1:AV->AV->AV->AV->AV->Mem->Nat->O2}:x2ec call hs u x1sc (j5 rec1 1 2 6 7 8) (setE 0 (j3 (x1n call hs u) 1 2 7) eNil)=j5 (x7b call hs u rec1) 1 2 6 7 8:=by kernel_rfl
theorem x1so{rec1:AV->AV->AV->AV->AV->Mem->Nat->O2}:x2ec call hs u x1sb (j5 (x7b call hs u rec1) 1 2 6 7 8) (setE 0 (j3 (x1n call hs u) 1 2 7) eNil)=j5 (xce call hs u rec1) 1 2 6 7 8:=by kernel_rfl
theorem x1sp{rec1:AV->AV->AV->AV->AV->Mem->Nat->O2}:x2ec call hs u xnb (j5 rec1 1 2 6 7 8) (setE 0 (j3 (x1n call hs u) 1 2 7) eNil)=j5 (xce call hs u rec1) 1 2 6 7 8:=sq2 x1sn x1so
theorem x1sq{rec1:AV->AV->AV->AV->AV->Mem->Nat->O2}:x2ec call hs u xzo (j5 rec1 1 2 6 7 8) (setE 0 (j3 (x1n call hs u) 1 2 7) eNil)=j5 (xcf call hs u rec1) 1 2 6 7 8:=tr (sqN 1 x1sp)
theorem x1sr:x2ec call hs u xzn (j3 (x1n call hs u) 1 2 7) (setE 0 (j3 (x1n call hs u) 1 2 7) eNil)=j5 (x3w call hs u NN) 1 2 6 7 8:=lp (Ln:=fun n=>j5 (x3w call hs u n) 1 2 6 7 8) fun n=>tr x1sq
theorem x1ss:x2ec call hs u xzm (j3 (x1n call hs u) 1 2 7) eNil=j5 (x3w call hs u NN) 1 2 6 7 8:=bk x1sr
theorem x1st:x2ec call hs u xzg (j3 (x1n call hs u) 1 2 7) eNil=j4 (xcg call hs u) 1 2 6 7:=tr (sqN 1 x1ss)
theorem x1su:x2ec call hs u xn8 r_6 eNil=j4 (xcg call hs u) 1 2 6 7:=sq2 x1sm x1st
theorem x1d1:x2ec call hs u xzf r_6 eNil=j2 (xhv call hs u) 0 1:=tr (sqN 3 x1su)
noncomputable abbrev x2ij:=VX x1j 26 r_0
noncomputable def xzp:=x2co x1j
noncomputable def xnc:=nRs 2 xzp
noncomputable def xzq:=nL xnc
noncomputable def x1sv:=nR xnc
noncomputable def xzr:=nR xzq
noncomputable def xzs:=nR xzr
noncomputable def x1sw:=nR xzs
theorem x1sx:x2ij call hs u x1sv r_0 eNil=j0 (x3x call hs u):=by kernel_rfl
theorem x1sy{rec0:AV->AV->AV->Mem->Nat->O2}:x2ij call hs u x1sw (j3 rec0 0 1 5) (setE 0 (j0 (x3x call hs u)) eNil)=j3 (xch call hs u rec0) 0 1 5:=by kernel_rfl
theorem x1sz:x2ij call hs u xzs (j0 (x3x call hs u)) (setE 0 (j0 (x3x call hs u)) eNil)=j3 (x3y call hs u NN) 0 1 5:=lp (Ln:=fun n=>j3 (x3y call hs u n) 0 1 5) fun n=>tr x1sy
theorem x1t0:x2ij call hs u xzr (j0 (x3x call hs u)) eNil=j3 (x3y call hs u NN) 0 1 5:=bk x1sz
theorem x1t1:x2ij call hs u xzq (j0 (x3x call hs u)) eNil=j2 (xci call hs u) 0 1:=tr (sqN 1 x1t0)
theorem x1t2:x2ij call hs u xnc r_0 eNil=j2 (xci call hs u) 0 1:=sq2 x1sx x1t1
theorem x1d2:x2ij call hs u xzp r_0 eNil=j2 (xhw call hs u) 0 1:=tr (sqN 2 x1t2)
noncomputable abbrev x2en:=VX xax 77 r_7
noncomputable def xzt:=x2co xax
noncomputable def xnd:=nRs 4 xzt
noncomputable def xzu:=nL xnd
noncomputable def x1t3:=nR xnd
noncomputable def xzv:=nR xzu
noncomputable def xzw:=nR xzv
noncomputable def xzx:=nR xzw
noncomputable def xne:=nRs 2 xzx
noncomputable def xzy:=nL xne
noncomputable def x1t4:=nR xne
noncomputable def xzz:=nR xzy
noncomputable def x100:=nRs 2 xzz
noncomputable def x101:=nR x100
noncomputable def x102:=nR x101
noncomputable def xnf:=nR x102
noncomputable def x1t5:=nL xnf
noncomputable def x1t6:=nR xnf
theorem x1t7:x2en call hs u x1t3 r_7 eNil=j1 (xr call hs u) 10:=by kernel_rfl
theorem x1t8{rec0:AV->AV->AV->AV->AV->AV->AV->Mem->Nat->O2}:x2en call hs u x1t4 (j7 rec0 0 1 2 10 31 32 33) (setE 0 (j1 (xr call hs u) 10) eNil)=j7 (xl call hs u rec0) 0 1 2 10 31 32 33:=by kernel_rfl
theorem x1t9{rec0:AV->AV->AV->AV->AV->AV->AV->Mem->Nat->O2}{rec1:AV->AV->AV->AV->AV->AV->AV->AV->AV->AV->Mem->Nat->O2}:x2en call hs u x1t6 (j10 rec1 0 1 2 10 11 12 13 31 32 33) (setE 2 (j7 (xl call hs u rec0) 0 1 2 10 31 32 33) (setE 1 (j7 (xl call hs u rec0) 0 1 2 10 31 32 33) (setE 0 (j1 (xr call hs u) 10) eNil)))=j10 (xcj call hs u rec0 rec1) 0 1 2 10 11 12 13 31 32 33:=by kernel_rfl
theorem x1ta{rec0:AV->AV->AV->AV->AV->AV->AV->Mem->Nat->O2}{rec1:AV->AV->AV->AV->AV->AV->AV->AV->AV->AV->Mem->Nat->O2}:x2en call hs u x1t5 (j10 (xcj call hs u rec0 rec1) 0 1 2 10 11 12 13 31 32 33) (setE 2 (j7 (xl call hs u rec0) 0 1 2 10 31 32 33) (setE 1 (j7 (xl call hs u rec0) 0 1 2 10 31 32 33) (setE 0 (j1 (xr call hs u) 10) eNil)))=j10 (xhx call hs u rec0 rec1) 0 1 2 10 11 12 13 31 32 33:=by kernel_rfl
theorem x1tb{rec0:AV->AV->AV->AV->AV->AV->AV->Mem->Nat->O2}{rec1:AV->AV->AV->AV->AV->AV->AV->AV->AV->AV->Mem->Nat->O2}:x2en call hs u xnf (j10 rec1 0 1 2 10 11 12 13 31 32 33) (setE 2 (j7 (xl call hs u rec0) 0 1 2 10 31 32 33) (setE 1 (j7 (xl call hs u rec0) 0 1 2 10 31 32 33) (setE 0 (j1 (xr call hs u) 10) eNil)))=j10 (xhx call hs u rec0 rec1) 0 1 2 10 11 12 13 31 32 33:=sq2 x1t9 x1ta
theorem x1tc{rec0:AV->AV->AV->AV->AV->AV->AV->Mem->Nat->O2}{rec1:AV->AV->AV->AV->AV->AV->AV->AV->AV->AV->Mem->Nat->O2}:x2en call hs u x102 (j10 rec1 0 1 2 10 11 12 13 31 32 33) (setE 2 (j7 (xl call hs u rec0) 0 1 2 10 31 32 33) (setE 1 (j7 (xl call hs u rec0) 0 1 2 10 31 32 33) (setE 0 (j1 (xr call hs u) 10) eNil)))=j10 (xq7 call hs u rec0 rec1) 0 1 2 10 11 12 13 31 32 33:=tr (sqN 1 x1tb)
theorem x1td{rec0:AV->AV->AV->AV->AV->AV->AV->Mem->Nat->O2}:x2en call hs u x101 (j7 (xl call hs u rec0) 0 1 2 10 31 32 33) (setE 2 (j7 (xl call hs u rec0) 0 1 2 10 31 32 33) (setE 1 (j7 (xl call hs u rec0) 0 1 2 10 31 32 33) (setE 0 (j1 (xr call hs u) 10) eNil)))=j10 (x8j call hs u rec0 NN) 0 1 2 10 11 12 13 31 32 33:=lp (Ln:=fun n=>j10 (x8j call hs u rec0 n) 0 1 2 10 11 12 13 31 32 33) fun n=>tr x1tc
theorem x1te{rec0:AV->AV->AV->AV->AV->AV->AV->Mem->Nat->O2}:x2en call hs u x100 (j7 (xl call hs u rec0) 0 1 2 10 31 32 33) (setE 1 (j7 (xl call hs u rec0) 0 1 2 10 31 32 33) (setE 0 (j1 (xr call hs u) 10) eNil))=j10 (x8j call hs u rec0 NN) 0 1 2 10 11 12 13 31 32 33:=bk x1td
theorem x1tf{rec0:AV->AV->AV->AV->AV->AV->AV->Mem->Nat->O2}:x2en call hs u xzz (j7 (xl call hs u rec0) 0 1 2 10 31 32 33) (setE 1 (j7 (xl call hs u rec0) 0 1 2 10 31 32 33) (setE 0 (j1 (xr call hs u) 10) eNil))=j7 (xck call hs u rec0) 0 1 2 10 31 32 33:=tr (sqN 2 x1te)
theorem x1tg{rec0:AV->AV->AV->AV->AV->AV->AV->Mem->Nat->O2}:x2en call hs u xzy (j7 (xl call hs u rec0) 0 1 2 10 31 32 33) (setE 0 (j1 (xr call hs u) 10) eNil)=j7 (xck call hs u rec0) 0 1 2 10 31 32 33:=bk x1tf
theorem x1th{rec0:AV->AV->AV->AV->AV->AV->AV->Mem->Nat->O2}:x2en call hs u xne (j7 rec0 0 1 2 10 31 32 33) (setE 0 (j1 (xr call hs u) 10) eNil)=j7 (xck call hs u rec0) 0 1 2 10 31 32 33:=sq2 x1t8 x1tg
theorem x1ti{rec0:AV->AV->AV->AV->AV->AV->AV->Mem->Nat->O2}:x2en call hs u xzx (j7 rec0 0 1 2 10 31 32 33) (setE 0 (j1 (xr call hs u) 10) eNil)=j7 (xq8 call hs u rec0) 0 1 2 10 31 32 33:=tr (sqN 2 x1th)
theorem x1tj:x2en call hs u xzw (j1 (xr call hs u) 10) (setE 0 (j1 (xr call hs u) 10) eNil)=j7 (x8k call hs u NN) 0 1 2 10 31 32 33:=lp (Ln:=fun n=>j7 (x8k call hs u n) 0 1 2 10 31 32 33) fun n=>tr x1ti
theorem x1tk:x2en call hs u xzv (j1 (xr call hs u) 10) eNil=j7 (x8k call hs u NN) 0 1 2 10 31 32 33:=bk x1tj
theorem x1tl:x2en call hs u xzu (j1 (xr call hs u) 10) eNil=j4 (xhy call hs u) 0 1 2 10:=tr (sqN 1 x1tk)
theorem x1tm:x2en call hs u xnd r_7 eNil=j4 (xhy call hs u) 0 1 2 10:=sq2 x1t7 x1tl
theorem x1d3:x2en call hs u xzt r_7 eNil=j3 (xq9 call hs u) 0 1 2:=tr (sqN 4 x1tm)
noncomputable abbrev x2eo:=VX x38 50 r_8
noncomputable def x103:=x2co x38
noncomputable def xng:=nRs 2 x103
noncomputable def x104:=nL xng
noncomputable def x1tn:=nR xng
noncomputable def x105:=nR x104
noncomputable def x106:=nR x105
noncomputable def x107:=nR x106
noncomputable def xnh:=nR x107
noncomputable def x108:=nL xnh
noncomputable def x1to:=nR xnh
noncomputable def x109:=nR x108
noncomputable def xni:=nRs 2 x109
noncomputable def x10a:=nL xni
noncomputable def x1tp:=nR xni
noncomputable def x10b:=nR x10a
noncomputable def x10c:=nR x10b
noncomputable def x1tq:=nR x10c
theorem x1tr:x2eo call hs u x1tn r_8 eNil=j0 (xm call hs u):=by kernel_rfl
theorem x1ts{rec0:AV->AV->Mem->Nat->O2}:x2eo call hs u x1to (j2 rec0 0 4) (setE 0 (j0 (xm call hs u)) eNil)=j2 (x13 call hs u rec0) 0 4:=by kernel_rfl
theorem x1tt{rec0:AV->AV->Mem->Nat->O2}:x2eo call hs u x1tp (j2 (x13 call hs u rec0) 0 4) (setE 1 (j2 (x13 call hs u rec0) 0 4) (setE 0 (j0 (xm call hs u)) eNil))=j3 (x2r call hs u rec0) 0 4 5:=by kernel_rfl
theorem x1tu{rec0:AV->AV->Mem->Nat->O2}{rec1:AV->AV->AV->AV->Mem->Nat->O2}:x2eo call hs u x1tq (j4 rec1 0 4 5 6) (setE 2 (j3 (x2r call hs u rec0) 0 4 5) (setE 1 (j2 (x13 call hs u rec0) 0 4) (setE 0 (j0 (xm call hs u)) eNil)))=j4 (xcl call hs u rec0 rec1) 0 4 5 6:=by kernel_rfl
theorem x1tv{rec0:AV->AV->Mem->Nat->O2}:x2eo call hs u x10c (j3 (x2r call hs u rec0) 0 4 5) (setE 2 (j3 (x2r call hs u rec0) 0 4 5) (setE 1 (j2 (x13 call hs u rec0) 0 4) (setE 0 (j0 (xm call hs u)) eNil)))=j4 (x3z call hs u rec0 NN) 0 4 5 6:=lp (Ln:=fun n=>j4 (x3z call hs u rec0 n) 0 4 5 6) fun n=>tr x1tu
theorem x1tw{rec0:AV->AV->Mem->Nat->O2}:x2eo call hs u x10b (j3 (x2r call hs u rec0) 0 4 5) (setE 1 (j2 (x13 call hs u rec0) 0 4) (setE 0 (j0 (xm call hs u)) eNil))=j4 (x3z call hs u rec0 NN) 0 4 5 6:=bk x1tv
theorem x1tx{rec0:AV->AV->Mem->Nat->O2}:x2eo call hs u x10a (j3 (x2r call hs u rec0) 0 4 5) (setE 1 (j2 (x13 call hs u rec0) 0 4) (setE 0 (j0 (xm call hs u)) eNil))=j3 (xcm call hs u rec0) 0 4 5:=tr (sqN 1 x1tw)
theorem x1ty{rec0:AV->AV->Mem->Nat->O2}:x2eo call hs u xni (j2 (x13 call hs u rec0) 0 4) (setE 1 (j2 (x13 call hs u rec0) 0 4) (setE 0 (j0 (xm call hs u)) eNil))=j3 (xcm call hs u rec0) 0 4 5:=sq2 x1tt x1tx
theorem x1tz{rec0:AV->AV->Mem->Nat->O2}:x2eo call hs u x109 (j2 (x13 call hs u rec0) 0 4) (setE 1 (j2 (x13 call hs u rec0) 0 4) (setE 0 (j0 (xm call hs u)) eNil))=j2 (x8l call hs u rec0) 0 4:=tr (sqN 2 x1ty)
theorem x1u0{rec0:AV->AV->Mem->Nat->O2}:x2eo call hs u x108 (j2 (x13 call hs u rec0) 0 4) (setE 0 (j0 (xm call hs u)) eNil)=j2 (x8l call hs u rec0) 0 4:=bk x1tz
theorem x1u1{rec0:AV->AV->Mem->Nat->O2}:x2eo call hs u xnh (j2 rec0 0 4) (setE 0 (j0 (xm call hs u)) eNil)=j2 (x8l call hs u rec0) 0 4:=sq2 x1ts x1u0
theorem x1u2{rec0:AV->AV->Mem->Nat->O2}:x2eo call hs u x107 (j2 rec0 0 4) (setE 0 (j0 (xm call hs u)) eNil)=j2 (xcn call hs u rec0) 0 4:=tr (sqN 1 x1u1)
theorem x1u3:x2eo call hs u x106 (j0 (xm call hs u)) (setE 0 (j0 (xm call hs u)) eNil)=j2 (x20 call hs u NN) 0 4:=lp (Ln:=fun n=>j2 (x20 call hs u n) 0 4) fun n=>tr x1u2
theorem x1u4:x2eo call hs u x105 (j0 (xm call hs u)) eNil=j2 (x20 call hs u NN) 0 4:=bk x1u3
theorem x1u5:x2eo call hs u x104 (j0 (xm call hs u)) eNil=j1 (xco call hs u) 0:=tr (sqN 1 x1u4)
theorem x1u6:x2eo call hs u xng r_8 eNil=j1 (xco call hs u) 0:=sq2 x1tr x1u5
theorem x1d4:x2eo call hs u x103 r_8 eNil=j1 (xhz call hs u) 0:=tr (sqN 2 x1u6)
noncomputable abbrev x2ep:=VX xay 61 r_1
noncomputable def x10d:=x2co xay
noncomputable def xnj:=nRs 2 x10d
noncomputable def x10e:=nL xnj
noncomputable def x1u7:=nR xnj
noncomputable def x10f:=nR x10e
noncomputable def x10g:=nR x10f
noncomputable def x10h:=nR x10g
noncomputable def xnk:=nR x10h
noncomputable def x10i:=nL xnk
noncomputable def x1u8:=nR xnk
noncomputable def x10j:=nR x10i
noncomputable def x10k:=nR x10j
noncomputable def x10l:=nR x10k
noncomputable def x10m:=nR x10l
noncomputable def xnl:=nR x10m
noncomputable def x1u9:=nL xnl
noncomputable def x1ua:=nR xnl
theorem x1ub:x2ep call hs u x1u7 r_1 eNil=j1 (xt call hs u) 7:=by kernel_rfl
theorem x1uc{rec0:AV->AV->AV->AV->AV->Mem->Nat->O2}:x2ep call hs u x1u8 (j5 rec0 0 1 2 7 8) (setE 0 (j1 (xt call hs u) 7) eNil)=j5 (xo call hs u rec0) 0 1 2 7 8:=by kernel_rfl
theorem x1ud{rec0:AV->AV->AV->AV->AV->Mem->Nat->O2}{rec1:AV->AV->AV->AV->AV->AV->Mem->Nat->O2}:x2ep call hs u x1ua (j6 rec1 0 1 2 7 8 9) (setE 2 (j5 (xo call hs u rec0) 0 1 2 7 8) (setE 1 (j5 (xo call hs u rec0) 0 1 2 7 8) (setE 0 (j1 (xt call hs u) 7) eNil)))=j6 (xcp call hs u rec0 rec1) 0 1 2 7 8 9:=by kernel_rfl
theorem x1ue{rec0:AV->AV->AV->AV->AV->Mem->Nat->O2}{rec1:AV->AV->AV->AV->AV->AV->Mem->Nat->O2}:x2ep call hs u x1u9 (j6 (xcp call hs u rec0 rec1) 0 1 2 7 8 9) (setE 2 (j5 (xo call hs u rec0) 0 1 2 7 8) (setE 1 (j5 (xo call hs u rec0) 0 1 2 7 8) (setE 0 (j1 (xt call hs u) 7) eNil)))=j6 (xi0 call hs u rec0 rec1) 0 1 2 7 8 9:=by kernel_rfl
theorem x1uf{rec0:AV->AV->AV->AV->AV->Mem->Nat->O2}{rec1:AV->AV->AV->AV->AV->AV->Mem->Nat->O2}:x2ep call hs u xnl (j6 rec1 0 1 2 7 8 9) (setE 2 (j5 (xo call hs u rec0) 0 1 2 7 8) (setE 1 (j5 (xo call hs u rec0) 0 1 2 7 8) (setE 0 (j1 (xt call hs u) 7) eNil)))=j6 (xi0 call hs u rec0 rec1) 0 1 2 7 8 9:=sq2 x1ud x1ue
theorem x1ug{rec0:AV->AV->AV->AV->AV->Mem->Nat->O2}{rec1:AV->AV->AV->AV->AV->AV->Mem->Nat->O2}:x2ep call hs u x10m (j6 rec1 0 1 2 7 8 9) (setE 2 (j5 (xo call hs u rec0) 0 1 2 7 8) (setE 1 (j5 (xo call hs u rec0) 0 1 2 7 8) (setE 0 (j1 (xt call hs u) 7) eNil)))=j6 (xqa call hs u rec0 rec1) 0 1 2 7 8 9:=tr (sqN 1 x1uf)
theorem x1uh{rec0:AV->AV->AV->AV->AV->Mem->Nat->O2}:x2ep call hs u x10l (j5 (xo call hs u rec0) 0 1 2 7 8) (setE 2 (j5 (xo call hs u rec0) 0 1 2 7 8) (setE 1 (j5 (xo call hs u rec0) 0 1 2 7 8) (setE 0 (j1 (xt call hs u) 7) eNil)))=j6 (x8m call hs u rec0 NN) 0 1 2 7 8 9:=lp (Ln:=fun n=>j6 (x8m call hs u rec0 n) 0 1 2 7 8 9) fun n=>tr x1ug
theorem x1ui{rec0:AV->AV->AV->AV->AV->Mem->Nat->O2}:x2ep call hs u x10k (j5 (xo call hs u rec0) 0 1 2 7 8) (setE 1 (j5 (xo call hs u rec0) 0 1 2 7 8) (setE 0 (j1 (xt call hs u) 7) eNil))=j6 (x8m call hs u rec0 NN) 0 1 2 7 8 9:=bk x1uh
theorem x1uj{rec0:AV->AV->AV->AV->AV->Mem->Nat->O2}:x2ep call hs u x10j (j5 (xo call hs u rec0) 0 1 2 7 8) (setE 1 (j5 (xo call hs u rec0) 0 1 2 7 8) (setE 0 (j1 (xt call hs u) 7) eNil))=j5 (xcq call hs u rec0) 0 1 2 7 8:=tr (sqN 1 x1ui)
theorem x1uk{rec0:AV->AV->AV->AV->AV->Mem->Nat->O2}:x2ep call hs u x10i (j5 (xo call hs u rec0) 0 1 2 7 8) (setE 0 (j1 (xt call hs u) 7) eNil)=j5 (xcq call hs u rec0) 0 1 2 7 8:=bk x1uj
theorem x1ul{rec0:AV->AV->AV->AV->AV->Mem->Nat->O2}:x2ep call hs u xnk (j5 rec0 0 1 2 7 8) (setE 0 (j1 (xt call hs u) 7) eNil)=j5 (xcq call hs u rec0) 0 1 2 7 8:=sq2 x1uc x1uk
theorem x1um{rec0:AV->AV->AV->AV->AV->Mem->Nat->O2}:x2ep call hs u x10h (j5 rec0 0 1 2 7 8) (setE 0 (j1 (xt call hs u) 7) eNil)=j5 (xqb call hs u rec0) 0 1 2 7 8:=tr (sqN 1 x1ul)
theorem x1un:x2ep call hs u x10g (j1 (xt call hs u) 7) (setE 0 (j1 (xt call hs u) 7) eNil)=j5 (x8n call hs u NN) 0 1 2 7 8:=lp (Ln:=fun n=>j5 (x8n call hs u n) 0 1 2 7 8) fun n=>tr x1um
theorem x1uo:x2ep call hs u x10f (j1 (xt call hs u) 7) eNil=j5 (x8n call hs u NN) 0 1 2 7 8:=bk x1un
theorem x1up:x2ep call hs u x10e (j1 (xt call hs u) 7) eNil=j4 (xi1 call hs u) 0 1 2 7:=tr (sqN 1 x1uo)
theorem x1uq:x2ep call hs u xnj r_1 eNil=j4 (xi1 call hs u) 0 1 2 7:=sq2 x1ub x1up
theorem x1d5:x2ep call hs u x10d r_1 eNil=j3 (xqc call hs u) 0 1 2:=tr (sqN 2 x1uq)
noncomputable abbrev x2ik:=VX xaz 26 r_0
noncomputable def x10n:=x2co xaz
noncomputable def xnm:=nRs 2 x10n
noncomputable def x10o:=nL xnm
noncomputable def x1ur:=nR xnm
noncomputable def x10p:=nR x10o
noncomputable def x10q:=nR x10p
noncomputable def x1us:=nR x10q
theorem x1ut:x2ik call hs u x1ur r_0 eNil=j0 (x5y call hs u):=by kernel_rfl
theorem x1uu{rec0:AV->AV->AV->Mem->Nat->O2}:x2ik call hs u x1us (j3 rec0 0 1 5) (setE 0 (j0 (x5y call hs u)) eNil)=j3 (xqd call hs u rec0) 0 1 5:=by kernel_rfl
theorem x1uv:x2ik call hs u x10q (j0 (x5y call hs u)) (setE 0 (j0 (x5y call hs u)) eNil)=j3 (x8o call hs u NN) 0 1 5:=lp (Ln:=fun n=>j3 (x8o call hs u n) 0 1 5) fun n=>tr x1uu
theorem x1uw:x2ik call hs u x10p (j0 (x5y call hs u)) eNil=j3 (x8o call hs u NN) 0 1 5:=bk x1uv
theorem x1ux:x2ik call hs u x10o (j0 (x5y call hs u)) eNil=j2 (xi2 call hs u) 0 1:=tr (sqN 1 x1uw)
theorem x1uy:x2ik call hs u xnm r_0 eNil=j2 (xi2 call hs u) 0 1:=sq2 x1ut x1ux
theorem x1d6:x2ik call hs u x10n r_0 eNil=j2 (xqe call hs u) 0 1:=tr (sqN 2 x1uy)
noncomputable abbrev x2il:=VX x6o 53 r_3
noncomputable def x10r:=x2co x6o
noncomputable def xnn:=nRs 2 x10r
noncomputable def x10s:=nL xnn
noncomputable def x1uz:=nR xnn
noncomputable def x10t:=nR x10s
noncomputable def x10u:=nR x10t
noncomputable def x1v0:=nR x10u
theorem x1v1:x2il call hs u x1uz r_3 eNil=j0 (x40 call hs u):=by kernel_rfl
theorem x1v2{rec0:AV->AV->Mem->Nat->O2}:x2il call hs u x1v0 (j2 rec0 1 3) (setE 0 (j0 (x40 call hs u)) eNil)=j2 (xcr call hs u rec0) 1 3:=by kernel_rfl
theorem x1v3:x2il call hs u x10u (j0 (x40 call hs u)) (setE 0 (j0 (x40 call hs u)) eNil)=j2 (x41 call hs u NN) 1 3:=lp (Ln:=fun n=>j2 (x41 call hs u n) 1 3) fun n=>tr x1v2
theorem x1v4:x2il call hs u x10t (j0 (x40 call hs u)) eNil=j2 (x41 call hs u NN) 1 3:=bk x1v3
theorem x1v5:x2il call hs u x10s (j0 (x40 call hs u)) eNil=j1 (x8p call hs u) 1:=tr (sqN 1 x1v4)
theorem x1v6:x2il call hs u xnn r_3 eNil=j1 (x8p call hs u) 1:=sq2 x1v1 x1v5
theorem x1d7:x2il call hs u x10r r_3 eNil=j1 (xi3 call hs u) 0:=tr (sqN 2 x1v6)
noncomputable abbrev x2im:=VX xfy 64 r_6
noncomputable def x10v:=x2co xfy
noncomputable def xno:=nRs 3 x10v
noncomputable def x10w:=nL xno
noncomputable def x1v7:=nR xno
noncomputable def x10x:=nR x10w
noncomputable def x10y:=nR x10x
noncomputable def x1v8:=nR x10y
theorem x1v9:x2im call hs u x1v7 r_6 eNil=j3 (x5z call hs u) 1 2 7:=by kernel_rfl
theorem x1va{rec0:AV->AV->AV->AV->AV->AV->Mem->Nat->O2}:x2im call hs u x1v8 (j6 rec0 1 2 7 19 20 21) (setE 0 (j3 (x5z call hs u) 1 2 7) eNil)=j6 (xqf call hs u rec0) 1 2 7 19 20 21:=by kernel_rfl
theorem x1vb:x2im call hs u x10y (j3 (x5z call hs u) 1 2 7) (setE 0 (j3 (x5z call hs u) 1 2 7) eNil)=j6 (x8q call hs u NN) 1 2 7 19 20 21:=lp (Ln:=fun n=>j6 (x8q call hs u n) 1 2 7 19 20 21) fun n=>tr x1va
theorem x1vc:x2im call hs u x10x (j3 (x5z call hs u) 1 2 7) eNil=j6 (x8q call hs u NN) 1 2 7 19 20 21:=bk x1vb
theorem x1vd:x2im call hs u x10w (j3 (x5z call hs u) 1 2 7) eNil=j3 (xi4 call hs u) 1 2 7:=tr (sqN 1 x1vc)
theorem x1ve:x2im call hs u xno r_6 eNil=j3 (xi4 call hs u) 1 2 7:=sq2 x1v9 x1vd
theorem x1d8:x2im call hs u x10v r_6 eNil=j2 (xqg call hs u) 0 1:=tr (sqN 3 x1ve)
noncomputable abbrev x2ti:=VX x5e 12 r_9
noncomputable def x1vf:=x2co x5e
theorem x1d9:x2ti call hs u x1vf r_9 eNil=j1 (xi5 call hs u) 0:=by kernel_rfl
noncomputable abbrev x2tj:=VX x39 6 r_3
noncomputable def x1vg:=x2co x39
theorem x1da:x2tj call hs u x1vg r_3 eNil=j1 (xi6 call hs u) 0:=by kernel_rfl
noncomputable abbrev x2tk:=VX x6p 11 r_3
noncomputable def x1vh:=x2co x6p
theorem x1db:x2tk call hs u x1vh r_3 eNil=j1 (xi7 call hs u) 0:=by kernel_rfl
noncomputable abbrev x2fh:=VX xg2 109 r_6
noncomputable def x10z:=x2co xg2
noncomputable def xnp:=nRs 2 x10z
noncomputable def x110:=nL xnp
noncomputable def x111:=nR xnp
noncomputable def xnq:=nR x111
noncomputable def x112:=nL xnq
noncomputable def x1vi:=nR xnq
noncomputable def x113:=nR x112
noncomputable def x114:=nR x113
noncomputable def x1vj:=nR x114
noncomputable def x115:=nR x110
noncomputable def x116:=nR x115
noncomputable def x1vk:=nR x116
theorem x1vl:x2fh call hs u x1vi r_6 eNil=j1 (x60 call hs u) 6:=by kernel_rfl
theorem x1vm{rec0:AV->AV->AV->AV->Mem->Nat->O2}:x2fh call hs u x1vj (j4 rec0 2 6 9 10) (setE 2 (j1 (x60 call hs u) 6) eNil)=j4 (xqh call hs u rec0) 2 6 9 10:=by kernel_rfl
theorem x1vn:x2fh call hs u x114 (j1 (x60 call hs u) 6) (setE 2 (j1 (x60 call hs u) 6) eNil)=j4 (x8s call hs u NN) 2 6 9 10:=lp (Ln:=fun n=>j4 (x8s call hs u n) 2 6 9 10) fun n=>tr x1vm
theorem x1vo:x2fh call hs u x113 (j1 (x60 call hs u) 6) eNil=j4 (x8s call hs u NN) 2 6 9 10:=bk x1vn
theorem x1vp:x2fh call hs u x112 (j1 (x60 call hs u) 6) eNil=j3 (xi8 call hs u) 2 6 9:=tr (sqN 1 x1vo)
theorem x1vq:x2fh call hs u xnq r_6 eNil=j3 (xi8 call hs u) 2 6 9:=sq2 x1vl x1vp
theorem x1vr:x2fh call hs u x111 r_6 eNil=j3 (x61 call hs u) 1 2 6:=tr (sqN 1 x1vq)
theorem x1vs{rec1:AV->AV->AV->AV->Mem->Nat->O2}:x2fh call hs u x1vk (j4 rec1 1 2 6 7) (setE 0 (j3 (x61 call hs u) 1 2 6) eNil)=j4 (xqi call hs u rec1) 1 2 6 7:=by kernel_rfl
theorem x1vt:x2fh call hs u x116 (j3 (x61 call hs u) 1 2 6) (setE 0 (j3 (x61 call hs u) 1 2 6) eNil)=j4 (x8t call hs u NN) 1 2 6 7:=lp (Ln:=fun n=>j4 (x8t call hs u n) 1 2 6 7) fun n=>tr x1vs
theorem x1vu:x2fh call hs u x115 (j3 (x61 call hs u) 1 2 6) eNil=j4 (x8t call hs u NN) 1 2 6 7:=bk x1vt
theorem x1vv:x2fh call hs u x110 (j3 (x61 call hs u) 1 2 6) eNil=j3 (xi9 call hs u) 1 2 6:=tr (sqN 1 x1vu)
theorem x1vw:x2fh call hs u xnp r_6 eNil=j3 (xi9 call hs u) 1 2 6:=sq2 x1vr x1vv
theorem x1dc:x2fh call hs u x10z r_6 eNil=j2 (xqj call hs u) 0 1:=tr (sqN 2 x1vw)
noncomputable abbrev x2gm:=VX xb0 51 r_8
noncomputable def x117:=x2co xb0
noncomputable def xnr:=nRs 6 x117
noncomputable def x118:=nL xnr
noncomputable def x1vx:=nR xnr
noncomputable def x119:=nR x118
noncomputable def x11a:=nR x119
noncomputable def x11b:=nR x11a
noncomputable def xns:=nRs 2 x11b
noncomputable def x1vy:=nL xns
noncomputable def x1vz:=nR xns
theorem x1w0:x2gm call hs u x1vx r_8 eNil=j1 (x21 call hs u) 7:=by kernel_rfl
theorem x1w1{rec0:AV->AV->AV->AV->AV->Mem->Nat->O2}:x2gm call hs u x1vz (j5 rec0 6 7 27 28 29) (setE 0 (j1 (x21 call hs u) 7) eNil)=j5 (xcs call hs u rec0) 6 7 27 28 29:=by kernel_rfl
theorem x1w2{rec0:AV->AV->AV->AV->AV->Mem->Nat->O2}:x2gm call hs u x1vy (j5 (xcs call hs u rec0) 6 7 27 28 29) (setE 0 (j1 (x21 call hs u) 7) eNil)=j5 (xia call hs u rec0) 6 7 27 28 29:=by kernel_rfl
theorem x1w3{rec0:AV->AV->AV->AV->AV->Mem->Nat->O2}:x2gm call hs u xns (j5 rec0 6 7 27 28 29) (setE 0 (j1 (x21 call hs u) 7) eNil)=j5 (xia call hs u rec0) 6 7 27 28 29:=sq2 x1w1 x1w2
theorem x1w4{rec0:AV->AV->AV->AV->AV->Mem->Nat->O2}:x2gm call hs u x11b (j5 rec0 6 7 27 28 29) (setE 0 (j1 (x21 call hs u) 7) eNil)=j5 (xqk call hs u rec0) 6 7 27 28 29:=tr (sqN 2 x1w3)
theorem x1w5:x2gm call hs u x11a (j1 (x21 call hs u) 7) (setE 0 (j1 (x21 call hs u) 7) eNil)=j5 (x8u call hs u NN) 6 7 27 28 29:=lp (Ln:=fun n=>j5 (x8u call hs u n) 6 7 27 28 29) fun n=>tr x1w4
theorem x1w6:x2gm call hs u x119 (j1 (x21 call hs u) 7) eNil=j5 (x8u call hs u NN) 6 7 27 28 29:=bk x1w5
theorem x1w7:x2gm call hs u x118 (j1 (x21 call hs u) 7) eNil=j3 (xib call hs u) 4 6 7:=tr (sqN 1 x1w6)
theorem x1w8:x2gm call hs u xnr r_8 eNil=j3 (xib call hs u) 4 6 7:=sq2 x1w0 x1w7
theorem x1dd:x2gm call hs u x117 r_8 eNil=j1 (xql call hs u) 0:=tr (sqN 6 x1w8)
noncomputable abbrev x2in:=VX xb1 60 r_10
noncomputable def x11c:=x2co xb1
noncomputable def xnt:=nRs 6 x11c
noncomputable def x11d:=nL xnt
noncomputable def x1w9:=nR xnt
noncomputable def x11e:=nR x11d
noncomputable def x11f:=nR x11e
noncomputable def x1wa:=nR x11f
theorem x1wb:x2in call hs u x1w9 r_10 eNil=j3 (x62 call hs u) 9 10 11:=by kernel_rfl
theorem x1wc{rec0:AV->AV->AV->AV->AV->AV->AV->Mem->Nat->O2}:x2in call hs u x1wa (j7 rec0 8 9 10 11 33 34 35) (setE 0 (j3 (x62 call hs u) 9 10 11) eNil)=j7 (xqm call hs u rec0) 8 9 10 11 33 34 35:=by kernel_rfl
theorem x1wd:x2in call hs u x11f (j3 (x62 call hs u) 9 10 11) (setE 0 (j3 (x62 call hs u) 9 10 11) eNil)=j7 (x8v call hs u NN) 8 9 10 11 33 34 35:=lp (Ln:=fun n=>j7 (x8v call hs u n) 8 9 10 11 33 34 35) fun n=>tr x1wc
theorem x1we:x2in call hs u x11e (j3 (x62 call hs u) 9 10 11) eNil=j7 (x8v call hs u NN) 8 9 10 11 33 34 35:=bk x1wd
theorem x1wf:x2in call hs u x11d (j3 (x62 call hs u) 9 10 11) eNil=j5 (xic call hs u) 6 8 9 10 11:=tr (sqN 1 x1we)
theorem x1wg:x2in call hs u xnt r_10 eNil=j5 (xic call hs u) 6 8 9 10 11:=sq2 x1wb x1wf
theorem x1de:x2in call hs u x11c r_10 eNil=j1 (xqn call hs u) 0:=tr (sqN 6 x1wg)
noncomputable abbrev x2io:=VX x3a 18 r_0
noncomputable def x11g:=x2co x3a
noncomputable def xnu:=nR x11g
noncomputable def x11h:=nL xnu
noncomputable def x1wh:=nR xnu
noncomputable def x11i:=nR x11h
noncomputable def x11j:=nR x11i
noncomputable def x1wi:=nR x11j
theorem x1wj:x2io call hs u x1wh r_0 eNil=j0 (x42 call hs u):=by kernel_rfl
theorem x1wk{rec0:AV->AV->AV->Mem->Nat->O2}:x2io call hs u x1wi (j3 rec0 0 1 5) (setE 0 (j0 (x42 call hs u)) eNil)=j3 (xct call hs u rec0) 0 1 5:=by kernel_rfl
theorem x1wl:x2io call hs u x11j (j0 (x42 call hs u)) (setE 0 (j0 (x42 call hs u)) eNil)=j3 (x43 call hs u NN) 0 1 5:=lp (Ln:=fun n=>j3 (x43 call hs u n) 0 1 5) fun n=>tr x1wk
theorem x1wm:x2io call hs u x11i (j0 (x42 call hs u)) eNil=j3 (x43 call hs u NN) 0 1 5:=bk x1wl
theorem x1wn:x2io call hs u x11h (j0 (x42 call hs u)) eNil=j2 (xid call hs u) 0 1:=tr (sqN 1 x1wm)
theorem x1wo:x2io call hs u xnu r_0 eNil=j2 (xid call hs u) 0 1:=sq2 x1wj x1wn
theorem x1df:x2io call hs u x11g r_0 eNil=j2 (xqo call hs u) 0 1:=tr (sqN 1 x1wo)
noncomputable abbrev x2tl:=VX x5f 8 r_3
noncomputable def x1wp:=x2co x5f
theorem x1dg:x2tl call hs u x1wp r_3 eNil=j1 (xie call hs u) 0:=by kernel_rfl
noncomputable abbrev x2f8:=VX xg4 70 r_0
noncomputable def x11k:=x2co xg4
noncomputable def xnv:=nRs 4 x11k
noncomputable def x11l:=nL xnv
noncomputable def x1wq:=nR xnv
noncomputable def x11m:=nR x11l
noncomputable def x11n:=nR x11m
noncomputable def x11o:=nR x11n
noncomputable def xnw:=nRs 2 x11o
noncomputable def x11p:=nL xnw
noncomputable def x1wr:=nR xnw
noncomputable def x11q:=nR x11p
noncomputable def xnx:=nRs 3 x11q
noncomputable def x1ws:=nL xnx
noncomputable def x1wt:=nR xnx
theorem x1wu:x2f8 call hs u x1wq r_0 eNil=j2 (x14 call hs u) 6 7:=by kernel_rfl
theorem x1wv{rec0:AV->AV->AV->AV->AV->AV->Mem->Nat->O2}:x2f8 call hs u x1wr (j6 rec0 2 6 7 25 26 27) (setE 1 (j2 (x14 call hs u) 6 7) eNil)=j6 (x22 call hs u rec0) 2 6 7 25 26 27:=by kernel_rfl
theorem x1ww{rec0:AV->AV->AV->AV->AV->AV->Mem->Nat->O2}:x2f8 call hs u x1wt (j6 (x22 call hs u rec0) 2 6 7 25 26 27) (setE 2 (j6 (x22 call hs u rec0) 2 6 7 25 26 27) (setE 1 (j2 (x14 call hs u) 6 7) eNil))=j6 (xcu call hs u rec0) 2 6 11 25 26 27:=by kernel_rfl
theorem x1wx{rec0:AV->AV->AV->AV->AV->AV->Mem->Nat->O2}:x2f8 call hs u x1ws (j6 (xcu call hs u rec0) 2 6 11 25 26 27) (setE 2 (j6 (x22 call hs u rec0) 2 6 7 25 26 27) (setE 1 (j2 (x14 call hs u) 6 7) eNil))=j9 (xif call hs u rec0) 2 6 7 8 10 11 25 26 27:=by kernel_rfl
theorem x1wy{rec0:AV->AV->AV->AV->AV->AV->Mem->Nat->O2}:x2f8 call hs u xnx (j6 (x22 call hs u rec0) 2 6 7 25 26 27) (setE 2 (j6 (x22 call hs u rec0) 2 6 7 25 26 27) (setE 1 (j2 (x14 call hs u) 6 7) eNil))=j9 (xif call hs u rec0) 2 6 7 8 10 11 25 26 27:=sq2 x1ww x1wx
theorem x1wz{rec0:AV->AV->AV->AV->AV->AV->Mem->Nat->O2}:x2f8 call hs u x11q (j6 (x22 call hs u rec0) 2 6 7 25 26 27) (setE 2 (j6 (x22 call hs u rec0) 2 6 7 25 26 27) (setE 1 (j2 (x14 call hs u) 6 7) eNil))=j6 (xcv call hs u rec0) 2 6 7 25 26 27:=tr (sqN 3 x1wy)
theorem x1x0{rec0:AV->AV->AV->AV->AV->AV->Mem->Nat->O2}:x2f8 call hs u x11p (j6 (x22 call hs u rec0) 2 6 7 25 26 27) (setE 1 (j2 (x14 call hs u) 6 7) eNil)=j6 (xcv call hs u rec0) 2 6 7 25 26 27:=bk x1wz
theorem x1x1{rec0:AV->AV->AV->AV->AV->AV->Mem->Nat->O2}:x2f8 call hs u xnw (j6 rec0 2 6 7 25 26 27) (setE 1 (j2 (x14 call hs u) 6 7) eNil)=j6 (xcv call hs u rec0) 2 6 7 25 26 27:=sq2 x1wv x1x0
theorem x1x2{rec0:AV->AV->AV->AV->AV->AV->Mem->Nat->O2}:x2f8 call hs u x11o (j6 rec0 2 6 7 25 26 27) (setE 1 (j2 (x14 call hs u) 6 7) eNil)=j6 (xqp call hs u rec0) 2 6 7 25 26 27:=tr (sqN 2 x1x1)
theorem x1x3:x2f8 call hs u x11n (j2 (x14 call hs u) 6 7) (setE 1 (j2 (x14 call hs u) 6 7) eNil)=j6 (x8w call hs u NN) 2 6 7 25 26 27:=lp (Ln:=fun n=>j6 (x8w call hs u n) 2 6 7 25 26 27) fun n=>tr x1x2
theorem x1x4:x2f8 call hs u x11m (j2 (x14 call hs u) 6 7) eNil=j6 (x8w call hs u NN) 2 6 7 25 26 27:=bk x1x3
theorem x1x5:x2f8 call hs u x11l (j2 (x14 call hs u) 6 7) eNil=j4 (xig call hs u) 1 2 6 7:=tr (sqN 1 x1x4)
theorem x1x6:x2f8 call hs u xnv r_0 eNil=j4 (xig call hs u) 1 2 6 7:=sq2 x1wu x1x5
theorem x1dh:x2f8 call hs u x11k r_0 eNil=j2 (xqq call hs u) 0 1:=tr (sqN 4 x1x6)
noncomputable abbrev x2f9:=VX xg5 59 r_0
noncomputable def x11r:=x2co xg5
noncomputable def xny:=nRs 4 x11r
noncomputable def x11s:=nL xny
noncomputable def x1x7:=nR xny
noncomputable def x11t:=nR x11s
noncomputable def x11u:=nR x11t
noncomputable def x11v:=nR x11u
noncomputable def xnz:=nR x11v
noncomputable def x11w:=nL xnz
noncomputable def x1x8:=nR xnz
noncomputable def x11x:=nR x11w
noncomputable def xo0:=nRs 4 x11x
noncomputable def x1x9:=nL xo0
noncomputable def x1xa:=nR xo0
theorem x1xb:x2f9 call hs u x1x7 r_0 eNil=j2 (x15 call hs u) 5 6:=by kernel_rfl
theorem x1xc{rec0:AV->AV->AV->AV->AV->Mem->Nat->O2}:x2f9 call hs u x1x8 (j5 rec0 1 2 5 6 7) (setE 0 (j2 (x15 call hs u) 5 6) eNil)=j5 (x23 call hs u rec0) 1 2 5 6 7:=by kernel_rfl
theorem x1xd{rec0:AV->AV->AV->AV->AV->Mem->Nat->O2}:x2f9 call hs u x1xa (j5 (x23 call hs u rec0) 1 2 5 6 7) (setE 1 (j5 (x23 call hs u rec0) 1 2 5 6 7) (setE 0 (j2 (x15 call hs u) 5 6) eNil))=j5 (xcw call hs u rec0) 1 2 5 7 10:=by kernel_rfl
theorem x1xe{rec0:AV->AV->AV->AV->AV->Mem->Nat->O2}:x2f9 call hs u x1x9 (j5 (xcw call hs u rec0) 1 2 5 7 10) (setE 1 (j5 (x23 call hs u rec0) 1 2 5 6 7) (setE 0 (j2 (x15 call hs u) 5 6) eNil))=j7 (xih call hs u rec0) 1 2 5 6 7 9 10:=by kernel_rfl
theorem x1xf{rec0:AV->AV->AV->AV->AV->Mem->Nat->O2}:x2f9 call hs u xo0 (j5 (x23 call hs u rec0) 1 2 5 6 7) (setE 1 (j5 (x23 call hs u rec0) 1 2 5 6 7) (setE 0 (j2 (x15 call hs u) 5 6) eNil))=j7 (xih call hs u rec0) 1 2 5 6 7 9 10:=sq2 x1xd x1xe
theorem x1xg{rec0:AV->AV->AV->AV->AV->Mem->Nat->O2}:x2f9 call hs u x11x (j5 (x23 call hs u rec0) 1 2 5 6 7) (setE 1 (j5 (x23 call hs u rec0) 1 2 5 6 7) (setE 0 (j2 (x15 call hs u) 5 6) eNil))=j5 (xcx call hs u rec0) 1 2 5 6 7:=tr (sqN 4 x1xf)
theorem x1xh{rec0:AV->AV->AV->AV->AV->Mem->Nat->O2}:x2f9 call hs u x11w (j5 (x23 call hs u rec0) 1 2 5 6 7) (setE 0 (j2 (x15 call hs u) 5 6) eNil)=j5 (xcx call hs u rec0) 1 2 5 6 7:=bk x1xg
theorem x1xi{rec0:AV->AV->AV->AV->AV->Mem->Nat->O2}:x2f9 call hs u xnz (j5 rec0 1 2 5 6 7) (setE 0 (j2 (x15 call hs u) 5 6) eNil)=j5 (xcx call hs u rec0) 1 2 5 6 7:=sq2 x1xc x1xh
theorem x1xj{rec0:AV->AV->AV->AV->AV->Mem->Nat->O2}:x2f9 call hs u x11v (j5 rec0 1 2 5 6 7) (setE 0 (j2 (x15 call hs u) 5 6) eNil)=j5 (xqr call hs u rec0) 1 2 5 6 7:=tr (sqN 1 x1xi)
theorem x1xk:x2f9 call hs u x11u (j2 (x15 call hs u) 5 6) (setE 0 (j2 (x15 call hs u) 5 6) eNil)=j5 (x8x call hs u NN) 1 2 5 6 7:=lp (Ln:=fun n=>j5 (x8x call hs u n) 1 2 5 6 7) fun n=>tr x1xj
theorem x1xl:x2f9 call hs u x11t (j2 (x15 call hs u) 5 6) eNil=j5 (x8x call hs u NN) 1 2 5 6 7:=bk x1xk
theorem x1xm:x2f9 call hs u x11s (j2 (x15 call hs u) 5 6) eNil=j4 (xii call hs u) 1 2 5 6:=tr (sqN 1 x1xl)
theorem x1xn:x2f9 call hs u xny r_0 eNil=j4 (xii call hs u) 1 2 5 6:=sq2 x1xb x1xm
theorem x1di:x2f9 call hs u x11r r_0 eNil=j2 (xqs call hs u) 0 1:=tr (sqN 4 x1xn)
noncomputable abbrev x2tm:=VX xb2 20 r_11
noncomputable def x1xo:=x2co xb2
theorem x1dj:x2tm call hs u x1xo r_11 eNil=j1 (xqt call hs u) 0:=by kernel_rfl
noncomputable abbrev x2fs:=VX xg6 91 r_6
noncomputable def x11y:=x2co xg6
noncomputable def xo1:=nRs 4 x11y
noncomputable def x11z:=nL xo1
noncomputable def xo2:=nR xo1
noncomputable def x120:=nL xo2
noncomputable def x1xp:=nR xo2
noncomputable def x121:=nR x120
noncomputable def x122:=nR x121
noncomputable def x1xq:=nR x122
noncomputable def x123:=nR x11z
noncomputable def x124:=nR x123
noncomputable def x1xr:=nR x124
theorem x1xs:x2fs call hs u x1xp r_6 eNil=j1 (x63 call hs u) 7:=by kernel_rfl
theorem x1xt{rec0:AV->AV->AV->AV->Mem->Nat->O2}:x2fs call hs u x1xq (j4 rec0 2 6 7 10) (setE 2 (j1 (x63 call hs u) 7) eNil)=j4 (xqu call hs u rec0) 2 6 7 10:=by kernel_rfl
theorem x1xu:x2fs call hs u x122 (j1 (x63 call hs u) 7) (setE 2 (j1 (x63 call hs u) 7) eNil)=j4 (x8y call hs u NN) 2 6 7 10:=lp (Ln:=fun n=>j4 (x8y call hs u n) 2 6 7 10) fun n=>tr x1xt
theorem x1xv:x2fs call hs u x121 (j1 (x63 call hs u) 7) eNil=j4 (x8y call hs u NN) 2 6 7 10:=bk x1xu
theorem x1xw:x2fs call hs u x120 (j1 (x63 call hs u) 7) eNil=j3 (x45 call hs u) 2 6 7:=tr (sqN 1 x1xv)
theorem x1xx:x2fs call hs u xo2 r_6 eNil=j3 (x45 call hs u) 2 6 7:=sq2 x1xs x1xw
theorem x1xy{rec1:AV->AV->AV->AV->AV->Mem->Nat->O2}:x2fs call hs u x1xr (j5 rec1 1 2 6 7 8) (setE 0 (j3 (x45 call hs u) 2 6 7) eNil)=j5 (xqv call hs u rec1) 1 2 6 7 8:=by kernel_rfl
theorem x1xz:x2fs call hs u x124 (j3 (x45 call hs u) 2 6 7) (setE 0 (j3 (x45 call hs u) 2 6 7) eNil)=j5 (x8z call hs u NN) 1 2 6 7 8:=lp (Ln:=fun n=>j5 (x8z call hs u n) 1 2 6 7 8) fun n=>tr x1xy
theorem x1y0:x2fs call hs u x123 (j3 (x45 call hs u) 2 6 7) eNil=j5 (x8z call hs u NN) 1 2 6 7 8:=bk x1xz
theorem x1y1:x2fs call hs u x11z (j3 (x45 call hs u) 2 6 7) eNil=j4 (xij call hs u) 1 2 6 7:=tr (sqN 1 x1y0)
theorem x1y2:x2fs call hs u xo1 r_6 eNil=j4 (xij call hs u) 1 2 6 7:=sq2 x1xx x1y1
theorem x1dk:x2fs call hs u x11y r_6 eNil=j2 (xqw call hs u) 0 1:=tr (sqN 4 x1y2)
noncomputable abbrev x2dm:=VX x3b 98 r_8
noncomputable def x125:=x2co x3b
noncomputable def xo3:=nRs 4 x125
noncomputable def x126:=nL xo3
noncomputable def x127:=nR xo3
noncomputable def xo4:=nR x127
noncomputable def x128:=nL xo4
noncomputable def x1y3:=nR xo4
noncomputable def x129:=nR x128
noncomputable def x12a:=nR x129
noncomputable def x12b:=nR x12a
noncomputable def xo5:=nR x12b
noncomputable def x1y4:=nL xo5
noncomputable def x1y5:=nR xo5
noncomputable def x12c:=nR x126
noncomputable def x12d:=nR x12c
noncomputable def x12e:=nR x12d
noncomputable def xo6:=nRs 2 x12e
noncomputable def x12f:=nL xo6
noncomputable def x1y6:=nR xo6
noncomputable def x12g:=nR x12f
noncomputable def xo7:=nR x12g
noncomputable def x12h:=nL xo7
noncomputable def x1y7:=nR xo7
noncomputable def x12i:=nR x12h
noncomputable def x12j:=nR x12i
noncomputable def x12k:=nR x12j
noncomputable def xo8:=nR x12k
noncomputable def x1y8:=nL xo8
noncomputable def x1y9:=nR xo8
theorem x1ya:x2dm call hs u x1y3 r_8 eNil=j2 (x1q call hs u) 5 10:=by kernel_rfl
theorem x1yb{rec0:AV->AV->AV->AV->AV->Mem->Nat->O2}:x2dm call hs u x1y5 (j5 rec0 1 4 5 10 11) (setE 4 (j2 (x1q call hs u) 5 10) eNil)=j5 (x7c call hs u rec0) 1 4 5 10 11:=by kernel_rfl
theorem x1yc{rec0:AV->AV->AV->AV->AV->Mem->Nat->O2}:x2dm call hs u x1y4 (j5 (x7c call hs u rec0) 1 4 5 10 11) (setE 4 (j2 (x1q call hs u) 5 10) eNil)=j5 (xcy call hs u rec0) 1 4 5 10 11:=by kernel_rfl
theorem x1yd{rec0:AV->AV->AV->AV->AV->Mem->Nat->O2}:x2dm call hs u xo5 (j5 rec0 1 4 5 10 11) (setE 4 (j2 (x1q call hs u) 5 10) eNil)=j5 (xcy call hs u rec0) 1 4 5 10 11:=sq2 x1yb x1yc
theorem x1ye{rec0:AV->AV->AV->AV->AV->Mem->Nat->O2}:x2dm call hs u x12b (j5 rec0 1 4 5 10 11) (setE 4 (j2 (x1q call hs u) 5 10) eNil)=j5 (xcz call hs u rec0) 1 4 5 10 11:=tr (sqN 1 x1yd)
theorem x1yf:x2dm call hs u x12a (j2 (x1q call hs u) 5 10) (setE 4 (j2 (x1q call hs u) 5 10) eNil)=j5 (x46 call hs u NN) 1 4 5 10 11:=lp (Ln:=fun n=>j5 (x46 call hs u n) 1 4 5 10 11) fun n=>tr x1ye
theorem x1yg:x2dm call hs u x129 (j2 (x1q call hs u) 5 10) eNil=j5 (x46 call hs u NN) 1 4 5 10 11:=bk x1yf
theorem x1yh:x2dm call hs u x128 (j2 (x1q call hs u) 5 10) eNil=j4 (xd0 call hs u) 1 4 5 10:=tr (sqN 1 x1yg)
theorem x1yi:x2dm call hs u xo4 r_8 eNil=j4 (xd0 call hs u) 1 4 5 10:=sq2 x1ya x1yh
theorem x1yj:x2dm call hs u x127 r_8 eNil=j3 (xg call hs u) 1 4 5:=tr (sqN 1 x1yi)
theorem x1yk{rec1:AV->AV->AV->AV->AV->AV->Mem->Nat->O2}:x2dm call hs u x1y6 (j6 rec1 1 4 5 6 18 19) (setE 0 (j3 (xg call hs u) 1 4 5) eNil)=j6 (xh call hs u rec1) 1 4 5 6 18 19:=by kernel_rfl
theorem x1yl{rec1:AV->AV->AV->AV->AV->AV->Mem->Nat->O2}:x2dm call hs u x1y7 (j6 (xh call hs u rec1) 1 4 5 6 18 19) (setE 1 (j6 (xh call hs u rec1) 1 4 5 6 18 19) (setE 0 (j3 (xg call hs u) 1 4 5) eNil))=j7 (x1h call hs u rec1) 1 4 5 6 7 18 19:=by kernel_rfl
theorem x1ym{rec1:AV->AV->AV->AV->AV->AV->Mem->Nat->O2}{rec2:AV->AV->AV->AV->AV->AV->AV->AV->Mem->Nat->O2}:x2dm call hs u x1y9 (j8 rec2 1 4 5 6 7 8 18 19) (setE 2 (j7 (x1h call hs u rec1) 1 4 5 6 7 18 19) (setE 1 (j6 (xh call hs u rec1) 1 4 5 6 18 19) (setE 0 (j3 (xg call hs u) 1 4 5) eNil)))=j8 (x47 call hs u rec1 rec2) 1 4 5 6 7 8 18 19:=by kernel_rfl
theorem x1yn{rec1:AV->AV->AV->AV->AV->AV->Mem->Nat->O2}{rec2:AV->AV->AV->AV->AV->AV->AV->AV->Mem->Nat->O2}:x2dm call hs u x1y8 (j8 (x47 call hs u rec1 rec2) 1 4 5 6 7 8 18 19) (setE 2 (j7 (x1h call hs u rec1) 1 4 5 6 7 18 19) (setE 1 (j6 (xh call hs u rec1) 1 4 5 6 18 19) (setE 0 (j3 (xg call hs u) 1 4 5) eNil)))=j8 (xd1 call hs u rec1 rec2) 1 4 5 6 7 8 18 19:=by kernel_rfl
theorem x1yo{rec1:AV->AV->AV->AV->AV->AV->Mem->Nat->O2}{rec2:AV->AV->AV->AV->AV->AV->AV->AV->Mem->Nat->O2}:x2dm call hs u xo8 (j8 rec2 1 4 5 6 7 8 18 19) (setE 2 (j7 (x1h call hs u rec1) 1 4 5 6 7 18 19) (setE 1 (j6 (xh call hs u rec1) 1 4 5 6 18 19) (setE 0 (j3 (xg call hs u) 1 4 5) eNil)))=j8 (xd1 call hs u rec1 rec2) 1 4 5 6 7 8 18 19:=sq2 x1ym x1yn
theorem x1yp{rec1:AV->AV->AV->AV->AV->AV->Mem->Nat->O2}{rec2:AV->AV->AV->AV->AV->AV->AV->AV->Mem->Nat->O2}:x2dm call hs u x12k (j8 rec2 1 4 5 6 7 8 18 19) (setE 2 (j7 (x1h call hs u rec1) 1 4 5 6 7 18 19) (setE 1 (j6 (xh call hs u rec1) 1 4 5 6 18 19) (setE 0 (j3 (xg call hs u) 1 4 5) eNil)))=j8 (xd2 call hs u rec1 rec2) 1 4 5 6 7 8 18 19:=tr (sqN 1 x1yo)
theorem x1yq{rec1:AV->AV->AV->AV->AV->AV->Mem->Nat->O2}:x2dm call hs u x12j (j7 (x1h call hs u rec1) 1 4 5 6 7 18 19) (setE 2 (j7 (x1h call hs u rec1) 1 4 5 6 7 18 19) (setE 1 (j6 (xh call hs u rec1) 1 4 5 6 18 19) (setE 0 (j3 (xg call hs u) 1 4 5) eNil)))=j8 (x2t call hs u rec1 NN) 1 4 5 6 7 8 18 19:=lp (Ln:=fun n=>j8 (x2t call hs u rec1 n) 1 4 5 6 7 8 18 19) fun n=>tr x1yp
theorem x1yr{rec1:AV->AV->AV->AV->AV->AV->Mem->Nat->O2}:x2dm call hs u x12i (j7 (x1h call hs u rec1) 1 4 5 6 7 18 19) (setE 1 (j6 (xh call hs u rec1) 1 4 5 6 18 19) (setE 0 (j3 (xg call hs u) 1 4 5) eNil))=j8 (x2t call hs u rec1 NN) 1 4 5 6 7 8 18 19:=bk x1yq
theorem x1ys{rec1:AV->AV->AV->AV->AV->AV->Mem->Nat->O2}:x2dm call hs u x12h (j7 (x1h call hs u rec1) 1 4 5 6 7 18 19) (setE 1 (j6 (xh call hs u rec1) 1 4 5 6 18 19) (setE 0 (j3 (xg call hs u) 1 4 5) eNil))=j7 (xd3 call hs u rec1) 1 4 5 6 7 18 19:=tr (sqN 1 x1yr)
theorem x1yt{rec1:AV->AV->AV->AV->AV->AV->Mem->Nat->O2}:x2dm call hs u xo7 (j6 (xh call hs u rec1) 1 4 5 6 18 19) (setE 1 (j6 (xh call hs u rec1) 1 4 5 6 18 19) (setE 0 (j3 (xg call hs u) 1 4 5) eNil))=j7 (xd3 call hs u rec1) 1 4 5 6 7 18 19:=sq2 x1yl x1ys
theorem x1yu{rec1:AV->AV->AV->AV->AV->AV->Mem->Nat->O2}:x2dm call hs u x12g (j6 (xh call hs u rec1) 1 4 5 6 18 19) (setE 1 (j6 (xh call hs u rec1) 1 4 5 6 18 19) (setE 0 (j3 (xg call hs u) 1 4 5) eNil))=j6 (x90 call hs u rec1) 1 4 5 6 18 19:=tr (sqN 1 x1yt)
theorem x1yv{rec1:AV->AV->AV->AV->AV->AV->Mem->Nat->O2}:x2dm call hs u x12f (j6 (xh call hs u rec1) 1 4 5 6 18 19) (setE 0 (j3 (xg call hs u) 1 4 5) eNil)=j6 (x90 call hs u rec1) 1 4 5 6 18 19:=bk x1yu
theorem x1yw{rec1:AV->AV->AV->AV->AV->AV->Mem->Nat->O2}:x2dm call hs u xo6 (j6 rec1 1 4 5 6 18 19) (setE 0 (j3 (xg call hs u) 1 4 5) eNil)=j6 (x90 call hs u rec1) 1 4 5 6 18 19:=sq2 x1yk x1yv
theorem x1yx{rec1:AV->AV->AV->AV->AV->AV->Mem->Nat->O2}:x2dm call hs u x12e (j6 rec1 1 4 5 6 18 19) (setE 0 (j3 (xg call hs u) 1 4 5) eNil)=j6 (xd4 call hs u rec1) 1 4 5 6 18 19:=tr (sqN 2 x1yw)
theorem x1yy:x2dm call hs u x12d (j3 (xg call hs u) 1 4 5) (setE 0 (j3 (xg call hs u) 1 4 5) eNil)=j6 (x24 call hs u NN) 1 4 5 6 18 19:=lp (Ln:=fun n=>j6 (x24 call hs u n) 1 4 5 6 18 19) fun n=>tr x1yx
theorem x1yz:x2dm call hs u x12c (j3 (xg call hs u) 1 4 5) eNil=j6 (x24 call hs u NN) 1 4 5 6 18 19:=bk x1yy
theorem x1z0:x2dm call hs u x126 (j3 (xg call hs u) 1 4 5) eNil=j4 (xd5 call hs u) 1 4 5 6:=tr (sqN 1 x1yz)
theorem x1z1:x2dm call hs u xo3 r_8 eNil=j4 (xd5 call hs u) 1 4 5 6:=sq2 x1yj x1z0
theorem x1dl:x2dm call hs u x125 r_8 eNil=j1 (xik call hs u) 0:=tr (sqN 4 x1z1)
noncomputable abbrev x2tn:=VX x2n 40 r_0
noncomputable def x1z2:=x2co x2n
theorem x1dm:x2tn call hs u x1z2 r_0 eNil=j2 (xil call hs u) 0 1:=by kernel_rfl
noncomputable abbrev x2to:=VX x5g 36 r_3
noncomputable def x1z3:=x2co x5g
theorem x1dn:x2to call hs u x1z3 r_3 eNil=j1 (xim call hs u) 0:=by kernel_rfl
noncomputable abbrev x2ip:=VX x6q 30 r_0
noncomputable def x12l:=x2co x6q
noncomputable def xo9:=nRs 2 x12l
noncomputable def x12m:=nL xo9
noncomputable def x1z4:=nR xo9
noncomputable def x12n:=nR x12m
noncomputable def x12o:=nR x12n
noncomputable def x1z5:=nR x12o
theorem x1z6:x2ip call hs u x1z4 r_0 eNil=j1 (x48 call hs u) 5:=by kernel_rfl
theorem x1z7{rec0:AV->AV->AV->AV->Mem->Nat->O2}:x2ip call hs u x1z5 (j4 rec0 0 1 5 6) (setE 0 (j1 (x48 call hs u) 5) eNil)=j4 (xd6 call hs u rec0) 0 1 5 6:=by kernel_rfl
theorem x1z8:x2ip call hs u x12o (j1 (x48 call hs u) 5) (setE 0 (j1 (x48 call hs u) 5) eNil)=j4 (x49 call hs u NN) 0 1 5 6:=lp (Ln:=fun n=>j4 (x49 call hs u n) 0 1 5 6) fun n=>tr x1z7
theorem x1z9:x2ip call hs u x12n (j1 (x48 call hs u) 5) eNil=j4 (x49 call hs u NN) 0 1 5 6:=bk x1z8
theorem x1za:x2ip call hs u x12m (j1 (x48 call hs u) 5) eNil=j3 (xd7 call hs u) 0 1 5:=tr (sqN 1 x1z9)
theorem x1zb:x2ip call hs u xo9 r_0 eNil=j3 (xd7 call hs u) 0 1 5:=sq2 x1z6 x1za
theorem x1do:x2ip call hs u x12l r_0 eNil=j2 (xin call hs u) 0 1:=tr (sqN 2 x1zb)
noncomputable abbrev x2tp:=VX x87 12 r_12
noncomputable def x1zc:=x2co x87
theorem x1dp:x2tp call hs u x1zc r_12 eNil=j0 (xqx call hs u):=by kernel_rfl
noncomputable abbrev x2tq:=VX x6r 10 r_13
noncomputable def x1zd:=x2co x6r
theorem x1dq:x2tq call hs u x1zd r_13 eNil=j2 (xqy call hs u) 0 1:=by kernel_rfl
noncomputable abbrev x2tr:=VX x1x 7 r_3
noncomputable def x1ze:=x2co x1x
theorem x1dr:x2tr call hs u x1ze r_3 eNil=j1 (xio call hs u) 0:=by kernel_rfl
noncomputable abbrev x2ts:=VX xz 15 r_1
noncomputable def x1zf:=x2co xz
theorem x1ds:x2ts call hs u x1zf r_1 eNil=j3 (xip call hs u) 0 1 2:=by kernel_rfl
noncomputable abbrev x2iq:=VX x3c 42 r_0
noncomputable def x12p:=x2co x3c
noncomputable def xoa:=nRs 3 x12p
noncomputable def x12q:=nL xoa
noncomputable def x1zg:=nR xoa
noncomputable def x12r:=nR x12q
noncomputable def x12s:=nR x12r
noncomputable def x1zh:=nR x12s
theorem x1zi:x2iq call hs u x1zg r_0 eNil=j1 (x4a call hs u) 6:=by kernel_rfl
theorem x1zj{rec0:AV->AV->AV->AV->AV->AV->Mem->Nat->O2}:x2iq call hs u x1zh (j6 rec0 1 5 6 14 15 16) (setE 0 (j1 (x4a call hs u) 6) eNil)=j6 (xd8 call hs u rec0) 1 5 6 14 15 16:=by kernel_rfl
theorem x1zk:x2iq call hs u x12s (j1 (x4a call hs u) 6) (setE 0 (j1 (x4a call hs u) 6) eNil)=j6 (x4b call hs u NN) 1 5 6 14 15 16:=lp (Ln:=fun n=>j6 (x4b call hs u n) 1 5 6 14 15 16) fun n=>tr x1zj
theorem x1zl:x2iq call hs u x12r (j1 (x4a call hs u) 6) eNil=j6 (x4b call hs u NN) 1 5 6 14 15 16:=bk x1zk
theorem x1zm:x2iq call hs u x12q (j1 (x4a call hs u) 6) eNil=j4 (xd9 call hs u) 1 2 5 6:=tr (sqN 1 x1zl)
theorem x1zn:x2iq call hs u xoa r_0 eNil=j4 (xd9 call hs u) 1 2 5 6:=sq2 x1zi x1zm
theorem x1dt:x2iq call hs u x12p r_0 eNil=j2 (xiq call hs u) 0 1:=tr (sqN 3 x1zn)
noncomputable abbrev x2gn:=VX x3d 38 r_0
noncomputable def x12t:=x2co x3d
noncomputable def xob:=nRs 5 x12t
noncomputable def x12u:=nL xob
noncomputable def x1zo:=nR xob
noncomputable def x12v:=nR x12u
noncomputable def x12w:=nR x12v
noncomputable def x12x:=nR x12w
noncomputable def xoc:=nRs 2 x12x
noncomputable def x1zp:=nL xoc
noncomputable def x1zq:=nR xoc
theorem x1zr:x2gn call hs u x1zo r_0 eNil=j1 (x1r call hs u) 5:=by kernel_rfl
theorem x1zs{rec0:AV->AV->AV->AV->AV->Mem->Nat->O2}:x2gn call hs u x1zq (j5 rec0 5 6 8 24 25) (setE 0 (j1 (x1r call hs u) 5) eNil)=j5 (x7e call hs u rec0) 5 6 8 24 25:=by kernel_rfl
theorem x1zt{rec0:AV->AV->AV->AV->AV->Mem->Nat->O2}:x2gn call hs u x1zp (j5 (x7e call hs u rec0) 5 6 8 24 25) (setE 0 (j1 (x1r call hs u) 5) eNil)=j5 (xda call hs u rec0) 5 6 8 24 25:=by kernel_rfl
theorem x1zu{rec0:AV->AV->AV->AV->AV->Mem->Nat->O2}:x2gn call hs u xoc (j5 rec0 5 6 8 24 25) (setE 0 (j1 (x1r call hs u) 5) eNil)=j5 (xda call hs u rec0) 5 6 8 24 25:=sq2 x1zs x1zt
theorem x1zv{rec0:AV->AV->AV->AV->AV->Mem->Nat->O2}:x2gn call hs u x12x (j5 rec0 5 6 8 24 25) (setE 0 (j1 (x1r call hs u) 5) eNil)=j5 (xdb call hs u rec0) 5 6 8 24 25:=tr (sqN 2 x1zu)
theorem x1zw:x2gn call hs u x12w (j1 (x1r call hs u) 5) (setE 0 (j1 (x1r call hs u) 5) eNil)=j5 (x4c call hs u NN) 5 6 8 24 25:=lp (Ln:=fun n=>j5 (x4c call hs u n) 5 6 8 24 25) fun n=>tr x1zv
theorem x1zx:x2gn call hs u x12v (j1 (x1r call hs u) 5) eNil=j5 (x4c call hs u NN) 5 6 8 24 25:=bk x1zw
theorem x1zy:x2gn call hs u x12u (j1 (x1r call hs u) 5) eNil=j3 (xdc call hs u) 5 6 8:=tr (sqN 1 x1zx)
theorem x1zz:x2gn call hs u xob r_0 eNil=j3 (xdc call hs u) 5 6 8:=sq2 x1zr x1zy
theorem x1du:x2gn call hs u x12t r_0 eNil=j2 (xir call hs u) 0 1:=tr (sqN 5 x1zz)
noncomputable abbrev x2go:=VX x5h 30 r_0
noncomputable def x12y:=x2co x5h
noncomputable def xod:=nRs 2 x12y
noncomputable def x12z:=nL xod
noncomputable def x200:=nR xod
noncomputable def x130:=nR x12z
noncomputable def x131:=nR x130
noncomputable def x132:=nR x131
noncomputable def xoe:=nRs 2 x132
noncomputable def x201:=nL xoe
noncomputable def x202:=nR xoe
theorem x203:x2go call hs u x200 r_0 eNil=j1 (x1s call hs u) 5:=by kernel_rfl
theorem x204{rec0:AV->AV->AV->AV->AV->Mem->Nat->O2}:x2go call hs u x202 (j5 rec0 1 5 15 16 17) (setE 0 (j1 (x1s call hs u) 5) eNil)=j5 (x7f call hs u rec0) 1 5 15 16 17:=by kernel_rfl
theorem x205{rec0:AV->AV->AV->AV->AV->Mem->Nat->O2}:x2go call hs u x201 (j5 (x7f call hs u rec0) 1 5 15 16 17) (setE 0 (j1 (x1s call hs u) 5) eNil)=j5 (xdd call hs u rec0) 1 5 15 16 17:=by kernel_rfl
theorem x206{rec0:AV->AV->AV->AV->AV->Mem->Nat->O2}:x2go call hs u xoe (j5 rec0 1 5 15 16 17) (setE 0 (j1 (x1s call hs u) 5) eNil)=j5 (xdd call hs u rec0) 1 5 15 16 17:=sq2 x204 x205
theorem x207{rec0:AV->AV->AV->AV->AV->Mem->Nat->O2}:x2go call hs u x132 (j5 rec0 1 5 15 16 17) (setE 0 (j1 (x1s call hs u) 5) eNil)=j5 (xde call hs u rec0) 1 5 15 16 17:=tr (sqN 2 x206)
theorem x208:x2go call hs u x131 (j1 (x1s call hs u) 5) (setE 0 (j1 (x1s call hs u) 5) eNil)=j5 (x4e call hs u NN) 1 5 15 16 17:=lp (Ln:=fun n=>j5 (x4e call hs u n) 1 5 15 16 17) fun n=>tr x207
theorem x209:x2go call hs u x130 (j1 (x1s call hs u) 5) eNil=j5 (x4e call hs u NN) 1 5 15 16 17:=bk x208
theorem x20a:x2go call hs u x12z (j1 (x1s call hs u) 5) eNil=j3 (xdf call hs u) 1 2 5:=tr (sqN 1 x209)
theorem x20b:x2go call hs u xod r_0 eNil=j3 (xdf call hs u) 1 2 5:=sq2 x203 x20a
theorem x1dv:x2go call hs u x12y r_0 eNil=j2 (xit call hs u) 0 1:=tr (sqN 2 x20b)
noncomputable abbrev x2ir:=VX x5i 52 r_3
noncomputable def x133:=x2co x5i
noncomputable def xof:=nRs 4 x133
noncomputable def x134:=nL xof
noncomputable def x20c:=nR xof
noncomputable def x135:=nR x134
noncomputable def x136:=nR x135
noncomputable def x20d:=nR x136
theorem x20e:x2ir call hs u x20c r_3 eNil=j1 (x4f call hs u) 6:=by kernel_rfl
theorem x20f{rec0:AV->AV->AV->AV->Mem->Nat->O2}:x2ir call hs u x20d (j4 rec0 1 5 6 7) (setE 0 (j1 (x4f call hs u) 6) eNil)=j4 (xdg call hs u rec0) 1 5 6 7:=by kernel_rfl
theorem x20g:x2ir call hs u x136 (j1 (x4f call hs u) 6) (setE 0 (j1 (x4f call hs u) 6) eNil)=j4 (x4g call hs u NN) 1 5 6 7:=lp (Ln:=fun n=>j4 (x4g call hs u n) 1 5 6 7) fun n=>tr x20f
theorem x20h:x2ir call hs u x135 (j1 (x4f call hs u) 6) eNil=j4 (x4g call hs u NN) 1 5 6 7:=bk x20g
theorem x20i:x2ir call hs u x134 (j1 (x4f call hs u) 6) eNil=j3 (xdh call hs u) 1 5 6:=tr (sqN 1 x20h)
theorem x20j:x2ir call hs u xof r_3 eNil=j3 (xdh call hs u) 1 5 6:=sq2 x20e x20i
theorem x1dw:x2ir call hs u x133 r_3 eNil=j1 (xiu call hs u) 0:=tr (sqN 4 x20j)
noncomputable abbrev x2is:=VX x3e 36 r_0
noncomputable def x137:=x2co x3e
noncomputable def xog:=nRs 3 x137
noncomputable def x138:=nL xog
noncomputable def x20k:=nR xog
noncomputable def x139:=nR x138
noncomputable def x13a:=nR x139
noncomputable def x20l:=nR x13a
theorem x20m:x2is call hs u x20k r_0 eNil=j1 (x4h call hs u) 6:=by kernel_rfl
theorem x20n{rec0:AV->AV->AV->AV->AV->Mem->Nat->O2}:x2is call hs u x20l (j5 rec0 1 2 5 6 7) (setE 0 (j1 (x4h call hs u) 6) eNil)=j5 (xdi call hs u rec0) 1 2 5 6 7:=by kernel_rfl
theorem x20o:x2is call hs u x13a (j1 (x4h call hs u) 6) (setE 0 (j1 (x4h call hs u) 6) eNil)=j5 (x4i call hs u NN) 1 2 5 6 7:=lp (Ln:=fun n=>j5 (x4i call hs u n) 1 2 5 6 7) fun n=>tr x20n
theorem x20p:x2is call hs u x139 (j1 (x4h call hs u) 6) eNil=j5 (x4i call hs u NN) 1 2 5 6 7:=bk x20o
theorem x20q:x2is call hs u x138 (j1 (x4h call hs u) 6) eNil=j4 (xdj call hs u) 1 2 5 6:=tr (sqN 1 x20p)
theorem x20r:x2is call hs u xog r_0 eNil=j4 (xdj call hs u) 1 2 5 6:=sq2 x20m x20q
theorem x1dx:x2is call hs u x137 r_0 eNil=j2 (xiv call hs u) 0 1:=tr (sqN 3 x20r)
noncomputable abbrev x2it:=VX x3f 42 r_8
noncomputable def x13b:=x2co x3f
noncomputable def xoh:=nRs 2 x13b
noncomputable def x13c:=nL xoh
noncomputable def x20s:=nR xoh
noncomputable def x13d:=nR x13c
noncomputable def x13e:=nR x13d
noncomputable def x20t:=nR x13e
theorem x20u:x2it call hs u x20s r_8 eNil=j0 (x4j call hs u):=by kernel_rfl
theorem x20v{rec0:AV->AV->AV->AV->Mem->Nat->O2}:x2it call hs u x20t (j4 rec0 0 9 10 11) (setE 0 (j0 (x4j call hs u)) eNil)=j4 (xdk call hs u rec0) 0 9 10 11:=by kernel_rfl
theorem x20w:x2it call hs u x13e (j0 (x4j call hs u)) (setE 0 (j0 (x4j call hs u)) eNil)=j4 (x2u call hs u NN) 0 9 10 11:=lp (Ln:=fun n=>j4 (x2u call hs u n) 0 9 10 11) fun n=>tr x20v
theorem x20x:x2it call hs u x13d (j0 (x4j call hs u)) eNil=j4 (x2u call hs u NN) 0 9 10 11:=bk x20w
theorem x20y:x2it call hs u x13c (j0 (x4j call hs u)) eNil=j1 (xdl call hs u) 0:=tr (sqN 1 x20x)
theorem x20z:x2it call hs u xoh r_8 eNil=j1 (xdl call hs u) 0:=sq2 x20u x20y
theorem x1dy:x2it call hs u x13b r_8 eNil=j1 (xiw call hs u) 0:=tr (sqN 2 x20z)
noncomputable abbrev x2tt:=VX x1y 10 r_0
noncomputable def x210:=x2co x1y
theorem x1dz:x2tt call hs u x210 r_0 eNil=j2 (xix call hs u) 0 1:=by kernel_rfl
noncomputable abbrev x2iu:=VX x6s 55 r_3
noncomputable def x13f:=x2co x6s
noncomputable def xoi:=nRs 2 x13f
noncomputable def x13g:=nL xoi
noncomputable def x211:=nR xoi
noncomputable def x13h:=nR x13g
noncomputable def x13i:=nR x13h
noncomputable def x212:=nR x13i
theorem x213:x2iu call hs u x211 r_3 eNil=j0 (x4k call hs u):=by kernel_rfl
theorem x214{rec0:AV->AV->Mem->Nat->O2}:x2iu call hs u x212 (j2 rec0 0 3) (setE 0 (j0 (x4k call hs u)) eNil)=j2 (xdm call hs u rec0) 0 3:=by kernel_rfl
theorem x215:x2iu call hs u x13i (j0 (x4k call hs u)) (setE 0 (j0 (x4k call hs u)) eNil)=j2 (x2v call hs u NN) 0 3:=lp (Ln:=fun n=>j2 (x2v call hs u n) 0 3) fun n=>tr x214
theorem x216:x2iu call hs u x13h (j0 (x4k call hs u)) eNil=j2 (x2v call hs u NN) 0 3:=bk x215
theorem x217:x2iu call hs u x13g (j0 (x4k call hs u)) eNil=j1 (xdn call hs u) 0:=tr (sqN 1 x216)
theorem x218:x2iu call hs u xoi r_3 eNil=j1 (xdn call hs u) 0:=sq2 x213 x217
theorem x1e0:x2iu call hs u x13f r_3 eNil=j1 (xiy call hs u) 0:=tr (sqN 2 x218)
noncomputable abbrev x2tu:=VX x2o 11 r_3
noncomputable def x219:=x2co x2o
theorem x1e1:x2tu call hs u x219 r_3 eNil=j1 (xiz call hs u) 0:=by kernel_rfl
noncomputable abbrev x2iv:=VX x2p 15 r_3
noncomputable def x13j:=x2co x2p
noncomputable def xoj:=nRs 2 x13j
noncomputable def x13k:=nL xoj
noncomputable def x21a:=nR xoj
noncomputable def x13l:=nR x13k
noncomputable def x13m:=nR x13l
noncomputable def x21b:=nR x13m
theorem x21c:x2iv call hs u x21a r_3 eNil=j1 (x4l call hs u) 3:=by kernel_rfl
theorem x21d{rec0:AV->AV->AV->Mem->Nat->O2}:x2iv call hs u x21b (j3 rec0 3 5 6) (setE 0 (j1 (x4l call hs u) 3) eNil)=j3 (xdo call hs u rec0) 3 5 6:=by kernel_rfl
theorem x21e:x2iv call hs u x13m (j1 (x4l call hs u) 3) (setE 0 (j1 (x4l call hs u) 3) eNil)=j3 (x4m call hs u NN) 3 5 6:=lp (Ln:=fun n=>j3 (x4m call hs u n) 3 5 6) fun n=>tr x21d
theorem x21f:x2iv call hs u x13l (j1 (x4l call hs u) 3) eNil=j3 (x4m call hs u NN) 3 5 6:=bk x21e
theorem x21g:x2iv call hs u x13k (j1 (x4l call hs u) 3) eNil=j2 (xdp call hs u) 0 3:=tr (sqN 1 x21f)
theorem x21h:x2iv call hs u xoj r_3 eNil=j2 (xdp call hs u) 0 3:=sq2 x21c x21g
theorem x1e2:x2iv call hs u x13j r_3 eNil=j1 (xj0 call hs u) 0:=tr (sqN 2 x21h)
noncomputable abbrev x2gp:=VX x3g 44 r_0
noncomputable def x13n:=x2co x3g
noncomputable def xok:=nRs 2 x13n
noncomputable def x13o:=nL xok
noncomputable def x21i:=nR xok
noncomputable def x13p:=nR x13o
noncomputable def x13q:=nR x13p
noncomputable def x13r:=nR x13q
noncomputable def xol:=nRs 2 x13r
noncomputable def x21j:=nL xol
noncomputable def x21k:=nR xol
theorem x21l:x2gp call hs u x21i r_0 eNil=j2 (x1t call hs u) 5 6:=by kernel_rfl
theorem x21m{rec0:AV->AV->AV->AV->AV->AV->Mem->Nat->O2}:x2gp call hs u x21k (j6 rec0 0 5 6 19 20 21) (setE 0 (j2 (x1t call hs u) 5 6) eNil)=j6 (x91 call hs u rec0) 0 5 6 19 20 21:=by kernel_rfl
theorem x21n{rec0:AV->AV->AV->AV->AV->AV->Mem->Nat->O2}:x2gp call hs u x21j (j6 (x91 call hs u rec0) 0 5 6 19 20 21) (setE 0 (j2 (x1t call hs u) 5 6) eNil)=j6 (xdq call hs u rec0) 0 5 6 19 20 21:=by kernel_rfl
theorem x21o{rec0:AV->AV->AV->AV->AV->AV->Mem->Nat->O2}:x2gp call hs u xol (j6 rec0 0 5 6 19 20 21) (setE 0 (j2 (x1t call hs u) 5 6) eNil)=j6 (xdq call hs u rec0) 0 5 6 19 20 21:=sq2 x21m x21n
theorem x21p{rec0:AV->AV->AV->AV->AV->AV->Mem->Nat->O2}:x2gp call hs u x13r (j6 rec0 0 5 6 19 20 21) (setE 0 (j2 (x1t call hs u) 5 6) eNil)=j6 (xdr call hs u rec0) 0 5 6 19 20 21:=tr (sqN 2 x21o)
theorem x21q:x2gp call hs u x13q (j2 (x1t call hs u) 5 6) (setE 0 (j2 (x1t call hs u) 5 6) eNil)=j6 (x4n call hs u NN) 0 5 6 19 20 21:=lp (Ln:=fun n=>j6 (x4n call hs u n) 0 5 6 19 20 21) fun n=>tr x21p
theorem x21r:x2gp call hs u x13p (j2 (x1t call hs u) 5 6) eNil=j6 (x4n call hs u NN) 0 5 6 19 20 21:=bk x21q
theorem x21s:x2gp call hs u x13o (j2 (x1t call hs u) 5 6) eNil=j3 (xds call hs u) 0 5 6:=tr (sqN 1 x21r)
theorem x21t:x2gp call hs u xok r_0 eNil=j3 (xds call hs u) 0 5 6:=sq2 x21l x21s
theorem x1e3:x2gp call hs u x13n r_0 eNil=j2 (xj2 call hs u) 0 1:=tr (sqN 2 x21t)
noncomputable abbrev x2tv:=VX xb3 9 r_0
noncomputable def x21u:=x2co xb3
theorem x1e4:x2tv call hs u x21u r_0 eNil=j2 (xr0 call hs u) 0 1:=by kernel_rfl
noncomputable abbrev x2tw:=VX xb4 15 r_14
noncomputable def x21v:=x2co xb4
theorem x1e5:x2tw call hs u x21v r_14 eNil=j2 (xr1 call hs u) 0 1:=by kernel_rfl
noncomputable abbrev x2iw:=VX x88 21 r_0
noncomputable def x13s:=x2co x88
noncomputable def xom:=nRs 2 x13s
noncomputable def x13t:=nL xom
noncomputable def x21w:=nR xom
noncomputable def x13u:=nR x13t
noncomputable def x13v:=nR x13u
noncomputable def x21x:=nR x13v
theorem x21y:x2iw call hs u x21w r_0 eNil=j1 (x64 call hs u) 5:=by kernel_rfl
theorem x21z{rec0:AV->AV->AV->AV->AV->Mem->Nat->O2}:x2iw call hs u x21x (j5 rec0 2 5 8 9 10) (setE 0 (j1 (x64 call hs u) 5) eNil)=j5 (xr2 call hs u rec0) 2 5 8 9 10:=by kernel_rfl
theorem x220:x2iw call hs u x13v (j1 (x64 call hs u) 5) (setE 0 (j1 (x64 call hs u) 5) eNil)=j5 (x92 call hs u NN) 2 5 8 9 10:=lp (Ln:=fun n=>j5 (x92 call hs u n) 2 5 8 9 10) fun n=>tr x21z
theorem x221:x2iw call hs u x13u (j1 (x64 call hs u) 5) eNil=j5 (x92 call hs u NN) 2 5 8 9 10:=bk x220
theorem x222:x2iw call hs u x13t (j1 (x64 call hs u) 5) eNil=j3 (xj3 call hs u) 1 2 5:=tr (sqN 1 x221)
theorem x223:x2iw call hs u xom r_0 eNil=j3 (xj3 call hs u) 1 2 5:=sq2 x21y x222
theorem x1e6:x2iw call hs u x13s r_0 eNil=j2 (xr3 call hs u) 0 1:=tr (sqN 2 x223)
noncomputable abbrev x2fa:=VX x6t 73 r_8
noncomputable def x13w:=x2co x6t
noncomputable def xon:=nRs 3 x13w
noncomputable def x13x:=nL xon
noncomputable def x224:=nR xon
noncomputable def x13y:=nR x13x
noncomputable def x13z:=nR x13y
noncomputable def x140:=nR x13z
noncomputable def xoo:=nR x140
noncomputable def x141:=nL xoo
noncomputable def x225:=nR xoo
noncomputable def x142:=nR x141
noncomputable def x143:=nRs 4 x142
noncomputable def x144:=nR x143
noncomputable def x226:=nR x144
theorem x227:x2fa call hs u x224 r_8 eNil=j0 (x10 call hs u):=by kernel_rfl
theorem x228{rec0:AV->AV->Mem->Nat->O2}:x2fa call hs u x225 (j2 rec0 1 6) (setE 0 (j0 (x10 call hs u)) eNil)=j2 (x1b call hs u rec0) 1 6:=by kernel_rfl
theorem x229{rec0:AV->AV->Mem->Nat->O2}{rec1:AV->AV->AV->AV->Mem->Nat->O2}:x2fa call hs u x226 (j4 rec1 1 6 7 8) (setE 2 (j2 (x1b call hs u rec0) 1 6) (setE 1 (j2 (x1b call hs u rec0) 1 6) (setE 0 (j0 (x10 call hs u)) eNil)))=j4 (xdt call hs u rec0 rec1) 1 6 7 8:=by kernel_rfl
theorem x22a{rec0:AV->AV->Mem->Nat->O2}:x2fa call hs u x144 (j2 (x1b call hs u rec0) 1 6) (setE 2 (j2 (x1b call hs u rec0) 1 6) (setE 1 (j2 (x1b call hs u rec0) 1 6) (setE 0 (j0 (x10 call hs u)) eNil)))=j4 (x2w call hs u rec0 NN) 1 6 7 8:=lp (Ln:=fun n=>j4 (x2w call hs u rec0 n) 1 6 7 8) fun n=>tr x229
theorem x22b{rec0:AV->AV->Mem->Nat->O2}:x2fa call hs u x143 (j2 (x1b call hs u rec0) 1 6) (setE 1 (j2 (x1b call hs u rec0) 1 6) (setE 0 (j0 (x10 call hs u)) eNil))=j4 (x2w call hs u rec0 NN) 1 6 7 8:=bk x22a
theorem x22c{rec0:AV->AV->Mem->Nat->O2}:x2fa call hs u x142 (j2 (x1b call hs u rec0) 1 6) (setE 1 (j2 (x1b call hs u rec0) 1 6) (setE 0 (j0 (x10 call hs u)) eNil))=j2 (x93 call hs u rec0) 1 6:=tr (sqN 4 x22b)
theorem x22d{rec0:AV->AV->Mem->Nat->O2}:x2fa call hs u x141 (j2 (x1b call hs u rec0) 1 6) (setE 0 (j0 (x10 call hs u)) eNil)=j2 (x93 call hs u rec0) 1 6:=bk x22c
theorem x22e{rec0:AV->AV->Mem->Nat->O2}:x2fa call hs u xoo (j2 rec0 1 6) (setE 0 (j0 (x10 call hs u)) eNil)=j2 (x93 call hs u rec0) 1 6:=sq2 x228 x22d
theorem x22f{rec0:AV->AV->Mem->Nat->O2}:x2fa call hs u x140 (j2 rec0 1 6) (setE 0 (j0 (x10 call hs u)) eNil)=j2 (xdu call hs u rec0) 1 6:=tr (sqN 1 x22e)
theorem x22g:x2fa call hs u x13z (j0 (x10 call hs u)) (setE 0 (j0 (x10 call hs u)) eNil)=j2 (x25 call hs u NN) 1 6:=lp (Ln:=fun n=>j2 (x25 call hs u n) 1 6) fun n=>tr x22f
theorem x22h:x2fa call hs u x13y (j0 (x10 call hs u)) eNil=j2 (x25 call hs u NN) 1 6:=bk x22g
theorem x22i:x2fa call hs u x13x (j0 (x10 call hs u)) eNil=j1 (xdv call hs u) 1:=tr (sqN 1 x22h)
theorem x22j:x2fa call hs u xon r_8 eNil=j1 (xdv call hs u) 1:=sq2 x227 x22i
theorem x1e7:x2fa call hs u x13w r_8 eNil=j1 (xj4 call hs u) 0:=tr (sqN 3 x22j)
noncomputable abbrev x2e5:=VX x1e 68 r_0
noncomputable def x145:=x2co x1e
noncomputable def xop:=nRs 2 x145
noncomputable def x146:=nL xop
noncomputable def xoq:=nR xop
noncomputable def x147:=nL xoq
noncomputable def x22k:=nR xoq
noncomputable def x148:=nR x147
noncomputable def x149:=nR x148
noncomputable def x14a:=nR x149
noncomputable def xos:=nR x14a
noncomputable def x14b:=nL xos
noncomputable def x22l:=nR xos
noncomputable def x14c:=nR x14b
noncomputable def x14d:=nRs 3 x14c
noncomputable def x14e:=nR x14d
noncomputable def x14f:=nR x14e
noncomputable def xot:=nR x14f
noncomputable def x22m:=nL xot
noncomputable def x22n:=nR xot
noncomputable def x14g:=nR x146
noncomputable def x14h:=nR x14g
noncomputable def x22o:=nR x14h
theorem x22p:x2e5 call hs u x22k r_0 eNil=j1 (xp call hs u) 5:=by kernel_rfl
theorem x22q{rec0:AV->AV->AV->AV->Mem->Nat->O2}:x2e5 call hs u x22l (j4 rec0 1 2 5 7) (setE 2 (j1 (xp call hs u) 5) eNil)=j4 (xj call hs u rec0) 1 2 5 7:=by kernel_rfl
theorem x22r{rec0:AV->AV->AV->AV->Mem->Nat->O2}{rec1:AV->AV->AV->AV->AV->AV->AV->Mem->Nat->O2}:x2e5 call hs u x22n (j7 rec1 1 2 5 7 9 10 11) (setE 4 (j4 (xj call hs u rec0) 1 2 5 7) (setE 3 (j4 (xj call hs u rec0) 1 2 5 7) (setE 2 (j1 (xp call hs u) 5) eNil)))=j7 (x94 call hs u rec0 rec1) 1 2 5 7 9 10 11:=by kernel_rfl
theorem x22s{rec0:AV->AV->AV->AV->Mem->Nat->O2}{rec1:AV->AV->AV->AV->AV->AV->AV->Mem->Nat->O2}:x2e5 call hs u x22m (j7 (x94 call hs u rec0 rec1) 1 2 5 7 9 10 11) (setE 4 (j4 (xj call hs u rec0) 1 2 5 7) (setE 3 (j4 (xj call hs u rec0) 1 2 5 7) (setE 2 (j1 (xp call hs u) 5) eNil)))=j7 (xdw call hs u rec0 rec1) 1 2 5 7 9 10 11:=by kernel_rfl
theorem x22t{rec0:AV->AV->AV->AV->Mem->Nat->O2}{rec1:AV->AV->AV->AV->AV->AV->AV->Mem->Nat->O2}:x2e5 call hs u xot (j7 rec1 1 2 5 7 9 10 11) (setE 4 (j4 (xj call hs u rec0) 1 2 5 7) (setE 3 (j4 (xj call hs u rec0) 1 2 5 7) (setE 2 (j1 (xp call hs u) 5) eNil)))=j7 (xdw call hs u rec0 rec1) 1 2 5 7 9 10 11:=sq2 x22r x22s
theorem x22u{rec0:AV->AV->AV->AV->Mem->Nat->O2}{rec1:AV->AV->AV->AV->AV->AV->AV->Mem->Nat->O2}:x2e5 call hs u x14f (j7 rec1 1 2 5 7 9 10 11) (setE 4 (j4 (xj call hs u rec0) 1 2 5 7) (setE 3 (j4 (xj call hs u rec0) 1 2 5 7) (setE 2 (j1 (xp call hs u) 5) eNil)))=j7 (xdx call hs u rec0 rec1) 1 2 5 7 9 10 11:=tr (sqN 1 x22t)
theorem x22v{rec0:AV->AV->AV->AV->Mem->Nat->O2}:x2e5 call hs u x14e (j4 (xj call hs u rec0) 1 2 5 7) (setE 4 (j4 (xj call hs u rec0) 1 2 5 7) (setE 3 (j4 (xj call hs u rec0) 1 2 5 7) (setE 2 (j1 (xp call hs u) 5) eNil)))=j7 (x2x call hs u rec0 NN) 1 2 5 7 9 10 11:=lp (Ln:=fun n=>j7 (x2x call hs u rec0 n) 1 2 5 7 9 10 11) fun n=>tr x22u
theorem x22w{rec0:AV->AV->AV->AV->Mem->Nat->O2}:x2e5 call hs u x14d (j4 (xj call hs u rec0) 1 2 5 7) (setE 3 (j4 (xj call hs u rec0) 1 2 5 7) (setE 2 (j1 (xp call hs u) 5) eNil))=j7 (x2x call hs u rec0 NN) 1 2 5 7 9 10 11:=bk x22v
theorem x22x{rec0:AV->AV->AV->AV->Mem->Nat->O2}:x2e5 call hs u x14c (j4 (xj call hs u rec0) 1 2 5 7) (setE 3 (j4 (xj call hs u rec0) 1 2 5 7) (setE 2 (j1 (xp call hs u) 5) eNil))=j4 (x95 call hs u rec0) 1 2 5 7:=tr (sqN 3 x22w)
theorem x22y{rec0:AV->AV->AV->AV->Mem->Nat->O2}:x2e5 call hs u x14b (j4 (xj call hs u rec0) 1 2 5 7) (setE 2 (j1 (xp call hs u) 5) eNil)=j4 (x95 call hs u rec0) 1 2 5 7:=bk x22x
theorem x22z{rec0:AV->AV->AV->AV->Mem->Nat->O2}:x2e5 call hs u xos (j4 rec0 1 2 5 7) (setE 2 (j1 (xp call hs u) 5) eNil)=j4 (x95 call hs u rec0) 1 2 5 7:=sq2 x22q x22y
theorem x230{rec0:AV->AV->AV->AV->Mem->Nat->O2}:x2e5 call hs u x14a (j4 rec0 1 2 5 7) (setE 2 (j1 (xp call hs u) 5) eNil)=j4 (xdy call hs u rec0) 1 2 5 7:=tr (sqN 1 x22z)
theorem x231:x2e5 call hs u x149 (j1 (xp call hs u) 5) (setE 2 (j1 (xp call hs u) 5) eNil)=j4 (x2y call hs u NN) 1 2 5 7:=lp (Ln:=fun n=>j4 (x2y call hs u n) 1 2 5 7) fun n=>tr x230
theorem x232:x2e5 call hs u x148 (j1 (xp call hs u) 5) eNil=j4 (x2y call hs u NN) 1 2 5 7:=bk x231
theorem x233:x2e5 call hs u x147 (j1 (xp call hs u) 5) eNil=j3 (x2z call hs u) 1 2 5:=tr (sqN 1 x232)
theorem x234:x2e5 call hs u xoq r_0 eNil=j3 (x2z call hs u) 1 2 5:=sq2 x22p x233
theorem x235{rec2:AV->AV->AV->AV->Mem->Nat->O2}:x2e5 call hs u x22o (j4 rec2 1 2 5 6) (setE 0 (j3 (x2z call hs u) 1 2 5) eNil)=j4 (xdz call hs u rec2) 1 2 5 6:=by kernel_rfl
theorem x236:x2e5 call hs u x14h (j3 (x2z call hs u) 1 2 5) (setE 0 (j3 (x2z call hs u) 1 2 5) eNil)=j4 (x4o call hs u NN) 1 2 5 6:=lp (Ln:=fun n=>j4 (x4o call hs u n) 1 2 5 6) fun n=>tr x235
theorem x237:x2e5 call hs u x14g (j3 (x2z call hs u) 1 2 5) eNil=j4 (x4o call hs u NN) 1 2 5 6:=bk x236
theorem x238:x2e5 call hs u x146 (j3 (x2z call hs u) 1 2 5) eNil=j3 (xe0 call hs u) 1 2 5:=tr (sqN 1 x237)
theorem x239:x2e5 call hs u xop r_0 eNil=j3 (xe0 call hs u) 1 2 5:=sq2 x234 x238
theorem x1e8:x2e5 call hs u x145 r_0 eNil=j2 (xj5 call hs u) 0 1:=tr (sqN 2 x239)
noncomputable abbrev x2tx:=VX x1z 9 r_0
noncomputable def x23a:=x2co x1z
theorem x1e9:x2tx call hs u x23a r_0 eNil=j2 (xj6 call hs u) 0 1:=by kernel_rfl
noncomputable abbrev x2ty:=VX x89 15 r_15
noncomputable def x23b:=x2co x89
theorem x1ea:x2ty call hs u x23b r_15 eNil=j1 (xr4 call hs u) 0:=by kernel_rfl
noncomputable abbrev x2tz:=VX xb5 16 r_8
noncomputable def x23c:=x2co xb5
theorem x1eb:x2tz call hs u x23c r_8 eNil=j1 (xr5 call hs u) 0:=by kernel_rfl
noncomputable abbrev x2lp:=VX xgr 14 r_0
noncomputable def x14i:=x2co xgr
noncomputable def xou:=nRs 2 x14i
noncomputable def x23d:=nL xou
noncomputable def x23e:=nR xou
theorem x23f:x2lp call hs u x23e r_0 eNil=j1 (xe1 call hs u) 0:=by kernel_rfl
theorem x23g:x2lp call hs u x23d (j1 (xe1 call hs u) 0) eNil=j2 (xj7 call hs u) 0 1:=by kernel_rfl
theorem x23h:x2lp call hs u xou r_0 eNil=j2 (xj7 call hs u) 0 1:=sq2 x23f x23g
theorem x1ec:x2lp call hs u x14i r_0 eNil=j2 (xr6 call hs u) 0 1:=tr (sqN 2 x23h)
noncomputable abbrev x2u0:=VX xb6 33 r_10
noncomputable def x23i:=x2co xb6
theorem x1ed:x2u0 call hs u x23i r_10 eNil=j1 (xr7 call hs u) 0:=by kernel_rfl
noncomputable abbrev x2u1:=VX xgs 8 r_3
noncomputable def x23j:=x2co xgs
theorem x1ee:x2u1 call hs u x23j r_3 eNil=j1 (xr8 call hs u) 0:=by kernel_rfl
noncomputable abbrev x2u2:=VX x5j 7 r_3
noncomputable def x23k:=x2co x5j
theorem x1ef:x2u2 call hs u x23k r_3 eNil=j1 (xj8 call hs u) 0:=by kernel_rfl
noncomputable abbrev x2gq:=VX x5k 38 r_3
noncomputable def x14j:=x2co x5k
noncomputable def xov:=nRs 3 x14j
noncomputable def x14k:=nL xov
noncomputable def x23l:=nR xov
noncomputable def x14l:=nR x14k
noncomputable def x14m:=nR x14l
noncomputable def x14n:=nR x14m
noncomputable def xow:=nR x14n
noncomputable def x23m:=nL xow
noncomputable def x23n:=nR xow
theorem x23o:x2gq call hs u x23l r_3 eNil=j1 (x1u call hs u) 3:=by kernel_rfl
theorem x23p{rec0:AV->AV->AV->AV->Mem->Nat->O2}:x2gq call hs u x23n (j4 rec0 0 3 4 5) (setE 0 (j1 (x1u call hs u) 3) eNil)=j4 (x7g call hs u rec0) 0 3 4 5:=by kernel_rfl
theorem x23q{rec0:AV->AV->AV->AV->Mem->Nat->O2}:x2gq call hs u x23m (j4 (x7g call hs u rec0) 0 3 4 5) (setE 0 (j1 (x1u call hs u) 3) eNil)=j4 (x97 call hs u rec0) 0 3 4 5:=by kernel_rfl
theorem x23r{rec0:AV->AV->AV->AV->Mem->Nat->O2}:x2gq call hs u xow (j4 rec0 0 3 4 5) (setE 0 (j1 (x1u call hs u) 3) eNil)=j4 (x97 call hs u rec0) 0 3 4 5:=sq2 x23p x23q
theorem x23s{rec0:AV->AV->AV->AV->Mem->Nat->O2}:x2gq call hs u x14n (j4 rec0 0 3 4 5) (setE 0 (j1 (x1u call hs u) 3) eNil)=j4 (x98 call hs u rec0) 0 3 4 5:=tr (sqN 1 x23r)
theorem x23t:x2gq call hs u x14m (j1 (x1u call hs u) 3) (setE 0 (j1 (x1u call hs u) 3) eNil)=j4 (x30 call hs u NN) 0 3 4 5:=lp (Ln:=fun n=>j4 (x30 call hs u n) 0 3 4 5) fun n=>tr x23s
theorem x23u:x2gq call hs u x14l (j1 (x1u call hs u) 3) eNil=j4 (x30 call hs u NN) 0 3 4 5:=bk x23t
theorem x23v:x2gq call hs u x14k (j1 (x1u call hs u) 3) eNil=j3 (xe2 call hs u) 0 3 4:=tr (sqN 1 x23u)
theorem x23w:x2gq call hs u xov r_3 eNil=j3 (xe2 call hs u) 0 3 4:=sq2 x23o x23v
theorem x1eg:x2gq call hs u x14j r_3 eNil=j1 (xj9 call hs u) 0:=tr (sqN 3 x23w)
noncomputable abbrev x2gr:=VX x5l 22 r_0
noncomputable def x14o:=x2co x5l
noncomputable def xox:=nRs 2 x14o
noncomputable def x14p:=nL xox
noncomputable def x23x:=nR xox
noncomputable def x14q:=nR x14p
noncomputable def x14r:=nR x14q
noncomputable def x14s:=nR x14r
noncomputable def xoy:=nR x14s
noncomputable def x23y:=nL xoy
noncomputable def x23z:=nR xoy
theorem x240:x2gr call hs u x23x r_0 eNil=j1 (x1v call hs u) 5:=by kernel_rfl
theorem x241{rec0:AV->AV->AV->AV->Mem->Nat->O2}:x2gr call hs u x23z (j4 rec0 1 2 5 6) (setE 0 (j1 (x1v call hs u) 5) eNil)=j4 (x7h call hs u rec0) 1 2 5 6:=by kernel_rfl
theorem x242{rec0:AV->AV->AV->AV->Mem->Nat->O2}:x2gr call hs u x23y (j4 (x7h call hs u rec0) 1 2 5 6) (setE 0 (j1 (x1v call hs u) 5) eNil)=j4 (xe3 call hs u rec0) 1 2 5 6:=by kernel_rfl
theorem x243{rec0:AV->AV->AV->AV->Mem->Nat->O2}:x2gr call hs u xoy (j4 rec0 1 2 5 6) (setE 0 (j1 (x1v call hs u) 5) eNil)=j4 (xe3 call hs u rec0) 1 2 5 6:=sq2 x241 x242
theorem x244{rec0:AV->AV->AV->AV->Mem->Nat->O2}:x2gr call hs u x14s (j4 rec0 1 2 5 6) (setE 0 (j1 (x1v call hs u) 5) eNil)=j4 (xe4 call hs u rec0) 1 2 5 6:=tr (sqN 1 x243)
theorem x245:x2gr call hs u x14r (j1 (x1v call hs u) 5) (setE 0 (j1 (x1v call hs u) 5) eNil)=j4 (x4p call hs u NN) 1 2 5 6:=lp (Ln:=fun n=>j4 (x4p call hs u n) 1 2 5 6) fun n=>tr x244
theorem x246:x2gr call hs u x14q (j1 (x1v call hs u) 5) eNil=j4 (x4p call hs u NN) 1 2 5 6:=bk x245
theorem x247:x2gr call hs u x14p (j1 (x1v call hs u) 5) eNil=j3 (xe5 call hs u) 1 2 5:=tr (sqN 1 x246)
theorem x248:x2gr call hs u xox r_0 eNil=j3 (xe5 call hs u) 1 2 5:=sq2 x240 x247
theorem x1eh:x2gr call hs u x14o r_0 eNil=j2 (xja call hs u) 0 1:=tr (sqN 2 x248)
noncomputable abbrev x2u3:=VX x5m 25 r_6
noncomputable def x249:=x2co x5m
theorem x1ei:x2u3 call hs u x249 r_6 eNil=j2 (xjb call hs u) 0 1:=by kernel_rfl
noncomputable abbrev x2u4:=VX x3h 24 r_6
noncomputable def x24a:=x2co x3h
theorem x1ej:x2u4 call hs u x24a r_6 eNil=j2 (xjc call hs u) 0 1:=by kernel_rfl
noncomputable abbrev x2eu:=VX x3i 51 r_3
noncomputable def x14t:=x2co x3i
noncomputable def xoz:=nRs 2 x14t
noncomputable def x14u:=nL xoz
noncomputable def x14v:=nR xoz
noncomputable def xp0:=nRs 2 x14v
noncomputable def x14w:=nL xp0
noncomputable def x24b:=nR xp0
noncomputable def x14x:=nR x14w
noncomputable def x14y:=nR x14x
noncomputable def x14z:=nR x14y
noncomputable def xp1:=nRs 2 x14z
noncomputable def x24c:=nL xp1
noncomputable def x24d:=nR xp1
noncomputable def x150:=nR x14u
noncomputable def x151:=nR x150
noncomputable def x24e:=nR x151
theorem x24f:x2eu call hs u x24b r_3 eNil=j1 (x1w call hs u) 4:=by kernel_rfl
theorem x24g{rec0:AV->AV->AV->AV->AV->AV->Mem->Nat->O2}:x2eu call hs u x24d (j6 rec0 1 4 6 29 30 31) (setE 2 (j1 (x1w call hs u) 4) eNil)=j6 (x7i call hs u rec0) 1 4 6 29 30 31:=by kernel_rfl
theorem x24h{rec0:AV->AV->AV->AV->AV->AV->Mem->Nat->O2}:x2eu call hs u x24c (j6 (x7i call hs u rec0) 1 4 6 29 30 31) (setE 2 (j1 (x1w call hs u) 4) eNil)=j6 (xe6 call hs u rec0) 1 4 6 29 30 31:=by kernel_rfl
theorem x24i{rec0:AV->AV->AV->AV->AV->AV->Mem->Nat->O2}:x2eu call hs u xp1 (j6 rec0 1 4 6 29 30 31) (setE 2 (j1 (x1w call hs u) 4) eNil)=j6 (xe6 call hs u rec0) 1 4 6 29 30 31:=sq2 x24g x24h
theorem x24j{rec0:AV->AV->AV->AV->AV->AV->Mem->Nat->O2}:x2eu call hs u x14z (j6 rec0 1 4 6 29 30 31) (setE 2 (j1 (x1w call hs u) 4) eNil)=j6 (xe7 call hs u rec0) 1 4 6 29 30 31:=tr (sqN 2 x24i)
theorem x24k:x2eu call hs u x14y (j1 (x1w call hs u) 4) (setE 2 (j1 (x1w call hs u) 4) eNil)=j6 (x4q call hs u NN) 1 4 6 29 30 31:=lp (Ln:=fun n=>j6 (x4q call hs u n) 1 4 6 29 30 31) fun n=>tr x24j
theorem x24l:x2eu call hs u x14x (j1 (x1w call hs u) 4) eNil=j6 (x4q call hs u NN) 1 4 6 29 30 31:=bk x24k
theorem x24m:x2eu call hs u x14w (j1 (x1w call hs u) 4) eNil=j4 (xe8 call hs u) 1 3 4 6:=tr (sqN 1 x24l)
theorem x24n:x2eu call hs u xp0 r_3 eNil=j4 (xe8 call hs u) 1 3 4 6:=sq2 x24f x24m
theorem x24o:x2eu call hs u x14v r_3 eNil=j3 (x4r call hs u) 1 3 4:=tr (sqN 2 x24n)
theorem x24p{rec1:AV->AV->AV->AV->AV->Mem->Nat->O2}:x2eu call hs u x24e (j5 rec1 1 3 4 12 13) (setE 0 (j3 (x4r call hs u) 1 3 4) eNil)=j5 (xe9 call hs u rec1) 1 3 4 12 13:=by kernel_rfl
theorem x24q:x2eu call hs u x151 (j3 (x4r call hs u) 1 3 4) (setE 0 (j3 (x4r call hs u) 1 3 4) eNil)=j5 (x4s call hs u NN) 1 3 4 12 13:=lp (Ln:=fun n=>j5 (x4s call hs u n) 1 3 4 12 13) fun n=>tr x24p
theorem x24r:x2eu call hs u x150 (j3 (x4r call hs u) 1 3 4) eNil=j5 (x4s call hs u NN) 1 3 4 12 13:=bk x24q
theorem x24s:x2eu call hs u x14u (j3 (x4r call hs u) 1 3 4) eNil=j3 (xea call hs u) 1 3 4:=tr (sqN 1 x24r)
theorem x24t:x2eu call hs u xoz r_3 eNil=j3 (xea call hs u) 1 3 4:=sq2 x24o x24s
theorem x1ek:x2eu call hs u x14t r_3 eNil=j1 (xjd call hs u) 0:=tr (sqN 2 x24t)
noncomputable abbrev x2u5:=VX xgz 21 r_6
noncomputable def x24u:=x2co xgz
theorem x1el:x2u5 call hs u x24u r_6 eNil=j2 (xr9 call hs u) 0 1:=by kernel_rfl
noncomputable abbrev x2u6:=VX x5n 6 r_3
noncomputable def x24v:=x2co x5n
theorem x1em:x2u6 call hs u x24v r_3 eNil=j1 (xje call hs u) 0:=by kernel_rfl
noncomputable abbrev x2u7:=VX x5o 6 r_3
noncomputable def x24w:=x2co x5o
theorem x1en:x2u7 call hs u x24w r_3 eNil=j1 (xjf call hs u) 0:=by kernel_rfl
noncomputable abbrev x2dl:=VX x5p 96 r_16
noncomputable def x152:=x2co x5p
noncomputable def xp2:=nRs 4 x152
noncomputable def x153:=nL xp2
noncomputable def x154:=nR xp2
noncomputable def xp3:=nR x154
noncomputable def x155:=nL xp3
noncomputable def x24x:=nR xp3
noncomputable def x156:=nR x155
noncomputable def x157:=nR x156
noncomputable def x24y:=nR x157
noncomputable def x158:=nR x153
noncomputable def x159:=nR x158
noncomputable def x15a:=nR x159
noncomputable def xp4:=nRs 2 x15a
noncomputable def x15b:=nL xp4
noncomputable def x24z:=nR xp4
noncomputable def x15c:=nR x15b
noncomputable def x15d:=nR x15c
noncomputable def x15e:=nR x15d
noncomputable def x15f:=nR x15e
noncomputable def xp5:=nR x15f
noncomputable def x15g:=nL xp5
noncomputable def x250:=nR xp5
noncomputable def x15h:=nR x15g
noncomputable def x15i:=nR x15h
noncomputable def x15j:=nR x15i
noncomputable def x15k:=nR x15j
noncomputable def xp6:=nR x15k
noncomputable def x251:=nL xp6
noncomputable def x252:=nR xp6
theorem x253:x2dl call hs u x24x r_16 eNil=j1 (x4t call hs u) 16:=by kernel_rfl
theorem x254{rec0:AV->AV->AV->AV->AV->Mem->Nat->O2}:x2dl call hs u x24y (j5 rec0 2 4 9 16 17) (setE 6 (j1 (x4t call hs u) 16) eNil)=j5 (xeb call hs u rec0) 2 4 9 16 17:=by kernel_rfl
theorem x255:x2dl call hs u x157 (j1 (x4t call hs u) 16) (setE 6 (j1 (x4t call hs u) 16) eNil)=j5 (x4u call hs u NN) 2 4 9 16 17:=lp (Ln:=fun n=>j5 (x4u call hs u n) 2 4 9 16 17) fun n=>tr x254
theorem x256:x2dl call hs u x156 (j1 (x4t call hs u) 16) eNil=j5 (x4u call hs u NN) 2 4 9 16 17:=bk x255
theorem x257:x2dl call hs u x155 (j1 (x4t call hs u) 16) eNil=j5 (xec call hs u) 2 3 4 9 16:=tr (sqN 1 x256)
theorem x258:x2dl call hs u xp3 r_16 eNil=j5 (xec call hs u) 2 3 4 9 16:=sq2 x253 x257
theorem x259:x2dl call hs u x154 r_16 eNil=j4 (xd call hs u) 2 3 4 9:=tr (sqN 1 x258)
theorem x25a{rec1:AV->AV->AV->AV->AV->AV->AV->AV->Mem->Nat->O2}:x2dl call hs u x24z (j8 rec1 1 2 3 4 9 10 31 32) (setE 0 (j4 (xd call hs u) 2 3 4 9) eNil)=j8 (x6 call hs u rec1) 1 2 3 4 9 10 31 32:=by kernel_rfl
theorem x25b{rec1:AV->AV->AV->AV->AV->AV->AV->AV->Mem->Nat->O2}{rec2:AV->AV->AV->AV->AV->AV->AV->AV->AV->Mem->Nat->O2}:x2dl call hs u x250 (j9 rec2 1 2 3 4 9 10 11 31 32) (setE 2 (j8 (x6 call hs u rec1) 1 2 3 4 9 10 31 32) (setE 1 (j8 (x6 call hs u rec1) 1 2 3 4 9 10 31 32) (setE 0 (j4 (xd call hs u) 2 3 4 9) eNil)))=j9 (xk call hs u rec1 rec2) 1 2 3 4 9 10 11 31 32:=by kernel_rfl
theorem x25c{rec1:AV->AV->AV->AV->AV->AV->AV->AV->Mem->Nat->O2}{rec2:AV->AV->AV->AV->AV->AV->AV->AV->AV->Mem->Nat->O2}{rec3:AV->AV->AV->AV->AV->AV->AV->AV->AV->AV->Mem->Nat->O2}:x2dl call hs u x252 (j10 rec3 1 2 3 4 9 10 11 12 31 32) (setE 4 (j9 (xk call hs u rec1 rec2) 1 2 3 4 9 10 11 31 32) (setE 3 (j9 (xk call hs u rec1 rec2) 1 2 3 4 9 10 11 31 32) (setE 2 (j8 (x6 call hs u rec1) 1 2 3 4 9 10 31 32) (setE 1 (j8 (x6 call hs u rec1) 1 2 3 4 9 10 31 32) (setE 0 (j4 (xd call hs u) 2 3 4 9) eNil)))))=j10 (x65 call hs u rec1 rec2 rec3) 1 2 3 4 9 10 11 12 31 32:=by kernel_rfl
theorem x25d{rec1:AV->AV->AV->AV->AV->AV->AV->AV->Mem->Nat->O2}{rec2:AV->AV->AV->AV->AV->AV->AV->AV->AV->Mem->Nat->O2}{rec3:AV->AV->AV->AV->AV->AV->AV->AV->AV->AV->Mem->Nat->O2}:x2dl call hs u x251 (j10 (x65 call hs u rec1 rec2 rec3) 1 2 3 4 9 10 11 12 31 32) (setE 4 (j9 (xk call hs u rec1 rec2) 1 2 3 4 9 10 11 31 32) (setE 3 (j9 (xk call hs u rec1 rec2) 1 2 3 4 9 10 11 31 32) (setE 2 (j8 (x6 call hs u rec1) 1 2 3 4 9 10 31 32) (setE 1 (j8 (x6 call hs u rec1) 1 2 3 4 9 10 31 32) (setE 0 (j4 (xd call hs u) 2 3 4 9) eNil)))))=j10 (xed call hs u rec1 rec2 rec3) 1 2 3 4 9 10 11 12 31 32:=by kernel_rfl
theorem x25e{rec1:AV->AV->AV->AV->AV->AV->AV->AV->Mem->Nat->O2}{rec2:AV->AV->AV->AV->AV->AV->AV->AV->AV->Mem->Nat->O2}{rec3:AV->AV->AV->AV->AV->AV->AV->AV->AV->AV->Mem->Nat->O2}:x2dl call hs u xp6 (j10 rec3 1 2 3 4 9 10 11 12 31 32) (setE 4 (j9 (xk call hs u rec1 rec2) 1 2 3 4 9 10 11 31 32) (setE 3 (j9 (xk call hs u rec1 rec2) 1 2 3 4 9 10 11 31 32) (setE 2 (j8 (x6 call hs u rec1) 1 2 3 4 9 10 31 32) (setE 1 (j8 (x6 call hs u rec1) 1 2 3 4 9 10 31 32) (setE 0 (j4 (xd call hs u) 2 3 4 9) eNil)))))=j10 (xed call hs u rec1 rec2 rec3) 1 2 3 4 9 10 11 12 31 32:=sq2 x25c x25d
theorem x25f{rec1:AV->AV->AV->AV->AV->AV->AV->AV->Mem->Nat->O2}{rec2:AV->AV->AV->AV->AV->AV->AV->AV->AV->Mem->Nat->O2}{rec3:AV->AV->AV->AV->AV->AV->AV->AV->AV->AV->Mem->Nat->O2}:x2dl call hs u x15k (j10 rec3 1 2 3 4 9 10 11 12 31 32) (setE 4 (j9 (xk call hs u rec1 rec2) 1 2 3 4 9 10 11 31 32) (setE 3 (j9 (xk call hs u rec1 rec2) 1 2 3 4 9 10 11 31 32) (setE 2 (j8 (x6 call hs u rec1) 1 2 3 4 9 10 31 32) (setE 1 (j8 (x6 call hs u rec1) 1 2 3 4 9 10 31 32) (setE 0 (j4 (xd call hs u) 2 3 4 9) eNil)))))=j10 (xee call hs u rec1 rec2 rec3) 1 2 3 4 9 10 11 12 31 32:=tr (sqN 1 x25e)
theorem x25g{rec1:AV->AV->AV->AV->AV->AV->AV->AV->Mem->Nat->O2}{rec2:AV->AV->AV->AV->AV->AV->AV->AV->AV->Mem->Nat->O2}:x2dl call hs u x15j (j9 (xk call hs u rec1 rec2) 1 2 3 4 9 10 11 31 32) (setE 4 (j9 (xk call hs u rec1 rec2) 1 2 3 4 9 10 11 31 32) (setE 3 (j9 (xk call hs u rec1 rec2) 1 2 3 4 9 10 11 31 32) (setE 2 (j8 (x6 call hs u rec1) 1 2 3 4 9 10 31 32) (setE 1 (j8 (x6 call hs u rec1) 1 2 3 4 9 10 31 32) (setE 0 (j4 (xd call hs u) 2 3 4 9) eNil)))))=j10 (x26 call hs u rec1 rec2 NN) 1 2 3 4 9 10 11 12 31 32:=lp (Ln:=fun n=>j10 (x26 call hs u rec1 rec2 n) 1 2 3 4 9 10 11 12 31 32) fun n=>tr x25f
theorem x25h{rec1:AV->AV->AV->AV->AV->AV->AV->AV->Mem->Nat->O2}{rec2:AV->AV->AV->AV->AV->AV->AV->AV->AV->Mem->Nat->O2}:x2dl call hs u x15i (j9 (xk call hs u rec1 rec2) 1 2 3 4 9 10 11 31 32) (setE 3 (j9 (xk call hs u rec1 rec2) 1 2 3 4 9 10 11 31 32) (setE 2 (j8 (x6 call hs u rec1) 1 2 3 4 9 10 31 32) (setE 1 (j8 (x6 call hs u rec1) 1 2 3 4 9 10 31 32) (setE 0 (j4 (xd call hs u) 2 3 4 9) eNil))))=j10 (x26 call hs u rec1 rec2 NN) 1 2 3 4 9 10 11 12 31 32:=bk x25g
theorem x25i{rec1:AV->AV->AV->AV->AV->AV->AV->AV->Mem->Nat->O2}{rec2:AV->AV->AV->AV->AV->AV->AV->AV->AV->Mem->Nat->O2}:x2dl call hs u x15h (j9 (xk call hs u rec1 rec2) 1 2 3 4 9 10 11 31 32) (setE 3 (j9 (xk call hs u rec1 rec2) 1 2 3 4 9 10 11 31 32) (setE 2 (j8 (x6 call hs u rec1) 1 2 3 4 9 10 31 32) (setE 1 (j8 (x6 call hs u rec1) 1 2 3 4 9 10 31 32) (setE 0 (j4 (xd call hs u) 2 3 4 9) eNil))))=j9 (x99 call hs u rec1 rec2) 1 2 3 4 9 10 11 31 32:=tr (sqN 1 x25h)
theorem x25j{rec1:AV->AV->AV->AV->AV->AV->AV->AV->Mem->Nat->O2}{rec2:AV->AV->AV->AV->AV->AV->AV->AV->AV->Mem->Nat->O2}:x2dl call hs u x15g (j9 (xk call hs u rec1 rec2) 1 2 3 4 9 10 11 31 32) (setE 2 (j8 (x6 call hs u rec1) 1 2 3 4 9 10 31 32) (setE 1 (j8 (x6 call hs u rec1) 1 2 3 4 9 10 31 32) (setE 0 (j4 (xd call hs u) 2 3 4 9) eNil)))=j9 (x99 call hs u rec1 rec2) 1 2 3 4 9 10 11 31 32:=bk x25i
theorem x25k{rec1:AV->AV->AV->AV->AV->AV->AV->AV->Mem->Nat->O2}{rec2:AV->AV->AV->AV->AV->AV->AV->AV->AV->Mem->Nat->O2}:x2dl call hs u xp5 (j9 rec2 1 2 3 4 9 10 11 31 32) (setE 2 (j8 (x6 call hs u rec1) 1 2 3 4 9 10 31 32) (setE 1 (j8 (x6 call hs u rec1) 1 2 3 4 9 10 31 32) (setE 0 (j4 (xd call hs u) 2 3 4 9) eNil)))=j9 (x99 call hs u rec1 rec2) 1 2 3 4 9 10 11 31 32:=sq2 x25b x25j
theorem x25l{rec1:AV->AV->AV->AV->AV->AV->AV->AV->Mem->Nat->O2}{rec2:AV->AV->AV->AV->AV->AV->AV->AV->AV->Mem->Nat->O2}:x2dl call hs u x15f (j9 rec2 1 2 3 4 9 10 11 31 32) (setE 2 (j8 (x6 call hs u rec1) 1 2 3 4 9 10 31 32) (setE 1 (j8 (x6 call hs u rec1) 1 2 3 4 9 10 31 32) (setE 0 (j4 (xd call hs u) 2 3 4 9) eNil)))=j9 (xef call hs u rec1 rec2) 1 2 3 4 9 10 11 31 32:=tr (sqN 1 x25k)
theorem x25m{rec1:AV->AV->AV->AV->AV->AV->AV->AV->Mem->Nat->O2}:x2dl call hs u x15e (j8 (x6 call hs u rec1) 1 2 3 4 9 10 31 32) (setE 2 (j8 (x6 call hs u rec1) 1 2 3 4 9 10 31 32) (setE 1 (j8 (x6 call hs u rec1) 1 2 3 4 9 10 31 32) (setE 0 (j4 (xd call hs u) 2 3 4 9) eNil)))=j9 (x4v call hs u rec1 NN) 1 2 3 4 9 10 11 31 32:=lp (Ln:=fun n=>j9 (x4v call hs u rec1 n) 1 2 3 4 9 10 11 31 32) fun n=>tr x25l
theorem x25n{rec1:AV->AV->AV->AV->AV->AV->AV->AV->Mem->Nat->O2}:x2dl call hs u x15d (j8 (x6 call hs u rec1) 1 2 3 4 9 10 31 32) (setE 1 (j8 (x6 call hs u rec1) 1 2 3 4 9 10 31 32) (setE 0 (j4 (xd call hs u) 2 3 4 9) eNil))=j9 (x4v call hs u rec1 NN) 1 2 3 4 9 10 11 31 32:=bk x25m
theorem x25o{rec1:AV->AV->AV->AV->AV->AV->AV->AV->Mem->Nat->O2}:x2dl call hs u x15c (j8 (x6 call hs u rec1) 1 2 3 4 9 10 31 32) (setE 1 (j8 (x6 call hs u rec1) 1 2 3 4 9 10 31 32) (setE 0 (j4 (xd call hs u) 2 3 4 9) eNil))=j8 (x9a call hs u rec1) 1 2 3 4 9 10 31 32:=tr (sqN 1 x25n)
theorem x25p{rec1:AV->AV->AV->AV->AV->AV->AV->AV->Mem->Nat->O2}:x2dl call hs u x15b (j8 (x6 call hs u rec1) 1 2 3 4 9 10 31 32) (setE 0 (j4 (xd call hs u) 2 3 4 9) eNil)=j8 (x9a call hs u rec1) 1 2 3 4 9 10 31 32:=bk x25o
theorem x25q{rec1:AV->AV->AV->AV->AV->AV->AV->AV->Mem->Nat->O2}:x2dl call hs u xp4 (j8 rec1 1 2 3 4 9 10 31 32) (setE 0 (j4 (xd call hs u) 2 3 4 9) eNil)=j8 (x9a call hs u rec1) 1 2 3 4 9 10 31 32:=sq2 x25a x25p
theorem x25r{rec1:AV->AV->AV->AV->AV->AV->AV->AV->Mem->Nat->O2}:x2dl call hs u x15a (j8 rec1 1 2 3 4 9 10 31 32) (setE 0 (j4 (xd call hs u) 2 3 4 9) eNil)=j8 (xeg call hs u rec1) 1 2 3 4 9 10 31 32:=tr (sqN 2 x25q)
theorem x25s:x2dl call hs u x159 (j4 (xd call hs u) 2 3 4 9) (setE 0 (j4 (xd call hs u) 2 3 4 9) eNil)=j8 (x31 call hs u NN) 1 2 3 4 9 10 31 32:=lp (Ln:=fun n=>j8 (x31 call hs u n) 1 2 3 4 9 10 31 32) fun n=>tr x25r
theorem x25t:x2dl call hs u x158 (j4 (xd call hs u) 2 3 4 9) eNil=j8 (x31 call hs u NN) 1 2 3 4 9 10 31 32:=bk x25s
theorem x25u:x2dl call hs u x153 (j4 (xd call hs u) 2 3 4 9) eNil=j6 (xeh call hs u) 1 2 3 4 9 10:=tr (sqN 1 x25t)
theorem x25v:x2dl call hs u xp2 r_16 eNil=j6 (xeh call hs u) 1 2 3 4 9 10:=sq2 x259 x25u
theorem x1eo:x2dl call hs u x152 r_16 eNil=j4 (xjg call hs u) 0 1 2 3:=tr (sqN 4 x25v)
noncomputable abbrev x2ni:=VX x1f 43 r_17
noncomputable abbrev x2qp:=VX (R:=Mem) x1f 43 fNil
noncomputable def x15l:=x2co x1f
noncomputable def x15m:=nRs 3 x15l
noncomputable def xfl:=nR x15m
noncomputable def x25w:=nL xfl
noncomputable def x25x:=nR xfl
theorem x25y:x2qp call hs u x25x (fun s=>some s.m) eNil=j7 (xei call hs u) 1 4 5 6 7 8 9:=by kernel_rfl
theorem x25z:x2qp call hs u x25w (j7 (xei call hs u) 1 4 5 6 7 8 9) eNil=j7 (xej call hs u) 1 4 5 6 7 17 18:=by kernel_rfl
theorem x260:x2ni call hs u xfl r_17 (setE 0 r_17 eNil)=j6 (xek call hs u) 1 4 5 6 7 16:=tr (rg (C:=xfl) (c:={f:=x1f,u:=u,nt:=43,hs:=hs}) (f:=(.tmp 16)) (ps:=#[17,18]) (fun u=>x25y) (fun u=>x25z))
theorem x261:x2ni call hs u x15m r_17 eNil=j6 (xek call hs u) 1 4 5 6 7 16:=bk x260
theorem x1ep:x2ni call hs u x15l r_17 eNil=j7 (xjh call hs u) 0 1 2 3 4 5 6:=tr (sqN 3 x261)
noncomputable abbrev x2u8:=VX x6u 8 r_1
noncomputable def x262:=x2co x6u
theorem x1eq:x2u8 call hs u x262 r_1 eNil=j3 (xji call hs u) 0 1 2:=by kernel_rfl
noncomputable abbrev x2f1:=VX x6v 49 r_3
noncomputable def x15n:=x2co x6v
noncomputable def xp7:=nRs 2 x15n
noncomputable def x15o:=nL xp7
noncomputable def x263:=nR xp7
noncomputable def x15p:=nR x15o
noncomputable def x15q:=nR x15p
noncomputable def x15r:=nR x15q
noncomputable def xp8:=nRs 2 x15r
noncomputable def x15s:=nL xp8
noncomputable def x264:=nR xp8
noncomputable def x15t:=nR x15s
noncomputable def x15u:=nR x15t
noncomputable def xp9:=nR x15u
noncomputable def x265:=nL xp9
noncomputable def x266:=nR xp9
theorem x267:x2f1 call hs u x263 r_3 eNil=j0 (xx call hs u):=by kernel_rfl
theorem x268{rec0:AV->AV->AV->Mem->Nat->O2}:x2f1 call hs u x264 (j3 rec0 13 14 15) (setE 0 (j0 (xx call hs u)) eNil)=j3 (xu call hs u rec0) 13 14 15:=by kernel_rfl
theorem x269{rec0:AV->AV->AV->Mem->Nat->O2}:x2f1 call hs u x266 (j3 (xu call hs u rec0) 13 14 15) (setE 2 (j3 (xu call hs u rec0) 13 14 15) (setE 1 (j3 (xu call hs u rec0) 13 14 15) (setE 0 (j0 (xx call hs u)) eNil)))=j6 (x9b call hs u rec0) 3 4 13 14 15 20:=by kernel_rfl
theorem x26a{rec0:AV->AV->AV->Mem->Nat->O2}:x2f1 call hs u x265 (j6 (x9b call hs u rec0) 3 4 13 14 15 20) (setE 2 (j3 (xu call hs u rec0) 13 14 15) (setE 1 (j3 (xu call hs u rec0) 13 14 15) (setE 0 (j0 (xx call hs u)) eNil)))=j5 (x9c call hs u rec0) 3 4 13 14 15:=by kernel_rfl
theorem x26b{rec0:AV->AV->AV->Mem->Nat->O2}:x2f1 call hs u xp9 (j3 (xu call hs u rec0) 13 14 15) (setE 2 (j3 (xu call hs u rec0) 13 14 15) (setE 1 (j3 (xu call hs u rec0) 13 14 15) (setE 0 (j0 (xx call hs u)) eNil)))=j5 (x9c call hs u rec0) 3 4 13 14 15:=sq2 x269 x26a
theorem x26c{rec0:AV->AV->AV->Mem->Nat->O2}:x2f1 call hs u x15u (j3 (xu call hs u rec0) 13 14 15) (setE 1 (j3 (xu call hs u rec0) 13 14 15) (setE 0 (j0 (xx call hs u)) eNil))=j5 (x9c call hs u rec0) 3 4 13 14 15:=bk x26b
theorem x26d{rec0:AV->AV->AV->Mem->Nat->O2}:x2f1 call hs u x15t (j3 (xu call hs u rec0) 13 14 15) (setE 1 (j3 (xu call hs u rec0) 13 14 15) (setE 0 (j0 (xx call hs u)) eNil))=j3 (x9d call hs u rec0) 13 14 15:=tr (sqN 1 x26c)
theorem x26e{rec0:AV->AV->AV->Mem->Nat->O2}:x2f1 call hs u x15s (j3 (xu call hs u rec0) 13 14 15) (setE 0 (j0 (xx call hs u)) eNil)=j3 (x9d call hs u rec0) 13 14 15:=bk x26d
theorem x26f{rec0:AV->AV->AV->Mem->Nat->O2}:x2f1 call hs u xp8 (j3 rec0 13 14 15) (setE 0 (j0 (xx call hs u)) eNil)=j3 (x9d call hs u rec0) 13 14 15:=sq2 x268 x26e
theorem x26g{rec0:AV->AV->AV->Mem->Nat->O2}:x2f1 call hs u x15r (j3 rec0 13 14 15) (setE 0 (j0 (xx call hs u)) eNil)=j3 (xel call hs u rec0) 13 14 15:=tr (sqN 2 x26f)
theorem x26h:x2f1 call hs u x15q (j0 (xx call hs u)) (setE 0 (j0 (xx call hs u)) eNil)=j3 (x32 call hs u NN) 13 14 15:=lp (Ln:=fun n=>j3 (x32 call hs u n) 13 14 15) fun n=>tr x26g
theorem x26i:x2f1 call hs u x15p (j0 (xx call hs u)) eNil=j3 (x32 call hs u NN) 13 14 15:=bk x26h
theorem x26j:x2f1 call hs u x15o (j0 (xx call hs u)) eNil=j1 (xem call hs u) 0:=tr (sqN 1 x26i)
theorem x26k:x2f1 call hs u xp7 r_3 eNil=j1 (xem call hs u) 0:=sq2 x267 x26j
theorem x1er:x2f1 call hs u x15n r_3 eNil=j1 (xjj call hs u) 0:=tr (sqN 2 x26k)
noncomputable abbrev x2u9:=VX x6w 9 r_0
noncomputable def x26l:=x2co x6w
theorem x1es:x2u9 call hs u x26l r_0 eNil=j2 (xjk call hs u) 0 1:=by kernel_rfl
noncomputable abbrev x2ua:=VX xv 9 r_14
noncomputable def x26m:=x2co xv
theorem x1et:x2ua call hs u x26m r_14 eNil=j2 (xjl call hs u) 0 1:=by kernel_rfl
noncomputable abbrev x2ix:=VX x6x 66 r_8
noncomputable def x15v:=x2co x6x
noncomputable def xpa:=nRs 4 x15v
noncomputable def x15w:=nL xpa
noncomputable def x26n:=nR xpa
noncomputable def x15x:=nR x15w
noncomputable def x15y:=nR x15x
noncomputable def x26o:=nR x15y
theorem x26p:x2ix call hs u x26n r_8 eNil=j0 (x4w call hs u):=by kernel_rfl
theorem x26q{rec0:AV->AV->AV->AV->AV->Mem->Nat->O2}:x2ix call hs u x26o (j5 rec0 1 6 26 27 28) (setE 0 (j0 (x4w call hs u)) eNil)=j5 (xen call hs u rec0) 1 6 26 27 28:=by kernel_rfl
theorem x26r:x2ix call hs u x15y (j0 (x4w call hs u)) (setE 0 (j0 (x4w call hs u)) eNil)=j5 (x33 call hs u NN) 1 6 26 27 28:=lp (Ln:=fun n=>j5 (x33 call hs u n) 1 6 26 27 28) fun n=>tr x26q
theorem x26s:x2ix call hs u x15x (j0 (x4w call hs u)) eNil=j5 (x33 call hs u NN) 1 6 26 27 28:=bk x26r
theorem x26t:x2ix call hs u x15w (j0 (x4w call hs u)) eNil=j2 (xeo call hs u) 1 6:=tr (sqN 1 x26s)
theorem x26u:x2ix call hs u xpa r_8 eNil=j2 (xeo call hs u) 1 6:=sq2 x26p x26t
theorem x1eu:x2ix call hs u x15v r_8 eNil=j1 (xjn call hs u) 0:=tr (sqN 4 x26u)
noncomputable abbrev x2iy:=VX xb7 19 r_0
noncomputable def x15z:=x2co xb7
noncomputable def xpb:=nR x15z
noncomputable def x160:=nL xpb
noncomputable def x26v:=nR xpb
noncomputable def x161:=nR x160
noncomputable def x162:=nR x161
noncomputable def x26w:=nR x162
theorem x26x:x2iy call hs u x26v r_0 eNil=j0 (x66 call hs u):=by kernel_rfl
theorem x26y{rec0:AV->AV->AV->AV->Mem->Nat->O2}:x2iy call hs u x26w (j4 rec0 0 1 7 8) (setE 0 (j0 (x66 call hs u)) eNil)=j4 (xra call hs u rec0) 0 1 7 8:=by kernel_rfl
theorem x26z:x2iy call hs u x162 (j0 (x66 call hs u)) (setE 0 (j0 (x66 call hs u)) eNil)=j4 (x9f call hs u NN) 0 1 7 8:=lp (Ln:=fun n=>j4 (x9f call hs u n) 0 1 7 8) fun n=>tr x26y
theorem x270:x2iy call hs u x161 (j0 (x66 call hs u)) eNil=j4 (x9f call hs u NN) 0 1 7 8:=bk x26z
theorem x271:x2iy call hs u x160 (j0 (x66 call hs u)) eNil=j2 (xjo call hs u) 0 1:=tr (sqN 1 x270)
theorem x272:x2iy call hs u xpb r_0 eNil=j2 (xjo call hs u) 0 1:=sq2 x26x x271
theorem x1ev:x2iy call hs u x15z r_0 eNil=j2 (xrb call hs u) 0 1:=tr (sqN 1 x272)
noncomputable abbrev x2ub:=VX x3j 41 r_0
noncomputable def x273:=x2co x3j
theorem x1ew:x2ub call hs u x273 r_0 eNil=j2 (xjp call hs u) 0 1:=by kernel_rfl
noncomputable abbrev x2iz:=VX x59 19 r_0
noncomputable def x163:=x2co x59
noncomputable def xpc:=nR x163
noncomputable def x164:=nL xpc
noncomputable def x274:=nR xpc
noncomputable def x165:=nR x164
noncomputable def x166:=nR x165
noncomputable def x275:=nR x166
theorem x276:x2iz call hs u x274 r_0 eNil=j0 (x4x call hs u):=by kernel_rfl
theorem x277{rec0:AV->AV->AV->AV->Mem->Nat->O2}:x2iz call hs u x275 (j4 rec0 0 1 7 8) (setE 0 (j0 (x4x call hs u)) eNil)=j4 (xep call hs u rec0) 0 1 7 8:=by kernel_rfl
theorem x278:x2iz call hs u x166 (j0 (x4x call hs u)) (setE 0 (j0 (x4x call hs u)) eNil)=j4 (x4y call hs u NN) 0 1 7 8:=lp (Ln:=fun n=>j4 (x4y call hs u n) 0 1 7 8) fun n=>tr x277
theorem x279:x2iz call hs u x165 (j0 (x4x call hs u)) eNil=j4 (x4y call hs u NN) 0 1 7 8:=bk x278
theorem x27a:x2iz call hs u x164 (j0 (x4x call hs u)) eNil=j2 (xeq call hs u) 0 1:=tr (sqN 1 x279)
theorem x27b:x2iz call hs u xpc r_0 eNil=j2 (xeq call hs u) 0 1:=sq2 x276 x27a
theorem x1cr:x2iz call hs u x163 r_0 eNil=j2 (xjq call hs u) 0 1:=tr (sqN 1 x27b)
noncomputable abbrev x2j0:=VX xb8 59 r_15
noncomputable def x167:=x2co xb8
noncomputable def xpd:=nRs 4 x167
noncomputable def x168:=nL xpd
noncomputable def x27c:=nR xpd
noncomputable def x169:=nR x168
noncomputable def x16a:=nR x169
noncomputable def x27d:=nR x16a
theorem x27e:x2j0 call hs u x27c r_15 eNil=j2 (x67 call hs u) 2 5:=by kernel_rfl
theorem x27f{rec0:AV->AV->AV->AV->AV->AV->AV->Mem->Nat->O2}:x2j0 call hs u x27d (j7 rec0 1 2 4 5 25 26 27) (setE 0 (j2 (x67 call hs u) 2 5) eNil)=j7 (xrc call hs u rec0) 1 2 4 5 25 26 27:=by kernel_rfl
theorem x27g:x2j0 call hs u x16a (j2 (x67 call hs u) 2 5) (setE 0 (j2 (x67 call hs u) 2 5) eNil)=j7 (x9g call hs u NN) 1 2 4 5 25 26 27:=lp (Ln:=fun n=>j7 (x9g call hs u n) 1 2 4 5 25 26 27) fun n=>tr x27f
theorem x27h:x2j0 call hs u x169 (j2 (x67 call hs u) 2 5) eNil=j7 (x9g call hs u NN) 1 2 4 5 25 26 27:=bk x27g
theorem x27i:x2j0 call hs u x168 (j2 (x67 call hs u) 2 5) eNil=j4 (xjr call hs u) 1 2 4 5:=tr (sqN 1 x27h)
theorem x27j:x2j0 call hs u xpd r_15 eNil=j4 (xjr call hs u) 1 2 4 5:=sq2 x27e x27i
theorem x1ex:x2j0 call hs u x167 r_15 eNil=j1 (xrd call hs u) 0:=tr (sqN 4 x27j)
noncomputable abbrev x2uc:=VX x6y 14 r_18
noncomputable def x27k:=x2co x6y
theorem x1ey:x2uc call hs u x27k r_18 eNil=j1 (xre call hs u) 0:=by kernel_rfl
noncomputable abbrev x2j1:=VX xb9 26 r_3
noncomputable def x16b:=x2co xb9
noncomputable def xpe:=nRs 3 x16b
noncomputable def x16c:=nL xpe
noncomputable def x27l:=nR xpe
noncomputable def x16d:=nR x16c
noncomputable def x16e:=nR x16d
noncomputable def x27m:=nR x16e
theorem x27n:x2j1 call hs u x27l r_3 eNil=j2 (x68 call hs u) 1 4:=by kernel_rfl
theorem x27o{rec0:AV->AV->AV->AV->AV->Mem->Nat->O2}:x2j1 call hs u x27m (j5 rec0 1 3 4 10 11) (setE 0 (j2 (x68 call hs u) 1 4) eNil)=j5 (xrf call hs u rec0) 1 3 4 10 11:=by kernel_rfl
theorem x27p:x2j1 call hs u x16e (j2 (x68 call hs u) 1 4) (setE 0 (j2 (x68 call hs u) 1 4) eNil)=j5 (x9h call hs u NN) 1 3 4 10 11:=lp (Ln:=fun n=>j5 (x9h call hs u n) 1 3 4 10 11) fun n=>tr x27o
theorem x27q:x2j1 call hs u x16d (j2 (x68 call hs u) 1 4) eNil=j5 (x9h call hs u NN) 1 3 4 10 11:=bk x27p
theorem x27r:x2j1 call hs u x16c (j2 (x68 call hs u) 1 4) eNil=j3 (xjs call hs u) 1 3 4:=tr (sqN 1 x27q)
theorem x27s:x2j1 call hs u xpe r_3 eNil=j3 (xjs call hs u) 1 3 4:=sq2 x27n x27r
theorem x1ez:x2j1 call hs u x16b r_3 eNil=j1 (xrg call hs u) 0:=tr (sqN 3 x27s)
noncomputable abbrev x2ed:=VX x8a 64 r_3
noncomputable def x16f:=x2co x8a
noncomputable def xpf:=nRs 2 x16f
noncomputable def x16g:=nL xpf
noncomputable def x16h:=nR xpf
noncomputable def xpg:=nRs 2 x16h
noncomputable def x16i:=nL xpg
noncomputable def x27t:=nR xpg
noncomputable def x16j:=nR x16i
noncomputable def x16k:=nR x16j
noncomputable def x16l:=nR x16k
noncomputable def xph:=nRs 2 x16l
noncomputable def x16m:=nL xph
noncomputable def x27u:=nR xph
noncomputable def x16n:=nR x16m
noncomputable def xpi:=nR x16n
noncomputable def x27v:=nL xpi
noncomputable def x27w:=nR xpi
noncomputable def x16o:=nR x16g
noncomputable def x27x:=nR x16o
theorem x27y:x2ed call hs u x27t r_3 eNil=j1 (x16 call hs u) 3:=by kernel_rfl
theorem x27z{rec0:AV->AV->AV->AV->AV->Mem->Nat->O2}:x2ed call hs u x27u (j5 rec0 3 6 26 27 28) (setE 2 (j1 (x16 call hs u) 3) eNil)=j5 (x27 call hs u rec0) 3 6 26 27 28:=by kernel_rfl
theorem x280{rec0:AV->AV->AV->AV->AV->Mem->Nat->O2}:x2ed call hs u x27w (j5 (x27 call hs u rec0) 3 6 26 27 28) (setE 3 (j5 (x27 call hs u rec0) 3 6 26 27 28) (setE 2 (j1 (x16 call hs u) 3) eNil))=j7 (xer call hs u rec0) 3 6 7 8 26 27 28:=by kernel_rfl
theorem x281{rec0:AV->AV->AV->AV->AV->Mem->Nat->O2}:x2ed call hs u x27v (j7 (xer call hs u rec0) 3 6 7 8 26 27 28) (setE 3 (j5 (x27 call hs u rec0) 3 6 26 27 28) (setE 2 (j1 (x16 call hs u) 3) eNil))=j7 (xju call hs u rec0) 3 6 7 8 26 27 28:=by kernel_rfl
theorem x282{rec0:AV->AV->AV->AV->AV->Mem->Nat->O2}:x2ed call hs u xpi (j5 (x27 call hs u rec0) 3 6 26 27 28) (setE 3 (j5 (x27 call hs u rec0) 3 6 26 27 28) (setE 2 (j1 (x16 call hs u) 3) eNil))=j7 (xju call hs u rec0) 3 6 7 8 26 27 28:=sq2 x280 x281
theorem x283{rec0:AV->AV->AV->AV->AV->Mem->Nat->O2}:x2ed call hs u x16n (j5 (x27 call hs u rec0) 3 6 26 27 28) (setE 3 (j5 (x27 call hs u rec0) 3 6 26 27 28) (setE 2 (j1 (x16 call hs u) 3) eNil))=j5 (xes call hs u rec0) 3 6 26 27 28:=tr (sqN 1 x282)
theorem x284{rec0:AV->AV->AV->AV->AV->Mem->Nat->O2}:x2ed call hs u x16m (j5 (x27 call hs u rec0) 3 6 26 27 28) (setE 2 (j1 (x16 call hs u) 3) eNil)=j5 (xes call hs u rec0) 3 6 26 27 28:=bk x283
theorem x285{rec0:AV->AV->AV->AV->AV->Mem->Nat->O2}:x2ed call hs u xph (j5 rec0 3 6 26 27 28) (setE 2 (j1 (x16 call hs u) 3) eNil)=j5 (xes call hs u rec0) 3 6 26 27 28:=sq2 x27z x284
theorem x286{rec0:AV->AV->AV->AV->AV->Mem->Nat->O2}:x2ed call hs u x16l (j5 rec0 3 6 26 27 28) (setE 2 (j1 (x16 call hs u) 3) eNil)=j5 (xri call hs u rec0) 3 6 26 27 28:=tr (sqN 2 x285)
theorem x287:x2ed call hs u x16k (j1 (x16 call hs u) 3) (setE 2 (j1 (x16 call hs u) 3) eNil)=j5 (x9i call hs u NN) 3 6 26 27 28:=lp (Ln:=fun n=>j5 (x9i call hs u n) 3 6 26 27 28) fun n=>tr x286
theorem x288:x2ed call hs u x16j (j1 (x16 call hs u) 3) eNil=j5 (x9i call hs u NN) 3 6 26 27 28:=bk x287
theorem x289:x2ed call hs u x16i (j1 (x16 call hs u) 3) eNil=j3 (xjv call hs u) 3 5 6:=tr (sqN 1 x288)
theorem x28a:x2ed call hs u xpg r_3 eNil=j3 (xjv call hs u) 3 5 6:=sq2 x27y x289
theorem x28b:x2ed call hs u x16h r_3 eNil=j2 (x7j call hs u) 1 3:=tr (sqN 2 x28a)
theorem x28c{rec1:AV->AV->Mem->Nat->O2}:x2ed call hs u x27x (j2 rec1 1 3) (setE 0 (j2 (x7j call hs u) 1 3) eNil)=j2 (xrj call hs u rec1) 1 3:=by kernel_rfl
theorem x28d:x2ed call hs u x16o (j2 (x7j call hs u) 1 3) (setE 0 (j2 (x7j call hs u) 1 3) eNil)=j2 (x7k call hs u NN) 1 3:=lp (Ln:=fun n=>j2 (x7k call hs u n) 1 3) fun n=>tr x28c
theorem x28e:x2ed call hs u x16g (j2 (x7j call hs u) 1 3) eNil=j2 (x7k call hs u NN) 1 3:=bk x28d
theorem x28f:x2ed call hs u xpf r_3 eNil=j2 (x7k call hs u NN) 1 3:=sq2 x28b x28e
theorem x1f0:x2ed call hs u x16f r_3 eNil=j1 (xrk call hs u) 0:=tr (sqN 2 x28f)
noncomputable abbrev x2j2:=VX xba 27 r_0
noncomputable def x16p:=x2co xba
noncomputable def xpj:=nRs 2 x16p
noncomputable def x16q:=nL xpj
noncomputable def x28g:=nR xpj
noncomputable def x16r:=nR x16q
noncomputable def x16s:=nR x16r
noncomputable def x28h:=nR x16s
theorem x28i:x2j2 call hs u x28g r_0 eNil=j1 (x69 call hs u) 5:=by kernel_rfl
theorem x28j{rec0:AV->AV->AV->AV->AV->Mem->Nat->O2}:x2j2 call hs u x28h (j5 rec0 1 5 10 11 12) (setE 0 (j1 (x69 call hs u) 5) eNil)=j5 (xrl call hs u rec0) 1 5 10 11 12:=by kernel_rfl
theorem x28k:x2j2 call hs u x16s (j1 (x69 call hs u) 5) (setE 0 (j1 (x69 call hs u) 5) eNil)=j5 (x9j call hs u NN) 1 5 10 11 12:=lp (Ln:=fun n=>j5 (x9j call hs u n) 1 5 10 11 12) fun n=>tr x28j
theorem x28l:x2j2 call hs u x16r (j1 (x69 call hs u) 5) eNil=j5 (x9j call hs u NN) 1 5 10 11 12:=bk x28k
theorem x28m:x2j2 call hs u x16q (j1 (x69 call hs u) 5) eNil=j3 (xjw call hs u) 1 2 5:=tr (sqN 1 x28l)
theorem x28n:x2j2 call hs u xpj r_0 eNil=j3 (xjw call hs u) 1 2 5:=sq2 x28i x28m
theorem x1f1:x2j2 call hs u x16p r_0 eNil=j2 (xrm call hs u) 0 1:=tr (sqN 2 x28n)
noncomputable abbrev x2ud:=VX x6z 9 r_17
noncomputable def x28o:=x2co x6z
theorem x1f2:x2ud call hs u x28o r_17 eNil=j2 (xjx call hs u) 0 1:=by kernel_rfl
noncomputable abbrev x2ue:=VX x5q 13 r_19
noncomputable def x28p:=x2co x5q
theorem x1f3:x2ue call hs u x28p r_19 eNil=j3 (xjy call hs u) 0 1 2:=by kernel_rfl
noncomputable abbrev x2uf:=VX x70 11 r_17
noncomputable def x28q:=x2co x70
theorem x1f4:x2uf call hs u x28q r_17 eNil=j1 (xjz call hs u) 0:=by kernel_rfl
noncomputable abbrev x2j3:=VX xbb 76 r_6
noncomputable def x16t:=x2co xbb
noncomputable def xpk:=nRs 3 x16t
noncomputable def x16u:=nL xpk
noncomputable def x28r:=nR xpk
noncomputable def x16v:=nR x16u
noncomputable def x16w:=nR x16v
noncomputable def x28s:=nR x16w
theorem x28t:x2j3 call hs u x28r r_6 eNil=j2 (x6a call hs u) 6 7:=by kernel_rfl
theorem x28u{rec0:AV->AV->AV->AV->AV->AV->Mem->Nat->O2}:x2j3 call hs u x28s (j6 rec0 1 6 7 23 24 25) (setE 0 (j2 (x6a call hs u) 6 7) eNil)=j6 (xrn call hs u rec0) 1 6 7 23 24 25:=by kernel_rfl
theorem x28v:x2j3 call hs u x16w (j2 (x6a call hs u) 6 7) (setE 0 (j2 (x6a call hs u) 6 7) eNil)=j6 (x9k call hs u NN) 1 6 7 23 24 25:=lp (Ln:=fun n=>j6 (x9k call hs u n) 1 6 7 23 24 25) fun n=>tr x28u
theorem x28w:x2j3 call hs u x16v (j2 (x6a call hs u) 6 7) eNil=j6 (x9k call hs u NN) 1 6 7 23 24 25:=bk x28v
theorem x28x:x2j3 call hs u x16u (j2 (x6a call hs u) 6 7) eNil=j4 (xk0 call hs u) 1 2 6 7:=tr (sqN 1 x28w)
theorem x28y:x2j3 call hs u xpk r_6 eNil=j4 (xk0 call hs u) 1 2 6 7:=sq2 x28t x28x
theorem x1f5:x2j3 call hs u x16t r_6 eNil=j2 (xro call hs u) 0 1:=tr (sqN 3 x28y)
noncomputable abbrev x2g7:=VX x3k 43 r_17
noncomputable def x16x:=x2co x3k
noncomputable def x16y:=nR x16x
noncomputable def x16z:=nR x16y
noncomputable def x170:=nR x16z
noncomputable def xpl:=nRs 2 x170
noncomputable def x171:=nL xpl
noncomputable def x28z:=nR xpl
noncomputable def x172:=nR x171
noncomputable def x173:=nRs 2 x172
noncomputable def x174:=nR x173
noncomputable def x290:=nR x174
theorem x291{rec0:AV->AV->AV->AV->AV->AV->Mem->Nat->O2}:x2g7 call hs u x28z (j6 rec0 0 2 3 12 13 14) (setE 0 r_17 eNil)=j6 (x1c call hs u rec0) 0 2 3 12 13 14:=by kernel_rfl
theorem x292{rec0:AV->AV->AV->AV->AV->AV->Mem->Nat->O2}{rec1:AV->AV->AV->AV->AV->AV->AV->AV->AV->Mem->Nat->O2}:x2g7 call hs u x290 (j9 rec1 0 2 3 6 12 13 14 18 19) (setE 2 (j6 (x1c call hs u rec0) 0 2 3 12 13 14) (setE 1 (j6 (x1c call hs u rec0) 0 2 3 12 13 14) (setE 0 r_17 eNil)))=j9 (xet call hs u rec0 rec1) 0 2 3 6 12 13 14 18 19:=by kernel_rfl
theorem x293{rec0:AV->AV->AV->AV->AV->AV->Mem->Nat->O2}:x2g7 call hs u x174 (j6 (x1c call hs u rec0) 0 2 3 12 13 14) (setE 2 (j6 (x1c call hs u rec0) 0 2 3 12 13 14) (setE 1 (j6 (x1c call hs u rec0) 0 2 3 12 13 14) (setE 0 r_17 eNil)))=j9 (x34 call hs u rec0 NN) 0 2 3 6 12 13 14 18 19:=lp (Ln:=fun n=>j9 (x34 call hs u rec0 n) 0 2 3 6 12 13 14 18 19) fun n=>tr x292
theorem x294{rec0:AV->AV->AV->AV->AV->AV->Mem->Nat->O2}:x2g7 call hs u x173 (j6 (x1c call hs u rec0) 0 2 3 12 13 14) (setE 1 (j6 (x1c call hs u rec0) 0 2 3 12 13 14) (setE 0 r_17 eNil))=j9 (x34 call hs u rec0 NN) 0 2 3 6 12 13 14 18 19:=bk x293
theorem x295{rec0:AV->AV->AV->AV->AV->AV->Mem->Nat->O2}:x2g7 call hs u x172 (j6 (x1c call hs u rec0) 0 2 3 12 13 14) (setE 1 (j6 (x1c call hs u rec0) 0 2 3 12 13 14) (setE 0 r_17 eNil))=j6 (x9m call hs u rec0) 0 2 3 12 13 14:=tr (sqN 2 x294)
theorem x296{rec0:AV->AV->AV->AV->AV->AV->Mem->Nat->O2}:x2g7 call hs u x171 (j6 (x1c call hs u rec0) 0 2 3 12 13 14) (setE 0 r_17 eNil)=j6 (x9m call hs u rec0) 0 2 3 12 13 14:=bk x295
theorem x297{rec0:AV->AV->AV->AV->AV->AV->Mem->Nat->O2}:x2g7 call hs u xpl (j6 rec0 0 2 3 12 13 14) (setE 0 r_17 eNil)=j6 (x9m call hs u rec0) 0 2 3 12 13 14:=sq2 x291 x296
theorem x298{rec0:AV->AV->AV->AV->AV->AV->Mem->Nat->O2}:x2g7 call hs u x170 (j6 rec0 0 2 3 12 13 14) (setE 0 r_17 eNil)=j6 (xeu call hs u rec0) 0 2 3 12 13 14:=tr (sqN 2 x297)
theorem x299:x2g7 call hs u x16z r_17 (setE 0 r_17 eNil)=j6 (x28 call hs u NN) 0 2 3 12 13 14:=lp (Ln:=fun n=>j6 (x28 call hs u n) 0 2 3 12 13 14) fun n=>tr x298
theorem x29a:x2g7 call hs u x16y r_17 eNil=j6 (x28 call hs u NN) 0 2 3 12 13 14:=bk x299
theorem x1f6:x2g7 call hs u x16x r_17 eNil=j4 (xk1 call hs u) 0 1 2 3:=tr (sqN 1 x29a)
noncomputable abbrev x2j4:=VX x71 19 r_0
noncomputable def x175:=x2co x71
noncomputable def xpm:=nR x175
noncomputable def x176:=nL xpm
noncomputable def x29b:=nR xpm
noncomputable def x177:=nR x176
noncomputable def x178:=nR x177
noncomputable def x29c:=nR x178
theorem x29d:x2j4 call hs u x29b r_0 eNil=j0 (x4z call hs u):=by kernel_rfl
theorem x29e{rec0:AV->AV->AV->AV->Mem->Nat->O2}:x2j4 call hs u x29c (j4 rec0 0 1 7 8) (setE 0 (j0 (x4z call hs u)) eNil)=j4 (xev call hs u rec0) 0 1 7 8:=by kernel_rfl
theorem x29f:x2j4 call hs u x178 (j0 (x4z call hs u)) (setE 0 (j0 (x4z call hs u)) eNil)=j4 (x50 call hs u NN) 0 1 7 8:=lp (Ln:=fun n=>j4 (x50 call hs u n) 0 1 7 8) fun n=>tr x29e
theorem x29g:x2j4 call hs u x177 (j0 (x4z call hs u)) eNil=j4 (x50 call hs u NN) 0 1 7 8:=bk x29f
theorem x29h:x2j4 call hs u x176 (j0 (x4z call hs u)) eNil=j2 (xew call hs u) 0 1:=tr (sqN 1 x29g)
theorem x29i:x2j4 call hs u xpm r_0 eNil=j2 (xew call hs u) 0 1:=sq2 x29d x29h
theorem x1f7:x2j4 call hs u x175 r_0 eNil=j2 (xk2 call hs u) 0 1:=tr (sqN 1 x29i)
noncomputable abbrev x2ug:=VX xbc 6 r_3
noncomputable def x29j:=x2co xbc
theorem x1f8:x2ug call hs u x29j r_3 eNil=j1 (xrq call hs u) 0:=by kernel_rfl
noncomputable abbrev x2j5:=VX xbd 62 r_8
noncomputable def x179:=x2co xbd
noncomputable def xpn:=nRs 2 x179
noncomputable def x17a:=nL xpn
noncomputable def x29k:=nR xpn
noncomputable def x17b:=nR x17a
noncomputable def x17c:=nR x17b
noncomputable def x29l:=nR x17c
theorem x29m:x2j5 call hs u x29k r_8 eNil=j0 (x6b call hs u):=by kernel_rfl
theorem x29n{rec0:AV->AV->AV->AV->Mem->Nat->O2}:x2j5 call hs u x29l (j4 rec0 1 17 18 19) (setE 1 (j0 (x6b call hs u)) eNil)=j4 (xrr call hs u rec0) 1 17 18 19:=by kernel_rfl
theorem x29o:x2j5 call hs u x17c (j0 (x6b call hs u)) (setE 1 (j0 (x6b call hs u)) eNil)=j4 (x9n call hs u NN) 1 17 18 19:=lp (Ln:=fun n=>j4 (x9n call hs u n) 1 17 18 19) fun n=>tr x29n
theorem x29p:x2j5 call hs u x17b (j0 (x6b call hs u)) eNil=j4 (x9n call hs u NN) 1 17 18 19:=bk x29o
theorem x29q:x2j5 call hs u x17a (j0 (x6b call hs u)) eNil=j1 (xk3 call hs u) 1:=tr (sqN 1 x29p)
theorem x29r:x2j5 call hs u xpn r_8 eNil=j1 (xk3 call hs u) 1:=sq2 x29m x29q
theorem x1f9:x2j5 call hs u x179 r_8 eNil=j1 (xrs call hs u) 0:=tr (sqN 2 x29r)
noncomputable abbrev x2gs:=VX xbe 47 r_0
noncomputable def x17d:=x2co xbe
noncomputable def xpo:=nRs 2 x17d
noncomputable def x17e:=nL xpo
noncomputable def x29s:=nR xpo
noncomputable def x17f:=nR x17e
noncomputable def x17g:=nR x17f
noncomputable def x17h:=nR x17g
noncomputable def xpp:=nRs 2 x17h
noncomputable def x29t:=nL xpp
noncomputable def x29u:=nR xpp
theorem x29v:x2gs call hs u x29s r_0 eNil=j1 (x29 call hs u) 5:=by kernel_rfl
theorem x29w{rec0:AV->AV->AV->AV->AV->Mem->Nat->O2}:x2gs call hs u x29u (j5 rec0 0 1 5 12 13) (setE 0 (j1 (x29 call hs u) 5) eNil)=j5 (xex call hs u rec0) 0 1 5 12 13:=by kernel_rfl
theorem x29x{rec0:AV->AV->AV->AV->AV->Mem->Nat->O2}:x2gs call hs u x29t (j5 (xex call hs u rec0) 0 1 5 12 13) (setE 0 (j1 (x29 call hs u) 5) eNil)=j5 (xk4 call hs u rec0) 0 1 5 12 13:=by kernel_rfl
theorem x29y{rec0:AV->AV->AV->AV->AV->Mem->Nat->O2}:x2gs call hs u xpp (j5 rec0 0 1 5 12 13) (setE 0 (j1 (x29 call hs u) 5) eNil)=j5 (xk4 call hs u rec0) 0 1 5 12 13:=sq2 x29w x29x
theorem x29z{rec0:AV->AV->AV->AV->AV->Mem->Nat->O2}:x2gs call hs u x17h (j5 rec0 0 1 5 12 13) (setE 0 (j1 (x29 call hs u) 5) eNil)=j5 (xrt call hs u rec0) 0 1 5 12 13:=tr (sqN 2 x29y)
theorem x2a0:x2gs call hs u x17g (j1 (x29 call hs u) 5) (setE 0 (j1 (x29 call hs u) 5) eNil)=j5 (x9o call hs u NN) 0 1 5 12 13:=lp (Ln:=fun n=>j5 (x9o call hs u n) 0 1 5 12 13) fun n=>tr x29z
theorem x2a1:x2gs call hs u x17f (j1 (x29 call hs u) 5) eNil=j5 (x9o call hs u NN) 0 1 5 12 13:=bk x2a0
theorem x2a2:x2gs call hs u x17e (j1 (x29 call hs u) 5) eNil=j3 (xk5 call hs u) 0 1 5:=tr (sqN 1 x2a1)
theorem x2a3:x2gs call hs u xpo r_0 eNil=j3 (xk5 call hs u) 0 1 5:=sq2 x29v x2a2
theorem x1fa:x2gs call hs u x17d r_0 eNil=j2 (xru call hs u) 0 1:=tr (sqN 2 x2a3)
noncomputable abbrev x2ev:=VX x8b 45 r_0
noncomputable def x17i:=x2co x8b
noncomputable def xpq:=nRs 3 x17i
noncomputable def x17j:=nL xpq
noncomputable def x2a4:=nR xpq
noncomputable def x17k:=nR x17j
noncomputable def x17l:=nR x17k
noncomputable def x17m:=nR x17l
noncomputable def xpr:=nRs 2 x17m
noncomputable def x17n:=nL xpr
noncomputable def x2a5:=nR xpr
noncomputable def x17o:=nR x17n
noncomputable def xps:=nRs 4 x17o
noncomputable def x17p:=nL xps
noncomputable def x2a6:=nR xps
noncomputable def x17q:=nR x17p
noncomputable def x2a7:=nR x17q
theorem x2a8:x2ev call hs u x2a4 r_0 eNil=j1 (xy call hs u) 5:=by kernel_rfl
theorem x2a9{rec0:AV->AV->AV->AV->AV->Mem->Nat->O2}:x2ev call hs u x2a5 (j5 rec0 1 5 6 14 15) (setE 0 (j1 (xy call hs u) 5) eNil)=j5 (x1d call hs u rec0) 1 5 6 14 15:=by kernel_rfl
theorem x2aa{rec0:AV->AV->AV->AV->AV->Mem->Nat->O2}:x2ev call hs u x2a6 (j5 (x1d call hs u rec0) 1 5 6 14 15) (setE 1 (j5 (x1d call hs u rec0) 1 5 6 14 15) (setE 0 (j1 (xy call hs u) 5) eNil))=j5 (x7l call hs u rec0) 1 5 6 14 15:=by kernel_rfl
theorem x2ab{rec0:AV->AV->AV->AV->AV->Mem->Nat->O2}{rec1:AV->AV->AV->AV->AV->AV->Mem->Nat->O2}:x2ev call hs u x2a7 (j6 rec1 1 5 6 8 14 15) (setE 2 (j5 (x7l call hs u rec0) 1 5 6 14 15) (setE 1 (j5 (x1d call hs u rec0) 1 5 6 14 15) (setE 0 (j1 (xy call hs u) 5) eNil)))=j6 (xrv call hs u rec0 rec1) 1 5 6 8 14 15:=by kernel_rfl
theorem x2ac{rec0:AV->AV->AV->AV->AV->Mem->Nat->O2}:x2ev call hs u x17q (j5 (x7l call hs u rec0) 1 5 6 14 15) (setE 2 (j5 (x7l call hs u rec0) 1 5 6 14 15) (setE 1 (j5 (x1d call hs u rec0) 1 5 6 14 15) (setE 0 (j1 (xy call hs u) 5) eNil)))=j6 (x7m call hs u rec0 NN) 1 5 6 8 14 15:=lp (Ln:=fun n=>j6 (x7m call hs u rec0 n) 1 5 6 8 14 15) fun n=>tr x2ab
theorem x2ad{rec0:AV->AV->AV->AV->AV->Mem->Nat->O2}:x2ev call hs u x17p (j5 (x7l call hs u rec0) 1 5 6 14 15) (setE 1 (j5 (x1d call hs u rec0) 1 5 6 14 15) (setE 0 (j1 (xy call hs u) 5) eNil))=j6 (x7m call hs u rec0 NN) 1 5 6 8 14 15:=bk x2ac
theorem x2ae{rec0:AV->AV->AV->AV->AV->Mem->Nat->O2}:x2ev call hs u xps (j5 (x1d call hs u rec0) 1 5 6 14 15) (setE 1 (j5 (x1d call hs u rec0) 1 5 6 14 15) (setE 0 (j1 (xy call hs u) 5) eNil))=j6 (x7m call hs u rec0 NN) 1 5 6 8 14 15:=sq2 x2aa x2ad
theorem x2af{rec0:AV->AV->AV->AV->AV->Mem->Nat->O2}:x2ev call hs u x17o (j5 (x1d call hs u rec0) 1 5 6 14 15) (setE 1 (j5 (x1d call hs u rec0) 1 5 6 14 15) (setE 0 (j1 (xy call hs u) 5) eNil))=j5 (xey call hs u rec0) 1 5 6 14 15:=tr (sqN 4 x2ae)
theorem x2ag{rec0:AV->AV->AV->AV->AV->Mem->Nat->O2}:x2ev call hs u x17n (j5 (x1d call hs u rec0) 1 5 6 14 15) (setE 0 (j1 (xy call hs u) 5) eNil)=j5 (xey call hs u rec0) 1 5 6 14 15:=bk x2af
theorem x2ah{rec0:AV->AV->AV->AV->AV->Mem->Nat->O2}:x2ev call hs u xpr (j5 rec0 1 5 6 14 15) (setE 0 (j1 (xy call hs u) 5) eNil)=j5 (xey call hs u rec0) 1 5 6 14 15:=sq2 x2a9 x2ag
theorem x2ai{rec0:AV->AV->AV->AV->AV->Mem->Nat->O2}:x2ev call hs u x17m (j5 rec0 1 5 6 14 15) (setE 0 (j1 (xy call hs u) 5) eNil)=j5 (xrw call hs u rec0) 1 5 6 14 15:=tr (sqN 2 x2ah)
theorem x2aj:x2ev call hs u x17l (j1 (xy call hs u) 5) (setE 0 (j1 (xy call hs u) 5) eNil)=j5 (x9q call hs u NN) 1 5 6 14 15:=lp (Ln:=fun n=>j5 (x9q call hs u n) 1 5 6 14 15) fun n=>tr x2ai
theorem x2ak:x2ev call hs u x17k (j1 (xy call hs u) 5) eNil=j5 (x9q call hs u NN) 1 5 6 14 15:=bk x2aj
theorem x2al:x2ev call hs u x17j (j1 (xy call hs u) 5) eNil=j3 (xk6 call hs u) 1 5 6:=tr (sqN 1 x2ak)
theorem x2am:x2ev call hs u xpq r_0 eNil=j3 (xk6 call hs u) 1 5 6:=sq2 x2a8 x2al
theorem x1fb:x2ev call hs u x17i r_0 eNil=j2 (xrx call hs u) 0 1:=tr (sqN 3 x2am)
noncomputable abbrev x2j6:=VX xat 53 r_17
noncomputable def x17r:=x2co xat
noncomputable def x17s:=nR x17r
noncomputable def x17t:=nR x17s
noncomputable def x17u:=nR x17t
noncomputable def xpt:=nRs 2 x17u
noncomputable def x2an:=nL xpt
noncomputable def x2ao:=nR xpt
theorem x2ap{rec0:AV->AV->AV->AV->AV->Mem->Nat->O2}:x2j6 call hs u x2ao (j5 rec0 0 1 3 9 10) (setE 0 r_17 eNil)=j5 (xez call hs u rec0) 0 1 3 9 10:=by kernel_rfl
theorem x2aq{rec0:AV->AV->AV->AV->AV->Mem->Nat->O2}:x2j6 call hs u x2an (j5 (xez call hs u rec0) 0 1 3 9 10) (setE 0 r_17 eNil)=j5 (xk7 call hs u rec0) 0 1 3 9 10:=by kernel_rfl
theorem x2ar{rec0:AV->AV->AV->AV->AV->Mem->Nat->O2}:x2j6 call hs u xpt (j5 rec0 0 1 3 9 10) (setE 0 r_17 eNil)=j5 (xk7 call hs u rec0) 0 1 3 9 10:=sq2 x2ap x2aq
theorem x2as{rec0:AV->AV->AV->AV->AV->Mem->Nat->O2}:x2j6 call hs u x17u (j5 rec0 0 1 3 9 10) (setE 0 r_17 eNil)=j5 (xry call hs u rec0) 0 1 3 9 10:=tr (sqN 2 x2ar)
theorem x2at:x2j6 call hs u x17t r_17 (setE 0 r_17 eNil)=j5 (x9r call hs u NN) 0 1 3 9 10:=lp (Ln:=fun n=>j5 (x9r call hs u n) 0 1 3 9 10) fun n=>tr x2as
theorem x2au:x2j6 call hs u x17s r_17 eNil=j5 (x9r call hs u NN) 0 1 3 9 10:=bk x2at
theorem x1co:x2j6 call hs u x17r r_17 eNil=j4 (xrz call hs u) 0 1 2 3:=tr (sqN 1 x2au)
noncomputable abbrev x2fb:=VX xbf 132 r_3
noncomputable def x17v:=x2co xbf
noncomputable def xpu:=nRs 2 x17v
noncomputable def x17w:=nL xpu
noncomputable def x2av:=nR xpu
noncomputable def x17x:=nR x17w
noncomputable def x17y:=nR x17x
noncomputable def x17z:=nR x17y
noncomputable def xpv:=nRs 2 x17z
noncomputable def x180:=nL xpv
noncomputable def x2aw:=nR xpv
noncomputable def x181:=nR x180
noncomputable def xpw:=nR x181
noncomputable def x2ax:=nL xpw
noncomputable def x2ay:=nR xpw
theorem x2az:x2fb call hs u x2av r_3 eNil=j1 (x17 call hs u) 3:=by kernel_rfl
theorem x2b0{rec0:AV->AV->AV->AV->Mem->Nat->O2}:x2fb call hs u x2aw (j4 rec0 3 28 29 30) (setE 0 (j1 (x17 call hs u) 3) eNil)=j4 (x2a call hs u rec0) 3 28 29 30:=by kernel_rfl
theorem x2b1{rec0:AV->AV->AV->AV->Mem->Nat->O2}:x2fb call hs u x2ay (j4 (x2a call hs u rec0) 3 28 29 30) (setE 1 (j4 (x2a call hs u rec0) 3 28 29 30) (setE 0 (j1 (x17 call hs u) 3) eNil))=j6 (x9s call hs u rec0) 3 4 5 28 29 30:=by kernel_rfl
theorem x2b2{rec0:AV->AV->AV->AV->Mem->Nat->O2}:x2fb call hs u x2ax (j6 (x9s call hs u rec0) 3 4 5 28 29 30) (setE 1 (j4 (x2a call hs u rec0) 3 28 29 30) (setE 0 (j1 (x17 call hs u) 3) eNil))=j6 (xk8 call hs u rec0) 3 4 5 28 29 30:=by kernel_rfl
theorem x2b3{rec0:AV->AV->AV->AV->Mem->Nat->O2}:x2fb call hs u xpw (j4 (x2a call hs u rec0) 3 28 29 30) (setE 1 (j4 (x2a call hs u rec0) 3 28 29 30) (setE 0 (j1 (x17 call hs u) 3) eNil))=j6 (xk8 call hs u rec0) 3 4 5 28 29 30:=sq2 x2b1 x2b2
theorem x2b4{rec0:AV->AV->AV->AV->Mem->Nat->O2}:x2fb call hs u x181 (j4 (x2a call hs u rec0) 3 28 29 30) (setE 1 (j4 (x2a call hs u rec0) 3 28 29 30) (setE 0 (j1 (x17 call hs u) 3) eNil))=j4 (xf0 call hs u rec0) 3 28 29 30:=tr (sqN 1 x2b3)
theorem x2b5{rec0:AV->AV->AV->AV->Mem->Nat->O2}:x2fb call hs u x180 (j4 (x2a call hs u rec0) 3 28 29 30) (setE 0 (j1 (x17 call hs u) 3) eNil)=j4 (xf0 call hs u rec0) 3 28 29 30:=bk x2b4
theorem x2b6{rec0:AV->AV->AV->AV->Mem->Nat->O2}:x2fb call hs u xpv (j4 rec0 3 28 29 30) (setE 0 (j1 (x17 call hs u) 3) eNil)=j4 (xf0 call hs u rec0) 3 28 29 30:=sq2 x2b0 x2b5
theorem x2b7{rec0:AV->AV->AV->AV->Mem->Nat->O2}:x2fb call hs u x17z (j4 rec0 3 28 29 30) (setE 0 (j1 (x17 call hs u) 3) eNil)=j4 (xs0 call hs u rec0) 3 28 29 30:=tr (sqN 2 x2b6)
theorem x2b8:x2fb call hs u x17y (j1 (x17 call hs u) 3) (setE 0 (j1 (x17 call hs u) 3) eNil)=j4 (x9t call hs u NN) 3 28 29 30:=lp (Ln:=fun n=>j4 (x9t call hs u n) 3 28 29 30) fun n=>tr x2b7
theorem x2b9:x2fb call hs u x17x (j1 (x17 call hs u) 3) eNil=j4 (x9t call hs u NN) 3 28 29 30:=bk x2b8
theorem x2ba:x2fb call hs u x17w (j1 (x17 call hs u) 3) eNil=j2 (xk9 call hs u) 1 3:=tr (sqN 1 x2b9)
theorem x2bb:x2fb call hs u xpu r_3 eNil=j2 (xk9 call hs u) 1 3:=sq2 x2az x2ba
theorem x1fc:x2fb call hs u x17v r_3 eNil=j1 (xs1 call hs u) 0:=tr (sqN 2 x2bb)
noncomputable abbrev x2uh:=VX xaw 5 r_3
noncomputable def x2bc:=x2co xaw
theorem x1cs:x2uh call hs u x2bc r_3 eNil=j1 (xs2 call hs u) 0:=by kernel_rfl
noncomputable abbrev x2dz:=VX xbg 160 r_17
noncomputable def x182:=x2co xbg
noncomputable def xpx:=nRs 2 x182
noncomputable def x183:=nL xpx
noncomputable def x184:=nR xpx
noncomputable def xpy:=nR x184
noncomputable def x185:=nL xpy
noncomputable def xpz:=nR xpy
noncomputable def x186:=nL xpz
noncomputable def x187:=nR xpz
noncomputable def x188:=nRs 3 x187
noncomputable def x189:=nR x188
noncomputable def x2bd:=nR x189
noncomputable def x18a:=nR x186
noncomputable def x18b:=nR x18a
noncomputable def x2be:=nR x18b
noncomputable def x18c:=nR x185
noncomputable def x18d:=nR x18c
noncomputable def x2bf:=nR x18d
noncomputable def x18e:=nR x183
noncomputable def x18f:=nR x18e
noncomputable def x18g:=nR x18f
noncomputable def xq0:=nRs 2 x18g
noncomputable def x2bg:=nL xq0
noncomputable def x2bh:=nR xq0
theorem x2bi{rec0:AV->AV->AV->AV->AV->AV->Mem->Nat->O2}:x2dz call hs u x2bd (j6 rec0 0 4 5 136 137 138) (setE 6 r_17 eNil)=j6 (xs3 call hs u rec0) 0 4 5 136 137 138:=by kernel_rfl
theorem x2bj:x2dz call hs u x189 r_17 (setE 6 r_17 eNil)=j6 (x9u call hs u NN) 0 4 5 136 137 138:=lp (Ln:=fun n=>j6 (x9u call hs u n) 0 4 5 136 137 138) fun n=>tr x2bi
theorem x2bk:x2dz call hs u x188 r_17 eNil=j6 (x9u call hs u NN) 0 4 5 136 137 138:=bk x2bj
theorem x2bl:x2dz call hs u x187 r_17 eNil=j5 (x6c call hs u) 0 1 4 5 8:=tr (sqN 3 x2bk)
theorem x2bm{rec1:AV->AV->AV->AV->AV->AV->Mem->Nat->O2}:x2dz call hs u x2be (j6 rec1 0 1 4 5 8 10) (setE 4 (j5 (x6c call hs u) 0 1 4 5 8) eNil)=j6 (xs4 call hs u rec1) 0 1 4 5 8 10:=by kernel_rfl
theorem x2bn:x2dz call hs u x18b (j5 (x6c call hs u) 0 1 4 5 8) (setE 4 (j5 (x6c call hs u) 0 1 4 5 8) eNil)=j6 (x9v call hs u NN) 0 1 4 5 8 10:=lp (Ln:=fun n=>j6 (x9v call hs u n) 0 1 4 5 8 10) fun n=>tr x2bm
theorem x2bo:x2dz call hs u x18a (j5 (x6c call hs u) 0 1 4 5 8) eNil=j6 (x9v call hs u NN) 0 1 4 5 8 10:=bk x2bn
theorem x2bp:x2dz call hs u x186 (j5 (x6c call hs u) 0 1 4 5 8) eNil=j5 (x51 call hs u) 0 1 4 5 8:=tr (sqN 1 x2bo)
theorem x2bq:x2dz call hs u xpz r_17 eNil=j5 (x51 call hs u) 0 1 4 5 8:=sq2 x2bl x2bp
theorem x2br{rec2:AV->AV->AV->AV->AV->AV->Mem->Nat->O2}:x2dz call hs u x2bf (j6 rec2 0 1 4 5 8 9) (setE 2 (j5 (x51 call hs u) 0 1 4 5 8) eNil)=j6 (xs5 call hs u rec2) 0 1 4 5 8 9:=by kernel_rfl
theorem x2bs:x2dz call hs u x18d (j5 (x51 call hs u) 0 1 4 5 8) (setE 2 (j5 (x51 call hs u) 0 1 4 5 8) eNil)=j6 (x9w call hs u NN) 0 1 4 5 8 9:=lp (Ln:=fun n=>j6 (x9w call hs u n) 0 1 4 5 8 9) fun n=>tr x2br
theorem x2bt:x2dz call hs u x18c (j5 (x51 call hs u) 0 1 4 5 8) eNil=j6 (x9w call hs u NN) 0 1 4 5 8 9:=bk x2bs
theorem x2bu:x2dz call hs u x185 (j5 (x51 call hs u) 0 1 4 5 8) eNil=j5 (xka call hs u) 0 1 4 5 8:=tr (sqN 1 x2bt)
theorem x2bv:x2dz call hs u xpy r_17 eNil=j5 (xka call hs u) 0 1 4 5 8:=sq2 x2bq x2bu
theorem x2bw:x2dz call hs u x184 r_17 eNil=j4 (x2b call hs u) 0 1 4 5:=tr (sqN 1 x2bv)
theorem x2bx{rec3:AV->AV->AV->AV->AV->AV->AV->Mem->Nat->O2}:x2dz call hs u x2bh (j7 rec3 0 1 4 5 17 18 19) (setE 0 (j4 (x2b call hs u) 0 1 4 5) eNil)=j7 (xf1 call hs u rec3) 0 1 4 5 17 18 19:=by kernel_rfl
theorem x2by{rec3:AV->AV->AV->AV->AV->AV->AV->Mem->Nat->O2}:x2dz call hs u x2bg (j7 (xf1 call hs u rec3) 0 1 4 5 17 18 19) (setE 0 (j4 (x2b call hs u) 0 1 4 5) eNil)=j7 (xkb call hs u rec3) 0 1 4 5 17 18 19:=by kernel_rfl
theorem x2bz{rec3:AV->AV->AV->AV->AV->AV->AV->Mem->Nat->O2}:x2dz call hs u xq0 (j7 rec3 0 1 4 5 17 18 19) (setE 0 (j4 (x2b call hs u) 0 1 4 5) eNil)=j7 (xkb call hs u rec3) 0 1 4 5 17 18 19:=sq2 x2bx x2by
theorem x2c0{rec3:AV->AV->AV->AV->AV->AV->AV->Mem->Nat->O2}:x2dz call hs u x18g (j7 rec3 0 1 4 5 17 18 19) (setE 0 (j4 (x2b call hs u) 0 1 4 5) eNil)=j7 (xs6 call hs u rec3) 0 1 4 5 17 18 19:=tr (sqN 2 x2bz)
theorem x2c1:x2dz call hs u x18f (j4 (x2b call hs u) 0 1 4 5) (setE 0 (j4 (x2b call hs u) 0 1 4 5) eNil)=j7 (x9x call hs u NN) 0 1 4 5 17 18 19:=lp (Ln:=fun n=>j7 (x9x call hs u n) 0 1 4 5 17 18 19) fun n=>tr x2c0
theorem x2c2:x2dz call hs u x18e (j4 (x2b call hs u) 0 1 4 5) eNil=j7 (x9x call hs u NN) 0 1 4 5 17 18 19:=bk x2c1
theorem x2c3:x2dz call hs u x183 (j4 (x2b call hs u) 0 1 4 5) eNil=j4 (xkc call hs u) 0 1 4 5:=tr (sqN 1 x2c2)
theorem x2c4:x2dz call hs u xpx r_17 eNil=j4 (xkc call hs u) 0 1 4 5:=sq2 x2bw x2c3
theorem x1fd:x2dz call hs u x182 r_17 eNil=j2 (xs7 call hs u) 0 1:=tr (sqN 2 x2c4)
noncomputable abbrev x2gt:=VX xbh 53 r_3
noncomputable def x18h:=x2co xbh
noncomputable def xq1:=nRs 2 x18h
noncomputable def x18i:=nL xq1
noncomputable def x2c5:=nR xq1
noncomputable def x18j:=nR x18i
noncomputable def x18k:=nR x18j
noncomputable def x18l:=nR x18k
noncomputable def xq2:=nRs 2 x18l
noncomputable def x2c6:=nL xq2
noncomputable def x2c7:=nR xq2
theorem x2c8:x2gt call hs u x2c5 r_3 eNil=j2 (x2c call hs u) 1 3:=by kernel_rfl
theorem x2c9{rec0:AV->AV->AV->AV->AV->Mem->Nat->O2}:x2gt call hs u x2c7 (j5 rec0 1 3 12 13 14) (setE 0 (j2 (x2c call hs u) 1 3) eNil)=j5 (xf2 call hs u rec0) 1 3 12 13 14:=by kernel_rfl
theorem x2ca{rec0:AV->AV->AV->AV->AV->Mem->Nat->O2}:x2gt call hs u x2c6 (j5 (xf2 call hs u rec0) 1 3 12 13 14) (setE 0 (j2 (x2c call hs u) 1 3) eNil)=j5 (xkd call hs u rec0) 1 3 12 13 14:=by kernel_rfl
theorem x2cb{rec0:AV->AV->AV->AV->AV->Mem->Nat->O2}:x2gt call hs u xq2 (j5 rec0 1 3 12 13 14) (setE 0 (j2 (x2c call hs u) 1 3) eNil)=j5 (xkd call hs u rec0) 1 3 12 13 14:=sq2 x2c9 x2ca
theorem x2cc{rec0:AV->AV->AV->AV->AV->Mem->Nat->O2}:x2gt call hs u x18l (j5 rec0 1 3 12 13 14) (setE 0 (j2 (x2c call hs u) 1 3) eNil)=j5 (xs8 call hs u rec0) 1 3 12 13 14:=tr (sqN 2 x2cb)
theorem x2cd:x2gt call hs u x18k (j2 (x2c call hs u) 1 3) (setE 0 (j2 (x2c call hs u) 1 3) eNil)=j5 (x9y call hs u NN) 1 3 12 13 14:=lp (Ln:=fun n=>j5 (x9y call hs u n) 1 3 12 13 14) fun n=>tr x2cc
theorem x2ce:x2gt call hs u x18j (j2 (x2c call hs u) 1 3) eNil=j5 (x9y call hs u NN) 1 3 12 13 14:=bk x2cd
theorem x2cf:x2gt call hs u x18i (j2 (x2c call hs u) 1 3) eNil=j2 (xke call hs u) 1 3:=tr (sqN 1 x2ce)
theorem x2cg:x2gt call hs u xq1 r_3 eNil=j2 (xke call hs u) 1 3:=sq2 x2c8 x2cf
theorem x1fe:x2gt call hs u x18h r_3 eNil=j1 (xs9 call hs u) 0:=tr (sqN 2 x2cg)
noncomputable abbrev x2ui:=VX xav 7 r_3
noncomputable def x2ch:=x2co xav
theorem x1cq:x2ui call hs u x2ch r_3 eNil=j1 (xsa call hs u) 0:=by kernel_rfl
noncomputable abbrev x2uj:=VX xau 19 r_0
noncomputable def x2ci:=x2co xau
theorem x1cp:x2uj call hs u x2ci r_0 eNil=j2 (xsb call hs u) 0 1:=by kernel_rfl
end Go.Ix
