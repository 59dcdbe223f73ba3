import Derived.Test.YtpeakdjfagbpcaaGreatFxText0
import Derived.Test.YtpeakdjfagbpcaaGreatFxText1
import Derived.Test.YtpeakdjfagbpcaaGreatFxEnt
import Derived.Test.YtpeakdjfagbpcaaGreatFxRules
import Derived.Test.YtpeakdjfagbpcaaGreatFxProj
import Derived.ProofKit
set_option linter.unusedVariables false
namespace Go.Ix
open Go.Proofs
variable{call:x1uq}{hs:FHs}{u:Nat}
noncomputable abbrev x1xr:=VX xbe 88 r_0
noncomputable def xpc:=x1uv xbe
noncomputable def xfs:=nRs 3 xpc
noncomputable def xpd:=nL xfs
noncomputable def xpe:=nR xfs
noncomputable def xft:=nRs 2 xpe
noncomputable def x19i:=nL xft
noncomputable def x19j:=nR xft
noncomputable def xpf:=nR xpd
noncomputable def xpg:=nR xpf
noncomputable def x19k:=nR xpg
theorem x19l:x1xr call hs u x19j r_0 eNil=j6 (x96 call hs u) 0 1 2 8 9 11:=by kernel_rfl
theorem x19m:x1xr call hs u x19i (j6 (x96 call hs u) 0 1 2 8 9 11) eNil=j6 (xc9 call hs u) 0 1 2 8 9 11:=by kernel_rfl
theorem x19n:x1xr call hs u xft r_0 eNil=j6 (xc9 call hs u) 0 1 2 8 9 11:=sq2 x19l x19m
theorem x19o:x1xr call hs u xpe r_0 eNil=j3 (x3e call hs u) 0 1 2:=tr (sqN 2 x19n)
theorem x19p{rec0:AV->AV->AV->AV->Mem->Nat->O2}:x1xr call hs u x19k (j4 rec0 0 1 2 7) (setE 0 (j3 (x3e call hs u) 0 1 2) eNil)=j4 (xit call hs u rec0) 0 1 2 7:=by kernel_rfl
theorem x19q:x1xr call hs u xpg (j3 (x3e call hs u) 0 1 2) (setE 0 (j3 (x3e call hs u) 0 1 2) eNil)=j4 (x5n call hs u NN) 0 1 2 7:=lp (Ln:=fun n=>j4 (x5n call hs u n) 0 1 2 7) fun n=>tr x19p
theorem x19r:x1xr call hs u xpf (j3 (x3e call hs u) 0 1 2) eNil=j4 (x5n call hs u NN) 0 1 2 7:=bk x19q
theorem x19s:x1xr call hs u xpd (j3 (x3e call hs u) 0 1 2) eNil=j3 (xca call hs u) 0 1 2:=tr (sqN 1 x19r)
theorem x19t:x1xr call hs u xfs r_0 eNil=j3 (xca call hs u) 0 1 2:=sq2 x19o x19s
theorem x12e:x1xr call hs u xpc r_0 eNil=j3 (xiu call hs u) 0 1 2:=tr (sqN 3 x19t)
noncomputable abbrev x21u:=VX x57 45 r_1
noncomputable def xph:=x1uv x57
noncomputable def xfu:=nRs 6 xph
noncomputable def x19u:=nL xfu
noncomputable def x19v:=nR xfu
theorem x19w:x21u call hs u x19v r_1 eNil=j4 (x4j call hs u) 5 6 7 8:=by kernel_rfl
theorem x19x:x21u call hs u x19u (j4 (x4j call hs u) 5 6 7 8) eNil=j6 (x97 call hs u) 1 2 5 6 7 8:=by kernel_rfl
theorem x19y:x21u call hs u xfu r_1 eNil=j6 (x97 call hs u) 1 2 5 6 7 8:=sq2 x19w x19x
theorem x12f:x21u call hs u xph r_1 eNil=j2 (xcb call hs u) 0 1:=tr (sqN 6 x19y)
noncomputable abbrev x281:=VX x35 82 r_2
noncomputable def x19z:=x1uv x35
theorem x12g:x281 call hs u x19z r_2 eNil=j0 (xiv call hs u):=by kernel_rfl
noncomputable abbrev x1vz:=VX x7x 90 r_3
noncomputable def xpi:=x1uv x7x
noncomputable def xfv:=nRs 5 xpi
noncomputable def xpj:=nL xfv
noncomputable def xpk:=nR xfv
noncomputable def xfw:=nRs 3 xpk
noncomputable def xpl:=nL xfw
noncomputable def x1a0:=nR xfw
noncomputable def xpm:=nR xpl
noncomputable def xpn:=nR xpm
noncomputable def xpo:=nR xpn
noncomputable def xfx:=nRs 2 xpo
noncomputable def x1a1:=nL xfx
noncomputable def x1a2:=nR xfx
noncomputable def xpp:=nR xpj
noncomputable def xpq:=nR xpp
noncomputable def xpr:=nR xpq
noncomputable def xfy:=nRs 2 xpr
noncomputable def x1a3:=nL xfy
noncomputable def x1a4:=nR xfy
theorem x1a5:x1vz call hs u x1a0 r_3 eNil=j1 (x16 call hs u) 14:=by kernel_rfl
theorem x1a6{rec0:AV->AV->AV->AV->AV->AV->AV->Mem->Nat->O2}:x1vz call hs u x1a2 (j7 rec0 1 12 13 14 60 61 62) (setE 2 (j1 (x16 call hs u) 14) eNil)=j7 (x98 call hs u rec0) 1 12 13 14 60 61 62:=by kernel_rfl
theorem x1a7{rec0:AV->AV->AV->AV->AV->AV->AV->Mem->Nat->O2}:x1vz call hs u x1a1 (j7 (x98 call hs u rec0) 1 12 13 14 60 61 62) (setE 2 (j1 (x16 call hs u) 14) eNil)=j7 (xcc call hs u rec0) 1 12 13 14 60 61 62:=by kernel_rfl
theorem x1a8{rec0:AV->AV->AV->AV->AV->AV->AV->Mem->Nat->O2}:x1vz call hs u xfx (j7 rec0 1 12 13 14 60 61 62) (setE 2 (j1 (x16 call hs u) 14) eNil)=j7 (xcc call hs u rec0) 1 12 13 14 60 61 62:=sq2 x1a6 x1a7
theorem x1a9{rec0:AV->AV->AV->AV->AV->AV->AV->Mem->Nat->O2}:x1vz call hs u xpo (j7 rec0 1 12 13 14 60 61 62) (setE 2 (j1 (x16 call hs u) 14) eNil)=j7 (xiw call hs u rec0) 1 12 13 14 60 61 62:=tr (sqN 2 x1a8)
theorem x1aa:x1vz call hs u xpn (j1 (x16 call hs u) 14) (setE 2 (j1 (x16 call hs u) 14) eNil)=j7 (x5o call hs u NN) 1 12 13 14 60 61 62:=lp (Ln:=fun n=>j7 (x5o call hs u n) 1 12 13 14 60 61 62) fun n=>tr x1a9
theorem x1ab:x1vz call hs u xpm (j1 (x16 call hs u) 14) eNil=j7 (x5o call hs u NN) 1 12 13 14 60 61 62:=bk x1aa
theorem x1ac:x1vz call hs u xpl (j1 (x16 call hs u) 14) eNil=j4 (xcd call hs u) 1 12 13 14:=tr (sqN 1 x1ab)
theorem x1ad:x1vz call hs u xfw r_3 eNil=j4 (xcd call hs u) 1 12 13 14:=sq2 x1a5 x1ac
theorem x1ae:x1vz call hs u xpk r_3 eNil=j4 (x17 call hs u) 1 2 8 9:=tr (sqN 3 x1ad)
theorem x1af{rec1:AV->AV->AV->AV->AV->AV->AV->Mem->Nat->O2}:x1vz call hs u x1a4 (j7 rec1 1 2 8 9 36 37 38) (setE 0 (j4 (x17 call hs u) 1 2 8 9) eNil)=j7 (x99 call hs u rec1) 1 2 8 9 36 37 38:=by kernel_rfl
theorem x1ag{rec1:AV->AV->AV->AV->AV->AV->AV->Mem->Nat->O2}:x1vz call hs u x1a3 (j7 (x99 call hs u rec1) 1 2 8 9 36 37 38) (setE 0 (j4 (x17 call hs u) 1 2 8 9) eNil)=j7 (xce call hs u rec1) 1 2 8 9 36 37 38:=by kernel_rfl
theorem x1ah{rec1:AV->AV->AV->AV->AV->AV->AV->Mem->Nat->O2}:x1vz call hs u xfy (j7 rec1 1 2 8 9 36 37 38) (setE 0 (j4 (x17 call hs u) 1 2 8 9) eNil)=j7 (xce call hs u rec1) 1 2 8 9 36 37 38:=sq2 x1af x1ag
theorem x1ai{rec1:AV->AV->AV->AV->AV->AV->AV->Mem->Nat->O2}:x1vz call hs u xpr (j7 rec1 1 2 8 9 36 37 38) (setE 0 (j4 (x17 call hs u) 1 2 8 9) eNil)=j7 (xix call hs u rec1) 1 2 8 9 36 37 38:=tr (sqN 2 x1ah)
theorem x1aj:x1vz call hs u xpq (j4 (x17 call hs u) 1 2 8 9) (setE 0 (j4 (x17 call hs u) 1 2 8 9) eNil)=j7 (x5p call hs u NN) 1 2 8 9 36 37 38:=lp (Ln:=fun n=>j7 (x5p call hs u n) 1 2 8 9 36 37 38) fun n=>tr x1ai
theorem x1ak:x1vz call hs u xpp (j4 (x17 call hs u) 1 2 8 9) eNil=j7 (x5p call hs u NN) 1 2 8 9 36 37 38:=bk x1aj
theorem x1al:x1vz call hs u xpj (j4 (x17 call hs u) 1 2 8 9) eNil=j4 (xcf call hs u) 1 2 8 9:=tr (sqN 1 x1ak)
theorem x1am:x1vz call hs u xfv r_3 eNil=j4 (xcf call hs u) 1 2 8 9:=sq2 x1ae x1al
theorem x12h:x1vz call hs u xpi r_3 eNil=j2 (xiy call hs u) 0 1:=tr (sqN 5 x1am)
noncomputable abbrev x282:=VX xz 15 r_0
noncomputable def x1an:=x1uv xz
theorem x12i:x282 call hs u x1an r_0 eNil=j3 (xcg call hs u) 0 1 2:=by kernel_rfl
noncomputable abbrev x1z6:=VX x36 26 r_1
noncomputable def xps:=x1uv x36
noncomputable def xfz:=nRs 2 xps
noncomputable def xpt:=nL xfz
noncomputable def x1ao:=nR xfz
noncomputable def xpu:=nR xpt
noncomputable def xpv:=nR xpu
noncomputable def x1ap:=nR xpv
theorem x1aq:x1z6 call hs u x1ao r_1 eNil=j0 (x3g call hs u):=by kernel_rfl
theorem x1ar{rec0:AV->AV->AV->Mem->Nat->O2}:x1z6 call hs u x1ap (j3 rec0 0 1 5) (setE 0 (j0 (x3g call hs u)) eNil)=j3 (xiz call hs u rec0) 0 1 5:=by kernel_rfl
theorem x1as:x1z6 call hs u xpv (j0 (x3g call hs u)) (setE 0 (j0 (x3g call hs u)) eNil)=j3 (x5q call hs u NN) 0 1 5:=lp (Ln:=fun n=>j3 (x5q call hs u n) 0 1 5) fun n=>tr x1ar
theorem x1at:x1z6 call hs u xpu (j0 (x3g call hs u)) eNil=j3 (x5q call hs u NN) 0 1 5:=bk x1as
theorem x1au:x1z6 call hs u xpt (j0 (x3g call hs u)) eNil=j2 (xch call hs u) 0 1:=tr (sqN 1 x1at)
theorem x1av:x1z6 call hs u xfz r_1 eNil=j2 (xch call hs u) 0 1:=sq2 x1aq x1au
theorem x12j:x1z6 call hs u xps r_1 eNil=j2 (xj0 call hs u) 0 1:=tr (sqN 2 x1av)
noncomputable abbrev x1w7:=VX x7y 77 r_4
noncomputable def xpw:=x1uv x7y
noncomputable def xg0:=nRs 4 xpw
noncomputable def xpx:=nL xg0
noncomputable def x1aw:=nR xg0
noncomputable def xpy:=nR xpx
noncomputable def xpz:=nR xpy
noncomputable def xq0:=nR xpz
noncomputable def xg1:=nRs 2 xq0
noncomputable def xq1:=nL xg1
noncomputable def x1ax:=nR xg1
noncomputable def xq2:=nR xq1
noncomputable def xq3:=nRs 2 xq2
noncomputable def xq4:=nR xq3
noncomputable def xq5:=nR xq4
noncomputable def xg2:=nR xq5
noncomputable def x1ay:=nL xg2
noncomputable def x1az:=nR xg2
theorem x1b0:x1w7 call hs u x1aw r_4 eNil=j1 (xh call hs u) 10:=by kernel_rfl
theorem x1b1{rec0:AV->AV->AV->AV->AV->AV->AV->Mem->Nat->O2}:x1w7 call hs u x1ax (j7 rec0 0 1 2 10 31 32 33) (setE 0 (j1 (xh call hs u) 10) eNil)=j7 (xb call hs u rec0) 0 1 2 10 31 32 33:=by kernel_rfl
theorem x1b2{rec0:AV->AV->AV->AV->AV->AV->AV->Mem->Nat->O2}{rec1:AV->AV->AV->AV->AV->AV->AV->AV->AV->AV->Mem->Nat->O2}:x1w7 call hs u x1az (j10 rec1 0 1 2 10 11 12 13 31 32 33) (setE 2 (j7 (xb call hs u rec0) 0 1 2 10 31 32 33) (setE 1 (j7 (xb call hs u rec0) 0 1 2 10 31 32 33) (setE 0 (j1 (xh call hs u) 10) eNil)))=j10 (x9a call hs u rec0 rec1) 0 1 2 10 11 12 13 31 32 33:=by kernel_rfl
theorem x1b3{rec0:AV->AV->AV->AV->AV->AV->AV->Mem->Nat->O2}{rec1:AV->AV->AV->AV->AV->AV->AV->AV->AV->AV->Mem->Nat->O2}:x1w7 call hs u x1ay (j10 (x9a call hs u rec0 rec1) 0 1 2 10 11 12 13 31 32 33) (setE 2 (j7 (xb call hs u rec0) 0 1 2 10 31 32 33) (setE 1 (j7 (xb call hs u rec0) 0 1 2 10 31 32 33) (setE 0 (j1 (xh call hs u) 10) eNil)))=j10 (xci call hs u rec0 rec1) 0 1 2 10 11 12 13 31 32 33:=by kernel_rfl
theorem x1b4{rec0:AV->AV->AV->AV->AV->AV->AV->Mem->Nat->O2}{rec1:AV->AV->AV->AV->AV->AV->AV->AV->AV->AV->Mem->Nat->O2}:x1w7 call hs u xg2 (j10 rec1 0 1 2 10 11 12 13 31 32 33) (setE 2 (j7 (xb call hs u rec0) 0 1 2 10 31 32 33) (setE 1 (j7 (xb call hs u rec0) 0 1 2 10 31 32 33) (setE 0 (j1 (xh call hs u) 10) eNil)))=j10 (xci call hs u rec0 rec1) 0 1 2 10 11 12 13 31 32 33:=sq2 x1b2 x1b3
theorem x1b5{rec0:AV->AV->AV->AV->AV->AV->AV->Mem->Nat->O2}{rec1:AV->AV->AV->AV->AV->AV->AV->AV->AV->AV->Mem->Nat->O2}:x1w7 call hs u xq5 (j10 rec1 0 1 2 10 11 12 13 31 32 33) (setE 2 (j7 (xb call hs u rec0) 0 1 2 10 31 32 33) (setE 1 (j7 (xb call hs u rec0) 0 1 2 10 31 32 33) (setE 0 (j1 (xh call hs u) 10) eNil)))=j10 (xj1 call hs u rec0 rec1) 0 1 2 10 11 12 13 31 32 33:=tr (sqN 1 x1b4)
theorem x1b6{rec0:AV->AV->AV->AV->AV->AV->AV->Mem->Nat->O2}:x1w7 call hs u xq4 (j7 (xb call hs u rec0) 0 1 2 10 31 32 33) (setE 2 (j7 (xb call hs u rec0) 0 1 2 10 31 32 33) (setE 1 (j7 (xb call hs u rec0) 0 1 2 10 31 32 33) (setE 0 (j1 (xh call hs u) 10) eNil)))=j10 (x5r call hs u rec0 NN) 0 1 2 10 11 12 13 31 32 33:=lp (Ln:=fun n=>j10 (x5r call hs u rec0 n) 0 1 2 10 11 12 13 31 32 33) fun n=>tr x1b5
theorem x1b7{rec0:AV->AV->AV->AV->AV->AV->AV->Mem->Nat->O2}:x1w7 call hs u xq3 (j7 (xb call hs u rec0) 0 1 2 10 31 32 33) (setE 1 (j7 (xb call hs u rec0) 0 1 2 10 31 32 33) (setE 0 (j1 (xh call hs u) 10) eNil))=j10 (x5r call hs u rec0 NN) 0 1 2 10 11 12 13 31 32 33:=bk x1b6
theorem x1b8{rec0:AV->AV->AV->AV->AV->AV->AV->Mem->Nat->O2}:x1w7 call hs u xq2 (j7 (xb call hs u rec0) 0 1 2 10 31 32 33) (setE 1 (j7 (xb call hs u rec0) 0 1 2 10 31 32 33) (setE 0 (j1 (xh call hs u) 10) eNil))=j7 (x9b call hs u rec0) 0 1 2 10 31 32 33:=tr (sqN 2 x1b7)
theorem x1b9{rec0:AV->AV->AV->AV->AV->AV->AV->Mem->Nat->O2}:x1w7 call hs u xq1 (j7 (xb call hs u rec0) 0 1 2 10 31 32 33) (setE 0 (j1 (xh call hs u) 10) eNil)=j7 (x9b call hs u rec0) 0 1 2 10 31 32 33:=bk x1b8
theorem x1ba{rec0:AV->AV->AV->AV->AV->AV->AV->Mem->Nat->O2}:x1w7 call hs u xg1 (j7 rec0 0 1 2 10 31 32 33) (setE 0 (j1 (xh call hs u) 10) eNil)=j7 (x9b call hs u rec0) 0 1 2 10 31 32 33:=sq2 x1b1 x1b9
theorem x1bb{rec0:AV->AV->AV->AV->AV->AV->AV->Mem->Nat->O2}:x1w7 call hs u xq0 (j7 rec0 0 1 2 10 31 32 33) (setE 0 (j1 (xh call hs u) 10) eNil)=j7 (xj2 call hs u rec0) 0 1 2 10 31 32 33:=tr (sqN 2 x1ba)
theorem x1bc:x1w7 call hs u xpz (j1 (xh call hs u) 10) (setE 0 (j1 (xh call hs u) 10) eNil)=j7 (x5s call hs u NN) 0 1 2 10 31 32 33:=lp (Ln:=fun n=>j7 (x5s call hs u n) 0 1 2 10 31 32 33) fun n=>tr x1bb
theorem x1bd:x1w7 call hs u xpy (j1 (xh call hs u) 10) eNil=j7 (x5s call hs u NN) 0 1 2 10 31 32 33:=bk x1bc
theorem x1be:x1w7 call hs u xpx (j1 (xh call hs u) 10) eNil=j4 (xcj call hs u) 0 1 2 10:=tr (sqN 1 x1bd)
theorem x1bf:x1w7 call hs u xg0 r_4 eNil=j4 (xcj call hs u) 0 1 2 10:=sq2 x1b0 x1be
theorem x12k:x1w7 call hs u xpw r_4 eNil=j3 (xj3 call hs u) 0 1 2:=tr (sqN 4 x1bf)
noncomputable abbrev x1w8:=VX x27 50 r_5
noncomputable def xq6:=x1uv x27
noncomputable def xg3:=nRs 2 xq6
noncomputable def xq7:=nL xg3
noncomputable def x1bg:=nR xg3
noncomputable def xq8:=nR xq7
noncomputable def xq9:=nR xq8
noncomputable def xqa:=nR xq9
noncomputable def xg4:=nR xqa
noncomputable def xqb:=nL xg4
noncomputable def x1bh:=nR xg4
noncomputable def xqc:=nR xqb
noncomputable def xg5:=nRs 2 xqc
noncomputable def xqd:=nL xg5
noncomputable def x1bi:=nR xg5
noncomputable def xqe:=nR xqd
noncomputable def xqf:=nR xqe
noncomputable def x1bj:=nR xqf
theorem x1bk:x1w8 call hs u x1bg r_5 eNil=j0 (xc call hs u):=by kernel_rfl
theorem x1bl{rec0:AV->AV->Mem->Nat->O2}:x1w8 call hs u x1bh (j2 rec0 0 4) (setE 0 (j0 (xc call hs u)) eNil)=j2 (xt call hs u rec0) 0 4:=by kernel_rfl
theorem x1bm{rec0:AV->AV->Mem->Nat->O2}:x1w8 call hs u x1bi (j2 (xt call hs u rec0) 0 4) (setE 1 (j2 (xt call hs u rec0) 0 4) (setE 0 (j0 (xc call hs u)) eNil))=j3 (x1t call hs u rec0) 0 4 5:=by kernel_rfl
theorem x1bn{rec0:AV->AV->Mem->Nat->O2}{rec1:AV->AV->AV->AV->Mem->Nat->O2}:x1w8 call hs u x1bj (j4 rec1 0 4 5 6) (setE 2 (j3 (x1t call hs u rec0) 0 4 5) (setE 1 (j2 (xt call hs u rec0) 0 4) (setE 0 (j0 (xc call hs u)) eNil)))=j4 (x9c call hs u rec0 rec1) 0 4 5 6:=by kernel_rfl
theorem x1bo{rec0:AV->AV->Mem->Nat->O2}:x1w8 call hs u xqf (j3 (x1t call hs u rec0) 0 4 5) (setE 2 (j3 (x1t call hs u rec0) 0 4 5) (setE 1 (j2 (xt call hs u rec0) 0 4) (setE 0 (j0 (xc call hs u)) eNil)))=j4 (x2d call hs u rec0 NN) 0 4 5 6:=lp (Ln:=fun n=>j4 (x2d call hs u rec0 n) 0 4 5 6) fun n=>tr x1bn
theorem x1bp{rec0:AV->AV->Mem->Nat->O2}:x1w8 call hs u xqe (j3 (x1t call hs u rec0) 0 4 5) (setE 1 (j2 (xt call hs u rec0) 0 4) (setE 0 (j0 (xc call hs u)) eNil))=j4 (x2d call hs u rec0 NN) 0 4 5 6:=bk x1bo
theorem x1bq{rec0:AV->AV->Mem->Nat->O2}:x1w8 call hs u xqd (j3 (x1t call hs u rec0) 0 4 5) (setE 1 (j2 (xt call hs u rec0) 0 4) (setE 0 (j0 (xc call hs u)) eNil))=j3 (x9d call hs u rec0) 0 4 5:=tr (sqN 1 x1bp)
theorem x1br{rec0:AV->AV->Mem->Nat->O2}:x1w8 call hs u xg5 (j2 (xt call hs u rec0) 0 4) (setE 1 (j2 (xt call hs u rec0) 0 4) (setE 0 (j0 (xc call hs u)) eNil))=j3 (x9d call hs u rec0) 0 4 5:=sq2 x1bm x1bq
theorem x1bs{rec0:AV->AV->Mem->Nat->O2}:x1w8 call hs u xqc (j2 (xt call hs u rec0) 0 4) (setE 1 (j2 (xt call hs u rec0) 0 4) (setE 0 (j0 (xc call hs u)) eNil))=j2 (x5t call hs u rec0) 0 4:=tr (sqN 2 x1br)
theorem x1bt{rec0:AV->AV->Mem->Nat->O2}:x1w8 call hs u xqb (j2 (xt call hs u rec0) 0 4) (setE 0 (j0 (xc call hs u)) eNil)=j2 (x5t call hs u rec0) 0 4:=bk x1bs
theorem x1bu{rec0:AV->AV->Mem->Nat->O2}:x1w8 call hs u xg4 (j2 rec0 0 4) (setE 0 (j0 (xc call hs u)) eNil)=j2 (x5t call hs u rec0) 0 4:=sq2 x1bl x1bt
theorem x1bv{rec0:AV->AV->Mem->Nat->O2}:x1w8 call hs u xqa (j2 rec0 0 4) (setE 0 (j0 (xc call hs u)) eNil)=j2 (x9e call hs u rec0) 0 4:=tr (sqN 1 x1bu)
theorem x1bw:x1w8 call hs u xq9 (j0 (xc call hs u)) (setE 0 (j0 (xc call hs u)) eNil)=j2 (x18 call hs u NN) 0 4:=lp (Ln:=fun n=>j2 (x18 call hs u n) 0 4) fun n=>tr x1bv
theorem x1bx:x1w8 call hs u xq8 (j0 (xc call hs u)) eNil=j2 (x18 call hs u NN) 0 4:=bk x1bw
theorem x1by:x1w8 call hs u xq7 (j0 (xc call hs u)) eNil=j1 (x9f call hs u) 0:=tr (sqN 1 x1bx)
theorem x1bz:x1w8 call hs u xg3 r_5 eNil=j1 (x9f call hs u) 0:=sq2 x1bk x1by
theorem x12l:x1w8 call hs u xq6 r_5 eNil=j1 (xck call hs u) 0:=tr (sqN 2 x1bz)
noncomputable abbrev x1w9:=VX x7z 61 r_0
noncomputable def xqg:=x1uv x7z
noncomputable def xg6:=nRs 2 xqg
noncomputable def xqh:=nL xg6
noncomputable def x1c0:=nR xg6
noncomputable def xqi:=nR xqh
noncomputable def xqj:=nR xqi
noncomputable def xqk:=nR xqj
noncomputable def xg7:=nR xqk
noncomputable def xql:=nL xg7
noncomputable def x1c1:=nR xg7
noncomputable def xqm:=nR xql
noncomputable def xqn:=nR xqm
noncomputable def xqo:=nR xqn
noncomputable def xqp:=nR xqo
noncomputable def xg8:=nR xqp
noncomputable def x1c2:=nL xg8
noncomputable def x1c3:=nR xg8
theorem x1c4:x1w9 call hs u x1c0 r_0 eNil=j1 (xi call hs u) 7:=by kernel_rfl
theorem x1c5{rec0:AV->AV->AV->AV->AV->Mem->Nat->O2}:x1w9 call hs u x1c1 (j5 rec0 0 1 2 7 8) (setE 0 (j1 (xi call hs u) 7) eNil)=j5 (xe call hs u rec0) 0 1 2 7 8:=by kernel_rfl
theorem x1c6{rec0:AV->AV->AV->AV->AV->Mem->Nat->O2}{rec1:AV->AV->AV->AV->AV->AV->Mem->Nat->O2}:x1w9 call hs u x1c3 (j6 rec1 0 1 2 7 8 9) (setE 2 (j5 (xe call hs u rec0) 0 1 2 7 8) (setE 1 (j5 (xe call hs u rec0) 0 1 2 7 8) (setE 0 (j1 (xi call hs u) 7) eNil)))=j6 (x9g call hs u rec0 rec1) 0 1 2 7 8 9:=by kernel_rfl
theorem x1c7{rec0:AV->AV->AV->AV->AV->Mem->Nat->O2}{rec1:AV->AV->AV->AV->AV->AV->Mem->Nat->O2}:x1w9 call hs u x1c2 (j6 (x9g call hs u rec0 rec1) 0 1 2 7 8 9) (setE 2 (j5 (xe call hs u rec0) 0 1 2 7 8) (setE 1 (j5 (xe call hs u rec0) 0 1 2 7 8) (setE 0 (j1 (xi call hs u) 7) eNil)))=j6 (xcl call hs u rec0 rec1) 0 1 2 7 8 9:=by kernel_rfl
theorem x1c8{rec0:AV->AV->AV->AV->AV->Mem->Nat->O2}{rec1:AV->AV->AV->AV->AV->AV->Mem->Nat->O2}:x1w9 call hs u xg8 (j6 rec1 0 1 2 7 8 9) (setE 2 (j5 (xe call hs u rec0) 0 1 2 7 8) (setE 1 (j5 (xe call hs u rec0) 0 1 2 7 8) (setE 0 (j1 (xi call hs u) 7) eNil)))=j6 (xcl call hs u rec0 rec1) 0 1 2 7 8 9:=sq2 x1c6 x1c7
theorem x1c9{rec0:AV->AV->AV->AV->AV->Mem->Nat->O2}{rec1:AV->AV->AV->AV->AV->AV->Mem->Nat->O2}:x1w9 call hs u xqp (j6 rec1 0 1 2 7 8 9) (setE 2 (j5 (xe call hs u rec0) 0 1 2 7 8) (setE 1 (j5 (xe call hs u rec0) 0 1 2 7 8) (setE 0 (j1 (xi call hs u) 7) eNil)))=j6 (xj4 call hs u rec0 rec1) 0 1 2 7 8 9:=tr (sqN 1 x1c8)
theorem x1ca{rec0:AV->AV->AV->AV->AV->Mem->Nat->O2}:x1w9 call hs u xqo (j5 (xe call hs u rec0) 0 1 2 7 8) (setE 2 (j5 (xe call hs u rec0) 0 1 2 7 8) (setE 1 (j5 (xe call hs u rec0) 0 1 2 7 8) (setE 0 (j1 (xi call hs u) 7) eNil)))=j6 (x5u call hs u rec0 NN) 0 1 2 7 8 9:=lp (Ln:=fun n=>j6 (x5u call hs u rec0 n) 0 1 2 7 8 9) fun n=>tr x1c9
theorem x1cb{rec0:AV->AV->AV->AV->AV->Mem->Nat->O2}:x1w9 call hs u xqn (j5 (xe call hs u rec0) 0 1 2 7 8) (setE 1 (j5 (xe call hs u rec0) 0 1 2 7 8) (setE 0 (j1 (xi call hs u) 7) eNil))=j6 (x5u call hs u rec0 NN) 0 1 2 7 8 9:=bk x1ca
theorem x1cc{rec0:AV->AV->AV->AV->AV->Mem->Nat->O2}:x1w9 call hs u xqm (j5 (xe call hs u rec0) 0 1 2 7 8) (setE 1 (j5 (xe call hs u rec0) 0 1 2 7 8) (setE 0 (j1 (xi call hs u) 7) eNil))=j5 (x9h call hs u rec0) 0 1 2 7 8:=tr (sqN 1 x1cb)
theorem x1cd{rec0:AV->AV->AV->AV->AV->Mem->Nat->O2}:x1w9 call hs u xql (j5 (xe call hs u rec0) 0 1 2 7 8) (setE 0 (j1 (xi call hs u) 7) eNil)=j5 (x9h call hs u rec0) 0 1 2 7 8:=bk x1cc
theorem x1ce{rec0:AV->AV->AV->AV->AV->Mem->Nat->O2}:x1w9 call hs u xg7 (j5 rec0 0 1 2 7 8) (setE 0 (j1 (xi call hs u) 7) eNil)=j5 (x9h call hs u rec0) 0 1 2 7 8:=sq2 x1c5 x1cd
theorem x1cf{rec0:AV->AV->AV->AV->AV->Mem->Nat->O2}:x1w9 call hs u xqk (j5 rec0 0 1 2 7 8) (setE 0 (j1 (xi call hs u) 7) eNil)=j5 (xj5 call hs u rec0) 0 1 2 7 8:=tr (sqN 1 x1ce)
theorem x1cg:x1w9 call hs u xqj (j1 (xi call hs u) 7) (setE 0 (j1 (xi call hs u) 7) eNil)=j5 (x5v call hs u NN) 0 1 2 7 8:=lp (Ln:=fun n=>j5 (x5v call hs u n) 0 1 2 7 8) fun n=>tr x1cf
theorem x1ch:x1w9 call hs u xqi (j1 (xi call hs u) 7) eNil=j5 (x5v call hs u NN) 0 1 2 7 8:=bk x1cg
theorem x1ci:x1w9 call hs u xqh (j1 (xi call hs u) 7) eNil=j4 (xcm call hs u) 0 1 2 7:=tr (sqN 1 x1ch)
theorem x1cj:x1w9 call hs u xg6 r_0 eNil=j4 (xcm call hs u) 0 1 2 7:=sq2 x1c4 x1ci
theorem x12m:x1w9 call hs u xqg r_0 eNil=j3 (xj6 call hs u) 0 1 2:=tr (sqN 2 x1cj)
noncomputable abbrev x1z7:=VX x80 26 r_1
noncomputable def xqq:=x1uv x80
noncomputable def xg9:=nRs 2 xqq
noncomputable def xqr:=nL xg9
noncomputable def x1ck:=nR xg9
noncomputable def xqs:=nR xqr
noncomputable def xqt:=nR xqs
noncomputable def x1cl:=nR xqt
theorem x1cm:x1z7 call hs u x1ck r_1 eNil=j0 (x3h call hs u):=by kernel_rfl
theorem x1cn{rec0:AV->AV->AV->Mem->Nat->O2}:x1z7 call hs u x1cl (j3 rec0 0 1 5) (setE 0 (j0 (x3h call hs u)) eNil)=j3 (xj7 call hs u rec0) 0 1 5:=by kernel_rfl
theorem x1co:x1z7 call hs u xqt (j0 (x3h call hs u)) (setE 0 (j0 (x3h call hs u)) eNil)=j3 (x5w call hs u NN) 0 1 5:=lp (Ln:=fun n=>j3 (x5w call hs u n) 0 1 5) fun n=>tr x1cn
theorem x1cp:x1z7 call hs u xqs (j0 (x3h call hs u)) eNil=j3 (x5w call hs u NN) 0 1 5:=bk x1co
theorem x1cq:x1z7 call hs u xqr (j0 (x3h call hs u)) eNil=j2 (xcn call hs u) 0 1:=tr (sqN 1 x1cp)
theorem x1cr:x1z7 call hs u xg9 r_1 eNil=j2 (xcn call hs u) 0 1:=sq2 x1cm x1cq
theorem x12n:x1z7 call hs u xqq r_1 eNil=j2 (xj8 call hs u) 0 1:=tr (sqN 2 x1cr)
noncomputable abbrev x1z8:=VX x41 53 r_6
noncomputable def xqu:=x1uv x41
noncomputable def xga:=nRs 2 xqu
noncomputable def xqv:=nL xga
noncomputable def x1cs:=nR xga
noncomputable def xqw:=nR xqv
noncomputable def xqx:=nR xqw
noncomputable def x1ct:=nR xqx
theorem x1cu:x1z8 call hs u x1cs r_6 eNil=j0 (x2e call hs u):=by kernel_rfl
theorem x1cv{rec0:AV->AV->Mem->Nat->O2}:x1z8 call hs u x1ct (j2 rec0 1 3) (setE 0 (j0 (x2e call hs u)) eNil)=j2 (x9i call hs u rec0) 1 3:=by kernel_rfl
theorem x1cw:x1z8 call hs u xqx (j0 (x2e call hs u)) (setE 0 (j0 (x2e call hs u)) eNil)=j2 (x2f call hs u NN) 1 3:=lp (Ln:=fun n=>j2 (x2f call hs u n) 1 3) fun n=>tr x1cv
theorem x1cx:x1z8 call hs u xqw (j0 (x2e call hs u)) eNil=j2 (x2f call hs u NN) 1 3:=bk x1cw
theorem x1cy:x1z8 call hs u xqv (j0 (x2e call hs u)) eNil=j1 (x5x call hs u) 1:=tr (sqN 1 x1cx)
theorem x1cz:x1z8 call hs u xga r_6 eNil=j1 (x5x call hs u) 1:=sq2 x1cu x1cy
theorem x12o:x1z8 call hs u xqu r_6 eNil=j1 (xco call hs u) 0:=tr (sqN 2 x1cz)
noncomputable abbrev x1z9:=VX x37 64 r_7
noncomputable def xqy:=x1uv x37
noncomputable def xgb:=nRs 3 xqy
noncomputable def xqz:=nL xgb
noncomputable def x1d0:=nR xgb
noncomputable def xr0:=nR xqz
noncomputable def xr1:=nR xr0
noncomputable def x1d1:=nR xr1
theorem x1d2:x1z9 call hs u x1d0 r_7 eNil=j3 (x2g call hs u) 1 2 7:=by kernel_rfl
theorem x1d3{rec0:AV->AV->AV->AV->AV->AV->Mem->Nat->O2}:x1z9 call hs u x1d1 (j6 rec0 1 2 7 19 20 21) (setE 0 (j3 (x2g call hs u) 1 2 7) eNil)=j6 (x9j call hs u rec0) 1 2 7 19 20 21:=by kernel_rfl
theorem x1d4:x1z9 call hs u xr1 (j3 (x2g call hs u) 1 2 7) (setE 0 (j3 (x2g call hs u) 1 2 7) eNil)=j6 (x1u call hs u NN) 1 2 7 19 20 21:=lp (Ln:=fun n=>j6 (x1u call hs u n) 1 2 7 19 20 21) fun n=>tr x1d3
theorem x1d5:x1z9 call hs u xr0 (j3 (x2g call hs u) 1 2 7) eNil=j6 (x1u call hs u NN) 1 2 7 19 20 21:=bk x1d4
theorem x1d6:x1z9 call hs u xqz (j3 (x2g call hs u) 1 2 7) eNil=j3 (x9k call hs u) 1 2 7:=tr (sqN 1 x1d5)
theorem x1d7:x1z9 call hs u xgb r_7 eNil=j3 (x9k call hs u) 1 2 7:=sq2 x1d2 x1d6
theorem x12p:x1z9 call hs u xqy r_7 eNil=j2 (xcp call hs u) 0 1:=tr (sqN 3 x1d7)
noncomputable abbrev x283:=VX x38 12 r_8
noncomputable def x1d8:=x1uv x38
theorem x12q:x283 call hs u x1d8 r_8 eNil=j1 (xcq call hs u) 0:=by kernel_rfl
noncomputable abbrev x284:=VX x42 6 r_6
noncomputable def x1d9:=x1uv x42
theorem x12r:x284 call hs u x1d9 r_6 eNil=j1 (x9l call hs u) 0:=by kernel_rfl
noncomputable abbrev x285:=VX x43 11 r_6
noncomputable def x1da:=x1uv x43
theorem x12s:x285 call hs u x1da r_6 eNil=j1 (xcr call hs u) 0:=by kernel_rfl
noncomputable abbrev x1wt:=VX x39 109 r_7
noncomputable def xr2:=x1uv x39
noncomputable def xgc:=nRs 2 xr2
noncomputable def xr3:=nL xgc
noncomputable def xr4:=nR xgc
noncomputable def xgd:=nR xr4
noncomputable def xr5:=nL xgd
noncomputable def x1db:=nR xgd
noncomputable def xr6:=nR xr5
noncomputable def xr7:=nR xr6
noncomputable def x1dc:=nR xr7
noncomputable def xr8:=nR xr3
noncomputable def xr9:=nR xr8
noncomputable def x1dd:=nR xr9
theorem x1de:x1wt call hs u x1db r_7 eNil=j1 (x2h call hs u) 6:=by kernel_rfl
theorem x1df{rec0:AV->AV->AV->AV->Mem->Nat->O2}:x1wt call hs u x1dc (j4 rec0 2 6 9 10) (setE 2 (j1 (x2h call hs u) 6) eNil)=j4 (x9m call hs u rec0) 2 6 9 10:=by kernel_rfl
theorem x1dg:x1wt call hs u xr7 (j1 (x2h call hs u) 6) (setE 2 (j1 (x2h call hs u) 6) eNil)=j4 (x2i call hs u NN) 2 6 9 10:=lp (Ln:=fun n=>j4 (x2i call hs u n) 2 6 9 10) fun n=>tr x1df
theorem x1dh:x1wt call hs u xr6 (j1 (x2h call hs u) 6) eNil=j4 (x2i call hs u NN) 2 6 9 10:=bk x1dg
theorem x1di:x1wt call hs u xr5 (j1 (x2h call hs u) 6) eNil=j3 (x9n call hs u) 2 6 9:=tr (sqN 1 x1dh)
theorem x1dj:x1wt call hs u xgd r_7 eNil=j3 (x9n call hs u) 2 6 9:=sq2 x1de x1di
theorem x1dk:x1wt call hs u xr4 r_7 eNil=j3 (x2j call hs u) 1 2 6:=tr (sqN 1 x1dj)
theorem x1dl{rec1:AV->AV->AV->AV->Mem->Nat->O2}:x1wt call hs u x1dd (j4 rec1 1 2 6 7) (setE 0 (j3 (x2j call hs u) 1 2 6) eNil)=j4 (x9o call hs u rec1) 1 2 6 7:=by kernel_rfl
theorem x1dm:x1wt call hs u xr9 (j3 (x2j call hs u) 1 2 6) (setE 0 (j3 (x2j call hs u) 1 2 6) eNil)=j4 (x2k call hs u NN) 1 2 6 7:=lp (Ln:=fun n=>j4 (x2k call hs u n) 1 2 6 7) fun n=>tr x1dl
theorem x1dn:x1wt call hs u xr8 (j3 (x2j call hs u) 1 2 6) eNil=j4 (x2k call hs u NN) 1 2 6 7:=bk x1dm
theorem x1do:x1wt call hs u xr3 (j3 (x2j call hs u) 1 2 6) eNil=j3 (x9p call hs u) 1 2 6:=tr (sqN 1 x1dn)
theorem x1dp:x1wt call hs u xgc r_7 eNil=j3 (x9p call hs u) 1 2 6:=sq2 x1dk x1do
theorem x12t:x1wt call hs u xr2 r_7 eNil=j2 (xcs call hs u) 0 1:=tr (sqN 2 x1dp)
noncomputable abbrev x1xs:=VX x82 51 r_5
noncomputable def xra:=x1uv x82
noncomputable def xge:=nRs 6 xra
noncomputable def xrb:=nL xge
noncomputable def x1dq:=nR xge
noncomputable def xrc:=nR xrb
noncomputable def xrd:=nR xrc
noncomputable def xre:=nR xrd
noncomputable def xgf:=nRs 2 xre
noncomputable def x1dr:=nL xgf
noncomputable def x1ds:=nR xgf
theorem x1dt:x1xs call hs u x1dq r_5 eNil=j1 (x19 call hs u) 7:=by kernel_rfl
theorem x1du{rec0:AV->AV->AV->AV->AV->Mem->Nat->O2}:x1xs call hs u x1ds (j5 rec0 6 7 27 28 29) (setE 0 (j1 (x19 call hs u) 7) eNil)=j5 (x9q call hs u rec0) 6 7 27 28 29:=by kernel_rfl
theorem x1dv{rec0:AV->AV->AV->AV->AV->Mem->Nat->O2}:x1xs call hs u x1dr (j5 (x9q call hs u rec0) 6 7 27 28 29) (setE 0 (j1 (x19 call hs u) 7) eNil)=j5 (xct call hs u rec0) 6 7 27 28 29:=by kernel_rfl
theorem x1dw{rec0:AV->AV->AV->AV->AV->Mem->Nat->O2}:x1xs call hs u xgf (j5 rec0 6 7 27 28 29) (setE 0 (j1 (x19 call hs u) 7) eNil)=j5 (xct call hs u rec0) 6 7 27 28 29:=sq2 x1du x1dv
theorem x1dx{rec0:AV->AV->AV->AV->AV->Mem->Nat->O2}:x1xs call hs u xre (j5 rec0 6 7 27 28 29) (setE 0 (j1 (x19 call hs u) 7) eNil)=j5 (xja call hs u rec0) 6 7 27 28 29:=tr (sqN 2 x1dw)
theorem x1dy:x1xs call hs u xrd (j1 (x19 call hs u) 7) (setE 0 (j1 (x19 call hs u) 7) eNil)=j5 (x5z call hs u NN) 6 7 27 28 29:=lp (Ln:=fun n=>j5 (x5z call hs u n) 6 7 27 28 29) fun n=>tr x1dx
theorem x1dz:x1xs call hs u xrc (j1 (x19 call hs u) 7) eNil=j5 (x5z call hs u NN) 6 7 27 28 29:=bk x1dy
theorem x1e0:x1xs call hs u xrb (j1 (x19 call hs u) 7) eNil=j3 (xcu call hs u) 4 6 7:=tr (sqN 1 x1dz)
theorem x1e1:x1xs call hs u xge r_5 eNil=j3 (xcu call hs u) 4 6 7:=sq2 x1dt x1e0
theorem x12u:x1xs call hs u xra r_5 eNil=j1 (xjb call hs u) 0:=tr (sqN 6 x1e1)
noncomputable abbrev x1za:=VX x83 60 r_9
noncomputable def xrf:=x1uv x83
noncomputable def xgg:=nRs 6 xrf
noncomputable def xrg:=nL xgg
noncomputable def x1e2:=nR xgg
noncomputable def xrh:=nR xrg
noncomputable def xri:=nR xrh
noncomputable def x1e3:=nR xri
theorem x1e4:x1za call hs u x1e2 r_9 eNil=j3 (x3i call hs u) 9 10 11:=by kernel_rfl
theorem x1e5{rec0:AV->AV->AV->AV->AV->AV->AV->Mem->Nat->O2}:x1za call hs u x1e3 (j7 rec0 8 9 10 11 33 34 35) (setE 0 (j3 (x3i call hs u) 9 10 11) eNil)=j7 (xjc call hs u rec0) 8 9 10 11 33 34 35:=by kernel_rfl
theorem x1e6:x1za call hs u xri (j3 (x3i call hs u) 9 10 11) (setE 0 (j3 (x3i call hs u) 9 10 11) eNil)=j7 (x60 call hs u NN) 8 9 10 11 33 34 35:=lp (Ln:=fun n=>j7 (x60 call hs u n) 8 9 10 11 33 34 35) fun n=>tr x1e5
theorem x1e7:x1za call hs u xrh (j3 (x3i call hs u) 9 10 11) eNil=j7 (x60 call hs u NN) 8 9 10 11 33 34 35:=bk x1e6
theorem x1e8:x1za call hs u xrg (j3 (x3i call hs u) 9 10 11) eNil=j5 (xcv call hs u) 6 8 9 10 11:=tr (sqN 1 x1e7)
theorem x1e9:x1za call hs u xgg r_9 eNil=j5 (xcv call hs u) 6 8 9 10 11:=sq2 x1e4 x1e8
theorem x12v:x1za call hs u xrf r_9 eNil=j1 (xjd call hs u) 0:=tr (sqN 6 x1e9)
noncomputable abbrev x286:=VX x84 20 r_10
noncomputable def x1ea:=x1uv x84
theorem x12w:x286 call hs u x1ea r_10 eNil=j1 (xje call hs u) 0:=by kernel_rfl
noncomputable abbrev x287:=VX x44 40 r_1
noncomputable def x1eb:=x1uv x44
theorem x12x:x287 call hs u x1eb r_1 eNil=j2 (xcw call hs u) 0 1:=by kernel_rfl
noncomputable abbrev x288:=VX x58 36 r_6
noncomputable def x1ec:=x1uv x58
theorem x12y:x288 call hs u x1ec r_6 eNil=j1 (xjf call hs u) 0:=by kernel_rfl
noncomputable abbrev x289:=VX x59 12 r_11
noncomputable def x1ed:=x1uv x59
theorem x12z:x289 call hs u x1ed r_11 eNil=j0 (xjg call hs u):=by kernel_rfl
noncomputable abbrev x28a:=VX x45 10 r_12
noncomputable def x1ee:=x1uv x45
theorem x130:x28a call hs u x1ee r_12 eNil=j2 (xjh call hs u) 0 1:=by kernel_rfl
noncomputable abbrev x28b:=VX x1q 7 r_6
noncomputable def x1ef:=x1uv x1q
theorem x131:x28b call hs u x1ef r_6 eNil=j1 (xcx call hs u) 0:=by kernel_rfl
noncomputable abbrev x28c:=VX xr 15 r_0
noncomputable def x1eg:=x1uv xr
theorem x132:x28c call hs u x1eg r_0 eNil=j3 (xcy call hs u) 0 1 2:=by kernel_rfl
noncomputable abbrev x1zb:=VX x5a 42 r_1
noncomputable def xrj:=x1uv x5a
noncomputable def xgh:=nRs 3 xrj
noncomputable def xrk:=nL xgh
noncomputable def x1eh:=nR xgh
noncomputable def xrl:=nR xrk
noncomputable def xrm:=nR xrl
noncomputable def x1ei:=nR xrm
theorem x1ej:x1zb call hs u x1eh r_1 eNil=j1 (x3j call hs u) 6:=by kernel_rfl
theorem x1ek{rec0:AV->AV->AV->AV->AV->AV->Mem->Nat->O2}:x1zb call hs u x1ei (j6 rec0 1 5 6 14 15 16) (setE 0 (j1 (x3j call hs u) 6) eNil)=j6 (xjj call hs u rec0) 1 5 6 14 15 16:=by kernel_rfl
theorem x1el:x1zb call hs u xrm (j1 (x3j call hs u) 6) (setE 0 (j1 (x3j call hs u) 6) eNil)=j6 (x61 call hs u NN) 1 5 6 14 15 16:=lp (Ln:=fun n=>j6 (x61 call hs u n) 1 5 6 14 15 16) fun n=>tr x1ek
theorem x1em:x1zb call hs u xrl (j1 (x3j call hs u) 6) eNil=j6 (x61 call hs u NN) 1 5 6 14 15 16:=bk x1el
theorem x1en:x1zb call hs u xrk (j1 (x3j call hs u) 6) eNil=j4 (xcz call hs u) 1 2 5 6:=tr (sqN 1 x1em)
theorem x1eo:x1zb call hs u xgh r_1 eNil=j4 (xcz call hs u) 1 2 5 6:=sq2 x1ej x1en
theorem x133:x1zb call hs u xrj r_1 eNil=j2 (xjk call hs u) 0 1:=tr (sqN 3 x1eo)
noncomputable abbrev x1xt:=VX x5b 38 r_1
noncomputable def xrn:=x1uv x5b
noncomputable def xgi:=nRs 5 xrn
noncomputable def xro:=nL xgi
noncomputable def x1ep:=nR xgi
noncomputable def xrp:=nR xro
noncomputable def xrq:=nR xrp
noncomputable def xrr:=nR xrq
noncomputable def xgj:=nRs 2 xrr
noncomputable def x1eq:=nL xgj
noncomputable def x1er:=nR xgj
theorem x1es:x1xt call hs u x1ep r_1 eNil=j1 (x1a call hs u) 5:=by kernel_rfl
theorem x1et{rec0:AV->AV->AV->AV->AV->Mem->Nat->O2}:x1xt call hs u x1er (j5 rec0 5 6 8 24 25) (setE 0 (j1 (x1a call hs u) 5) eNil)=j5 (x9r call hs u rec0) 5 6 8 24 25:=by kernel_rfl
theorem x1eu{rec0:AV->AV->AV->AV->AV->Mem->Nat->O2}:x1xt call hs u x1eq (j5 (x9r call hs u rec0) 5 6 8 24 25) (setE 0 (j1 (x1a call hs u) 5) eNil)=j5 (xd0 call hs u rec0) 5 6 8 24 25:=by kernel_rfl
theorem x1ev{rec0:AV->AV->AV->AV->AV->Mem->Nat->O2}:x1xt call hs u xgj (j5 rec0 5 6 8 24 25) (setE 0 (j1 (x1a call hs u) 5) eNil)=j5 (xd0 call hs u rec0) 5 6 8 24 25:=sq2 x1et x1eu
theorem x1ew{rec0:AV->AV->AV->AV->AV->Mem->Nat->O2}:x1xt call hs u xrr (j5 rec0 5 6 8 24 25) (setE 0 (j1 (x1a call hs u) 5) eNil)=j5 (xjl call hs u rec0) 5 6 8 24 25:=tr (sqN 2 x1ev)
theorem x1ex:x1xt call hs u xrq (j1 (x1a call hs u) 5) (setE 0 (j1 (x1a call hs u) 5) eNil)=j5 (x62 call hs u NN) 5 6 8 24 25:=lp (Ln:=fun n=>j5 (x62 call hs u n) 5 6 8 24 25) fun n=>tr x1ew
theorem x1ey:x1xt call hs u xrp (j1 (x1a call hs u) 5) eNil=j5 (x62 call hs u NN) 5 6 8 24 25:=bk x1ex
theorem x1ez:x1xt call hs u xro (j1 (x1a call hs u) 5) eNil=j3 (xd1 call hs u) 5 6 8:=tr (sqN 1 x1ey)
theorem x1f0:x1xt call hs u xgi r_1 eNil=j3 (xd1 call hs u) 5 6 8:=sq2 x1es x1ez
theorem x134:x1xt call hs u xrn r_1 eNil=j2 (xjm call hs u) 0 1:=tr (sqN 5 x1f0)
noncomputable abbrev x1xu:=VX x85 30 r_1
noncomputable def xrs:=x1uv x85
noncomputable def xgk:=nRs 2 xrs
noncomputable def xrt:=nL xgk
noncomputable def x1f1:=nR xgk
noncomputable def xru:=nR xrt
noncomputable def xrv:=nR xru
noncomputable def xrw:=nR xrv
noncomputable def xgl:=nRs 2 xrw
noncomputable def x1f2:=nL xgl
noncomputable def x1f3:=nR xgl
theorem x1f4:x1xu call hs u x1f1 r_1 eNil=j1 (x1b call hs u) 5:=by kernel_rfl
theorem x1f5{rec0:AV->AV->AV->AV->AV->Mem->Nat->O2}:x1xu call hs u x1f3 (j5 rec0 1 5 15 16 17) (setE 0 (j1 (x1b call hs u) 5) eNil)=j5 (x9s call hs u rec0) 1 5 15 16 17:=by kernel_rfl
theorem x1f6{rec0:AV->AV->AV->AV->AV->Mem->Nat->O2}:x1xu call hs u x1f2 (j5 (x9s call hs u rec0) 1 5 15 16 17) (setE 0 (j1 (x1b call hs u) 5) eNil)=j5 (xd2 call hs u rec0) 1 5 15 16 17:=by kernel_rfl
theorem x1f7{rec0:AV->AV->AV->AV->AV->Mem->Nat->O2}:x1xu call hs u xgl (j5 rec0 1 5 15 16 17) (setE 0 (j1 (x1b call hs u) 5) eNil)=j5 (xd2 call hs u rec0) 1 5 15 16 17:=sq2 x1f5 x1f6
theorem x1f8{rec0:AV->AV->AV->AV->AV->Mem->Nat->O2}:x1xu call hs u xrw (j5 rec0 1 5 15 16 17) (setE 0 (j1 (x1b call hs u) 5) eNil)=j5 (xjo call hs u rec0) 1 5 15 16 17:=tr (sqN 2 x1f7)
theorem x1f9:x1xu call hs u xrv (j1 (x1b call hs u) 5) (setE 0 (j1 (x1b call hs u) 5) eNil)=j5 (x63 call hs u NN) 1 5 15 16 17:=lp (Ln:=fun n=>j5 (x63 call hs u n) 1 5 15 16 17) fun n=>tr x1f8
theorem x1fa:x1xu call hs u xru (j1 (x1b call hs u) 5) eNil=j5 (x63 call hs u NN) 1 5 15 16 17:=bk x1f9
theorem x1fb:x1xu call hs u xrt (j1 (x1b call hs u) 5) eNil=j3 (xd3 call hs u) 1 2 5:=tr (sqN 1 x1fa)
theorem x1fc:x1xu call hs u xgk r_1 eNil=j3 (xd3 call hs u) 1 2 5:=sq2 x1f4 x1fb
theorem x135:x1xu call hs u xrs r_1 eNil=j2 (xjp call hs u) 0 1:=tr (sqN 2 x1fc)
noncomputable abbrev x1zc:=VX x28 42 r_5
noncomputable def xrx:=x1uv x28
noncomputable def xgm:=nRs 2 xrx
noncomputable def xry:=nL xgm
noncomputable def x1fd:=nR xgm
noncomputable def xrz:=nR xry
noncomputable def xs0:=nR xrz
noncomputable def x1fe:=nR xs0
theorem x1ff:x1zc call hs u x1fd r_5 eNil=j0 (x2m call hs u):=by kernel_rfl
theorem x1fg{rec0:AV->AV->AV->AV->Mem->Nat->O2}:x1zc call hs u x1fe (j4 rec0 0 9 10 11) (setE 0 (j0 (x2m call hs u)) eNil)=j4 (x9t call hs u rec0) 0 9 10 11:=by kernel_rfl
theorem x1fh:x1zc call hs u xs0 (j0 (x2m call hs u)) (setE 0 (j0 (x2m call hs u)) eNil)=j4 (x1x call hs u NN) 0 9 10 11:=lp (Ln:=fun n=>j4 (x1x call hs u n) 0 9 10 11) fun n=>tr x1fg
theorem x1fi:x1zc call hs u xrz (j0 (x2m call hs u)) eNil=j4 (x1x call hs u NN) 0 9 10 11:=bk x1fh
theorem x1fj:x1zc call hs u xry (j0 (x2m call hs u)) eNil=j1 (x9u call hs u) 0:=tr (sqN 1 x1fi)
theorem x1fk:x1zc call hs u xgm r_5 eNil=j1 (x9u call hs u) 0:=sq2 x1ff x1fj
theorem x136:x1zc call hs u xrx r_5 eNil=j1 (xd4 call hs u) 0:=tr (sqN 2 x1fk)
noncomputable abbrev x28d:=VX x15 10 r_1
noncomputable def x1fl:=x1uv x15
theorem x137:x28d call hs u x1fl r_1 eNil=j2 (xd5 call hs u) 0 1:=by kernel_rfl
noncomputable abbrev x1zd:=VX x46 55 r_6
noncomputable def xs1:=x1uv x46
noncomputable def xgn:=nRs 2 xs1
noncomputable def xs2:=nL xgn
noncomputable def x1fm:=nR xgn
noncomputable def xs3:=nR xs2
noncomputable def xs4:=nR xs3
noncomputable def x1fn:=nR xs4
theorem x1fo:x1zd call hs u x1fm r_6 eNil=j0 (x2n call hs u):=by kernel_rfl
theorem x1fp{rec0:AV->AV->Mem->Nat->O2}:x1zd call hs u x1fn (j2 rec0 0 3) (setE 0 (j0 (x2n call hs u)) eNil)=j2 (x9v call hs u rec0) 0 3:=by kernel_rfl
theorem x1fq:x1zd call hs u xs4 (j0 (x2n call hs u)) (setE 0 (j0 (x2n call hs u)) eNil)=j2 (x1y call hs u NN) 0 3:=lp (Ln:=fun n=>j2 (x1y call hs u n) 0 3) fun n=>tr x1fp
theorem x1fr:x1zd call hs u xs3 (j0 (x2n call hs u)) eNil=j2 (x1y call hs u NN) 0 3:=bk x1fq
theorem x1fs:x1zd call hs u xs2 (j0 (x2n call hs u)) eNil=j1 (x9w call hs u) 0:=tr (sqN 1 x1fr)
theorem x1ft:x1zd call hs u xgn r_6 eNil=j1 (x9w call hs u) 0:=sq2 x1fo x1fs
theorem x138:x1zd call hs u xs1 r_6 eNil=j1 (xd6 call hs u) 0:=tr (sqN 2 x1ft)
noncomputable abbrev x28e:=VX x29 11 r_6
noncomputable def x1fu:=x1uv x29
theorem x139:x28e call hs u x1fu r_6 eNil=j1 (xd7 call hs u) 0:=by kernel_rfl
noncomputable abbrev x1ze:=VX x1r 15 r_6
noncomputable def xs5:=x1uv x1r
noncomputable def xgo:=nRs 2 xs5
noncomputable def xs6:=nL xgo
noncomputable def x1fv:=nR xgo
noncomputable def xs7:=nR xs6
noncomputable def xs8:=nR xs7
noncomputable def x1fw:=nR xs8
theorem x1fx:x1ze call hs u x1fv r_6 eNil=j1 (x2o call hs u) 3:=by kernel_rfl
theorem x1fy{rec0:AV->AV->AV->Mem->Nat->O2}:x1ze call hs u x1fw (j3 rec0 3 5 6) (setE 0 (j1 (x2o call hs u) 3) eNil)=j3 (x9x call hs u rec0) 3 5 6:=by kernel_rfl
theorem x1fz:x1ze call hs u xs8 (j1 (x2o call hs u) 3) (setE 0 (j1 (x2o call hs u) 3) eNil)=j3 (x2p call hs u NN) 3 5 6:=lp (Ln:=fun n=>j3 (x2p call hs u n) 3 5 6) fun n=>tr x1fy
theorem x1g0:x1ze call hs u xs7 (j1 (x2o call hs u) 3) eNil=j3 (x2p call hs u NN) 3 5 6:=bk x1fz
theorem x1g1:x1ze call hs u xs6 (j1 (x2o call hs u) 3) eNil=j2 (x9y call hs u) 0 3:=tr (sqN 1 x1g0)
theorem x1g2:x1ze call hs u xgo r_6 eNil=j2 (x9y call hs u) 0 3:=sq2 x1fx x1g1
theorem x13a:x1ze call hs u xs5 r_6 eNil=j1 (xd8 call hs u) 0:=tr (sqN 2 x1g2)
noncomputable abbrev x1xv:=VX x1s 44 r_1
noncomputable def xs9:=x1uv x1s
noncomputable def xgp:=nRs 2 xs9
noncomputable def xsa:=nL xgp
noncomputable def x1g3:=nR xgp
noncomputable def xsb:=nR xsa
noncomputable def xsc:=nR xsb
noncomputable def xsd:=nR xsc
noncomputable def xgq:=nRs 2 xsd
noncomputable def x1g4:=nL xgq
noncomputable def x1g5:=nR xgq
theorem x1g6:x1xv call hs u x1g3 r_1 eNil=j2 (x14 call hs u) 5 6:=by kernel_rfl
theorem x1g7{rec0:AV->AV->AV->AV->AV->AV->Mem->Nat->O2}:x1xv call hs u x1g5 (j6 rec0 0 5 6 19 20 21) (setE 0 (j2 (x14 call hs u) 5 6) eNil)=j6 (x64 call hs u rec0) 0 5 6 19 20 21:=by kernel_rfl
theorem x1g8{rec0:AV->AV->AV->AV->AV->AV->Mem->Nat->O2}:x1xv call hs u x1g4 (j6 (x64 call hs u rec0) 0 5 6 19 20 21) (setE 0 (j2 (x14 call hs u) 5 6) eNil)=j6 (x9z call hs u rec0) 0 5 6 19 20 21:=by kernel_rfl
theorem x1g9{rec0:AV->AV->AV->AV->AV->AV->Mem->Nat->O2}:x1xv call hs u xgq (j6 rec0 0 5 6 19 20 21) (setE 0 (j2 (x14 call hs u) 5 6) eNil)=j6 (x9z call hs u rec0) 0 5 6 19 20 21:=sq2 x1g7 x1g8
theorem x1ga{rec0:AV->AV->AV->AV->AV->AV->Mem->Nat->O2}:x1xv call hs u xsd (j6 rec0 0 5 6 19 20 21) (setE 0 (j2 (x14 call hs u) 5 6) eNil)=j6 (xa0 call hs u rec0) 0 5 6 19 20 21:=tr (sqN 2 x1g9)
theorem x1gb:x1xv call hs u xsc (j2 (x14 call hs u) 5 6) (setE 0 (j2 (x14 call hs u) 5 6) eNil)=j6 (x2q call hs u NN) 0 5 6 19 20 21:=lp (Ln:=fun n=>j6 (x2q call hs u n) 0 5 6 19 20 21) fun n=>tr x1ga
theorem x1gc:x1xv call hs u xsb (j2 (x14 call hs u) 5 6) eNil=j6 (x2q call hs u NN) 0 5 6 19 20 21:=bk x1gb
theorem x1gd:x1xv call hs u xsa (j2 (x14 call hs u) 5 6) eNil=j3 (xa1 call hs u) 0 5 6:=tr (sqN 1 x1gc)
theorem x1ge:x1xv call hs u xgp r_1 eNil=j3 (xa1 call hs u) 0 5 6:=sq2 x1g6 x1gd
theorem x13b:x1xv call hs u xs9 r_1 eNil=j2 (xda call hs u) 0 1:=tr (sqN 2 x1ge)
noncomputable abbrev x28f:=VX x3a 9 r_1
noncomputable def x1gf:=x1uv x3a
theorem x13c:x28f call hs u x1gf r_1 eNil=j2 (xdb call hs u) 0 1:=by kernel_rfl
noncomputable abbrev x28g:=VX x2a 15 r_13
noncomputable def x1gg:=x1uv x2a
theorem x13d:x28g call hs u x1gg r_13 eNil=j2 (xdc call hs u) 0 1:=by kernel_rfl
noncomputable abbrev x1zf:=VX x3b 21 r_1
noncomputable def xse:=x1uv x3b
noncomputable def xgr:=nRs 2 xse
noncomputable def xsf:=nL xgr
noncomputable def x1gh:=nR xgr
noncomputable def xsg:=nR xsf
noncomputable def xsh:=nR xsg
noncomputable def x1gi:=nR xsh
theorem x1gj:x1zf call hs u x1gh r_1 eNil=j1 (x2r call hs u) 5:=by kernel_rfl
theorem x1gk{rec0:AV->AV->AV->AV->AV->Mem->Nat->O2}:x1zf call hs u x1gi (j5 rec0 2 5 8 9 10) (setE 0 (j1 (x2r call hs u) 5) eNil)=j5 (xa2 call hs u rec0) 2 5 8 9 10:=by kernel_rfl
theorem x1gl:x1zf call hs u xsh (j1 (x2r call hs u) 5) (setE 0 (j1 (x2r call hs u) 5) eNil)=j5 (x2s call hs u NN) 2 5 8 9 10:=lp (Ln:=fun n=>j5 (x2s call hs u n) 2 5 8 9 10) fun n=>tr x1gk
theorem x1gm:x1zf call hs u xsg (j1 (x2r call hs u) 5) eNil=j5 (x2s call hs u NN) 2 5 8 9 10:=bk x1gl
theorem x1gn:x1zf call hs u xsf (j1 (x2r call hs u) 5) eNil=j3 (xa3 call hs u) 1 2 5:=tr (sqN 1 x1gm)
theorem x1go:x1zf call hs u xgr r_1 eNil=j3 (xa3 call hs u) 1 2 5:=sq2 x1gj x1gn
theorem x13e:x1zf call hs u xse r_1 eNil=j2 (xdd call hs u) 0 1:=tr (sqN 2 x1go)
noncomputable abbrev x1wm:=VX x47 73 r_5
noncomputable def xsi:=x1uv x47
noncomputable def xgs:=nRs 3 xsi
noncomputable def xsj:=nL xgs
noncomputable def x1gp:=nR xgs
noncomputable def xsk:=nR xsj
noncomputable def xsl:=nR xsk
noncomputable def xsm:=nR xsl
noncomputable def xgt:=nR xsm
noncomputable def xsn:=nL xgt
noncomputable def x1gq:=nR xgt
noncomputable def xso:=nR xsn
noncomputable def xsp:=nRs 4 xso
noncomputable def xsq:=nR xsp
noncomputable def x1gr:=nR xsq
theorem x1gs:x1wm call hs u x1gp r_5 eNil=j0 (xo call hs u):=by kernel_rfl
theorem x1gt{rec0:AV->AV->Mem->Nat->O2}:x1wm call hs u x1gq (j2 rec0 1 6) (setE 0 (j0 (xo call hs u)) eNil)=j2 (xx call hs u rec0) 1 6:=by kernel_rfl
theorem x1gu{rec0:AV->AV->Mem->Nat->O2}{rec1:AV->AV->AV->AV->Mem->Nat->O2}:x1wm call hs u x1gr (j4 rec1 1 6 7 8) (setE 2 (j2 (xx call hs u rec0) 1 6) (setE 1 (j2 (xx call hs u rec0) 1 6) (setE 0 (j0 (xo call hs u)) eNil)))=j4 (xa4 call hs u rec0 rec1) 1 6 7 8:=by kernel_rfl
theorem x1gv{rec0:AV->AV->Mem->Nat->O2}:x1wm call hs u xsq (j2 (xx call hs u rec0) 1 6) (setE 2 (j2 (xx call hs u rec0) 1 6) (setE 1 (j2 (xx call hs u rec0) 1 6) (setE 0 (j0 (xo call hs u)) eNil)))=j4 (x1z call hs u rec0 NN) 1 6 7 8:=lp (Ln:=fun n=>j4 (x1z call hs u rec0 n) 1 6 7 8) fun n=>tr x1gu
theorem x1gw{rec0:AV->AV->Mem->Nat->O2}:x1wm call hs u xsp (j2 (xx call hs u rec0) 1 6) (setE 1 (j2 (xx call hs u rec0) 1 6) (setE 0 (j0 (xo call hs u)) eNil))=j4 (x1z call hs u rec0 NN) 1 6 7 8:=bk x1gv
theorem x1gx{rec0:AV->AV->Mem->Nat->O2}:x1wm call hs u xso (j2 (xx call hs u rec0) 1 6) (setE 1 (j2 (xx call hs u rec0) 1 6) (setE 0 (j0 (xo call hs u)) eNil))=j2 (x65 call hs u rec0) 1 6:=tr (sqN 4 x1gw)
theorem x1gy{rec0:AV->AV->Mem->Nat->O2}:x1wm call hs u xsn (j2 (xx call hs u rec0) 1 6) (setE 0 (j0 (xo call hs u)) eNil)=j2 (x65 call hs u rec0) 1 6:=bk x1gx
theorem x1gz{rec0:AV->AV->Mem->Nat->O2}:x1wm call hs u xgt (j2 rec0 1 6) (setE 0 (j0 (xo call hs u)) eNil)=j2 (x65 call hs u rec0) 1 6:=sq2 x1gt x1gy
theorem x1h0{rec0:AV->AV->Mem->Nat->O2}:x1wm call hs u xsm (j2 rec0 1 6) (setE 0 (j0 (xo call hs u)) eNil)=j2 (xa5 call hs u rec0) 1 6:=tr (sqN 1 x1gz)
theorem x1h1:x1wm call hs u xsl (j0 (xo call hs u)) (setE 0 (j0 (xo call hs u)) eNil)=j2 (x1c call hs u NN) 1 6:=lp (Ln:=fun n=>j2 (x1c call hs u n) 1 6) fun n=>tr x1h0
theorem x1h2:x1wm call hs u xsk (j0 (xo call hs u)) eNil=j2 (x1c call hs u NN) 1 6:=bk x1h1
theorem x1h3:x1wm call hs u xsj (j0 (xo call hs u)) eNil=j1 (xa6 call hs u) 1:=tr (sqN 1 x1h2)
theorem x1h4:x1wm call hs u xgs r_5 eNil=j1 (xa6 call hs u) 1:=sq2 x1gs x1h3
theorem x13f:x1wm call hs u xsi r_5 eNil=j1 (xde call hs u) 0:=tr (sqN 3 x1h4)
noncomputable abbrev x1vq:=VX x2b 68 r_1
noncomputable def xsr:=x1uv x2b
noncomputable def xgu:=nRs 2 xsr
noncomputable def xss:=nL xgu
noncomputable def xgv:=nR xgu
noncomputable def xst:=nL xgv
noncomputable def x1h5:=nR xgv
noncomputable def xsu:=nR xst
noncomputable def xsv:=nR xsu
noncomputable def xsw:=nR xsv
noncomputable def xgw:=nR xsw
noncomputable def xsx:=nL xgw
noncomputable def x1h6:=nR xgw
noncomputable def xsy:=nR xsx
noncomputable def xsz:=nRs 3 xsy
noncomputable def xt0:=nR xsz
noncomputable def xt1:=nR xt0
noncomputable def xgx:=nR xt1
noncomputable def x1h7:=nL xgx
noncomputable def x1h8:=nR xgx
noncomputable def xt2:=nR xss
noncomputable def xt3:=nR xt2
noncomputable def x1h9:=nR xt3
theorem x1ha:x1vq call hs u x1h5 r_1 eNil=j1 (xf call hs u) 5:=by kernel_rfl
theorem x1hb{rec0:AV->AV->AV->AV->Mem->Nat->O2}:x1vq call hs u x1h6 (j4 rec0 1 2 5 7) (setE 2 (j1 (xf call hs u) 5) eNil)=j4 (xa call hs u rec0) 1 2 5 7:=by kernel_rfl
theorem x1hc{rec0:AV->AV->AV->AV->Mem->Nat->O2}{rec1:AV->AV->AV->AV->AV->AV->AV->Mem->Nat->O2}:x1vq call hs u x1h8 (j7 rec1 1 2 5 7 9 10 11) (setE 4 (j4 (xa call hs u rec0) 1 2 5 7) (setE 3 (j4 (xa call hs u rec0) 1 2 5 7) (setE 2 (j1 (xf call hs u) 5) eNil)))=j7 (x66 call hs u rec0 rec1) 1 2 5 7 9 10 11:=by kernel_rfl
theorem x1hd{rec0:AV->AV->AV->AV->Mem->Nat->O2}{rec1:AV->AV->AV->AV->AV->AV->AV->Mem->Nat->O2}:x1vq call hs u x1h7 (j7 (x66 call hs u rec0 rec1) 1 2 5 7 9 10 11) (setE 4 (j4 (xa call hs u rec0) 1 2 5 7) (setE 3 (j4 (xa call hs u rec0) 1 2 5 7) (setE 2 (j1 (xf call hs u) 5) eNil)))=j7 (xa7 call hs u rec0 rec1) 1 2 5 7 9 10 11:=by kernel_rfl
theorem x1he{rec0:AV->AV->AV->AV->Mem->Nat->O2}{rec1:AV->AV->AV->AV->AV->AV->AV->Mem->Nat->O2}:x1vq call hs u xgx (j7 rec1 1 2 5 7 9 10 11) (setE 4 (j4 (xa call hs u rec0) 1 2 5 7) (setE 3 (j4 (xa call hs u rec0) 1 2 5 7) (setE 2 (j1 (xf call hs u) 5) eNil)))=j7 (xa7 call hs u rec0 rec1) 1 2 5 7 9 10 11:=sq2 x1hc x1hd
theorem x1hf{rec0:AV->AV->AV->AV->Mem->Nat->O2}{rec1:AV->AV->AV->AV->AV->AV->AV->Mem->Nat->O2}:x1vq call hs u xt1 (j7 rec1 1 2 5 7 9 10 11) (setE 4 (j4 (xa call hs u rec0) 1 2 5 7) (setE 3 (j4 (xa call hs u rec0) 1 2 5 7) (setE 2 (j1 (xf call hs u) 5) eNil)))=j7 (xa8 call hs u rec0 rec1) 1 2 5 7 9 10 11:=tr (sqN 1 x1he)
theorem x1hg{rec0:AV->AV->AV->AV->Mem->Nat->O2}:x1vq call hs u xt0 (j4 (xa call hs u rec0) 1 2 5 7) (setE 4 (j4 (xa call hs u rec0) 1 2 5 7) (setE 3 (j4 (xa call hs u rec0) 1 2 5 7) (setE 2 (j1 (xf call hs u) 5) eNil)))=j7 (x20 call hs u rec0 NN) 1 2 5 7 9 10 11:=lp (Ln:=fun n=>j7 (x20 call hs u rec0 n) 1 2 5 7 9 10 11) fun n=>tr x1hf
theorem x1hh{rec0:AV->AV->AV->AV->Mem->Nat->O2}:x1vq call hs u xsz (j4 (xa call hs u rec0) 1 2 5 7) (setE 3 (j4 (xa call hs u rec0) 1 2 5 7) (setE 2 (j1 (xf call hs u) 5) eNil))=j7 (x20 call hs u rec0 NN) 1 2 5 7 9 10 11:=bk x1hg
theorem x1hi{rec0:AV->AV->AV->AV->Mem->Nat->O2}:x1vq call hs u xsy (j4 (xa call hs u rec0) 1 2 5 7) (setE 3 (j4 (xa call hs u rec0) 1 2 5 7) (setE 2 (j1 (xf call hs u) 5) eNil))=j4 (x67 call hs u rec0) 1 2 5 7:=tr (sqN 3 x1hh)
theorem x1hj{rec0:AV->AV->AV->AV->Mem->Nat->O2}:x1vq call hs u xsx (j4 (xa call hs u rec0) 1 2 5 7) (setE 2 (j1 (xf call hs u) 5) eNil)=j4 (x67 call hs u rec0) 1 2 5 7:=bk x1hi
theorem x1hk{rec0:AV->AV->AV->AV->Mem->Nat->O2}:x1vq call hs u xgw (j4 rec0 1 2 5 7) (setE 2 (j1 (xf call hs u) 5) eNil)=j4 (x67 call hs u rec0) 1 2 5 7:=sq2 x1hb x1hj
theorem x1hl{rec0:AV->AV->AV->AV->Mem->Nat->O2}:x1vq call hs u xsw (j4 rec0 1 2 5 7) (setE 2 (j1 (xf call hs u) 5) eNil)=j4 (xa9 call hs u rec0) 1 2 5 7:=tr (sqN 1 x1hk)
theorem x1hm:x1vq call hs u xsv (j1 (xf call hs u) 5) (setE 2 (j1 (xf call hs u) 5) eNil)=j4 (x21 call hs u NN) 1 2 5 7:=lp (Ln:=fun n=>j4 (x21 call hs u n) 1 2 5 7) fun n=>tr x1hl
theorem x1hn:x1vq call hs u xsu (j1 (xf call hs u) 5) eNil=j4 (x21 call hs u NN) 1 2 5 7:=bk x1hm
theorem x1ho:x1vq call hs u xst (j1 (xf call hs u) 5) eNil=j3 (x22 call hs u) 1 2 5:=tr (sqN 1 x1hn)
theorem x1hp:x1vq call hs u xgv r_1 eNil=j3 (x22 call hs u) 1 2 5:=sq2 x1ha x1ho
theorem x1hq{rec2:AV->AV->AV->AV->Mem->Nat->O2}:x1vq call hs u x1h9 (j4 rec2 1 2 5 6) (setE 0 (j3 (x22 call hs u) 1 2 5) eNil)=j4 (xaa call hs u rec2) 1 2 5 6:=by kernel_rfl
theorem x1hr:x1vq call hs u xt3 (j3 (x22 call hs u) 1 2 5) (setE 0 (j3 (x22 call hs u) 1 2 5) eNil)=j4 (x2t call hs u NN) 1 2 5 6:=lp (Ln:=fun n=>j4 (x2t call hs u n) 1 2 5 6) fun n=>tr x1hq
theorem x1hs:x1vq call hs u xt2 (j3 (x22 call hs u) 1 2 5) eNil=j4 (x2t call hs u NN) 1 2 5 6:=bk x1hr
theorem x1ht:x1vq call hs u xss (j3 (x22 call hs u) 1 2 5) eNil=j3 (xab call hs u) 1 2 5:=tr (sqN 1 x1hs)
theorem x1hu:x1vq call hs u xgu r_1 eNil=j3 (xab call hs u) 1 2 5:=sq2 x1hp x1ht
theorem x13g:x1vq call hs u xsr r_1 eNil=j2 (xdf call hs u) 0 1:=tr (sqN 2 x1hu)
noncomputable abbrev x28h:=VX x48 9 r_1
noncomputable def x1hv:=x1uv x48
theorem x13h:x28h call hs u x1hv r_1 eNil=j2 (xjq call hs u) 0 1:=by kernel_rfl
noncomputable abbrev x28i:=VX x5c 15 r_14
noncomputable def x1hw:=x1uv x5c
theorem x13i:x28i call hs u x1hw r_14 eNil=j1 (xjr call hs u) 0:=by kernel_rfl
noncomputable abbrev x28j:=VX x86 16 r_5
noncomputable def x1hx:=x1uv x86
theorem x13j:x28j call hs u x1hx r_5 eNil=j1 (xjs call hs u) 0:=by kernel_rfl
noncomputable abbrev x28k:=VX x87 33 r_9
noncomputable def x1hy:=x1uv x87
theorem x13k:x28k call hs u x1hy r_9 eNil=j1 (xjt call hs u) 0:=by kernel_rfl
noncomputable abbrev x28l:=VX x3c 7 r_6
noncomputable def x1hz:=x1uv x3c
theorem x13l:x28l call hs u x1hz r_6 eNil=j1 (xdg call hs u) 0:=by kernel_rfl
noncomputable abbrev x28m:=VX x88 25 r_7
noncomputable def x1i0:=x1uv x88
theorem x13m:x28m call hs u x1i0 r_7 eNil=j2 (xju call hs u) 0 1:=by kernel_rfl
noncomputable abbrev x1wc:=VX x5d 51 r_6
noncomputable def xt4:=x1uv x5d
noncomputable def xgy:=nRs 2 xt4
noncomputable def xt5:=nL xgy
noncomputable def xt6:=nR xgy
noncomputable def xgz:=nRs 2 xt6
noncomputable def xt7:=nL xgz
noncomputable def x1i1:=nR xgz
noncomputable def xt8:=nR xt7
noncomputable def xt9:=nR xt8
noncomputable def xta:=nR xt9
noncomputable def xh0:=nRs 2 xta
noncomputable def x1i2:=nL xh0
noncomputable def x1i3:=nR xh0
noncomputable def xtb:=nR xt5
noncomputable def xtc:=nR xtb
noncomputable def x1i4:=nR xtc
theorem x1i5:x1wc call hs u x1i1 r_6 eNil=j1 (x1d call hs u) 4:=by kernel_rfl
theorem x1i6{rec0:AV->AV->AV->AV->AV->AV->Mem->Nat->O2}:x1wc call hs u x1i3 (j6 rec0 1 4 6 29 30 31) (setE 2 (j1 (x1d call hs u) 4) eNil)=j6 (xad call hs u rec0) 1 4 6 29 30 31:=by kernel_rfl
theorem x1i7{rec0:AV->AV->AV->AV->AV->AV->Mem->Nat->O2}:x1wc call hs u x1i2 (j6 (xad call hs u rec0) 1 4 6 29 30 31) (setE 2 (j1 (x1d call hs u) 4) eNil)=j6 (xdh call hs u rec0) 1 4 6 29 30 31:=by kernel_rfl
theorem x1i8{rec0:AV->AV->AV->AV->AV->AV->Mem->Nat->O2}:x1wc call hs u xh0 (j6 rec0 1 4 6 29 30 31) (setE 2 (j1 (x1d call hs u) 4) eNil)=j6 (xdh call hs u rec0) 1 4 6 29 30 31:=sq2 x1i6 x1i7
theorem x1i9{rec0:AV->AV->AV->AV->AV->AV->Mem->Nat->O2}:x1wc call hs u xta (j6 rec0 1 4 6 29 30 31) (setE 2 (j1 (x1d call hs u) 4) eNil)=j6 (xjv call hs u rec0) 1 4 6 29 30 31:=tr (sqN 2 x1i8)
theorem x1ia:x1wc call hs u xt9 (j1 (x1d call hs u) 4) (setE 2 (j1 (x1d call hs u) 4) eNil)=j6 (x68 call hs u NN) 1 4 6 29 30 31:=lp (Ln:=fun n=>j6 (x68 call hs u n) 1 4 6 29 30 31) fun n=>tr x1i9
theorem x1ib:x1wc call hs u xt8 (j1 (x1d call hs u) 4) eNil=j6 (x68 call hs u NN) 1 4 6 29 30 31:=bk x1ia
theorem x1ic:x1wc call hs u xt7 (j1 (x1d call hs u) 4) eNil=j4 (xdi call hs u) 1 3 4 6:=tr (sqN 1 x1ib)
theorem x1id:x1wc call hs u xgz r_6 eNil=j4 (xdi call hs u) 1 3 4 6:=sq2 x1i5 x1ic
theorem x1ie:x1wc call hs u xt6 r_6 eNil=j3 (x3l call hs u) 1 3 4:=tr (sqN 2 x1id)
theorem x1if{rec1:AV->AV->AV->AV->AV->Mem->Nat->O2}:x1wc call hs u x1i4 (j5 rec1 1 3 4 12 13) (setE 0 (j3 (x3l call hs u) 1 3 4) eNil)=j5 (xjw call hs u rec1) 1 3 4 12 13:=by kernel_rfl
theorem x1ig:x1wc call hs u xtc (j3 (x3l call hs u) 1 3 4) (setE 0 (j3 (x3l call hs u) 1 3 4) eNil)=j5 (x69 call hs u NN) 1 3 4 12 13:=lp (Ln:=fun n=>j5 (x69 call hs u n) 1 3 4 12 13) fun n=>tr x1if
theorem x1ih:x1wc call hs u xtb (j3 (x3l call hs u) 1 3 4) eNil=j5 (x69 call hs u NN) 1 3 4 12 13:=bk x1ig
theorem x1ii:x1wc call hs u xt5 (j3 (x3l call hs u) 1 3 4) eNil=j3 (xdj call hs u) 1 3 4:=tr (sqN 1 x1ih)
theorem x1ij:x1wc call hs u xgy r_6 eNil=j3 (xdj call hs u) 1 3 4:=sq2 x1ie x1ii
theorem x13n:x1wc call hs u xt4 r_6 eNil=j1 (xjx call hs u) 0:=tr (sqN 2 x1ij)
noncomputable abbrev x28n:=VX x89 6 r_6
noncomputable def x1ik:=x1uv x89
theorem x13o:x28n call hs u x1ik r_6 eNil=j1 (xjy call hs u) 0:=by kernel_rfl
noncomputable abbrev x28o:=VX x8a 6 r_6
noncomputable def x1il:=x1uv x8a
theorem x13p:x28o call hs u x1il r_6 eNil=j1 (xjz call hs u) 0:=by kernel_rfl
noncomputable abbrev x23c:=VX x49 43 r_15
noncomputable abbrev x25t:=VX (R:=Mem) x49 43 fNil
noncomputable def xtd:=x1uv x49
noncomputable def xte:=nRs 3 xtd
noncomputable def xbc:=nR xte
noncomputable def x1im:=nL xbc
noncomputable def x1in:=nR xbc
theorem x1io:x25t call hs u x1in (fun s=>some s.m) eNil=j7 (xdk call hs u) 1 4 5 6 7 8 9:=by kernel_rfl
theorem x1ip:x25t call hs u x1im (j7 (xdk call hs u) 1 4 5 6 7 8 9) eNil=j7 (xk0 call hs u) 1 4 5 6 7 17 18:=by kernel_rfl
theorem x1iq:x23c call hs u xbc r_15 (setE 0 r_15 eNil)=j6 (xdm call hs u) 1 4 5 6 7 16:=tr (rg (C:=xbc) (c:={f:=x49,u:=u,nt:=43,hs:=hs}) (f:=(.tmp 16)) (ps:=#[17,18]) (fun u=>x1io) (fun u=>x1ip))
theorem x1ir:x23c call hs u xte r_15 eNil=j6 (xdm call hs u) 1 4 5 6 7 16:=bk x1iq
theorem x13q:x23c call hs u xtd r_15 eNil=j7 (xk1 call hs u) 0 1 2 3 4 5 6:=tr (sqN 3 x1ir)
noncomputable abbrev x28p:=VX x8b 8 r_0
noncomputable def x1is:=x1uv x8b
theorem x13r:x28p call hs u x1is r_0 eNil=j3 (xk2 call hs u) 0 1 2:=by kernel_rfl
noncomputable abbrev x1wi:=VX x4a 49 r_6
noncomputable def xtf:=x1uv x4a
noncomputable def xh1:=nRs 2 xtf
noncomputable def xtg:=nL xh1
noncomputable def x1it:=nR xh1
noncomputable def xth:=nR xtg
noncomputable def xti:=nR xth
noncomputable def xtj:=nR xti
noncomputable def xh2:=nRs 2 xtj
noncomputable def xtk:=nL xh2
noncomputable def x1iu:=nR xh2
noncomputable def xtl:=nR xtk
noncomputable def xtm:=nR xtl
noncomputable def xh3:=nR xtm
noncomputable def x1iv:=nL xh3
noncomputable def x1iw:=nR xh3
theorem x1ix:x1wi call hs u x1it r_6 eNil=j0 (xm call hs u):=by kernel_rfl
theorem x1iy{rec0:AV->AV->AV->Mem->Nat->O2}:x1wi call hs u x1iu (j3 rec0 13 14 15) (setE 0 (j0 (xm call hs u)) eNil)=j3 (xj call hs u rec0) 13 14 15:=by kernel_rfl
theorem x1iz{rec0:AV->AV->AV->Mem->Nat->O2}:x1wi call hs u x1iw (j3 (xj call hs u rec0) 13 14 15) (setE 2 (j3 (xj call hs u rec0) 13 14 15) (setE 1 (j3 (xj call hs u rec0) 13 14 15) (setE 0 (j0 (xm call hs u)) eNil)))=j6 (x6a call hs u rec0) 3 4 13 14 15 20:=by kernel_rfl
theorem x1j0{rec0:AV->AV->AV->Mem->Nat->O2}:x1wi call hs u x1iv (j6 (x6a call hs u rec0) 3 4 13 14 15 20) (setE 2 (j3 (xj call hs u rec0) 13 14 15) (setE 1 (j3 (xj call hs u rec0) 13 14 15) (setE 0 (j0 (xm call hs u)) eNil)))=j5 (x6b call hs u rec0) 3 4 13 14 15:=by kernel_rfl
theorem x1j1{rec0:AV->AV->AV->Mem->Nat->O2}:x1wi call hs u xh3 (j3 (xj call hs u rec0) 13 14 15) (setE 2 (j3 (xj call hs u rec0) 13 14 15) (setE 1 (j3 (xj call hs u rec0) 13 14 15) (setE 0 (j0 (xm call hs u)) eNil)))=j5 (x6b call hs u rec0) 3 4 13 14 15:=sq2 x1iz x1j0
theorem x1j2{rec0:AV->AV->AV->Mem->Nat->O2}:x1wi call hs u xtm (j3 (xj call hs u rec0) 13 14 15) (setE 1 (j3 (xj call hs u rec0) 13 14 15) (setE 0 (j0 (xm call hs u)) eNil))=j5 (x6b call hs u rec0) 3 4 13 14 15:=bk x1j1
theorem x1j3{rec0:AV->AV->AV->Mem->Nat->O2}:x1wi call hs u xtl (j3 (xj call hs u rec0) 13 14 15) (setE 1 (j3 (xj call hs u rec0) 13 14 15) (setE 0 (j0 (xm call hs u)) eNil))=j3 (x6c call hs u rec0) 13 14 15:=tr (sqN 1 x1j2)
theorem x1j4{rec0:AV->AV->AV->Mem->Nat->O2}:x1wi call hs u xtk (j3 (xj call hs u rec0) 13 14 15) (setE 0 (j0 (xm call hs u)) eNil)=j3 (x6c call hs u rec0) 13 14 15:=bk x1j3
theorem x1j5{rec0:AV->AV->AV->Mem->Nat->O2}:x1wi call hs u xh2 (j3 rec0 13 14 15) (setE 0 (j0 (xm call hs u)) eNil)=j3 (x6c call hs u rec0) 13 14 15:=sq2 x1iy x1j4
theorem x1j6{rec0:AV->AV->AV->Mem->Nat->O2}:x1wi call hs u xtj (j3 rec0 13 14 15) (setE 0 (j0 (xm call hs u)) eNil)=j3 (xae call hs u rec0) 13 14 15:=tr (sqN 2 x1j5)
theorem x1j7:x1wi call hs u xti (j0 (xm call hs u)) (setE 0 (j0 (xm call hs u)) eNil)=j3 (x23 call hs u NN) 13 14 15:=lp (Ln:=fun n=>j3 (x23 call hs u n) 13 14 15) fun n=>tr x1j6
theorem x1j8:x1wi call hs u xth (j0 (xm call hs u)) eNil=j3 (x23 call hs u NN) 13 14 15:=bk x1j7
theorem x1j9:x1wi call hs u xtg (j0 (xm call hs u)) eNil=j1 (xaf call hs u) 0:=tr (sqN 1 x1j8)
theorem x1ja:x1wi call hs u xh1 r_6 eNil=j1 (xaf call hs u) 0:=sq2 x1ix x1j9
theorem x13s:x1wi call hs u xtf r_6 eNil=j1 (xdn call hs u) 0:=tr (sqN 2 x1ja)
noncomputable abbrev x28q:=VX x4b 9 r_1
noncomputable def x1jb:=x1uv x4b
theorem x13t:x28q call hs u x1jb r_1 eNil=j2 (xdo call hs u) 0 1:=by kernel_rfl
noncomputable abbrev x28r:=VX xk 9 r_13
noncomputable def x1jc:=x1uv xk
theorem x13u:x28r call hs u x1jc r_13 eNil=j2 (xdp call hs u) 0 1:=by kernel_rfl
noncomputable abbrev x1zg:=VX x4c 66 r_5
noncomputable def xtn:=x1uv x4c
noncomputable def xh4:=nRs 4 xtn
noncomputable def xto:=nL xh4
noncomputable def x1jd:=nR xh4
noncomputable def xtp:=nR xto
noncomputable def xtq:=nR xtp
noncomputable def x1je:=nR xtq
theorem x1jf:x1zg call hs u x1jd r_5 eNil=j0 (x2u call hs u):=by kernel_rfl
theorem x1jg{rec0:AV->AV->AV->AV->AV->Mem->Nat->O2}:x1zg call hs u x1je (j5 rec0 1 6 26 27 28) (setE 0 (j0 (x2u call hs u)) eNil)=j5 (xag call hs u rec0) 1 6 26 27 28:=by kernel_rfl
theorem x1jh:x1zg call hs u xtq (j0 (x2u call hs u)) (setE 0 (j0 (x2u call hs u)) eNil)=j5 (x24 call hs u NN) 1 6 26 27 28:=lp (Ln:=fun n=>j5 (x24 call hs u n) 1 6 26 27 28) fun n=>tr x1jg
theorem x1ji:x1zg call hs u xtp (j0 (x2u call hs u)) eNil=j5 (x24 call hs u NN) 1 6 26 27 28:=bk x1jh
theorem x1jj:x1zg call hs u xto (j0 (x2u call hs u)) eNil=j2 (xah call hs u) 1 6:=tr (sqN 1 x1ji)
theorem x1jk:x1zg call hs u xh4 r_5 eNil=j2 (xah call hs u) 1 6:=sq2 x1jf x1jj
theorem x13v:x1zg call hs u xtn r_5 eNil=j1 (xdr call hs u) 0:=tr (sqN 4 x1jk)
noncomputable abbrev x1zh:=VX x4d 19 r_1
noncomputable def xtr:=x1uv x4d
noncomputable def xh5:=nR xtr
noncomputable def xts:=nL xh5
noncomputable def x1jl:=nR xh5
noncomputable def xtt:=nR xts
noncomputable def xtu:=nR xtt
noncomputable def x1jm:=nR xtu
theorem x1jn:x1zh call hs u x1jl r_1 eNil=j0 (x2v call hs u):=by kernel_rfl
theorem x1jo{rec0:AV->AV->AV->AV->Mem->Nat->O2}:x1zh call hs u x1jm (j4 rec0 0 1 7 8) (setE 0 (j0 (x2v call hs u)) eNil)=j4 (xai call hs u rec0) 0 1 7 8:=by kernel_rfl
theorem x1jp:x1zh call hs u xtu (j0 (x2v call hs u)) (setE 0 (j0 (x2v call hs u)) eNil)=j4 (x2w call hs u NN) 0 1 7 8:=lp (Ln:=fun n=>j4 (x2w call hs u n) 0 1 7 8) fun n=>tr x1jo
theorem x1jq:x1zh call hs u xtt (j0 (x2v call hs u)) eNil=j4 (x2w call hs u NN) 0 1 7 8:=bk x1jp
theorem x1jr:x1zh call hs u xts (j0 (x2v call hs u)) eNil=j2 (xaj call hs u) 0 1:=tr (sqN 1 x1jq)
theorem x1js:x1zh call hs u xh5 r_1 eNil=j2 (xaj call hs u) 0 1:=sq2 x1jn x1jr
theorem x13w:x1zh call hs u xtr r_1 eNil=j2 (xds call hs u) 0 1:=tr (sqN 1 x1js)
noncomputable abbrev x28s:=VX x2c 41 r_1
noncomputable def x1jt:=x1uv x2c
theorem x13x:x28s call hs u x1jt r_1 eNil=j2 (xdt call hs u) 0 1:=by kernel_rfl
noncomputable abbrev x1zi:=VX x56 19 r_1
noncomputable def xtv:=x1uv x56
noncomputable def xh6:=nR xtv
noncomputable def xtw:=nL xh6
noncomputable def x1ju:=nR xh6
noncomputable def xtx:=nR xtw
noncomputable def xty:=nR xtx
noncomputable def x1jv:=nR xty
theorem x1jw:x1zi call hs u x1ju r_1 eNil=j0 (x3m call hs u):=by kernel_rfl
theorem x1jx{rec0:AV->AV->AV->AV->Mem->Nat->O2}:x1zi call hs u x1jv (j4 rec0 0 1 7 8) (setE 0 (j0 (x3m call hs u)) eNil)=j4 (xk3 call hs u rec0) 0 1 7 8:=by kernel_rfl
theorem x1jy:x1zi call hs u xty (j0 (x3m call hs u)) (setE 0 (j0 (x3m call hs u)) eNil)=j4 (x6e call hs u NN) 0 1 7 8:=lp (Ln:=fun n=>j4 (x6e call hs u n) 0 1 7 8) fun n=>tr x1jx
theorem x1jz:x1zi call hs u xtx (j0 (x3m call hs u)) eNil=j4 (x6e call hs u NN) 0 1 7 8:=bk x1jy
theorem x1k0:x1zi call hs u xtw (j0 (x3m call hs u)) eNil=j2 (xdu call hs u) 0 1:=tr (sqN 1 x1jz)
theorem x1k1:x1zi call hs u xh6 r_1 eNil=j2 (xdu call hs u) 0 1:=sq2 x1jw x1k0
theorem x12c:x1zi call hs u xtv r_1 eNil=j2 (xk4 call hs u) 0 1:=tr (sqN 1 x1k1)
noncomputable abbrev x1zj:=VX x8c 59 r_14
noncomputable def xtz:=x1uv x8c
noncomputable def xh7:=nRs 4 xtz
noncomputable def xu0:=nL xh7
noncomputable def x1k2:=nR xh7
noncomputable def xu1:=nR xu0
noncomputable def xu2:=nR xu1
noncomputable def x1k3:=nR xu2
theorem x1k4:x1zj call hs u x1k2 r_14 eNil=j2 (x3n call hs u) 2 5:=by kernel_rfl
theorem x1k5{rec0:AV->AV->AV->AV->AV->AV->AV->Mem->Nat->O2}:x1zj call hs u x1k3 (j7 rec0 1 2 4 5 25 26 27) (setE 0 (j2 (x3n call hs u) 2 5) eNil)=j7 (xk5 call hs u rec0) 1 2 4 5 25 26 27:=by kernel_rfl
theorem x1k6:x1zj call hs u xu2 (j2 (x3n call hs u) 2 5) (setE 0 (j2 (x3n call hs u) 2 5) eNil)=j7 (x6f call hs u NN) 1 2 4 5 25 26 27:=lp (Ln:=fun n=>j7 (x6f call hs u n) 1 2 4 5 25 26 27) fun n=>tr x1k5
theorem x1k7:x1zj call hs u xu1 (j2 (x3n call hs u) 2 5) eNil=j7 (x6f call hs u NN) 1 2 4 5 25 26 27:=bk x1k6
theorem x1k8:x1zj call hs u xu0 (j2 (x3n call hs u) 2 5) eNil=j4 (xdv call hs u) 1 2 4 5:=tr (sqN 1 x1k7)
theorem x1k9:x1zj call hs u xh7 r_14 eNil=j4 (xdv call hs u) 1 2 4 5:=sq2 x1k4 x1k8
theorem x13y:x1zj call hs u xtz r_14 eNil=j1 (xk6 call hs u) 0:=tr (sqN 4 x1k9)
noncomputable abbrev x28t:=VX x5e 14 r_16
noncomputable def x1ka:=x1uv x5e
theorem x13z:x28t call hs u x1ka r_16 eNil=j1 (xk7 call hs u) 0:=by kernel_rfl
noncomputable abbrev x1zk:=VX x8d 26 r_6
noncomputable def xu3:=x1uv x8d
noncomputable def xh8:=nRs 3 xu3
noncomputable def xu4:=nL xh8
noncomputable def x1kb:=nR xh8
noncomputable def xu5:=nR xu4
noncomputable def xu6:=nR xu5
noncomputable def x1kc:=nR xu6
theorem x1kd:x1zk call hs u x1kb r_6 eNil=j2 (x3o call hs u) 1 4:=by kernel_rfl
theorem x1ke{rec0:AV->AV->AV->AV->AV->Mem->Nat->O2}:x1zk call hs u x1kc (j5 rec0 1 3 4 10 11) (setE 0 (j2 (x3o call hs u) 1 4) eNil)=j5 (xk8 call hs u rec0) 1 3 4 10 11:=by kernel_rfl
theorem x1kf:x1zk call hs u xu6 (j2 (x3o call hs u) 1 4) (setE 0 (j2 (x3o call hs u) 1 4) eNil)=j5 (x6g call hs u NN) 1 3 4 10 11:=lp (Ln:=fun n=>j5 (x6g call hs u n) 1 3 4 10 11) fun n=>tr x1ke
theorem x1kg:x1zk call hs u xu5 (j2 (x3o call hs u) 1 4) eNil=j5 (x6g call hs u NN) 1 3 4 10 11:=bk x1kf
theorem x1kh:x1zk call hs u xu4 (j2 (x3o call hs u) 1 4) eNil=j3 (xdw call hs u) 1 3 4:=tr (sqN 1 x1kg)
theorem x1ki:x1zk call hs u xh8 r_6 eNil=j3 (xdw call hs u) 1 3 4:=sq2 x1kd x1kh
theorem x140:x1zk call hs u xu3 r_6 eNil=j1 (xk9 call hs u) 0:=tr (sqN 3 x1ki)
noncomputable abbrev x1w0:=VX x5f 64 r_6
noncomputable def xu7:=x1uv x5f
noncomputable def xh9:=nRs 2 xu7
noncomputable def xu8:=nL xh9
noncomputable def xu9:=nR xh9
noncomputable def xha:=nRs 2 xu9
noncomputable def xua:=nL xha
noncomputable def x1kj:=nR xha
noncomputable def xub:=nR xua
noncomputable def xuc:=nR xub
noncomputable def xud:=nR xuc
noncomputable def xhb:=nRs 2 xud
noncomputable def xue:=nL xhb
noncomputable def x1kk:=nR xhb
noncomputable def xuf:=nR xue
noncomputable def xhc:=nR xuf
noncomputable def x1kl:=nL xhc
noncomputable def x1km:=nR xhc
noncomputable def xug:=nR xu8
noncomputable def x1kn:=nR xug
theorem x1ko:x1w0 call hs u x1kj r_6 eNil=j1 (xu call hs u) 3:=by kernel_rfl
theorem x1kp{rec0:AV->AV->AV->AV->AV->Mem->Nat->O2}:x1w0 call hs u x1kk (j5 rec0 3 6 26 27 28) (setE 2 (j1 (xu call hs u) 3) eNil)=j5 (x1e call hs u rec0) 3 6 26 27 28:=by kernel_rfl
theorem x1kq{rec0:AV->AV->AV->AV->AV->Mem->Nat->O2}:x1w0 call hs u x1km (j5 (x1e call hs u rec0) 3 6 26 27 28) (setE 3 (j5 (x1e call hs u rec0) 3 6 26 27 28) (setE 2 (j1 (xu call hs u) 3) eNil))=j7 (xak call hs u rec0) 3 6 7 8 26 27 28:=by kernel_rfl
theorem x1kr{rec0:AV->AV->AV->AV->AV->Mem->Nat->O2}:x1w0 call hs u x1kl (j7 (xak call hs u rec0) 3 6 7 8 26 27 28) (setE 3 (j5 (x1e call hs u rec0) 3 6 26 27 28) (setE 2 (j1 (xu call hs u) 3) eNil))=j7 (xdy call hs u rec0) 3 6 7 8 26 27 28:=by kernel_rfl
theorem x1ks{rec0:AV->AV->AV->AV->AV->Mem->Nat->O2}:x1w0 call hs u xhc (j5 (x1e call hs u rec0) 3 6 26 27 28) (setE 3 (j5 (x1e call hs u rec0) 3 6 26 27 28) (setE 2 (j1 (xu call hs u) 3) eNil))=j7 (xdy call hs u rec0) 3 6 7 8 26 27 28:=sq2 x1kq x1kr
theorem x1kt{rec0:AV->AV->AV->AV->AV->Mem->Nat->O2}:x1w0 call hs u xuf (j5 (x1e call hs u rec0) 3 6 26 27 28) (setE 3 (j5 (x1e call hs u rec0) 3 6 26 27 28) (setE 2 (j1 (xu call hs u) 3) eNil))=j5 (xal call hs u rec0) 3 6 26 27 28:=tr (sqN 1 x1ks)
theorem x1ku{rec0:AV->AV->AV->AV->AV->Mem->Nat->O2}:x1w0 call hs u xue (j5 (x1e call hs u rec0) 3 6 26 27 28) (setE 2 (j1 (xu call hs u) 3) eNil)=j5 (xal call hs u rec0) 3 6 26 27 28:=bk x1kt
theorem x1kv{rec0:AV->AV->AV->AV->AV->Mem->Nat->O2}:x1w0 call hs u xhb (j5 rec0 3 6 26 27 28) (setE 2 (j1 (xu call hs u) 3) eNil)=j5 (xal call hs u rec0) 3 6 26 27 28:=sq2 x1kp x1ku
theorem x1kw{rec0:AV->AV->AV->AV->AV->Mem->Nat->O2}:x1w0 call hs u xud (j5 rec0 3 6 26 27 28) (setE 2 (j1 (xu call hs u) 3) eNil)=j5 (xkb call hs u rec0) 3 6 26 27 28:=tr (sqN 2 x1kv)
theorem x1kx:x1w0 call hs u xuc (j1 (xu call hs u) 3) (setE 2 (j1 (xu call hs u) 3) eNil)=j5 (x6h call hs u NN) 3 6 26 27 28:=lp (Ln:=fun n=>j5 (x6h call hs u n) 3 6 26 27 28) fun n=>tr x1kw
theorem x1ky:x1w0 call hs u xub (j1 (xu call hs u) 3) eNil=j5 (x6h call hs u NN) 3 6 26 27 28:=bk x1kx
theorem x1kz:x1w0 call hs u xua (j1 (xu call hs u) 3) eNil=j3 (xdz call hs u) 3 5 6:=tr (sqN 1 x1ky)
theorem x1l0:x1w0 call hs u xha r_6 eNil=j3 (xdz call hs u) 3 5 6:=sq2 x1ko x1kz
theorem x1l1:x1w0 call hs u xu9 r_6 eNil=j2 (x4k call hs u) 1 3:=tr (sqN 2 x1l0)
theorem x1l2{rec1:AV->AV->Mem->Nat->O2}:x1w0 call hs u x1kn (j2 rec1 1 3) (setE 0 (j2 (x4k call hs u) 1 3) eNil)=j2 (xkc call hs u rec1) 1 3:=by kernel_rfl
theorem x1l3:x1w0 call hs u xug (j2 (x4k call hs u) 1 3) (setE 0 (j2 (x4k call hs u) 1 3) eNil)=j2 (x4l call hs u NN) 1 3:=lp (Ln:=fun n=>j2 (x4l call hs u n) 1 3) fun n=>tr x1l2
theorem x1l4:x1w0 call hs u xu8 (j2 (x4k call hs u) 1 3) eNil=j2 (x4l call hs u NN) 1 3:=bk x1l3
theorem x1l5:x1w0 call hs u xh9 r_6 eNil=j2 (x4l call hs u NN) 1 3:=sq2 x1l1 x1l4
theorem x141:x1w0 call hs u xu7 r_6 eNil=j1 (xkd call hs u) 0:=tr (sqN 2 x1l5)
noncomputable abbrev x1zl:=VX x8e 27 r_1
noncomputable def xuh:=x1uv x8e
noncomputable def xhd:=nRs 2 xuh
noncomputable def xui:=nL xhd
noncomputable def x1l6:=nR xhd
noncomputable def xuj:=nR xui
noncomputable def xuk:=nR xuj
noncomputable def x1l7:=nR xuk
theorem x1l8:x1zl call hs u x1l6 r_1 eNil=j1 (x3p call hs u) 5:=by kernel_rfl
theorem x1l9{rec0:AV->AV->AV->AV->AV->Mem->Nat->O2}:x1zl call hs u x1l7 (j5 rec0 1 5 10 11 12) (setE 0 (j1 (x3p call hs u) 5) eNil)=j5 (xke call hs u rec0) 1 5 10 11 12:=by kernel_rfl
theorem x1la:x1zl call hs u xuk (j1 (x3p call hs u) 5) (setE 0 (j1 (x3p call hs u) 5) eNil)=j5 (x6i call hs u NN) 1 5 10 11 12:=lp (Ln:=fun n=>j5 (x6i call hs u n) 1 5 10 11 12) fun n=>tr x1l9
theorem x1lb:x1zl call hs u xuj (j1 (x3p call hs u) 5) eNil=j5 (x6i call hs u NN) 1 5 10 11 12:=bk x1la
theorem x1lc:x1zl call hs u xui (j1 (x3p call hs u) 5) eNil=j3 (xe0 call hs u) 1 2 5:=tr (sqN 1 x1lb)
theorem x1ld:x1zl call hs u xhd r_1 eNil=j3 (xe0 call hs u) 1 2 5:=sq2 x1l8 x1lc
theorem x142:x1zl call hs u xuh r_1 eNil=j2 (xkf call hs u) 0 1:=tr (sqN 2 x1ld)
noncomputable abbrev x28u:=VX x8f 9 r_15
noncomputable def x1le:=x1uv x8f
theorem x143:x28u call hs u x1le r_15 eNil=j2 (xkg call hs u) 0 1:=by kernel_rfl
noncomputable abbrev x28v:=VX x8g 13 r_17
noncomputable def x1lf:=x1uv x8g
theorem x144:x28v call hs u x1lf r_17 eNil=j3 (xkh call hs u) 0 1 2:=by kernel_rfl
noncomputable abbrev x28w:=VX x8h 11 r_15
noncomputable def x1lg:=x1uv x8h
theorem x145:x28w call hs u x1lg r_15 eNil=j1 (xki call hs u) 0:=by kernel_rfl
noncomputable abbrev x1xe:=VX x8i 43 r_15
noncomputable def xul:=x1uv x8i
noncomputable def xum:=nR xul
noncomputable def xun:=nR xum
noncomputable def xuo:=nR xun
noncomputable def xhe:=nRs 2 xuo
noncomputable def xup:=nL xhe
noncomputable def x1lh:=nR xhe
noncomputable def xuq:=nR xup
noncomputable def xur:=nRs 2 xuq
noncomputable def xus:=nR xur
noncomputable def x1li:=nR xus
theorem x1lj{rec0:AV->AV->AV->AV->AV->AV->Mem->Nat->O2}:x1xe call hs u x1lh (j6 rec0 0 2 3 12 13 14) (setE 0 r_15 eNil)=j6 (x10 call hs u rec0) 0 2 3 12 13 14:=by kernel_rfl
theorem x1lk{rec0:AV->AV->AV->AV->AV->AV->Mem->Nat->O2}{rec1:AV->AV->AV->AV->AV->AV->AV->AV->AV->Mem->Nat->O2}:x1xe call hs u x1li (j9 rec1 0 2 3 6 12 13 14 18 19) (setE 2 (j6 (x10 call hs u rec0) 0 2 3 12 13 14) (setE 1 (j6 (x10 call hs u rec0) 0 2 3 12 13 14) (setE 0 r_15 eNil)))=j9 (xkj call hs u rec0 rec1) 0 2 3 6 12 13 14 18 19:=by kernel_rfl
theorem x1ll{rec0:AV->AV->AV->AV->AV->AV->Mem->Nat->O2}:x1xe call hs u xus (j6 (x10 call hs u rec0) 0 2 3 12 13 14) (setE 2 (j6 (x10 call hs u rec0) 0 2 3 12 13 14) (setE 1 (j6 (x10 call hs u rec0) 0 2 3 12 13 14) (setE 0 r_15 eNil)))=j9 (x6j call hs u rec0 NN) 0 2 3 6 12 13 14 18 19:=lp (Ln:=fun n=>j9 (x6j call hs u rec0 n) 0 2 3 6 12 13 14 18 19) fun n=>tr x1lk
theorem x1lm{rec0:AV->AV->AV->AV->AV->AV->Mem->Nat->O2}:x1xe call hs u xur (j6 (x10 call hs u rec0) 0 2 3 12 13 14) (setE 1 (j6 (x10 call hs u rec0) 0 2 3 12 13 14) (setE 0 r_15 eNil))=j9 (x6j call hs u rec0 NN) 0 2 3 6 12 13 14 18 19:=bk x1ll
theorem x1ln{rec0:AV->AV->AV->AV->AV->AV->Mem->Nat->O2}:x1xe call hs u xuq (j6 (x10 call hs u rec0) 0 2 3 12 13 14) (setE 1 (j6 (x10 call hs u rec0) 0 2 3 12 13 14) (setE 0 r_15 eNil))=j6 (xam call hs u rec0) 0 2 3 12 13 14:=tr (sqN 2 x1lm)
theorem x1lo{rec0:AV->AV->AV->AV->AV->AV->Mem->Nat->O2}:x1xe call hs u xup (j6 (x10 call hs u rec0) 0 2 3 12 13 14) (setE 0 r_15 eNil)=j6 (xam call hs u rec0) 0 2 3 12 13 14:=bk x1ln
theorem x1lp{rec0:AV->AV->AV->AV->AV->AV->Mem->Nat->O2}:x1xe call hs u xhe (j6 rec0 0 2 3 12 13 14) (setE 0 r_15 eNil)=j6 (xam call hs u rec0) 0 2 3 12 13 14:=sq2 x1lj x1lo
theorem x1lq{rec0:AV->AV->AV->AV->AV->AV->Mem->Nat->O2}:x1xe call hs u xuo (j6 rec0 0 2 3 12 13 14) (setE 0 r_15 eNil)=j6 (xkl call hs u rec0) 0 2 3 12 13 14:=tr (sqN 2 x1lp)
theorem x1lr:x1xe call hs u xun r_15 (setE 0 r_15 eNil)=j6 (x6k call hs u NN) 0 2 3 12 13 14:=lp (Ln:=fun n=>j6 (x6k call hs u n) 0 2 3 12 13 14) fun n=>tr x1lq
theorem x1ls:x1xe call hs u xum r_15 eNil=j6 (x6k call hs u NN) 0 2 3 12 13 14:=bk x1lr
theorem x146:x1xe call hs u xul r_15 eNil=j4 (xkm call hs u) 0 1 2 3:=tr (sqN 1 x1ls)
noncomputable abbrev x1zm:=VX x4e 19 r_1
noncomputable def xut:=x1uv x4e
noncomputable def xhf:=nR xut
noncomputable def xuu:=nL xhf
noncomputable def x1lt:=nR xhf
noncomputable def xuv:=nR xuu
noncomputable def xuw:=nR xuv
noncomputable def x1lu:=nR xuw
theorem x1lv:x1zm call hs u x1lt r_1 eNil=j0 (x2x call hs u):=by kernel_rfl
theorem x1lw{rec0:AV->AV->AV->AV->Mem->Nat->O2}:x1zm call hs u x1lu (j4 rec0 0 1 7 8) (setE 0 (j0 (x2x call hs u)) eNil)=j4 (xan call hs u rec0) 0 1 7 8:=by kernel_rfl
theorem x1lx:x1zm call hs u xuw (j0 (x2x call hs u)) (setE 0 (j0 (x2x call hs u)) eNil)=j4 (x2y call hs u NN) 0 1 7 8:=lp (Ln:=fun n=>j4 (x2y call hs u n) 0 1 7 8) fun n=>tr x1lw
theorem x1ly:x1zm call hs u xuv (j0 (x2x call hs u)) eNil=j4 (x2y call hs u NN) 0 1 7 8:=bk x1lx
theorem x1lz:x1zm call hs u xuu (j0 (x2x call hs u)) eNil=j2 (xao call hs u) 0 1:=tr (sqN 1 x1ly)
theorem x1m0:x1zm call hs u xhf r_1 eNil=j2 (xao call hs u) 0 1:=sq2 x1lv x1lz
theorem x147:x1zm call hs u xut r_1 eNil=j2 (xe1 call hs u) 0 1:=tr (sqN 1 x1m0)
noncomputable abbrev x28x:=VX x8j 6 r_6
noncomputable def x1m1:=x1uv x8j
theorem x148:x28x call hs u x1m1 r_6 eNil=j1 (xkn call hs u) 0:=by kernel_rfl
noncomputable abbrev x1zn:=VX x8k 62 r_5
noncomputable def xux:=x1uv x8k
noncomputable def xhg:=nRs 2 xux
noncomputable def xuy:=nL xhg
noncomputable def x1m2:=nR xhg
noncomputable def xuz:=nR xuy
noncomputable def xv0:=nR xuz
noncomputable def x1m3:=nR xv0
theorem x1m4:x1zn call hs u x1m2 r_5 eNil=j0 (x3q call hs u):=by kernel_rfl
theorem x1m5{rec0:AV->AV->AV->AV->Mem->Nat->O2}:x1zn call hs u x1m3 (j4 rec0 1 17 18 19) (setE 1 (j0 (x3q call hs u)) eNil)=j4 (xko call hs u rec0) 1 17 18 19:=by kernel_rfl
theorem x1m6:x1zn call hs u xv0 (j0 (x3q call hs u)) (setE 1 (j0 (x3q call hs u)) eNil)=j4 (x6l call hs u NN) 1 17 18 19:=lp (Ln:=fun n=>j4 (x6l call hs u n) 1 17 18 19) fun n=>tr x1m5
theorem x1m7:x1zn call hs u xuz (j0 (x3q call hs u)) eNil=j4 (x6l call hs u NN) 1 17 18 19:=bk x1m6
theorem x1m8:x1zn call hs u xuy (j0 (x3q call hs u)) eNil=j1 (xe2 call hs u) 1:=tr (sqN 1 x1m7)
theorem x1m9:x1zn call hs u xhg r_5 eNil=j1 (xe2 call hs u) 1:=sq2 x1m4 x1m8
theorem x149:x1zn call hs u xux r_5 eNil=j1 (xkp call hs u) 0:=tr (sqN 2 x1m9)
noncomputable abbrev x1xw:=VX x8l 47 r_1
noncomputable def xv1:=x1uv x8l
noncomputable def xhh:=nRs 2 xv1
noncomputable def xv2:=nL xhh
noncomputable def x1ma:=nR xhh
noncomputable def xv3:=nR xv2
noncomputable def xv4:=nR xv3
noncomputable def xv5:=nR xv4
noncomputable def xhi:=nRs 2 xv5
noncomputable def x1mb:=nL xhi
noncomputable def x1mc:=nR xhi
theorem x1md:x1xw call hs u x1ma r_1 eNil=j1 (x1f call hs u) 5:=by kernel_rfl
theorem x1me{rec0:AV->AV->AV->AV->AV->Mem->Nat->O2}:x1xw call hs u x1mc (j5 rec0 0 1 5 12 13) (setE 0 (j1 (x1f call hs u) 5) eNil)=j5 (xap call hs u rec0) 0 1 5 12 13:=by kernel_rfl
theorem x1mf{rec0:AV->AV->AV->AV->AV->Mem->Nat->O2}:x1xw call hs u x1mb (j5 (xap call hs u rec0) 0 1 5 12 13) (setE 0 (j1 (x1f call hs u) 5) eNil)=j5 (xe3 call hs u rec0) 0 1 5 12 13:=by kernel_rfl
theorem x1mg{rec0:AV->AV->AV->AV->AV->Mem->Nat->O2}:x1xw call hs u xhi (j5 rec0 0 1 5 12 13) (setE 0 (j1 (x1f call hs u) 5) eNil)=j5 (xe3 call hs u rec0) 0 1 5 12 13:=sq2 x1me x1mf
theorem x1mh{rec0:AV->AV->AV->AV->AV->Mem->Nat->O2}:x1xw call hs u xv5 (j5 rec0 0 1 5 12 13) (setE 0 (j1 (x1f call hs u) 5) eNil)=j5 (xkq call hs u rec0) 0 1 5 12 13:=tr (sqN 2 x1mg)
theorem x1mi:x1xw call hs u xv4 (j1 (x1f call hs u) 5) (setE 0 (j1 (x1f call hs u) 5) eNil)=j5 (x6m call hs u NN) 0 1 5 12 13:=lp (Ln:=fun n=>j5 (x6m call hs u n) 0 1 5 12 13) fun n=>tr x1mh
theorem x1mj:x1xw call hs u xv3 (j1 (x1f call hs u) 5) eNil=j5 (x6m call hs u NN) 0 1 5 12 13:=bk x1mi
theorem x1mk:x1xw call hs u xv2 (j1 (x1f call hs u) 5) eNil=j3 (xe4 call hs u) 0 1 5:=tr (sqN 1 x1mj)
theorem x1ml:x1xw call hs u xhh r_1 eNil=j3 (xe4 call hs u) 0 1 5:=sq2 x1md x1mk
theorem x14a:x1xw call hs u xv1 r_1 eNil=j2 (xkr call hs u) 0 1:=tr (sqN 2 x1ml)
noncomputable abbrev x1wd:=VX x5g 45 r_1
noncomputable def xv6:=x1uv x5g
noncomputable def xhj:=nRs 3 xv6
noncomputable def xv7:=nL xhj
noncomputable def x1mm:=nR xhj
noncomputable def xv8:=nR xv7
noncomputable def xv9:=nR xv8
noncomputable def xva:=nR xv9
noncomputable def xhk:=nRs 2 xva
noncomputable def xvb:=nL xhk
noncomputable def x1mn:=nR xhk
noncomputable def xvc:=nR xvb
noncomputable def xhl:=nRs 4 xvc
noncomputable def xvd:=nL xhl
noncomputable def x1mo:=nR xhl
noncomputable def xve:=nR xvd
noncomputable def x1mp:=nR xve
theorem x1mq:x1wd call hs u x1mm r_1 eNil=j1 (xn call hs u) 5:=by kernel_rfl
theorem x1mr{rec0:AV->AV->AV->AV->AV->Mem->Nat->O2}:x1wd call hs u x1mn (j5 rec0 1 5 6 14 15) (setE 0 (j1 (xn call hs u) 5) eNil)=j5 (xy call hs u rec0) 1 5 6 14 15:=by kernel_rfl
theorem x1ms{rec0:AV->AV->AV->AV->AV->Mem->Nat->O2}:x1wd call hs u x1mo (j5 (xy call hs u rec0) 1 5 6 14 15) (setE 1 (j5 (xy call hs u rec0) 1 5 6 14 15) (setE 0 (j1 (xn call hs u) 5) eNil))=j5 (x4m call hs u rec0) 1 5 6 14 15:=by kernel_rfl
theorem x1mt{rec0:AV->AV->AV->AV->AV->Mem->Nat->O2}{rec1:AV->AV->AV->AV->AV->AV->Mem->Nat->O2}:x1wd call hs u x1mp (j6 rec1 1 5 6 8 14 15) (setE 2 (j5 (x4m call hs u rec0) 1 5 6 14 15) (setE 1 (j5 (xy call hs u rec0) 1 5 6 14 15) (setE 0 (j1 (xn call hs u) 5) eNil)))=j6 (xks call hs u rec0 rec1) 1 5 6 8 14 15:=by kernel_rfl
theorem x1mu{rec0:AV->AV->AV->AV->AV->Mem->Nat->O2}:x1wd call hs u xve (j5 (x4m call hs u rec0) 1 5 6 14 15) (setE 2 (j5 (x4m call hs u rec0) 1 5 6 14 15) (setE 1 (j5 (xy call hs u rec0) 1 5 6 14 15) (setE 0 (j1 (xn call hs u) 5) eNil)))=j6 (x4n call hs u rec0 NN) 1 5 6 8 14 15:=lp (Ln:=fun n=>j6 (x4n call hs u rec0 n) 1 5 6 8 14 15) fun n=>tr x1mt
theorem x1mv{rec0:AV->AV->AV->AV->AV->Mem->Nat->O2}:x1wd call hs u xvd (j5 (x4m call hs u rec0) 1 5 6 14 15) (setE 1 (j5 (xy call hs u rec0) 1 5 6 14 15) (setE 0 (j1 (xn call hs u) 5) eNil))=j6 (x4n call hs u rec0 NN) 1 5 6 8 14 15:=bk x1mu
theorem x1mw{rec0:AV->AV->AV->AV->AV->Mem->Nat->O2}:x1wd call hs u xhl (j5 (xy call hs u rec0) 1 5 6 14 15) (setE 1 (j5 (xy call hs u rec0) 1 5 6 14 15) (setE 0 (j1 (xn call hs u) 5) eNil))=j6 (x4n call hs u rec0 NN) 1 5 6 8 14 15:=sq2 x1ms x1mv
theorem x1mx{rec0:AV->AV->AV->AV->AV->Mem->Nat->O2}:x1wd call hs u xvc (j5 (xy call hs u rec0) 1 5 6 14 15) (setE 1 (j5 (xy call hs u rec0) 1 5 6 14 15) (setE 0 (j1 (xn call hs u) 5) eNil))=j5 (xaq call hs u rec0) 1 5 6 14 15:=tr (sqN 4 x1mw)
theorem x1my{rec0:AV->AV->AV->AV->AV->Mem->Nat->O2}:x1wd call hs u xvb (j5 (xy call hs u rec0) 1 5 6 14 15) (setE 0 (j1 (xn call hs u) 5) eNil)=j5 (xaq call hs u rec0) 1 5 6 14 15:=bk x1mx
theorem x1mz{rec0:AV->AV->AV->AV->AV->Mem->Nat->O2}:x1wd call hs u xhk (j5 rec0 1 5 6 14 15) (setE 0 (j1 (xn call hs u) 5) eNil)=j5 (xaq call hs u rec0) 1 5 6 14 15:=sq2 x1mr x1my
theorem x1n0{rec0:AV->AV->AV->AV->AV->Mem->Nat->O2}:x1wd call hs u xva (j5 rec0 1 5 6 14 15) (setE 0 (j1 (xn call hs u) 5) eNil)=j5 (xkt call hs u rec0) 1 5 6 14 15:=tr (sqN 2 x1mz)
theorem x1n1:x1wd call hs u xv9 (j1 (xn call hs u) 5) (setE 0 (j1 (xn call hs u) 5) eNil)=j5 (x6o call hs u NN) 1 5 6 14 15:=lp (Ln:=fun n=>j5 (x6o call hs u n) 1 5 6 14 15) fun n=>tr x1n0
theorem x1n2:x1wd call hs u xv8 (j1 (xn call hs u) 5) eNil=j5 (x6o call hs u NN) 1 5 6 14 15:=bk x1n1
theorem x1n3:x1wd call hs u xv7 (j1 (xn call hs u) 5) eNil=j3 (xe5 call hs u) 1 5 6:=tr (sqN 1 x1n2)
theorem x1n4:x1wd call hs u xhj r_1 eNil=j3 (xe5 call hs u) 1 5 6:=sq2 x1mq x1n3
theorem x14b:x1wd call hs u xv6 r_1 eNil=j2 (xku call hs u) 0 1:=tr (sqN 3 x1n4)
noncomputable abbrev x1zo:=VX x7t 53 r_15
noncomputable def xvf:=x1uv x7t
noncomputable def xvg:=nR xvf
noncomputable def xvh:=nR xvg
noncomputable def xvi:=nR xvh
noncomputable def xhm:=nRs 2 xvi
noncomputable def x1n5:=nL xhm
noncomputable def x1n6:=nR xhm
theorem x1n7{rec0:AV->AV->AV->AV->AV->Mem->Nat->O2}:x1zo call hs u x1n6 (j5 rec0 0 1 3 9 10) (setE 0 r_15 eNil)=j5 (xar call hs u rec0) 0 1 3 9 10:=by kernel_rfl
theorem x1n8{rec0:AV->AV->AV->AV->AV->Mem->Nat->O2}:x1zo call hs u x1n5 (j5 (xar call hs u rec0) 0 1 3 9 10) (setE 0 r_15 eNil)=j5 (xe6 call hs u rec0) 0 1 3 9 10:=by kernel_rfl
theorem x1n9{rec0:AV->AV->AV->AV->AV->Mem->Nat->O2}:x1zo call hs u xhm (j5 rec0 0 1 3 9 10) (setE 0 r_15 eNil)=j5 (xe6 call hs u rec0) 0 1 3 9 10:=sq2 x1n7 x1n8
theorem x1na{rec0:AV->AV->AV->AV->AV->Mem->Nat->O2}:x1zo call hs u xvi (j5 rec0 0 1 3 9 10) (setE 0 r_15 eNil)=j5 (xkv call hs u rec0) 0 1 3 9 10:=tr (sqN 2 x1n9)
theorem x1nb:x1zo call hs u xvh r_15 (setE 0 r_15 eNil)=j5 (x6p call hs u NN) 0 1 3 9 10:=lp (Ln:=fun n=>j5 (x6p call hs u n) 0 1 3 9 10) fun n=>tr x1na
theorem x1nc:x1zo call hs u xvg r_15 eNil=j5 (x6p call hs u NN) 0 1 3 9 10:=bk x1nb
theorem x129:x1zo call hs u xvf r_15 eNil=j4 (xkw call hs u) 0 1 2 3:=tr (sqN 1 x1nc)
noncomputable abbrev x1wn:=VX x8m 132 r_6
noncomputable def xvj:=x1uv x8m
noncomputable def xhn:=nRs 2 xvj
noncomputable def xvk:=nL xhn
noncomputable def x1nd:=nR xhn
noncomputable def xvl:=nR xvk
noncomputable def xvm:=nR xvl
noncomputable def xvn:=nR xvm
noncomputable def xho:=nRs 2 xvn
noncomputable def xvo:=nL xho
noncomputable def x1ne:=nR xho
noncomputable def xvp:=nR xvo
noncomputable def xhp:=nR xvp
noncomputable def x1nf:=nL xhp
noncomputable def x1ng:=nR xhp
theorem x1nh:x1wn call hs u x1nd r_6 eNil=j1 (xv call hs u) 3:=by kernel_rfl
theorem x1ni{rec0:AV->AV->AV->AV->Mem->Nat->O2}:x1wn call hs u x1ne (j4 rec0 3 28 29 30) (setE 0 (j1 (xv call hs u) 3) eNil)=j4 (x1g call hs u rec0) 3 28 29 30:=by kernel_rfl
theorem x1nj{rec0:AV->AV->AV->AV->Mem->Nat->O2}:x1wn call hs u x1ng (j4 (x1g call hs u rec0) 3 28 29 30) (setE 1 (j4 (x1g call hs u rec0) 3 28 29 30) (setE 0 (j1 (xv call hs u) 3) eNil))=j6 (x6q call hs u rec0) 3 4 5 28 29 30:=by kernel_rfl
theorem x1nk{rec0:AV->AV->AV->AV->Mem->Nat->O2}:x1wn call hs u x1nf (j6 (x6q call hs u rec0) 3 4 5 28 29 30) (setE 1 (j4 (x1g call hs u rec0) 3 28 29 30) (setE 0 (j1 (xv call hs u) 3) eNil))=j6 (xe7 call hs u rec0) 3 4 5 28 29 30:=by kernel_rfl
theorem x1nl{rec0:AV->AV->AV->AV->Mem->Nat->O2}:x1wn call hs u xhp (j4 (x1g call hs u rec0) 3 28 29 30) (setE 1 (j4 (x1g call hs u rec0) 3 28 29 30) (setE 0 (j1 (xv call hs u) 3) eNil))=j6 (xe7 call hs u rec0) 3 4 5 28 29 30:=sq2 x1nj x1nk
theorem x1nm{rec0:AV->AV->AV->AV->Mem->Nat->O2}:x1wn call hs u xvp (j4 (x1g call hs u rec0) 3 28 29 30) (setE 1 (j4 (x1g call hs u rec0) 3 28 29 30) (setE 0 (j1 (xv call hs u) 3) eNil))=j4 (xas call hs u rec0) 3 28 29 30:=tr (sqN 1 x1nl)
theorem x1nn{rec0:AV->AV->AV->AV->Mem->Nat->O2}:x1wn call hs u xvo (j4 (x1g call hs u rec0) 3 28 29 30) (setE 0 (j1 (xv call hs u) 3) eNil)=j4 (xas call hs u rec0) 3 28 29 30:=bk x1nm
theorem x1no{rec0:AV->AV->AV->AV->Mem->Nat->O2}:x1wn call hs u xho (j4 rec0 3 28 29 30) (setE 0 (j1 (xv call hs u) 3) eNil)=j4 (xas call hs u rec0) 3 28 29 30:=sq2 x1ni x1nn
theorem x1np{rec0:AV->AV->AV->AV->Mem->Nat->O2}:x1wn call hs u xvn (j4 rec0 3 28 29 30) (setE 0 (j1 (xv call hs u) 3) eNil)=j4 (xkx call hs u rec0) 3 28 29 30:=tr (sqN 2 x1no)
theorem x1nq:x1wn call hs u xvm (j1 (xv call hs u) 3) (setE 0 (j1 (xv call hs u) 3) eNil)=j4 (x6r call hs u NN) 3 28 29 30:=lp (Ln:=fun n=>j4 (x6r call hs u n) 3 28 29 30) fun n=>tr x1np
theorem x1nr:x1wn call hs u xvl (j1 (xv call hs u) 3) eNil=j4 (x6r call hs u NN) 3 28 29 30:=bk x1nq
theorem x1ns:x1wn call hs u xvk (j1 (xv call hs u) 3) eNil=j2 (xe8 call hs u) 1 3:=tr (sqN 1 x1nr)
theorem x1nt:x1wn call hs u xhn r_6 eNil=j2 (xe8 call hs u) 1 3:=sq2 x1nh x1ns
theorem x14c:x1wn call hs u xvj r_6 eNil=j1 (xky call hs u) 0:=tr (sqN 2 x1nt)
noncomputable abbrev x28y:=VX x7w 5 r_6
noncomputable def x1nu:=x1uv x7w
theorem x12d:x28y call hs u x1nu r_6 eNil=j1 (xkz call hs u) 0:=by kernel_rfl
noncomputable abbrev x1vo:=VX x8n 160 r_15
noncomputable def xvq:=x1uv x8n
noncomputable def xhq:=nRs 2 xvq
noncomputable def xvr:=nL xhq
noncomputable def xvs:=nR xhq
noncomputable def xhr:=nR xvs
noncomputable def xvt:=nL xhr
noncomputable def xhs:=nR xhr
noncomputable def xvu:=nL xhs
noncomputable def xvv:=nR xhs
noncomputable def xvw:=nRs 3 xvv
noncomputable def xvx:=nR xvw
noncomputable def x1nv:=nR xvx
noncomputable def xvy:=nR xvu
noncomputable def xvz:=nR xvy
noncomputable def x1nw:=nR xvz
noncomputable def xw0:=nR xvt
noncomputable def xw1:=nR xw0
noncomputable def x1nx:=nR xw1
noncomputable def xw2:=nR xvr
noncomputable def xw3:=nR xw2
noncomputable def xw4:=nR xw3
noncomputable def xht:=nRs 2 xw4
noncomputable def x1ny:=nL xht
noncomputable def x1nz:=nR xht
theorem x1o0{rec0:AV->AV->AV->AV->AV->AV->Mem->Nat->O2}:x1vo call hs u x1nv (j6 rec0 0 4 5 136 137 138) (setE 6 r_15 eNil)=j6 (xl0 call hs u rec0) 0 4 5 136 137 138:=by kernel_rfl
theorem x1o1:x1vo call hs u xvx r_15 (setE 6 r_15 eNil)=j6 (x6s call hs u NN) 0 4 5 136 137 138:=lp (Ln:=fun n=>j6 (x6s call hs u n) 0 4 5 136 137 138) fun n=>tr x1o0
theorem x1o2:x1vo call hs u xvw r_15 eNil=j6 (x6s call hs u NN) 0 4 5 136 137 138:=bk x1o1
theorem x1o3:x1vo call hs u xvv r_15 eNil=j5 (x3r call hs u) 0 1 4 5 8:=tr (sqN 3 x1o2)
theorem x1o4{rec1:AV->AV->AV->AV->AV->AV->Mem->Nat->O2}:x1vo call hs u x1nw (j6 rec1 0 1 4 5 8 10) (setE 4 (j5 (x3r call hs u) 0 1 4 5 8) eNil)=j6 (xl1 call hs u rec1) 0 1 4 5 8 10:=by kernel_rfl
theorem x1o5:x1vo call hs u xvz (j5 (x3r call hs u) 0 1 4 5 8) (setE 4 (j5 (x3r call hs u) 0 1 4 5 8) eNil)=j6 (x6t call hs u NN) 0 1 4 5 8 10:=lp (Ln:=fun n=>j6 (x6t call hs u n) 0 1 4 5 8 10) fun n=>tr x1o4
theorem x1o6:x1vo call hs u xvy (j5 (x3r call hs u) 0 1 4 5 8) eNil=j6 (x6t call hs u NN) 0 1 4 5 8 10:=bk x1o5
theorem x1o7:x1vo call hs u xvu (j5 (x3r call hs u) 0 1 4 5 8) eNil=j5 (x2z call hs u) 0 1 4 5 8:=tr (sqN 1 x1o6)
theorem x1o8:x1vo call hs u xhs r_15 eNil=j5 (x2z call hs u) 0 1 4 5 8:=sq2 x1o3 x1o7
theorem x1o9{rec2:AV->AV->AV->AV->AV->AV->Mem->Nat->O2}:x1vo call hs u x1nx (j6 rec2 0 1 4 5 8 9) (setE 2 (j5 (x2z call hs u) 0 1 4 5 8) eNil)=j6 (xl2 call hs u rec2) 0 1 4 5 8 9:=by kernel_rfl
theorem x1oa:x1vo call hs u xw1 (j5 (x2z call hs u) 0 1 4 5 8) (setE 2 (j5 (x2z call hs u) 0 1 4 5 8) eNil)=j6 (x6u call hs u NN) 0 1 4 5 8 9:=lp (Ln:=fun n=>j6 (x6u call hs u n) 0 1 4 5 8 9) fun n=>tr x1o9
theorem x1ob:x1vo call hs u xw0 (j5 (x2z call hs u) 0 1 4 5 8) eNil=j6 (x6u call hs u NN) 0 1 4 5 8 9:=bk x1oa
theorem x1oc:x1vo call hs u xvt (j5 (x2z call hs u) 0 1 4 5 8) eNil=j5 (xe9 call hs u) 0 1 4 5 8:=tr (sqN 1 x1ob)
theorem x1od:x1vo call hs u xhr r_15 eNil=j5 (xe9 call hs u) 0 1 4 5 8:=sq2 x1o8 x1oc
theorem x1oe:x1vo call hs u xvs r_15 eNil=j4 (x1h call hs u) 0 1 4 5:=tr (sqN 1 x1od)
theorem x1of{rec3:AV->AV->AV->AV->AV->AV->AV->Mem->Nat->O2}:x1vo call hs u x1nz (j7 rec3 0 1 4 5 17 18 19) (setE 0 (j4 (x1h call hs u) 0 1 4 5) eNil)=j7 (xat call hs u rec3) 0 1 4 5 17 18 19:=by kernel_rfl
theorem x1og{rec3:AV->AV->AV->AV->AV->AV->AV->Mem->Nat->O2}:x1vo call hs u x1ny (j7 (xat call hs u rec3) 0 1 4 5 17 18 19) (setE 0 (j4 (x1h call hs u) 0 1 4 5) eNil)=j7 (xea call hs u rec3) 0 1 4 5 17 18 19:=by kernel_rfl
theorem x1oh{rec3:AV->AV->AV->AV->AV->AV->AV->Mem->Nat->O2}:x1vo call hs u xht (j7 rec3 0 1 4 5 17 18 19) (setE 0 (j4 (x1h call hs u) 0 1 4 5) eNil)=j7 (xea call hs u rec3) 0 1 4 5 17 18 19:=sq2 x1of x1og
theorem x1oi{rec3:AV->AV->AV->AV->AV->AV->AV->Mem->Nat->O2}:x1vo call hs u xw4 (j7 rec3 0 1 4 5 17 18 19) (setE 0 (j4 (x1h call hs u) 0 1 4 5) eNil)=j7 (xl3 call hs u rec3) 0 1 4 5 17 18 19:=tr (sqN 2 x1oh)
theorem x1oj:x1vo call hs u xw3 (j4 (x1h call hs u) 0 1 4 5) (setE 0 (j4 (x1h call hs u) 0 1 4 5) eNil)=j7 (x6v call hs u NN) 0 1 4 5 17 18 19:=lp (Ln:=fun n=>j7 (x6v call hs u n) 0 1 4 5 17 18 19) fun n=>tr x1oi
theorem x1ok:x1vo call hs u xw2 (j4 (x1h call hs u) 0 1 4 5) eNil=j7 (x6v call hs u NN) 0 1 4 5 17 18 19:=bk x1oj
theorem x1ol:x1vo call hs u xvr (j4 (x1h call hs u) 0 1 4 5) eNil=j4 (xeb call hs u) 0 1 4 5:=tr (sqN 1 x1ok)
theorem x1om:x1vo call hs u xhq r_15 eNil=j4 (xeb call hs u) 0 1 4 5:=sq2 x1oe x1ol
theorem x14d:x1vo call hs u xvq r_15 eNil=j2 (xl4 call hs u) 0 1:=tr (sqN 2 x1om)
noncomputable abbrev x1xx:=VX x8o 53 r_6
noncomputable def xw5:=x1uv x8o
noncomputable def xhu:=nRs 2 xw5
noncomputable def xw6:=nL xhu
noncomputable def x1on:=nR xhu
noncomputable def xw7:=nR xw6
noncomputable def xw8:=nR xw7
noncomputable def xw9:=nR xw8
noncomputable def xhv:=nRs 2 xw9
noncomputable def x1oo:=nL xhv
noncomputable def x1op:=nR xhv
theorem x1oq:x1xx call hs u x1on r_6 eNil=j2 (x1i call hs u) 1 3:=by kernel_rfl
theorem x1or{rec0:AV->AV->AV->AV->AV->Mem->Nat->O2}:x1xx call hs u x1op (j5 rec0 1 3 12 13 14) (setE 0 (j2 (x1i call hs u) 1 3) eNil)=j5 (xau call hs u rec0) 1 3 12 13 14:=by kernel_rfl
theorem x1os{rec0:AV->AV->AV->AV->AV->Mem->Nat->O2}:x1xx call hs u x1oo (j5 (xau call hs u rec0) 1 3 12 13 14) (setE 0 (j2 (x1i call hs u) 1 3) eNil)=j5 (xec call hs u rec0) 1 3 12 13 14:=by kernel_rfl
theorem x1ot{rec0:AV->AV->AV->AV->AV->Mem->Nat->O2}:x1xx call hs u xhv (j5 rec0 1 3 12 13 14) (setE 0 (j2 (x1i call hs u) 1 3) eNil)=j5 (xec call hs u rec0) 1 3 12 13 14:=sq2 x1or x1os
theorem x1ou{rec0:AV->AV->AV->AV->AV->Mem->Nat->O2}:x1xx call hs u xw9 (j5 rec0 1 3 12 13 14) (setE 0 (j2 (x1i call hs u) 1 3) eNil)=j5 (xl5 call hs u rec0) 1 3 12 13 14:=tr (sqN 2 x1ot)
theorem x1ov:x1xx call hs u xw8 (j2 (x1i call hs u) 1 3) (setE 0 (j2 (x1i call hs u) 1 3) eNil)=j5 (x6w call hs u NN) 1 3 12 13 14:=lp (Ln:=fun n=>j5 (x6w call hs u n) 1 3 12 13 14) fun n=>tr x1ou
theorem x1ow:x1xx call hs u xw7 (j2 (x1i call hs u) 1 3) eNil=j5 (x6w call hs u NN) 1 3 12 13 14:=bk x1ov
theorem x1ox:x1xx call hs u xw6 (j2 (x1i call hs u) 1 3) eNil=j2 (xed call hs u) 1 3:=tr (sqN 1 x1ow)
theorem x1oy:x1xx call hs u xhu r_6 eNil=j2 (xed call hs u) 1 3:=sq2 x1oq x1ox
theorem x14e:x1xx call hs u xw5 r_6 eNil=j1 (xl6 call hs u) 0:=tr (sqN 2 x1oy)
noncomputable abbrev x28z:=VX x7v 7 r_6
noncomputable def x1oz:=x1uv x7v
theorem x12b:x28z call hs u x1oz r_6 eNil=j1 (xl7 call hs u) 0:=by kernel_rfl
noncomputable abbrev x290:=VX x7u 19 r_1
noncomputable def x1p0:=x1uv x7u
theorem x12a:x290 call hs u x1p0 r_1 eNil=j2 (xl8 call hs u) 0 1:=by kernel_rfl
noncomputable abbrev x1w3:=VX x8p 63 r_15
noncomputable def xwa:=x1uv x8p
noncomputable def xhw:=nRs 2 xwa
noncomputable def xwb:=nL xhw
noncomputable def xwc:=nR xhw
noncomputable def xwd:=nR xwc
noncomputable def xwe:=nR xwd
noncomputable def xwf:=nR xwe
noncomputable def xwg:=nR xwf
noncomputable def xwh:=nR xwg
noncomputable def xhx:=nR xwh
noncomputable def xwi:=nL xhx
noncomputable def xhy:=nR xhx
noncomputable def x1p1:=nL xhy
noncomputable def x1p2:=nR xhy
noncomputable def xwj:=nR xwi
noncomputable def x1p3:=nR xwj
noncomputable def xwk:=nR xwb
noncomputable def x1p4:=nR xwk
theorem x1p5{rec0:AV->AV->AV->AV->Mem->Nat->O2}:x1w3 call hs u x1p2 (j4 rec0 0 1 2 6) (setE 3 (j4 rec0 0 1 2 6) (setE 2 r_15 eNil))=j4 (xav call hs u rec0) 0 1 2 6:=by kernel_rfl
theorem x1p6{rec0:AV->AV->AV->AV->Mem->Nat->O2}:x1w3 call hs u x1p1 (j4 (xav call hs u rec0) 0 1 2 6) (setE 3 (j4 rec0 0 1 2 6) (setE 2 r_15 eNil))=j5 (x3s call hs u rec0) 0 1 2 6 7:=by kernel_rfl
theorem x1p7{rec0:AV->AV->AV->AV->Mem->Nat->O2}:x1w3 call hs u xhy (j4 rec0 0 1 2 6) (setE 3 (j4 rec0 0 1 2 6) (setE 2 r_15 eNil))=j5 (x3s call hs u rec0) 0 1 2 6 7:=sq2 x1p5 x1p6
theorem x1p8{rec0:AV->AV->AV->AV->Mem->Nat->O2}{rec1:AV->AV->AV->AV->AV->AV->Mem->Nat->O2}:x1w3 call hs u x1p3 (j6 rec1 0 1 2 6 7 8) (setE 4 (j5 (x3s call hs u rec0) 0 1 2 6 7) (setE 3 (j4 rec0 0 1 2 6) (setE 2 r_15 eNil)))=j6 (xl9 call hs u rec0 rec1) 0 1 2 6 7 8:=by kernel_rfl
theorem x1p9{rec0:AV->AV->AV->AV->Mem->Nat->O2}:x1w3 call hs u xwj (j5 (x3s call hs u rec0) 0 1 2 6 7) (setE 4 (j5 (x3s call hs u rec0) 0 1 2 6 7) (setE 3 (j4 rec0 0 1 2 6) (setE 2 r_15 eNil)))=j6 (x4o call hs u rec0 NN) 0 1 2 6 7 8:=lp (Ln:=fun n=>j6 (x4o call hs u rec0 n) 0 1 2 6 7 8) fun n=>tr x1p8
theorem x1pa{rec0:AV->AV->AV->AV->Mem->Nat->O2}:x1w3 call hs u xwi (j5 (x3s call hs u rec0) 0 1 2 6 7) (setE 3 (j4 rec0 0 1 2 6) (setE 2 r_15 eNil))=j6 (x4o call hs u rec0 NN) 0 1 2 6 7 8:=bk x1p9
theorem x1pb{rec0:AV->AV->AV->AV->Mem->Nat->O2}:x1w3 call hs u xhx (j4 rec0 0 1 2 6) (setE 3 (j4 rec0 0 1 2 6) (setE 2 r_15 eNil))=j6 (x4o call hs u rec0 NN) 0 1 2 6 7 8:=sq2 x1p7 x1pa
theorem x1pc{rec0:AV->AV->AV->AV->Mem->Nat->O2}:x1w3 call hs u xwh (j4 rec0 0 1 2 6) (setE 3 (j4 rec0 0 1 2 6) (setE 2 r_15 eNil))=j4 (xee call hs u rec0) 0 1 2 6:=tr (sqN 1 x1pb)
theorem x1pd{rec0:AV->AV->AV->AV->Mem->Nat->O2}:x1w3 call hs u xwg (j4 rec0 0 1 2 6) (setE 2 r_15 eNil)=j4 (xee call hs u rec0) 0 1 2 6:=bk x1pc
theorem x1pe{rec0:AV->AV->AV->AV->Mem->Nat->O2}:x1w3 call hs u xwf (j4 rec0 0 1 2 6) (setE 2 r_15 eNil)=j4 (xla call hs u rec0) 0 1 2 6:=tr (sqN 1 x1pd)
theorem x1pf:x1w3 call hs u xwe r_15 (setE 2 r_15 eNil)=j4 (x6x call hs u NN) 0 1 2 6:=lp (Ln:=fun n=>j4 (x6x call hs u n) 0 1 2 6) fun n=>tr x1pe
theorem x1pg:x1w3 call hs u xwd r_15 eNil=j4 (x6x call hs u NN) 0 1 2 6:=bk x1pf
theorem x1ph:x1w3 call hs u xwc r_15 eNil=j5 (x4p call hs u) 0 1 2 6 7:=tr (sqN 1 x1pg)
theorem x1pi{rec2:AV->AV->AV->AV->AV->AV->Mem->Nat->O2}:x1w3 call hs u x1p4 (j6 rec2 0 1 2 6 7 8) (setE 0 (j5 (x4p call hs u) 0 1 2 6 7) eNil)=j6 (xlb call hs u rec2) 0 1 2 6 7 8:=by kernel_rfl
theorem x1pj:x1w3 call hs u xwk (j5 (x4p call hs u) 0 1 2 6 7) (setE 0 (j5 (x4p call hs u) 0 1 2 6 7) eNil)=j6 (x4q call hs u NN) 0 1 2 6 7 8:=lp (Ln:=fun n=>j6 (x4q call hs u n) 0 1 2 6 7 8) fun n=>tr x1pi
theorem x1pk:x1w3 call hs u xwb (j5 (x4p call hs u) 0 1 2 6 7) eNil=j6 (x4q call hs u NN) 0 1 2 6 7 8:=bk x1pj
theorem x1pl:x1w3 call hs u xhw r_15 eNil=j6 (x4q call hs u NN) 0 1 2 6 7 8:=sq2 x1ph x1pk
theorem x14f:x1w3 call hs u xwa r_15 eNil=j3 (xlc call hs u) 0 1 2:=tr (sqN 2 x1pl)
noncomputable abbrev x1wu:=VX x4f 134 r_15
noncomputable def xwl:=x1uv x4f
noncomputable def xwm:=nRs 2 xwl
noncomputable def xwn:=nR xwm
noncomputable def xwo:=nR xwn
noncomputable def xwp:=nR xwo
noncomputable def xhz:=nRs 3 xwp
noncomputable def x1pm:=nL xhz
noncomputable def xwq:=nR xhz
noncomputable def xi0:=nR xwq
noncomputable def x1pn:=nL xi0
noncomputable def xi1:=nR xi0
noncomputable def x1po:=nL xi1
noncomputable def x1pp:=nR xi1
theorem x1pq{rec0:AV->AV->AV->AV->AV->AV->Mem->Nat->O2}:x1wu call hs u x1pp (j6 rec0 0 1 2 3 8 9) (setE 1 (j6 rec0 0 1 2 3 8 9) (setE 0 r_15 eNil))=j8 (xaw call hs u rec0) 0 1 2 3 8 9 10 11:=by kernel_rfl
theorem x1pr{rec0:AV->AV->AV->AV->AV->AV->Mem->Nat->O2}:x1wu call hs u x1po (j8 (xaw call hs u rec0) 0 1 2 3 8 9 10 11) (setE 1 (j6 rec0 0 1 2 3 8 9) (setE 0 r_15 eNil))=j9 (x6y call hs u rec0) 0 1 2 3 8 9 10 11 12:=by kernel_rfl
theorem x1ps{rec0:AV->AV->AV->AV->AV->AV->Mem->Nat->O2}:x1wu call hs u xi1 (j6 rec0 0 1 2 3 8 9) (setE 1 (j6 rec0 0 1 2 3 8 9) (setE 0 r_15 eNil))=j9 (x6y call hs u rec0) 0 1 2 3 8 9 10 11 12:=sq2 x1pq x1pr
theorem x1pt{rec0:AV->AV->AV->AV->AV->AV->Mem->Nat->O2}:x1wu call hs u x1pn (j9 (x6y call hs u rec0) 0 1 2 3 8 9 10 11 12) (setE 1 (j6 rec0 0 1 2 3 8 9) (setE 0 r_15 eNil))=j9 (xef call hs u rec0) 0 1 2 3 8 9 10 11 12:=by kernel_rfl
theorem x1pu{rec0:AV->AV->AV->AV->AV->AV->Mem->Nat->O2}:x1wu call hs u xi0 (j6 rec0 0 1 2 3 8 9) (setE 1 (j6 rec0 0 1 2 3 8 9) (setE 0 r_15 eNil))=j9 (xef call hs u rec0) 0 1 2 3 8 9 10 11 12:=sq2 x1ps x1pt
theorem x1pv{rec0:AV->AV->AV->AV->AV->AV->Mem->Nat->O2}:x1wu call hs u xwq (j6 rec0 0 1 2 3 8 9) (setE 1 (j6 rec0 0 1 2 3 8 9) (setE 0 r_15 eNil))=j7 (xax call hs u rec0) 0 1 2 3 8 9 10:=tr (sqN 1 x1pu)
theorem x1pw{rec0:AV->AV->AV->AV->AV->AV->Mem->Nat->O2}:x1wu call hs u x1pm (j7 (xax call hs u rec0) 0 1 2 3 8 9 10) (setE 1 (j6 rec0 0 1 2 3 8 9) (setE 0 r_15 eNil))=j7 (xeg call hs u rec0) 0 1 2 3 8 9 10:=by kernel_rfl
theorem x1px{rec0:AV->AV->AV->AV->AV->AV->Mem->Nat->O2}:x1wu call hs u xhz (j6 rec0 0 1 2 3 8 9) (setE 1 (j6 rec0 0 1 2 3 8 9) (setE 0 r_15 eNil))=j7 (xeg call hs u rec0) 0 1 2 3 8 9 10:=sq2 x1pv x1pw
theorem x1py{rec0:AV->AV->AV->AV->AV->AV->Mem->Nat->O2}:x1wu call hs u xwp (j6 rec0 0 1 2 3 8 9) (setE 1 (j6 rec0 0 1 2 3 8 9) (setE 0 r_15 eNil))=j6 (xeh call hs u rec0) 0 1 2 3 8 9:=tr (sqN 3 x1px)
theorem x1pz{rec0:AV->AV->AV->AV->AV->AV->Mem->Nat->O2}:x1wu call hs u xwo (j6 rec0 0 1 2 3 8 9) (setE 0 r_15 eNil)=j6 (xeh call hs u rec0) 0 1 2 3 8 9:=bk x1py
theorem x1q0:x1wu call hs u xwn r_15 (setE 0 r_15 eNil)=j6 (x6z call hs u NN) 0 1 2 3 8 9:=lp (Ln:=fun n=>j6 (x6z call hs u n) 0 1 2 3 8 9) fun n=>tr x1pz
theorem x1q1:x1wu call hs u xwm r_15 eNil=j6 (x6z call hs u NN) 0 1 2 3 8 9:=bk x1q0
theorem x14g:x1wu call hs u xwl r_15 eNil=j4 (xld call hs u) 0 1 2 3:=tr (sqN 2 x1q1)
noncomputable abbrev x291:=VX x5h 8 r_6
noncomputable def x1q2:=x1uv x5h
theorem x14h:x291 call hs u x1q2 r_6 eNil=j1 (xle call hs u) 0:=by kernel_rfl
noncomputable abbrev x292:=VX x26 15 r_0
noncomputable def x1q3:=x1uv x26
theorem x123:x292 call hs u x1q3 r_0 eNil=j3 (xlf call hs u) 0 1 2:=by kernel_rfl
noncomputable abbrev x293:=VX x8q 5 r_6
noncomputable def x1q4:=x1uv x8q
theorem x14i:x293 call hs u x1q4 r_6 eNil=j1 (xlg call hs u) 0:=by kernel_rfl
noncomputable abbrev x1we:=VX x34 139 r_18
noncomputable abbrev x25u:=VX (R:=Mem) x34 139 fNil
noncomputable def xwr:=x1uv x34
noncomputable def xws:=nRs 4 xwr
noncomputable def xwt:=nR xws
noncomputable def xwu:=nR xwt
noncomputable def xwv:=nR xwu
noncomputable def xi2:=nR xwv
noncomputable def xww:=nL xi2
noncomputable def xwx:=nR xi2
noncomputable def xwy:=nRs 3 xwx
noncomputable def xbd:=nR xwy
noncomputable def x1q5:=nL xbd
noncomputable def x1q6:=nR xbd
noncomputable def xwz:=nR xww
noncomputable def xx0:=nR xwz
noncomputable def xx1:=nR xx0
noncomputable def xi3:=nRs 2 xx1
noncomputable def x1q7:=nL xi3
noncomputable def x1q8:=nR xi3
theorem x1q9:x25u call hs u x1q6 (fun s=>some s.m) eNil=j4 (xei call hs u) 2 5 7 10:=by kernel_rfl
theorem x1qa:x25u call hs u x1q5 (j4 (xei call hs u) 2 5 7 10) eNil=j4 (xlh call hs u) 2 5 7 87:=by kernel_rfl
theorem x1qb{rec0:AV->AV->AV->AV->Mem->Nat->O2}:x1we call hs u xbd (j4 rec0 2 4 5 6) (setE 4 (j4 rec0 2 4 5 6) (setE 1 (j4 rec0 2 4 5 6) (setE 0 r_18 eNil)))=j6 (xej call hs u rec0) 2 4 5 6 7 86:=tr (rg (C:=xbd) (c:={f:=x34,u:=u,nt:=139,hs:=hs}) (f:=(.tmp 86)) (ps:=#[87]) (fun u=>x1q9) (fun u=>x1qa))
theorem x1qc{rec0:AV->AV->AV->AV->Mem->Nat->O2}:x1we call hs u xwy (j4 rec0 2 4 5 6) (setE 1 (j4 rec0 2 4 5 6) (setE 0 r_18 eNil))=j6 (xej call hs u rec0) 2 4 5 6 7 86:=bk x1qb
theorem x1qd{rec0:AV->AV->AV->AV->Mem->Nat->O2}:x1we call hs u xwx (j4 rec0 2 4 5 6) (setE 1 (j4 rec0 2 4 5 6) (setE 0 r_18 eNil))=j5 (x1j call hs u rec0) 2 4 5 6 7:=tr (sqN 3 x1qc)
theorem x1qe{rec0:AV->AV->AV->AV->Mem->Nat->O2}{rec1:AV->AV->AV->AV->AV->AV->AV->AV->Mem->Nat->O2}:x1we call hs u x1q8 (j8 rec1 2 4 5 6 7 47 48 49) (setE 2 (j5 (x1j call hs u rec0) 2 4 5 6 7) (setE 1 (j4 rec0 2 4 5 6) (setE 0 r_18 eNil)))=j8 (xay call hs u rec0 rec1) 2 4 5 6 7 47 48 49:=by kernel_rfl
theorem x1qf{rec0:AV->AV->AV->AV->Mem->Nat->O2}{rec1:AV->AV->AV->AV->AV->AV->AV->AV->Mem->Nat->O2}:x1we call hs u x1q7 (j8 (xay call hs u rec0 rec1) 2 4 5 6 7 47 48 49) (setE 2 (j5 (x1j call hs u rec0) 2 4 5 6 7) (setE 1 (j4 rec0 2 4 5 6) (setE 0 r_18 eNil)))=j8 (xek call hs u rec0 rec1) 2 4 5 6 7 47 48 49:=by kernel_rfl
theorem x1qg{rec0:AV->AV->AV->AV->Mem->Nat->O2}{rec1:AV->AV->AV->AV->AV->AV->AV->AV->Mem->Nat->O2}:x1we call hs u xi3 (j8 rec1 2 4 5 6 7 47 48 49) (setE 2 (j5 (x1j call hs u rec0) 2 4 5 6 7) (setE 1 (j4 rec0 2 4 5 6) (setE 0 r_18 eNil)))=j8 (xek call hs u rec0 rec1) 2 4 5 6 7 47 48 49:=sq2 x1qe x1qf
theorem x1qh{rec0:AV->AV->AV->AV->Mem->Nat->O2}{rec1:AV->AV->AV->AV->AV->AV->AV->AV->Mem->Nat->O2}:x1we call hs u xx1 (j8 rec1 2 4 5 6 7 47 48 49) (setE 2 (j5 (x1j call hs u rec0) 2 4 5 6 7) (setE 1 (j4 rec0 2 4 5 6) (setE 0 r_18 eNil)))=j8 (xli call hs u rec0 rec1) 2 4 5 6 7 47 48 49:=tr (sqN 2 x1qg)
theorem x1qi{rec0:AV->AV->AV->AV->Mem->Nat->O2}:x1we call hs u xx0 (j5 (x1j call hs u rec0) 2 4 5 6 7) (setE 2 (j5 (x1j call hs u rec0) 2 4 5 6 7) (setE 1 (j4 rec0 2 4 5 6) (setE 0 r_18 eNil)))=j8 (x71 call hs u rec0 NN) 2 4 5 6 7 47 48 49:=lp (Ln:=fun n=>j8 (x71 call hs u rec0 n) 2 4 5 6 7 47 48 49) fun n=>tr x1qh
theorem x1qj{rec0:AV->AV->AV->AV->Mem->Nat->O2}:x1we call hs u xwz (j5 (x1j call hs u rec0) 2 4 5 6 7) (setE 1 (j4 rec0 2 4 5 6) (setE 0 r_18 eNil))=j8 (x71 call hs u rec0 NN) 2 4 5 6 7 47 48 49:=bk x1qi
theorem x1qk{rec0:AV->AV->AV->AV->Mem->Nat->O2}:x1we call hs u xww (j5 (x1j call hs u rec0) 2 4 5 6 7) (setE 1 (j4 rec0 2 4 5 6) (setE 0 r_18 eNil))=j5 (xel call hs u rec0) 2 4 5 6 7:=tr (sqN 1 x1qj)
theorem x1ql{rec0:AV->AV->AV->AV->Mem->Nat->O2}:x1we call hs u xi2 (j4 rec0 2 4 5 6) (setE 1 (j4 rec0 2 4 5 6) (setE 0 r_18 eNil))=j5 (xel call hs u rec0) 2 4 5 6 7:=sq2 x1qd x1qk
theorem x1qm{rec0:AV->AV->AV->AV->Mem->Nat->O2}:x1we call hs u xwv (j4 rec0 2 4 5 6) (setE 1 (j4 rec0 2 4 5 6) (setE 0 r_18 eNil))=j4 (xem call hs u rec0) 2 4 5 6:=tr (sqN 1 x1ql)
theorem x1qn{rec0:AV->AV->AV->AV->Mem->Nat->O2}:x1we call hs u xwu (j4 rec0 2 4 5 6) (setE 0 r_18 eNil)=j4 (xem call hs u rec0) 2 4 5 6:=bk x1qm
theorem x1qo:x1we call hs u xwt r_18 (setE 0 r_18 eNil)=j4 (x72 call hs u NN) 2 4 5 6:=lp (Ln:=fun n=>j4 (x72 call hs u n) 2 4 5 6) fun n=>tr x1qn
theorem x1qp:x1we call hs u xws r_18 eNil=j4 (x72 call hs u NN) 2 4 5 6:=bk x1qo
theorem x125:x1we call hs u xwr r_18 eNil=j2 (xlj call hs u) 0 1:=tr (sqN 4 x1qp)
noncomputable abbrev x1x4:=VX x5i 48 r_1
noncomputable def xx2:=x1uv x5i
noncomputable def xi4:=nR xx2
noncomputable def x1qq:=nL xi4
noncomputable def xx3:=nR xi4
noncomputable def xi5:=nR xx3
noncomputable def x1qr:=nL xi5
noncomputable def xx4:=nR xi5
noncomputable def xi6:=nRs 2 xx4
noncomputable def xx5:=nL xi6
noncomputable def x1qs:=nR xi6
noncomputable def xx6:=nR xx5
noncomputable def x1qt:=nR xx6
theorem x1qu:x1x4 call hs u x1qs r_1 eNil=j1 (x4r call hs u) 7:=by kernel_rfl
theorem x1qv{rec0:AV->AV->Mem->Nat->O2}:x1x4 call hs u x1qt (j2 rec0 7 8) (setE 0 (j1 (x4r call hs u) 7) eNil)=j2 (xlk call hs u rec0) 7 8:=by kernel_rfl
theorem x1qw:x1x4 call hs u xx6 (j1 (x4r call hs u) 7) (setE 0 (j1 (x4r call hs u) 7) eNil)=j2 (x4s call hs u NN) 7 8:=lp (Ln:=fun n=>j2 (x4s call hs u n) 7 8) fun n=>tr x1qv
theorem x1qx:x1x4 call hs u xx5 (j1 (x4r call hs u) 7) eNil=j2 (x4s call hs u NN) 7 8:=bk x1qw
theorem x1qy:x1x4 call hs u xi6 r_1 eNil=j2 (x4s call hs u NN) 7 8:=sq2 x1qu x1qx
theorem x1qz:x1x4 call hs u xx4 r_1 eNil=j2 (xen call hs u) 0 6:=tr (sqN 2 x1qy)
theorem x1r0:x1x4 call hs u x1qr (j2 (xen call hs u) 0 6) eNil=j3 (xeo call hs u) 0 5 6:=by kernel_rfl
theorem x1r1:x1x4 call hs u xi5 r_1 eNil=j3 (xeo call hs u) 0 5 6:=sq2 x1qz x1r0
theorem x1r2:x1x4 call hs u xx3 r_1 eNil=j2 (xep call hs u) 0 1:=tr (sqN 1 x1r1)
theorem x1r3:x1x4 call hs u x1qq (j2 (xep call hs u) 0 1) eNil=j2 (xeq call hs u) 0 1:=by kernel_rfl
theorem x1r4:x1x4 call hs u xi4 r_1 eNil=j2 (xeq call hs u) 0 1:=sq2 x1r2 x1r3
theorem x14j:x1x4 call hs u xx2 r_1 eNil=j2 (xll call hs u) 0 1:=tr (sqN 1 x1r4)
noncomputable abbrev x294:=VX x7p 18 r_15
noncomputable def x1r5:=x1uv x7p
theorem x124:x294 call hs u x1r5 r_15 eNil=j4 (xlm call hs u) 0 1 2 3:=by kernel_rfl
noncomputable abbrev x21v:=VX x7r 20 r_15
noncomputable def xx7:=x1uv x7r
noncomputable def xx8:=nR xx7
noncomputable def xx9:=nR xx8
noncomputable def x1r6:=nR xx9
theorem x1r7{rec0:AV->AV->AV->AV->Mem->Nat->O2}:x21v call hs u x1r6 (j4 rec0 1 10 11 12) (setE 0 r_15 eNil)=j4 (xln call hs u rec0) 1 10 11 12:=by kernel_rfl
theorem x1r8:x21v call hs u xx9 r_15 (setE 0 r_15 eNil)=j4 (x73 call hs u NN) 1 10 11 12:=lp (Ln:=fun n=>j4 (x73 call hs u n) 1 10 11 12) fun n=>tr x1r7
theorem x1r9:x21v call hs u xx8 r_15 eNil=j4 (x73 call hs u NN) 1 10 11 12:=bk x1r8
theorem x127:x21v call hs u xx7 r_15 eNil=j3 (xlo call hs u) 0 1 2:=tr (sqN 1 x1r9)
noncomputable abbrev x1xf:=VX x5j 53 r_15
noncomputable def xxa:=x1uv x5j
noncomputable def xxb:=nR xxa
noncomputable def xxc:=nR xxb
noncomputable def xxd:=nR xxc
noncomputable def xi7:=nR xxd
noncomputable def xxe:=nL xi7
noncomputable def x1ra:=nR xi7
noncomputable def xxf:=nR xxe
noncomputable def xxg:=nR xxf
noncomputable def xxh:=nR xxg
noncomputable def x1rb:=nR xxh
theorem x1rc{rec0:AV->AV->AV->AV->AV->Mem->Nat->O2}:x1xf call hs u x1ra (j5 rec0 0 1 2 3 8) (setE 0 r_15 eNil)=j5 (x11 call hs u rec0) 0 1 2 3 8:=by kernel_rfl
theorem x1rd{rec0:AV->AV->AV->AV->AV->Mem->Nat->O2}{rec1:AV->AV->AV->AV->AV->AV->Mem->Nat->O2}:x1xf call hs u x1rb (j6 rec1 0 1 2 3 8 9) (setE 2 (j5 (x11 call hs u rec0) 0 1 2 3 8) (setE 1 (j5 (x11 call hs u rec0) 0 1 2 3 8) (setE 0 r_15 eNil)))=j6 (xlp call hs u rec0 rec1) 0 1 2 3 8 9:=by kernel_rfl
theorem x1re{rec0:AV->AV->AV->AV->AV->Mem->Nat->O2}:x1xf call hs u xxh (j5 (x11 call hs u rec0) 0 1 2 3 8) (setE 2 (j5 (x11 call hs u rec0) 0 1 2 3 8) (setE 1 (j5 (x11 call hs u rec0) 0 1 2 3 8) (setE 0 r_15 eNil)))=j6 (x74 call hs u rec0 NN) 0 1 2 3 8 9:=lp (Ln:=fun n=>j6 (x74 call hs u rec0 n) 0 1 2 3 8 9) fun n=>tr x1rd
theorem x1rf{rec0:AV->AV->AV->AV->AV->Mem->Nat->O2}:x1xf call hs u xxg (j5 (x11 call hs u rec0) 0 1 2 3 8) (setE 1 (j5 (x11 call hs u rec0) 0 1 2 3 8) (setE 0 r_15 eNil))=j6 (x74 call hs u rec0 NN) 0 1 2 3 8 9:=bk x1re
theorem x1rg{rec0:AV->AV->AV->AV->AV->Mem->Nat->O2}:x1xf call hs u xxf (j5 (x11 call hs u rec0) 0 1 2 3 8) (setE 1 (j5 (x11 call hs u rec0) 0 1 2 3 8) (setE 0 r_15 eNil))=j5 (xaz call hs u rec0) 0 1 2 3 8:=tr (sqN 1 x1rf)
theorem x1rh{rec0:AV->AV->AV->AV->AV->Mem->Nat->O2}:x1xf call hs u xxe (j5 (x11 call hs u rec0) 0 1 2 3 8) (setE 0 r_15 eNil)=j5 (xaz call hs u rec0) 0 1 2 3 8:=bk x1rg
theorem x1ri{rec0:AV->AV->AV->AV->AV->Mem->Nat->O2}:x1xf call hs u xi7 (j5 rec0 0 1 2 3 8) (setE 0 r_15 eNil)=j5 (xaz call hs u rec0) 0 1 2 3 8:=sq2 x1rc x1rh
theorem x1rj{rec0:AV->AV->AV->AV->AV->Mem->Nat->O2}:x1xf call hs u xxd (j5 rec0 0 1 2 3 8) (setE 0 r_15 eNil)=j5 (xlq call hs u rec0) 0 1 2 3 8:=tr (sqN 1 x1ri)
theorem x1rk:x1xf call hs u xxc r_15 (setE 0 r_15 eNil)=j5 (x75 call hs u NN) 0 1 2 3 8:=lp (Ln:=fun n=>j5 (x75 call hs u n) 0 1 2 3 8) fun n=>tr x1rj
theorem x1rl:x1xf call hs u xxb r_15 eNil=j5 (x75 call hs u NN) 0 1 2 3 8:=bk x1rk
theorem x14k:x1xf call hs u xxa r_15 eNil=j4 (xlr call hs u) 0 1 2 3:=tr (sqN 1 x1rl)
noncomputable abbrev x1v2:=VX x3d 220 r_15
noncomputable def xi8:=x1uv x3d
noncomputable def xxi:=nL xi8
noncomputable def xi9:=nR xi8
noncomputable def xxj:=nL xi9
noncomputable def xxk:=nR xi9
noncomputable def xia:=nRs 3 xxk
noncomputable def x1rm:=nL xia
noncomputable def xxl:=nR xia
noncomputable def xib:=nR xxl
noncomputable def xxm:=nL xib
noncomputable def xxn:=nR xib
noncomputable def xic:=nR xxn
noncomputable def x1rn:=nL xic
noncomputable def xid:=nR xic
noncomputable def x1ro:=nL xid
noncomputable def x1rp:=nR xid
noncomputable def xxo:=nR xxm
noncomputable def x1rq:=nR xxo
noncomputable def xie:=nR xxj
noncomputable def xxp:=nL xie
noncomputable def x1rr:=nR xie
noncomputable def xif:=nRs 2 xxp
noncomputable def xxq:=nL xif
noncomputable def xig:=nR xif
noncomputable def xxr:=nL xig
noncomputable def x1rs:=nR xig
noncomputable def xxs:=nR xxr
noncomputable def xxt:=nR xxs
noncomputable def x1rt:=nR xxt
noncomputable def xxu:=nR xxq
noncomputable def x1ru:=nR xxu
noncomputable def xih:=nR xxi
noncomputable def xxv:=nL xih
noncomputable def x1rv:=nR xih
noncomputable def xii:=nRs 2 xxv
noncomputable def xxw:=nL xii
noncomputable def xij:=nR xii
noncomputable def xxx:=nL xij
noncomputable def x1rw:=nR xij
noncomputable def xxy:=nR xxx
noncomputable def xxz:=nR xxy
noncomputable def x1rx:=nR xxz
noncomputable def xy0:=nR xxw
noncomputable def x1ry:=nR xy0
theorem x1rz:x1v2 call hs u x1rp r_15 eNil=j5 (xb0 call hs u) 0 3 4 18 24:=by kernel_rfl
theorem x1s0:x1v2 call hs u x1ro (j5 (xb0 call hs u) 0 3 4 18 24) eNil=j7 (x76 call hs u) 0 1 3 4 18 20 24:=by kernel_rfl
theorem x1s1:x1v2 call hs u xid r_15 eNil=j7 (x76 call hs u) 0 1 3 4 18 20 24:=sq2 x1rz x1s0
theorem x1s2:x1v2 call hs u x1rn (j7 (x76 call hs u) 0 1 3 4 18 20 24) eNil=j8 (xer call hs u) 0 1 2 3 4 18 20 24:=by kernel_rfl
theorem x1s3:x1v2 call hs u xic r_15 eNil=j8 (xer call hs u) 0 1 2 3 4 18 20 24:=sq2 x1s1 x1s2
theorem x1s4:x1v2 call hs u xxn r_15 eNil=j8 (x4t call hs u) 0 1 2 3 4 18 19 20:=tr (sqN 1 x1s3)
theorem x1s5{rec0:AV->AV->AV->AV->AV->AV->AV->AV->AV->AV->Mem->Nat->O2}:x1v2 call hs u x1rq (j10 rec0 0 1 2 3 4 18 19 20 21 22) (setE 8 (j8 (x4t call hs u) 0 1 2 3 4 18 19 20) eNil)=j10 (xls call hs u rec0) 0 1 2 3 4 18 19 20 21 22:=by kernel_rfl
theorem x1s6:x1v2 call hs u xxo (j8 (x4t call hs u) 0 1 2 3 4 18 19 20) (setE 8 (j8 (x4t call hs u) 0 1 2 3 4 18 19 20) eNil)=j10 (x4u call hs u NN) 0 1 2 3 4 18 19 20 21 22:=lp (Ln:=fun n=>j10 (x4u call hs u n) 0 1 2 3 4 18 19 20 21 22) fun n=>tr x1s5
theorem x1s7:x1v2 call hs u xxm (j8 (x4t call hs u) 0 1 2 3 4 18 19 20) eNil=j10 (x4u call hs u NN) 0 1 2 3 4 18 19 20 21 22:=bk x1s6
theorem x1s8:x1v2 call hs u xib r_15 eNil=j10 (x4u call hs u NN) 0 1 2 3 4 18 19 20 21 22:=sq2 x1s4 x1s7
theorem x1s9:x1v2 call hs u xxl r_15 eNil=j9 (xb1 call hs u) 0 1 2 3 4 18 19 20 21:=tr (sqN 1 x1s8)
theorem x1sa:x1v2 call hs u x1rm (j9 (xb1 call hs u) 0 1 2 3 4 18 19 20 21) eNil=j7 (xes call hs u) 0 1 2 3 4 18 19:=by kernel_rfl
theorem x1sb:x1v2 call hs u xia r_15 eNil=j7 (xes call hs u) 0 1 2 3 4 18 19:=sq2 x1s9 x1sa
theorem x1sc:x1v2 call hs u xxk r_15 eNil=j5 (x25 call hs u) 0 1 2 3 4:=tr (sqN 3 x1sb)
theorem x1sd:x1v2 call hs u x1rs (j5 (x25 call hs u) 0 1 2 3 4) eNil=j0 (x3t call hs u):=by kernel_rfl
theorem x1se{rec1:AV->AV->AV->Mem->Nat->O2}:x1v2 call hs u x1rt (j3 rec1 0 14 17) (setE 6 (j0 (x3t call hs u)) eNil)=j3 (xlt call hs u rec1) 0 14 17:=by kernel_rfl
theorem x1sf:x1v2 call hs u xxt (j0 (x3t call hs u)) (setE 6 (j0 (x3t call hs u)) eNil)=j3 (x77 call hs u NN) 0 14 17:=lp (Ln:=fun n=>j3 (x77 call hs u n) 0 14 17) fun n=>tr x1se
theorem x1sg:x1v2 call hs u xxs (j0 (x3t call hs u)) eNil=j3 (x77 call hs u NN) 0 14 17:=bk x1sf
theorem x1sh:x1v2 call hs u xxr (j0 (x3t call hs u)) eNil=j3 (x3u call hs u) 0 2 14:=tr (sqN 1 x1sg)
theorem x1si:x1v2 call hs u xig (j5 (x25 call hs u) 0 1 2 3 4) eNil=j3 (x3u call hs u) 0 2 14:=sq2 x1sd x1sh
theorem x1sj{rec2:AV->AV->AV->AV->AV->Mem->Nat->O2}:x1v2 call hs u x1ru (j5 rec2 0 2 4 14 15) (setE 4 (j3 (x3u call hs u) 0 2 14) eNil)=j5 (xlu call hs u rec2) 0 2 4 14 15:=by kernel_rfl
theorem x1sk:x1v2 call hs u xxu (j3 (x3u call hs u) 0 2 14) (setE 4 (j3 (x3u call hs u) 0 2 14) eNil)=j5 (x4v call hs u NN) 0 2 4 14 15:=lp (Ln:=fun n=>j5 (x4v call hs u n) 0 2 4 14 15) fun n=>tr x1sj
theorem x1sl:x1v2 call hs u xxq (j3 (x3u call hs u) 0 2 14) eNil=j5 (x4v call hs u NN) 0 2 4 14 15:=bk x1sk
theorem x1sm:x1v2 call hs u xif (j5 (x25 call hs u) 0 1 2 3 4) eNil=j5 (x4v call hs u NN) 0 2 4 14 15:=sq2 x1si x1sl
theorem x1sn:x1v2 call hs u xxp (j5 (x25 call hs u) 0 1 2 3 4) eNil=j4 (xlv call hs u) 0 1 2 4:=tr (sqN 2 x1sm)
theorem x1so:x1v2 call hs u x1rr (j5 (x25 call hs u) 0 1 2 3 4) eNil=j5 (xlw call hs u) 0 1 2 3 4:=by kernel_rfl
theorem x1sp:x1v2 call hs u xie (j5 (x25 call hs u) 0 1 2 3 4) eNil=j6 (xlx call hs u) 0 1 2 3 4 80:=tr (cd x1sn x1so)
theorem x1sq:x1v2 call hs u xxj (j5 (x25 call hs u) 0 1 2 3 4) eNil=j5 (x1k call hs u) 0 1 2 3 4:=tr (sqN 1 x1sp)
theorem x1sr:x1v2 call hs u xi9 r_15 eNil=j5 (x1k call hs u) 0 1 2 3 4:=sq2 x1sc x1sq
theorem x1ss:x1v2 call hs u x1rw (j5 (x1k call hs u) 0 1 2 3 4) eNil=j0 (x3v call hs u):=by kernel_rfl
theorem x1st{rec3:AV->AV->AV->Mem->Nat->O2}:x1v2 call hs u x1rx (j3 rec3 0 10 13) (setE 2 (j0 (x3v call hs u)) eNil)=j3 (xly call hs u rec3) 0 10 13:=by kernel_rfl
theorem x1su:x1v2 call hs u xxz (j0 (x3v call hs u)) (setE 2 (j0 (x3v call hs u)) eNil)=j3 (x78 call hs u NN) 0 10 13:=lp (Ln:=fun n=>j3 (x78 call hs u n) 0 10 13) fun n=>tr x1st
theorem x1sv:x1v2 call hs u xxy (j0 (x3v call hs u)) eNil=j3 (x78 call hs u NN) 0 10 13:=bk x1su
theorem x1sw:x1v2 call hs u xxx (j0 (x3v call hs u)) eNil=j3 (x3w call hs u) 0 1 10:=tr (sqN 1 x1sv)
theorem x1sx:x1v2 call hs u xij (j5 (x1k call hs u) 0 1 2 3 4) eNil=j3 (x3w call hs u) 0 1 10:=sq2 x1ss x1sw
theorem x1sy{rec4:AV->AV->AV->AV->AV->Mem->Nat->O2}:x1v2 call hs u x1ry (j5 rec4 0 1 4 10 11) (setE 0 (j3 (x3w call hs u) 0 1 10) eNil)=j5 (xlz call hs u rec4) 0 1 4 10 11:=by kernel_rfl
theorem x1sz:x1v2 call hs u xy0 (j3 (x3w call hs u) 0 1 10) (setE 0 (j3 (x3w call hs u) 0 1 10) eNil)=j5 (x4w call hs u NN) 0 1 4 10 11:=lp (Ln:=fun n=>j5 (x4w call hs u n) 0 1 4 10 11) fun n=>tr x1sy
theorem x1t0:x1v2 call hs u xxw (j3 (x3w call hs u) 0 1 10) eNil=j5 (x4w call hs u NN) 0 1 4 10 11:=bk x1sz
theorem x1t1:x1v2 call hs u xii (j5 (x1k call hs u) 0 1 2 3 4) eNil=j5 (x4w call hs u NN) 0 1 4 10 11:=sq2 x1sx x1t0
theorem x1t2:x1v2 call hs u xxv (j5 (x1k call hs u) 0 1 2 3 4) eNil=j5 (xm0 call hs u) 0 1 2 3 4:=tr (sqN 2 x1t1)
theorem x1t3:x1v2 call hs u x1rv (j5 (x1k call hs u) 0 1 2 3 4) eNil=j5 (xm1 call hs u) 0 1 2 3 4:=by kernel_rfl
theorem x1t4:x1v2 call hs u xih (j5 (x1k call hs u) 0 1 2 3 4) eNil=j6 (xm2 call hs u) 0 1 2 3 4 28:=tr (cd x1t2 x1t3)
theorem x1t5:x1v2 call hs u xxi (j5 (x1k call hs u) 0 1 2 3 4) eNil=j5 (xet call hs u) 0 1 2 3 4:=tr (sqN 1 x1t4)
theorem x14l:x1v2 call hs u xi8 r_15 eNil=j5 (xet call hs u) 0 1 2 3 4:=sq2 x1sr x1t5
noncomputable abbrev x1xg:=VX x8r 49 r_15
noncomputable def xy1:=x1uv x8r
noncomputable def xy2:=nR xy1
noncomputable def xy3:=nR xy2
noncomputable def xy4:=nR xy3
noncomputable def xik:=nR xy4
noncomputable def xy5:=nL xik
noncomputable def x1t6:=nR xik
noncomputable def xy6:=nR xy5
noncomputable def xy7:=nR xy6
noncomputable def xy8:=nR xy7
noncomputable def x1t7:=nR xy8
theorem x1t8{rec0:AV->AV->AV->AV->Mem->Nat->O2}:x1xg call hs u x1t6 (j4 rec0 0 1 2 6) (setE 0 r_15 eNil)=j4 (x12 call hs u rec0) 0 1 2 6:=by kernel_rfl
theorem x1t9{rec0:AV->AV->AV->AV->Mem->Nat->O2}{rec1:AV->AV->AV->AV->AV->Mem->Nat->O2}:x1xg call hs u x1t7 (j5 rec1 0 1 2 6 7) (setE 2 (j4 (x12 call hs u rec0) 0 1 2 6) (setE 1 (j4 (x12 call hs u rec0) 0 1 2 6) (setE 0 r_15 eNil)))=j5 (xm3 call hs u rec0 rec1) 0 1 2 6 7:=by kernel_rfl
theorem x1ta{rec0:AV->AV->AV->AV->Mem->Nat->O2}:x1xg call hs u xy8 (j4 (x12 call hs u rec0) 0 1 2 6) (setE 2 (j4 (x12 call hs u rec0) 0 1 2 6) (setE 1 (j4 (x12 call hs u rec0) 0 1 2 6) (setE 0 r_15 eNil)))=j5 (x79 call hs u rec0 NN) 0 1 2 6 7:=lp (Ln:=fun n=>j5 (x79 call hs u rec0 n) 0 1 2 6 7) fun n=>tr x1t9
theorem x1tb{rec0:AV->AV->AV->AV->Mem->Nat->O2}:x1xg call hs u xy7 (j4 (x12 call hs u rec0) 0 1 2 6) (setE 1 (j4 (x12 call hs u rec0) 0 1 2 6) (setE 0 r_15 eNil))=j5 (x79 call hs u rec0 NN) 0 1 2 6 7:=bk x1ta
theorem x1tc{rec0:AV->AV->AV->AV->Mem->Nat->O2}:x1xg call hs u xy6 (j4 (x12 call hs u rec0) 0 1 2 6) (setE 1 (j4 (x12 call hs u rec0) 0 1 2 6) (setE 0 r_15 eNil))=j4 (xb2 call hs u rec0) 0 1 2 6:=tr (sqN 1 x1tb)
theorem x1td{rec0:AV->AV->AV->AV->Mem->Nat->O2}:x1xg call hs u xy5 (j4 (x12 call hs u rec0) 0 1 2 6) (setE 0 r_15 eNil)=j4 (xb2 call hs u rec0) 0 1 2 6:=bk x1tc
theorem x1te{rec0:AV->AV->AV->AV->Mem->Nat->O2}:x1xg call hs u xik (j4 rec0 0 1 2 6) (setE 0 r_15 eNil)=j4 (xb2 call hs u rec0) 0 1 2 6:=sq2 x1t8 x1td
theorem x1tf{rec0:AV->AV->AV->AV->Mem->Nat->O2}:x1xg call hs u xy4 (j4 rec0 0 1 2 6) (setE 0 r_15 eNil)=j4 (xm4 call hs u rec0) 0 1 2 6:=tr (sqN 1 x1te)
theorem x1tg:x1xg call hs u xy3 r_15 (setE 0 r_15 eNil)=j4 (x7a call hs u NN) 0 1 2 6:=lp (Ln:=fun n=>j4 (x7a call hs u n) 0 1 2 6) fun n=>tr x1tf
theorem x1th:x1xg call hs u xy2 r_15 eNil=j4 (x7a call hs u NN) 0 1 2 6:=bk x1tg
theorem x14m:x1xg call hs u xy1 r_15 eNil=j3 (xm5 call hs u) 0 1 2:=tr (sqN 1 x1th)
noncomputable abbrev x1xy:=VX x8s 56 r_15
noncomputable def xy9:=x1uv x8s
noncomputable def xil:=nRs 3 xy9
noncomputable def xya:=nL xil
noncomputable def xyb:=nR xil
noncomputable def xyc:=nR xyb
noncomputable def xyd:=nR xyc
noncomputable def x1ti:=nR xyd
noncomputable def xye:=nR xya
noncomputable def xyf:=nR xye
noncomputable def x1tj:=nR xyf
theorem x1tk{rec0:AV->AV->AV->AV->Mem->Nat->O2}:x1xy call hs u x1ti (j4 rec0 0 6 7 10) (setE 2 r_15 eNil)=j4 (xm6 call hs u rec0) 0 6 7 10:=by kernel_rfl
theorem x1tl:x1xy call hs u xyd r_15 (setE 2 r_15 eNil)=j4 (x7b call hs u NN) 0 6 7 10:=lp (Ln:=fun n=>j4 (x7b call hs u n) 0 6 7 10) fun n=>tr x1tk
theorem x1tm:x1xy call hs u xyc r_15 eNil=j4 (x7b call hs u NN) 0 6 7 10:=bk x1tl
theorem x1tn:x1xy call hs u xyb r_15 eNil=j4 (x3x call hs u) 0 6 7 8:=tr (sqN 1 x1tm)
theorem x1to{rec1:AV->AV->AV->AV->AV->Mem->Nat->O2}:x1xy call hs u x1tj (j5 rec1 0 6 7 8 9) (setE 0 (j4 (x3x call hs u) 0 6 7 8) eNil)=j5 (xm7 call hs u rec1) 0 6 7 8 9:=by kernel_rfl
theorem x1tp:x1xy call hs u xyf (j4 (x3x call hs u) 0 6 7 8) (setE 0 (j4 (x3x call hs u) 0 6 7 8) eNil)=j5 (x7c call hs u NN) 0 6 7 8 9:=lp (Ln:=fun n=>j5 (x7c call hs u n) 0 6 7 8 9) fun n=>tr x1to
theorem x1tq:x1xy call hs u xye (j4 (x3x call hs u) 0 6 7 8) eNil=j5 (x7c call hs u NN) 0 6 7 8 9:=bk x1tp
theorem x1tr:x1xy call hs u xya (j4 (x3x call hs u) 0 6 7 8) eNil=j4 (xeu call hs u) 0 6 7 8:=tr (sqN 1 x1tq)
theorem x1ts:x1xy call hs u xil r_15 eNil=j4 (xeu call hs u) 0 6 7 8:=sq2 x1tn x1tr
theorem x14n:x1xy call hs u xy9 r_15 eNil=j3 (xm8 call hs u) 0 1 2:=tr (sqN 3 x1ts)
noncomputable abbrev x1wo:=VX x8t 65 r_15
noncomputable def xyg:=x1uv x8t
noncomputable def xim:=nRs 2 xyg
noncomputable def xyh:=nL xim
noncomputable def x1tt:=nR xim
noncomputable def xyi:=nRs 3 xyh
noncomputable def xyj:=nR xyi
noncomputable def xyk:=nR xyj
noncomputable def xin:=nR xyk
noncomputable def xyl:=nL xin
noncomputable def x1tu:=nR xin
noncomputable def xym:=nR xyl
noncomputable def xio:=nR xym
noncomputable def x1tv:=nL xio
noncomputable def x1tw:=nR xio
theorem x1tx{rec0:AV->AV->AV->AV->AV->AV->Mem->Nat->O2}:x1wo call hs u x1tu (j6 rec0 0 1 6 7 8 9) (setE 0 r_15 eNil)=j6 (x1l call hs u rec0) 0 1 6 7 8 9:=by kernel_rfl
theorem x1ty{rec0:AV->AV->AV->AV->AV->AV->Mem->Nat->O2}:x1wo call hs u x1tw (j6 (x1l call hs u rec0) 0 1 6 7 8 9) (setE 1 (j6 (x1l call hs u rec0) 0 1 6 7 8 9) (setE 0 r_15 eNil))=j7 (xb3 call hs u rec0) 0 1 6 7 8 9 10:=by kernel_rfl
theorem x1tz{rec0:AV->AV->AV->AV->AV->AV->Mem->Nat->O2}:x1wo call hs u x1tv (j7 (xb3 call hs u rec0) 0 1 6 7 8 9 10) (setE 1 (j6 (x1l call hs u rec0) 0 1 6 7 8 9) (setE 0 r_15 eNil))=j7 (xev call hs u rec0) 0 1 6 7 8 9 10:=by kernel_rfl
theorem x1u0{rec0:AV->AV->AV->AV->AV->AV->Mem->Nat->O2}:x1wo call hs u xio (j6 (x1l call hs u rec0) 0 1 6 7 8 9) (setE 1 (j6 (x1l call hs u rec0) 0 1 6 7 8 9) (setE 0 r_15 eNil))=j7 (xev call hs u rec0) 0 1 6 7 8 9 10:=sq2 x1ty x1tz
theorem x1u1{rec0:AV->AV->AV->AV->AV->AV->Mem->Nat->O2}:x1wo call hs u xym (j6 (x1l call hs u rec0) 0 1 6 7 8 9) (setE 1 (j6 (x1l call hs u rec0) 0 1 6 7 8 9) (setE 0 r_15 eNil))=j6 (xb4 call hs u rec0) 0 1 6 7 8 9:=tr (sqN 1 x1u0)
theorem x1u2{rec0:AV->AV->AV->AV->AV->AV->Mem->Nat->O2}:x1wo call hs u xyl (j6 (x1l call hs u rec0) 0 1 6 7 8 9) (setE 0 r_15 eNil)=j6 (xb4 call hs u rec0) 0 1 6 7 8 9:=bk x1u1
theorem x1u3{rec0:AV->AV->AV->AV->AV->AV->Mem->Nat->O2}:x1wo call hs u xin (j6 rec0 0 1 6 7 8 9) (setE 0 r_15 eNil)=j6 (xb4 call hs u rec0) 0 1 6 7 8 9:=sq2 x1tx x1u2
theorem x1u4{rec0:AV->AV->AV->AV->AV->AV->Mem->Nat->O2}:x1wo call hs u xyk (j6 rec0 0 1 6 7 8 9) (setE 0 r_15 eNil)=j6 (xm9 call hs u rec0) 0 1 6 7 8 9:=tr (sqN 1 x1u3)
theorem x1u5:x1wo call hs u xyj r_15 (setE 0 r_15 eNil)=j6 (x7d call hs u NN) 0 1 6 7 8 9:=lp (Ln:=fun n=>j6 (x7d call hs u n) 0 1 6 7 8 9) fun n=>tr x1u4
theorem x1u6:x1wo call hs u xyi r_15 eNil=j6 (x7d call hs u NN) 0 1 6 7 8 9:=bk x1u5
theorem x1u7:x1wo call hs u xyh r_15 eNil=j3 (xma call hs u) 0 1 6:=tr (sqN 3 x1u6)
theorem x1u8:x1wo call hs u x1tt r_15 eNil=j0 (xmb call hs u):=by kernel_rfl
theorem x1u9:x1wo call hs u xim r_15 eNil=j4 (xmc call hs u) 0 1 6 15:=tr (cd x1u7 x1u8)
theorem x14o:x1wo call hs u xyg r_15 eNil=j3 (xmd call hs u) 0 1 2:=tr (sqN 2 x1u9)
noncomputable abbrev x1ya:=VX x8u 57 r_4
noncomputable def xyn:=x1uv x8u
noncomputable def xip:=nRs 6 xyn
noncomputable def xyo:=nL xip
noncomputable def x1ua:=nR xip
noncomputable def xiq:=nR xyo
noncomputable def xir:=nL xiq
noncomputable def x1ub:=nR xiq
noncomputable def x1uc:=nL xir
noncomputable def x1ud:=nR xir
theorem x1ue:x1ya call hs u x1ua r_4 eNil=j2 (x31 call hs u) 9 11:=by kernel_rfl
theorem x1uf:x1ya call hs u x1ud (j2 (x31 call hs u) 9 11) eNil=j5 (xb5 call hs u) 0 9 10 11 12:=by kernel_rfl
theorem x1ug:x1ya call hs u x1uc (j5 (xb5 call hs u) 0 9 10 11 12) eNil=j6 (xew call hs u) 0 8 9 10 11 12:=by kernel_rfl
theorem x1uh:x1ya call hs u xir (j2 (x31 call hs u) 9 11) eNil=j6 (xew call hs u) 0 8 9 10 11 12:=sq2 x1uf x1ug
theorem x1ui:x1ya call hs u x1ub (j2 (x31 call hs u) 9 11) eNil=j2 (xme call hs u) 9 11:=by kernel_rfl
theorem x1uj:x1ya call hs u xiq (j2 (x31 call hs u) 9 11) eNil=j7 (xmf call hs u) 0 8 9 10 11 12 32:=tr (cd x1uh x1ui)
theorem x1uk:x1ya call hs u xyo (j2 (x31 call hs u) 9 11) eNil=j6 (xex call hs u) 0 8 9 10 11 12:=tr (sqN 1 x1uj)
theorem x1ul:x1ya call hs u xip r_4 eNil=j6 (xex call hs u) 0 8 9 10 11 12:=sq2 x1ue x1uk
theorem x14p:x1ya call hs u xyn r_4 eNil=j3 (xmg call hs u) 0 1 2:=tr (sqN 6 x1ul)
noncomputable abbrev x21w:=VX x8v 32 r_15
noncomputable def xyp:=x1uv x8v
noncomputable def xyq:=nRs 2 xyp
noncomputable def xyr:=nR xyq
noncomputable def x1um:=nR xyr
theorem x1un{rec0:AV->AV->AV->Mem->Nat->O2}:x21w call hs u x1um (j3 rec0 0 6 7) (setE 0 r_15 eNil)=j3 (xmh call hs u rec0) 0 6 7:=by kernel_rfl
theorem x1uo:x21w call hs u xyr r_15 (setE 0 r_15 eNil)=j3 (x7e call hs u NN) 0 6 7:=lp (Ln:=fun n=>j3 (x7e call hs u n) 0 6 7) fun n=>tr x1un
theorem x1up:x21w call hs u xyq r_15 eNil=j3 (x7e call hs u NN) 0 6 7:=bk x1uo
theorem x14q:x21w call hs u xyp r_15 eNil=j3 (xmi call hs u) 0 1 2:=tr (sqN 2 x1up)
end Go.Ix
