import Derived.Test.YtljibmnhhdiakaaFxText0
import Derived.Test.YtljibmnhhdiakaaFxText1
import Derived.Test.YtljibmnhhdiakaaFxEnt
import Derived.Test.YtljibmnhhdiakaaFxRules
import Derived.Test.YtljibmnhhdiakaaFxProj
import Derived.ProofKit
set_option linter.unusedVariables false
namespace Go.Ix
open Go.Proofs
variable{call:x1qo}{hs:FHs}{u:Nat}
noncomputable abbrev x1x4:=VX xdm 108 r_0
noncomputable def xnn:=x1qv xdm
noncomputable def xhl:=nRs 9 xnn
noncomputable def xno:=nL xhl
noncomputable def x13z:=nR xhl
noncomputable def xnp:=nR xno
noncomputable def xnq:=nR xnp
noncomputable def x140:=nR xnq
theorem x141:x1x4 call hs u x13z r_0 eNil=j0 (x5v call hs u):=by kernel_rfl
theorem x142{rec0:AV->AV->AV->Mem->Nat->O2}:x1x4 call hs u x140 (j3 rec0 3 12 13) (setE 0 (j0 (x5v call hs u)) eNil)=j3 (xl6 call hs u rec0) 3 12 13:=by kernel_rfl
theorem x143:x1x4 call hs u xnq (j0 (x5v call hs u)) (setE 0 (j0 (x5v call hs u)) eNil)=j3 (x7y call hs u NN) 3 12 13:=lp (Ln:=fun n=>j3 (x7y call hs u n) 3 12 13) fun n=>tr x142
theorem x144:x1x4 call hs u xnp (j0 (x5v call hs u)) eNil=j3 (x7y call hs u NN) 3 12 13:=bk x143
theorem x145:x1x4 call hs u xno (j0 (x5v call hs u)) eNil=j2 (xf2 call hs u) 3 12:=tr (sqN 1 x144)
theorem x146:x1x4 call hs u xhl r_0 eNil=j2 (xf2 call hs u) 3 12:=sq2 x141 x145
theorem x10v:x1x4 call hs u xnn r_0 eNil=j1 (xl7 call hs u) 0:=tr (sqN 9 x146)
noncomputable abbrev x299:=VX xdn 38 r_0
noncomputable def x147:=x1qv xdn
theorem x10w:x299 call hs u x147 r_0 eNil=j1 (xl8 call hs u) 0:=by kernel_rfl
noncomputable abbrev x29a:=VX xdo 140 r_1
noncomputable def x148:=x1qv xdo
theorem x10x:x29a call hs u x148 r_1 eNil=j3 (xl9 call hs u) 0 1 2:=by kernel_rfl
noncomputable abbrev x1va:=VX xdp 95 r_1
noncomputable def xnr:=x1qv xdp
noncomputable def xhm:=nRs 6 xnr
noncomputable def x149:=nL xhm
noncomputable def xns:=nR xhm
noncomputable def xhn:=nRs 3 xns
noncomputable def xnt:=nL xhn
noncomputable def x14a:=nR xhn
noncomputable def xnu:=nR xnt
noncomputable def xnv:=nR xnu
noncomputable def x14b:=nR xnv
theorem x14c:x1va call hs u x14a r_1 eNil=j3 (x5w call hs u) 3 7 11:=by kernel_rfl
theorem x14d{rec0:AV->AV->AV->AV->AV->AV->Mem->Nat->O2}:x1va call hs u x14b (j6 rec0 1 2 3 7 11 12) (setE 0 (j3 (x5w call hs u) 3 7 11) eNil)=j6 (xla call hs u rec0) 1 2 3 7 11 12:=by kernel_rfl
theorem x14e:x1va call hs u xnv (j3 (x5w call hs u) 3 7 11) (setE 0 (j3 (x5w call hs u) 3 7 11) eNil)=j6 (x7z call hs u NN) 1 2 3 7 11 12:=lp (Ln:=fun n=>j6 (x7z call hs u n) 1 2 3 7 11 12) fun n=>tr x14d
theorem x14f:x1va call hs u xnu (j3 (x5w call hs u) 3 7 11) eNil=j6 (x7z call hs u NN) 1 2 3 7 11 12:=bk x14e
theorem x14g:x1va call hs u xnt (j3 (x5w call hs u) 3 7 11) eNil=j5 (xf3 call hs u) 1 2 3 7 11:=tr (sqN 1 x14f)
theorem x14h:x1va call hs u xhn r_1 eNil=j5 (xf3 call hs u) 1 2 3 7 11:=sq2 x14c x14g
theorem x14i:x1va call hs u xns r_1 eNil=j7 (xag call hs u) 1 2 3 7 8 9 10:=tr (sqN 3 x14h)
theorem x14j:x1va call hs u x149 (j7 (xag call hs u) 1 2 3 7 8 9 10) eNil=j7 (xf4 call hs u) 1 2 3 7 8 9 10:=by kernel_rfl
theorem x14k:x1va call hs u xhm r_1 eNil=j7 (xf4 call hs u) 1 2 3 7 8 9 10:=sq2 x14i x14j
theorem x10y:x1va call hs u xnr r_1 eNil=j3 (xlb call hs u) 0 1 2:=tr (sqN 6 x14k)
noncomputable abbrev x29b:=VX xdq 124 r_1
noncomputable def x14l:=x1qv xdq
theorem x10z:x29b call hs u x14l r_1 eNil=j3 (xlc call hs u) 0 1 2:=by kernel_rfl
noncomputable abbrev x1x5:=VX xdr 139 r_0
noncomputable def xnw:=x1qv xdr
noncomputable def xho:=nRs 11 xnw
noncomputable def xnx:=nL xho
noncomputable def x14m:=nR xho
noncomputable def xny:=nR xnx
noncomputable def xnz:=nR xny
noncomputable def x14n:=nR xnz
theorem x14o:x1x5 call hs u x14m r_0 eNil=j0 (x5x call hs u):=by kernel_rfl
theorem x14p{rec0:AV->AV->AV->AV->Mem->Nat->O2}:x1x5 call hs u x14n (j4 rec0 1 3 15 16) (setE 0 (j0 (x5x call hs u)) eNil)=j4 (xld call hs u rec0) 1 3 15 16:=by kernel_rfl
theorem x14q:x1x5 call hs u xnz (j0 (x5x call hs u)) (setE 0 (j0 (x5x call hs u)) eNil)=j4 (x80 call hs u NN) 1 3 15 16:=lp (Ln:=fun n=>j4 (x80 call hs u n) 1 3 15 16) fun n=>tr x14p
theorem x14r:x1x5 call hs u xny (j0 (x5x call hs u)) eNil=j4 (x80 call hs u NN) 1 3 15 16:=bk x14q
theorem x14s:x1x5 call hs u xnx (j0 (x5x call hs u)) eNil=j3 (xf5 call hs u) 1 3 15:=tr (sqN 1 x14r)
theorem x14t:x1x5 call hs u xho r_0 eNil=j3 (xf5 call hs u) 1 3 15:=sq2 x14o x14s
theorem x110:x1x5 call hs u xnw r_0 eNil=j1 (xle call hs u) 0:=tr (sqN 11 x14t)
noncomputable abbrev x20u:=VX xds 45 r_2
noncomputable def xo0:=x1qv xds
noncomputable def xhp:=nRs 6 xo0
noncomputable def x14u:=nL xhp
noncomputable def x14v:=nR xhp
theorem x14w:x20u call hs u x14v r_2 eNil=j4 (xah call hs u) 5 6 7 8:=by kernel_rfl
theorem x14x:x20u call hs u x14u (j4 (xah call hs u) 5 6 7 8) eNil=j6 (xf6 call hs u) 1 2 5 6 7 8:=by kernel_rfl
theorem x14y:x20u call hs u xhp r_2 eNil=j6 (xf6 call hs u) 1 2 5 6 7 8:=sq2 x14w x14x
theorem x111:x20u call hs u xo0 r_2 eNil=j2 (xlf call hs u) 0 1:=tr (sqN 6 x14y)
noncomputable abbrev x29c:=VX xdt 100 r_1
noncomputable def x14z:=x1qv xdt
theorem x112:x29c call hs u x14z r_1 eNil=j3 (xlg call hs u) 0 1 2:=by kernel_rfl
noncomputable abbrev x20v:=VX xdu 56 r_2
noncomputable def xo1:=x1qv xdu
noncomputable def xhq:=nRs 6 xo1
noncomputable def x150:=nL xhq
noncomputable def x151:=nR xhq
theorem x152:x20v call hs u x151 r_2 eNil=j4 (xai call hs u) 5 6 7 8:=by kernel_rfl
theorem x153:x20v call hs u x150 (j4 (xai call hs u) 5 6 7 8) eNil=j6 (xf7 call hs u) 1 2 5 6 7 8:=by kernel_rfl
theorem x154:x20v call hs u xhq r_2 eNil=j6 (xf7 call hs u) 1 2 5 6 7 8:=sq2 x152 x153
theorem x113:x20v call hs u xo1 r_2 eNil=j2 (xlh call hs u) 0 1:=tr (sqN 6 x154)
noncomputable abbrev x20w:=VX xdv 89 r_2
noncomputable def xo2:=x1qv xdv
noncomputable def xhr:=nRs 7 xo2
noncomputable def x155:=nL xhr
noncomputable def x156:=nR xhr
theorem x157:x20w call hs u x156 r_2 eNil=j7 (xaj call hs u) 2 5 6 7 8 9 10:=by kernel_rfl
theorem x158:x20w call hs u x155 (j7 (xaj call hs u) 2 5 6 7 8 9 10) eNil=j8 (xf8 call hs u) 2 3 5 6 7 8 9 10:=by kernel_rfl
theorem x159:x20w call hs u xhr r_2 eNil=j8 (xf8 call hs u) 2 3 5 6 7 8 9 10:=sq2 x157 x158
theorem x114:x20w call hs u xo2 r_2 eNil=j2 (xli call hs u) 0 1:=tr (sqN 7 x159)
noncomputable abbrev x29d:=VX x7j 113 r_2
noncomputable def x15a:=x1qv x7j
theorem x115:x29d call hs u x15a r_2 eNil=j2 (xf9 call hs u) 0 1:=by kernel_rfl
noncomputable abbrev x29e:=VX xw 79 r_3
noncomputable def x15b:=x1qv xw
theorem x116:x29e call hs u x15b r_3 eNil=j0 (xlj call hs u):=by kernel_rfl
noncomputable abbrev x1x6:=VX x3p 56 r_0
noncomputable def xo3:=x1qv x3p
noncomputable def xhs:=nRs 3 xo3
noncomputable def xo4:=nL xhs
noncomputable def x15c:=nR xhs
noncomputable def xo5:=nR xo4
noncomputable def xo6:=nR xo5
noncomputable def x15d:=nR xo6
theorem x15e:x1x6 call hs u x15c r_0 eNil=j0 (x5y call hs u):=by kernel_rfl
theorem x15f{rec0:AV->AV->Mem->Nat->O2}:x1x6 call hs u x15d (j2 rec0 1 3) (setE 0 (j0 (x5y call hs u)) eNil)=j2 (xlk call hs u rec0) 1 3:=by kernel_rfl
theorem x15g:x1x6 call hs u xo6 (j0 (x5y call hs u)) (setE 0 (j0 (x5y call hs u)) eNil)=j2 (x81 call hs u NN) 1 3:=lp (Ln:=fun n=>j2 (x81 call hs u n) 1 3) fun n=>tr x15f
theorem x15h:x1x6 call hs u xo5 (j0 (x5y call hs u)) eNil=j2 (x81 call hs u NN) 1 3:=bk x15g
theorem x15i:x1x6 call hs u xo4 (j0 (x5y call hs u)) eNil=j1 (xfa call hs u) 1:=tr (sqN 1 x15h)
theorem x15j:x1x6 call hs u xhs r_0 eNil=j1 (xfa call hs u) 1:=sq2 x15e x15i
theorem x117:x1x6 call hs u xo3 r_0 eNil=j1 (xll call hs u) 0:=tr (sqN 3 x15j)
noncomputable abbrev x29f:=VX x56 33 r_4
noncomputable def x15k:=x1qv x56
theorem x118:x29f call hs u x15k r_4 eNil=j1 (xlm call hs u) 0:=by kernel_rfl
noncomputable abbrev x29g:=VX xr 10 r_5
noncomputable def x15l:=x1qv xr
theorem x119:x29g call hs u x15l r_5 eNil=j1 (xln call hs u) 0:=by kernel_rfl
noncomputable abbrev x29h:=VX x2u 11 r_0
noncomputable def x15m:=x1qv x2u
theorem x11a:x29h call hs u x15m r_0 eNil=j1 (xlo call hs u) 0:=by kernel_rfl
noncomputable abbrev x1x7:=VX x7k 27 r_6
noncomputable def xo7:=x1qv x7k
noncomputable def xht:=nRs 2 xo7
noncomputable def xo8:=nL xht
noncomputable def x15n:=nR xht
noncomputable def xo9:=nR xo8
noncomputable def xoa:=nR xo9
noncomputable def x15o:=nR xoa
theorem x15p:x1x7 call hs u x15n r_6 eNil=j2 (x5z call hs u) 1 2:=by kernel_rfl
theorem x15q{rec0:AV->AV->AV->Mem->Nat->O2}:x1x7 call hs u x15o (j3 rec0 1 2 6) (setE 0 (j2 (x5z call hs u) 1 2) eNil)=j3 (xlp call hs u rec0) 1 2 6:=by kernel_rfl
theorem x15r:x1x7 call hs u xoa (j2 (x5z call hs u) 1 2) (setE 0 (j2 (x5z call hs u) 1 2) eNil)=j3 (x82 call hs u NN) 1 2 6:=lp (Ln:=fun n=>j3 (x82 call hs u n) 1 2 6) fun n=>tr x15q
theorem x15s:x1x7 call hs u xo9 (j2 (x5z call hs u) 1 2) eNil=j3 (x82 call hs u NN) 1 2 6:=bk x15r
theorem x15t:x1x7 call hs u xo8 (j2 (x5z call hs u) 1 2) eNil=j2 (xfb call hs u) 1 2:=tr (sqN 1 x15s)
theorem x15u:x1x7 call hs u xht r_6 eNil=j2 (xfb call hs u) 1 2:=sq2 x15p x15t
theorem x11b:x1x7 call hs u xo7 r_6 eNil=j2 (xlq call hs u) 0 1:=tr (sqN 2 x15u)
noncomputable abbrev x1uh:=VX x6k 91 r_6
noncomputable def xob:=x1qv x6k
noncomputable def xhu:=nRs 4 xob
noncomputable def xoc:=nL xhu
noncomputable def xhv:=nR xhu
noncomputable def xod:=nL xhv
noncomputable def x15v:=nR xhv
noncomputable def xoe:=nR xod
noncomputable def xof:=nR xoe
noncomputable def x15w:=nR xof
noncomputable def xog:=nR xoc
noncomputable def xoh:=nR xog
noncomputable def x15x:=nR xoh
theorem x15y:x1uh call hs u x15v r_6 eNil=j1 (x60 call hs u) 7:=by kernel_rfl
theorem x15z{rec0:AV->AV->AV->AV->Mem->Nat->O2}:x1uh call hs u x15w (j4 rec0 2 6 7 10) (setE 2 (j1 (x60 call hs u) 7) eNil)=j4 (xlr call hs u rec0) 2 6 7 10:=by kernel_rfl
theorem x160:x1uh call hs u xof (j1 (x60 call hs u) 7) (setE 2 (j1 (x60 call hs u) 7) eNil)=j4 (x83 call hs u NN) 2 6 7 10:=lp (Ln:=fun n=>j4 (x83 call hs u n) 2 6 7 10) fun n=>tr x15z
theorem x161:x1uh call hs u xoe (j1 (x60 call hs u) 7) eNil=j4 (x83 call hs u NN) 2 6 7 10:=bk x160
theorem x162:x1uh call hs u xod (j1 (x60 call hs u) 7) eNil=j3 (x43 call hs u) 2 6 7:=tr (sqN 1 x161)
theorem x163:x1uh call hs u xhv r_6 eNil=j3 (x43 call hs u) 2 6 7:=sq2 x15y x162
theorem x164{rec1:AV->AV->AV->AV->AV->Mem->Nat->O2}:x1uh call hs u x15x (j5 rec1 1 2 6 7 8) (setE 0 (j3 (x43 call hs u) 2 6 7) eNil)=j5 (xls call hs u rec1) 1 2 6 7 8:=by kernel_rfl
theorem x165:x1uh call hs u xoh (j3 (x43 call hs u) 2 6 7) (setE 0 (j3 (x43 call hs u) 2 6 7) eNil)=j5 (x84 call hs u NN) 1 2 6 7 8:=lp (Ln:=fun n=>j5 (x84 call hs u n) 1 2 6 7 8) fun n=>tr x164
theorem x166:x1uh call hs u xog (j3 (x43 call hs u) 2 6 7) eNil=j5 (x84 call hs u NN) 1 2 6 7 8:=bk x165
theorem x167:x1uh call hs u xoc (j3 (x43 call hs u) 2 6 7) eNil=j4 (xfc call hs u) 1 2 6 7:=tr (sqN 1 x166)
theorem x168:x1uh call hs u xhu r_6 eNil=j4 (xfc call hs u) 1 2 6 7:=sq2 x163 x167
theorem x11c:x1uh call hs u xob r_6 eNil=j2 (xlt call hs u) 0 1:=tr (sqN 4 x168)
noncomputable abbrev x29i:=VX x7l 7 r_0
noncomputable def x169:=x1qv x7l
theorem x11d:x29i call hs u x169 r_0 eNil=j1 (xlu call hs u) 0:=by kernel_rfl
noncomputable abbrev x1sg:=VX x7m 82 r_0
noncomputable def xoi:=x1qv x7m
noncomputable def xhw:=nRs 2 xoi
noncomputable def xoj:=nL xhw
noncomputable def xhx:=nR xhw
noncomputable def xok:=nL xhx
noncomputable def x16a:=nR xhx
noncomputable def xol:=nR xok
noncomputable def xom:=nR xol
noncomputable def xon:=nR xom
noncomputable def xhy:=nR xon
noncomputable def xoo:=nL xhy
noncomputable def x16b:=nR xhy
noncomputable def xop:=nR xoo
noncomputable def xhz:=nR xop
noncomputable def xoq:=nL xhz
noncomputable def x16c:=nR xhz
noncomputable def xor:=nR xoq
noncomputable def xos:=nR xor
noncomputable def xot:=nR xos
noncomputable def xi0:=nR xot
noncomputable def x16d:=nL xi0
noncomputable def x16e:=nR xi0
noncomputable def xou:=nR xoj
noncomputable def xov:=nR xou
noncomputable def x16f:=nR xov
theorem x16g:x1sg call hs u x16a r_0 eNil=j1 (xc call hs u) 3:=by kernel_rfl
theorem x16h{rec0:AV->AV->AV->Mem->Nat->O2}:x1sg call hs u x16b (j3 rec0 1 3 5) (setE 2 (j1 (xc call hs u) 3) eNil)=j3 (xz call hs u rec0) 1 3 5:=by kernel_rfl
theorem x16i{rec0:AV->AV->AV->Mem->Nat->O2}:x1sg call hs u x16c (j3 (xz call hs u rec0) 1 3 5) (setE 3 (j3 (xz call hs u rec0) 1 3 5) (setE 2 (j1 (xc call hs u) 3) eNil))=j4 (x2e call hs u rec0) 1 3 5 6:=by kernel_rfl
theorem x16j{rec0:AV->AV->AV->Mem->Nat->O2}{rec1:AV->AV->AV->AV->AV->Mem->Nat->O2}:x1sg call hs u x16e (j5 rec1 1 3 5 6 7) (setE 4 (j4 (x2e call hs u rec0) 1 3 5 6) (setE 3 (j3 (xz call hs u rec0) 1 3 5) (setE 2 (j1 (xc call hs u) 3) eNil)))=j5 (xak call hs u rec0 rec1) 1 3 5 6 7:=by kernel_rfl
theorem x16k{rec0:AV->AV->AV->Mem->Nat->O2}{rec1:AV->AV->AV->AV->AV->Mem->Nat->O2}:x1sg call hs u x16d (j5 (xak call hs u rec0 rec1) 1 3 5 6 7) (setE 4 (j4 (x2e call hs u rec0) 1 3 5 6) (setE 3 (j3 (xz call hs u rec0) 1 3 5) (setE 2 (j1 (xc call hs u) 3) eNil)))=j5 (xfd call hs u rec0 rec1) 1 3 5 6 7:=by kernel_rfl
theorem x16l{rec0:AV->AV->AV->Mem->Nat->O2}{rec1:AV->AV->AV->AV->AV->Mem->Nat->O2}:x1sg call hs u xi0 (j5 rec1 1 3 5 6 7) (setE 4 (j4 (x2e call hs u rec0) 1 3 5 6) (setE 3 (j3 (xz call hs u rec0) 1 3 5) (setE 2 (j1 (xc call hs u) 3) eNil)))=j5 (xfd call hs u rec0 rec1) 1 3 5 6 7:=sq2 x16j x16k
theorem x16m{rec0:AV->AV->AV->Mem->Nat->O2}{rec1:AV->AV->AV->AV->AV->Mem->Nat->O2}:x1sg call hs u xot (j5 rec1 1 3 5 6 7) (setE 4 (j4 (x2e call hs u rec0) 1 3 5 6) (setE 3 (j3 (xz call hs u rec0) 1 3 5) (setE 2 (j1 (xc call hs u) 3) eNil)))=j5 (xlv call hs u rec0 rec1) 1 3 5 6 7:=tr (sqN 1 x16l)
theorem x16n{rec0:AV->AV->AV->Mem->Nat->O2}:x1sg call hs u xos (j4 (x2e call hs u rec0) 1 3 5 6) (setE 4 (j4 (x2e call hs u rec0) 1 3 5 6) (setE 3 (j3 (xz call hs u rec0) 1 3 5) (setE 2 (j1 (xc call hs u) 3) eNil)))=j5 (x85 call hs u rec0 NN) 1 3 5 6 7:=lp (Ln:=fun n=>j5 (x85 call hs u rec0 n) 1 3 5 6 7) fun n=>tr x16m
theorem x16o{rec0:AV->AV->AV->Mem->Nat->O2}:x1sg call hs u xor (j4 (x2e call hs u rec0) 1 3 5 6) (setE 3 (j3 (xz call hs u rec0) 1 3 5) (setE 2 (j1 (xc call hs u) 3) eNil))=j5 (x85 call hs u rec0 NN) 1 3 5 6 7:=bk x16n
theorem x16p{rec0:AV->AV->AV->Mem->Nat->O2}:x1sg call hs u xoq (j4 (x2e call hs u rec0) 1 3 5 6) (setE 3 (j3 (xz call hs u rec0) 1 3 5) (setE 2 (j1 (xc call hs u) 3) eNil))=j4 (xfe call hs u rec0) 1 3 5 6:=tr (sqN 1 x16o)
theorem x16q{rec0:AV->AV->AV->Mem->Nat->O2}:x1sg call hs u xhz (j3 (xz call hs u rec0) 1 3 5) (setE 3 (j3 (xz call hs u rec0) 1 3 5) (setE 2 (j1 (xc call hs u) 3) eNil))=j4 (xfe call hs u rec0) 1 3 5 6:=sq2 x16i x16p
theorem x16r{rec0:AV->AV->AV->Mem->Nat->O2}:x1sg call hs u xop (j3 (xz call hs u rec0) 1 3 5) (setE 3 (j3 (xz call hs u rec0) 1 3 5) (setE 2 (j1 (xc call hs u) 3) eNil))=j3 (xal call hs u rec0) 1 3 5:=tr (sqN 1 x16q)
theorem x16s{rec0:AV->AV->AV->Mem->Nat->O2}:x1sg call hs u xoo (j3 (xz call hs u rec0) 1 3 5) (setE 2 (j1 (xc call hs u) 3) eNil)=j3 (xal call hs u rec0) 1 3 5:=bk x16r
theorem x16t{rec0:AV->AV->AV->Mem->Nat->O2}:x1sg call hs u xhy (j3 rec0 1 3 5) (setE 2 (j1 (xc call hs u) 3) eNil)=j3 (xal call hs u rec0) 1 3 5:=sq2 x16h x16s
theorem x16u{rec0:AV->AV->AV->Mem->Nat->O2}:x1sg call hs u xon (j3 rec0 1 3 5) (setE 2 (j1 (xc call hs u) 3) eNil)=j3 (xlw call hs u rec0) 1 3 5:=tr (sqN 1 x16t)
theorem x16v:x1sg call hs u xom (j1 (xc call hs u) 3) (setE 2 (j1 (xc call hs u) 3) eNil)=j3 (x86 call hs u NN) 1 3 5:=lp (Ln:=fun n=>j3 (x86 call hs u n) 1 3 5) fun n=>tr x16u
theorem x16w:x1sg call hs u xol (j1 (xc call hs u) 3) eNil=j3 (x86 call hs u NN) 1 3 5:=bk x16v
theorem x16x:x1sg call hs u xok (j1 (xc call hs u) 3) eNil=j2 (x44 call hs u) 1 3:=tr (sqN 1 x16w)
theorem x16y:x1sg call hs u xhx r_0 eNil=j2 (x44 call hs u) 1 3:=sq2 x16g x16x
theorem x16z{rec2:AV->AV->AV->Mem->Nat->O2}:x1sg call hs u x16f (j3 rec2 1 3 4) (setE 0 (j2 (x44 call hs u) 1 3) eNil)=j3 (xlx call hs u rec2) 1 3 4:=by kernel_rfl
theorem x170:x1sg call hs u xov (j2 (x44 call hs u) 1 3) (setE 0 (j2 (x44 call hs u) 1 3) eNil)=j3 (x87 call hs u NN) 1 3 4:=lp (Ln:=fun n=>j3 (x87 call hs u n) 1 3 4) fun n=>tr x16z
theorem x171:x1sg call hs u xou (j2 (x44 call hs u) 1 3) eNil=j3 (x87 call hs u NN) 1 3 4:=bk x170
theorem x172:x1sg call hs u xoj (j2 (x44 call hs u) 1 3) eNil=j2 (xff call hs u) 1 3:=tr (sqN 1 x171)
theorem x173:x1sg call hs u xhw r_0 eNil=j2 (xff call hs u) 1 3:=sq2 x16y x172
theorem x11e:x1sg call hs u xoi r_0 eNil=j1 (xly call hs u) 0:=tr (sqN 2 x173)
noncomputable abbrev x1x8:=VX x7n 18 r_2
noncomputable def xow:=x1qv x7n
noncomputable def xi1:=nR xow
noncomputable def xox:=nL xi1
noncomputable def x174:=nR xi1
noncomputable def xoy:=nR xox
noncomputable def xoz:=nR xoy
noncomputable def x175:=nR xoz
theorem x176:x1x8 call hs u x174 r_2 eNil=j0 (x61 call hs u):=by kernel_rfl
theorem x177{rec0:AV->AV->AV->Mem->Nat->O2}:x1x8 call hs u x175 (j3 rec0 0 1 5) (setE 0 (j0 (x61 call hs u)) eNil)=j3 (xlz call hs u rec0) 0 1 5:=by kernel_rfl
theorem x178:x1x8 call hs u xoz (j0 (x61 call hs u)) (setE 0 (j0 (x61 call hs u)) eNil)=j3 (x88 call hs u NN) 0 1 5:=lp (Ln:=fun n=>j3 (x88 call hs u n) 0 1 5) fun n=>tr x177
theorem x179:x1x8 call hs u xoy (j0 (x61 call hs u)) eNil=j3 (x88 call hs u NN) 0 1 5:=bk x178
theorem x17a:x1x8 call hs u xox (j0 (x61 call hs u)) eNil=j2 (xfg call hs u) 0 1:=tr (sqN 1 x179)
theorem x17b:x1x8 call hs u xi1 r_2 eNil=j2 (xfg call hs u) 0 1:=sq2 x176 x17a
theorem x11f:x1x8 call hs u xow r_2 eNil=j2 (xm0 call hs u) 0 1:=tr (sqN 1 x17b)
noncomputable abbrev x1ui:=VX x2v 56 r_0
noncomputable def xp0:=x1qv x2v
noncomputable def xi2:=nRs 4 xp0
noncomputable def xp1:=nL xi2
noncomputable def xi3:=nR xi2
noncomputable def xp2:=nL xi3
noncomputable def x17c:=nR xi3
noncomputable def xp3:=nR xp2
noncomputable def xp4:=nR xp3
noncomputable def x17d:=nR xp4
noncomputable def xp5:=nR xp1
noncomputable def xp6:=nR xp5
noncomputable def x17e:=nR xp6
theorem x17f:x1ui call hs u x17c r_0 eNil=j0 (x45 call hs u):=by kernel_rfl
theorem x17g{rec0:AV->AV->Mem->Nat->O2}:x1ui call hs u x17d (j2 rec0 1 4) (setE 2 (j0 (x45 call hs u)) eNil)=j2 (xam call hs u rec0) 1 4:=by kernel_rfl
theorem x17h:x1ui call hs u xp4 (j0 (x45 call hs u)) (setE 2 (j0 (x45 call hs u)) eNil)=j2 (x46 call hs u NN) 1 4:=lp (Ln:=fun n=>j2 (x46 call hs u n) 1 4) fun n=>tr x17g
theorem x17i:x1ui call hs u xp3 (j0 (x45 call hs u)) eNil=j2 (x46 call hs u NN) 1 4:=bk x17h
theorem x17j:x1ui call hs u xp2 (j0 (x45 call hs u)) eNil=j1 (x30 call hs u) 1:=tr (sqN 1 x17i)
theorem x17k:x1ui call hs u xi3 r_0 eNil=j1 (x30 call hs u) 1:=sq2 x17f x17j
theorem x17l{rec1:AV->AV->Mem->Nat->O2}:x1ui call hs u x17e (j2 rec1 1 3) (setE 0 (j1 (x30 call hs u) 1) eNil)=j2 (xan call hs u rec1) 1 3:=by kernel_rfl
theorem x17m:x1ui call hs u xp6 (j1 (x30 call hs u) 1) (setE 0 (j1 (x30 call hs u) 1) eNil)=j2 (x47 call hs u NN) 1 3:=lp (Ln:=fun n=>j2 (x47 call hs u n) 1 3) fun n=>tr x17l
theorem x17n:x1ui call hs u xp5 (j1 (x30 call hs u) 1) eNil=j2 (x47 call hs u NN) 1 3:=bk x17m
theorem x17o:x1ui call hs u xp1 (j1 (x30 call hs u) 1) eNil=j1 (xao call hs u) 1:=tr (sqN 1 x17n)
theorem x17p:x1ui call hs u xi2 r_0 eNil=j1 (xao call hs u) 1:=sq2 x17k x17o
theorem x11g:x1ui call hs u xp0 r_0 eNil=j1 (xfh call hs u) 0:=tr (sqN 4 x17p)
noncomputable abbrev x29j:=VX x9r 13 r_7
noncomputable def x17q:=x1qv x9r
theorem x11h:x29j call hs u x17q r_7 eNil=j1 (xm1 call hs u) 0:=by kernel_rfl
noncomputable abbrev x29k:=VX xx 13 r_8
noncomputable def x17r:=x1qv xx
theorem x11i:x29k call hs u x17r r_8 eNil=j1 (xfi call hs u) 0:=by kernel_rfl
noncomputable abbrev x1uj:=VX x2b 83 r_0
noncomputable def xp7:=x1qv x2b
noncomputable def xi4:=nRs 6 xp7
noncomputable def xp8:=nL xi4
noncomputable def xi5:=nR xi4
noncomputable def xp9:=nL xi5
noncomputable def x17s:=nR xi5
noncomputable def xpa:=nR xp9
noncomputable def xpb:=nR xpa
noncomputable def x17t:=nR xpb
noncomputable def xpc:=nR xp8
noncomputable def xpd:=nR xpc
noncomputable def x17u:=nR xpd
theorem x17v:x1uj call hs u x17s r_0 eNil=j0 (x48 call hs u):=by kernel_rfl
theorem x17w{rec0:AV->AV->Mem->Nat->O2}:x1uj call hs u x17t (j2 rec0 1 7) (setE 2 (j0 (x48 call hs u)) eNil)=j2 (xap call hs u rec0) 1 7:=by kernel_rfl
theorem x17x:x1uj call hs u xpb (j0 (x48 call hs u)) (setE 2 (j0 (x48 call hs u)) eNil)=j2 (x49 call hs u NN) 1 7:=lp (Ln:=fun n=>j2 (x49 call hs u n) 1 7) fun n=>tr x17w
theorem x17y:x1uj call hs u xpa (j0 (x48 call hs u)) eNil=j2 (x49 call hs u NN) 1 7:=bk x17x
theorem x17z:x1uj call hs u xp9 (j0 (x48 call hs u)) eNil=j1 (x31 call hs u) 1:=tr (sqN 1 x17y)
theorem x180:x1uj call hs u xi5 r_0 eNil=j1 (x31 call hs u) 1:=sq2 x17v x17z
theorem x181{rec1:AV->AV->Mem->Nat->O2}:x1uj call hs u x17u (j2 rec1 1 6) (setE 0 (j1 (x31 call hs u) 1) eNil)=j2 (xaq call hs u rec1) 1 6:=by kernel_rfl
theorem x182:x1uj call hs u xpd (j1 (x31 call hs u) 1) (setE 0 (j1 (x31 call hs u) 1) eNil)=j2 (x4a call hs u NN) 1 6:=lp (Ln:=fun n=>j2 (x4a call hs u n) 1 6) fun n=>tr x181
theorem x183:x1uj call hs u xpc (j1 (x31 call hs u) 1) eNil=j2 (x4a call hs u NN) 1 6:=bk x182
theorem x184:x1uj call hs u xp8 (j1 (x31 call hs u) 1) eNil=j1 (xar call hs u) 1:=tr (sqN 1 x183)
theorem x185:x1uj call hs u xi4 r_0 eNil=j1 (xar call hs u) 1:=sq2 x180 x184
theorem x11j:x1uj call hs u xp7 r_0 eNil=j1 (xfj call hs u) 0:=tr (sqN 6 x185)
noncomputable abbrev x1x9:=VX x1t 67 r_0
noncomputable def xpe:=x1qv x1t
noncomputable def xi6:=nRs 6 xpe
noncomputable def xpf:=nL xi6
noncomputable def x186:=nR xi6
noncomputable def xpg:=nR xpf
noncomputable def xph:=nR xpg
noncomputable def x187:=nR xph
theorem x188:x1x9 call hs u x186 r_0 eNil=j0 (x4b call hs u):=by kernel_rfl
theorem x189{rec0:AV->AV->AV->Mem->Nat->O2}:x1x9 call hs u x187 (j3 rec0 57 58 59) (setE 0 (j0 (x4b call hs u)) eNil)=j3 (xas call hs u rec0) 57 58 59:=by kernel_rfl
theorem x18a:x1x9 call hs u xph (j0 (x4b call hs u)) (setE 0 (j0 (x4b call hs u)) eNil)=j3 (x4c call hs u NN) 57 58 59:=lp (Ln:=fun n=>j3 (x4c call hs u n) 57 58 59) fun n=>tr x189
theorem x18b:x1x9 call hs u xpg (j0 (x4b call hs u)) eNil=j3 (x4c call hs u NN) 57 58 59:=bk x18a
theorem x18c:x1x9 call hs u xpf (j0 (x4b call hs u)) eNil=j1 (xat call hs u) 1:=tr (sqN 1 x18b)
theorem x18d:x1x9 call hs u xi6 r_0 eNil=j1 (xat call hs u) 1:=sq2 x188 x18c
theorem x11k:x1x9 call hs u xpe r_0 eNil=j1 (xfk call hs u) 0:=tr (sqN 6 x18d)
noncomputable abbrev x1xa:=VX x7o 38 r_2
noncomputable def xpi:=x1qv x7o
noncomputable def xi7:=nRs 2 xpi
noncomputable def xpj:=nL xi7
noncomputable def x18e:=nR xi7
noncomputable def xpk:=nR xpj
noncomputable def xpl:=nR xpk
noncomputable def x18f:=nR xpl
theorem x18g:x1xa call hs u x18e r_2 eNil=j0 (x62 call hs u):=by kernel_rfl
theorem x18h{rec0:AV->AV->AV->Mem->Nat->O2}:x1xa call hs u x18f (j3 rec0 2 3 5) (setE 0 (j0 (x62 call hs u)) eNil)=j3 (xm2 call hs u rec0) 2 3 5:=by kernel_rfl
theorem x18i:x1xa call hs u xpl (j0 (x62 call hs u)) (setE 0 (j0 (x62 call hs u)) eNil)=j3 (x89 call hs u NN) 2 3 5:=lp (Ln:=fun n=>j3 (x89 call hs u n) 2 3 5) fun n=>tr x18h
theorem x18j:x1xa call hs u xpk (j0 (x62 call hs u)) eNil=j3 (x89 call hs u NN) 2 3 5:=bk x18i
theorem x18k:x1xa call hs u xpj (j0 (x62 call hs u)) eNil=j2 (xfl call hs u) 2 3:=tr (sqN 1 x18j)
theorem x18l:x1xa call hs u xi7 r_2 eNil=j2 (xfl call hs u) 2 3:=sq2 x18g x18k
theorem x11l:x1xa call hs u xpi r_2 eNil=j2 (xm3 call hs u) 0 1:=tr (sqN 2 x18l)
noncomputable abbrev x1rw:=VX x1u 119 r_5
noncomputable def xpm:=x1qv x1u
noncomputable def xi8:=nRs 3 xpm
noncomputable def xpn:=nL xi8
noncomputable def xi9:=nR xi8
noncomputable def xpo:=nL xi9
noncomputable def x18m:=nR xi9
noncomputable def xpp:=nR xpo
noncomputable def xpq:=nR xpp
noncomputable def xpr:=nR xpq
noncomputable def xia:=nR xpr
noncomputable def xps:=nL xia
noncomputable def x18n:=nR xia
noncomputable def xpt:=nR xps
noncomputable def xpu:=nR xpt
noncomputable def xpv:=nR xpu
noncomputable def xpw:=nR xpv
noncomputable def xib:=nR xpw
noncomputable def x18o:=nL xib
noncomputable def x18p:=nR xib
noncomputable def xpx:=nR xpn
noncomputable def xpy:=nR xpx
noncomputable def xpz:=nR xpy
noncomputable def xic:=nR xpz
noncomputable def xq0:=nL xic
noncomputable def x18q:=nR xic
noncomputable def xq1:=nR xq0
noncomputable def xq2:=nR xq1
noncomputable def xq3:=nR xq2
noncomputable def xq4:=nR xq3
noncomputable def xid:=nR xq4
noncomputable def x18r:=nL xid
noncomputable def x18s:=nR xid
theorem x18t:x1rw call hs u x18m r_5 eNil=j2 (xj call hs u) 2 4:=by kernel_rfl
theorem x18u{rec0:AV->AV->AV->AV->AV->Mem->Nat->O2}:x1rw call hs u x18n (j5 rec0 1 2 3 4 9) (setE 4 (j2 (xj call hs u) 2 4) eNil)=j5 (xl call hs u rec0) 1 2 3 4 9:=by kernel_rfl
theorem x18v{rec0:AV->AV->AV->AV->AV->Mem->Nat->O2}{rec1:AV->AV->AV->AV->AV->AV->Mem->Nat->O2}:x1rw call hs u x18p (j6 rec1 1 2 3 4 9 10) (setE 6 (j5 (xl call hs u rec0) 1 2 3 4 9) (setE 5 (j5 (xl call hs u rec0) 1 2 3 4 9) (setE 4 (j2 (xj call hs u) 2 4) eNil)))=j6 (x6u call hs u rec0 rec1) 1 2 3 4 9 10:=by kernel_rfl
theorem x18w{rec0:AV->AV->AV->AV->AV->Mem->Nat->O2}{rec1:AV->AV->AV->AV->AV->AV->Mem->Nat->O2}:x1rw call hs u x18o (j6 (x6u call hs u rec0 rec1) 1 2 3 4 9 10) (setE 6 (j5 (xl call hs u rec0) 1 2 3 4 9) (setE 5 (j5 (xl call hs u rec0) 1 2 3 4 9) (setE 4 (j2 (xj call hs u) 2 4) eNil)))=j6 (x8a call hs u rec0 rec1) 1 2 3 4 9 10:=by kernel_rfl
theorem x18x{rec0:AV->AV->AV->AV->AV->Mem->Nat->O2}{rec1:AV->AV->AV->AV->AV->AV->Mem->Nat->O2}:x1rw call hs u xib (j6 rec1 1 2 3 4 9 10) (setE 6 (j5 (xl call hs u rec0) 1 2 3 4 9) (setE 5 (j5 (xl call hs u rec0) 1 2 3 4 9) (setE 4 (j2 (xj call hs u) 2 4) eNil)))=j6 (x8a call hs u rec0 rec1) 1 2 3 4 9 10:=sq2 x18v x18w
theorem x18y{rec0:AV->AV->AV->AV->AV->Mem->Nat->O2}{rec1:AV->AV->AV->AV->AV->AV->Mem->Nat->O2}:x1rw call hs u xpw (j6 rec1 1 2 3 4 9 10) (setE 6 (j5 (xl call hs u rec0) 1 2 3 4 9) (setE 5 (j5 (xl call hs u rec0) 1 2 3 4 9) (setE 4 (j2 (xj call hs u) 2 4) eNil)))=j6 (x8b call hs u rec0 rec1) 1 2 3 4 9 10:=tr (sqN 1 x18x)
theorem x18z{rec0:AV->AV->AV->AV->AV->Mem->Nat->O2}:x1rw call hs u xpv (j5 (xl call hs u rec0) 1 2 3 4 9) (setE 6 (j5 (xl call hs u rec0) 1 2 3 4 9) (setE 5 (j5 (xl call hs u rec0) 1 2 3 4 9) (setE 4 (j2 (xj call hs u) 2 4) eNil)))=j6 (x1c call hs u rec0 NN) 1 2 3 4 9 10:=lp (Ln:=fun n=>j6 (x1c call hs u rec0 n) 1 2 3 4 9 10) fun n=>tr x18y
theorem x190{rec0:AV->AV->AV->AV->AV->Mem->Nat->O2}:x1rw call hs u xpu (j5 (xl call hs u rec0) 1 2 3 4 9) (setE 5 (j5 (xl call hs u rec0) 1 2 3 4 9) (setE 4 (j2 (xj call hs u) 2 4) eNil))=j6 (x1c call hs u rec0 NN) 1 2 3 4 9 10:=bk x18z
theorem x191{rec0:AV->AV->AV->AV->AV->Mem->Nat->O2}:x1rw call hs u xpt (j5 (xl call hs u rec0) 1 2 3 4 9) (setE 5 (j5 (xl call hs u rec0) 1 2 3 4 9) (setE 4 (j2 (xj call hs u) 2 4) eNil))=j5 (x8c call hs u rec0) 1 2 3 4 9:=tr (sqN 1 x190)
theorem x192{rec0:AV->AV->AV->AV->AV->Mem->Nat->O2}:x1rw call hs u xps (j5 (xl call hs u rec0) 1 2 3 4 9) (setE 4 (j2 (xj call hs u) 2 4) eNil)=j5 (x8c call hs u rec0) 1 2 3 4 9:=bk x191
theorem x193{rec0:AV->AV->AV->AV->AV->Mem->Nat->O2}:x1rw call hs u xia (j5 rec0 1 2 3 4 9) (setE 4 (j2 (xj call hs u) 2 4) eNil)=j5 (x8c call hs u rec0) 1 2 3 4 9:=sq2 x18u x192
theorem x194{rec0:AV->AV->AV->AV->AV->Mem->Nat->O2}:x1rw call hs u xpr (j5 rec0 1 2 3 4 9) (setE 4 (j2 (xj call hs u) 2 4) eNil)=j5 (xav call hs u rec0) 1 2 3 4 9:=tr (sqN 1 x193)
theorem x195:x1rw call hs u xpq (j2 (xj call hs u) 2 4) (setE 4 (j2 (xj call hs u) 2 4) eNil)=j5 (x32 call hs u NN) 1 2 3 4 9:=lp (Ln:=fun n=>j5 (x32 call hs u n) 1 2 3 4 9) fun n=>tr x194
theorem x196:x1rw call hs u xpp (j2 (xj call hs u) 2 4) eNil=j5 (x32 call hs u NN) 1 2 3 4 9:=bk x195
theorem x197:x1rw call hs u xpo (j2 (xj call hs u) 2 4) eNil=j4 (xf call hs u) 1 2 3 4:=tr (sqN 1 x196)
theorem x198:x1rw call hs u xi9 r_5 eNil=j4 (xf call hs u) 1 2 3 4:=sq2 x18t x197
theorem x199{rec2:AV->AV->AV->AV->AV->Mem->Nat->O2}:x1rw call hs u x18q (j5 rec2 1 2 3 4 5) (setE 0 (j4 (xf call hs u) 1 2 3 4) eNil)=j5 (xm call hs u rec2) 1 2 3 4 5:=by kernel_rfl
theorem x19a{rec2:AV->AV->AV->AV->AV->Mem->Nat->O2}{rec3:AV->AV->AV->AV->AV->AV->Mem->Nat->O2}:x1rw call hs u x18s (j6 rec3 1 2 3 4 5 6) (setE 2 (j5 (xm call hs u rec2) 1 2 3 4 5) (setE 1 (j5 (xm call hs u rec2) 1 2 3 4 5) (setE 0 (j4 (xf call hs u) 1 2 3 4) eNil)))=j6 (x6v call hs u rec2 rec3) 1 2 3 4 5 6:=by kernel_rfl
theorem x19b{rec2:AV->AV->AV->AV->AV->Mem->Nat->O2}{rec3:AV->AV->AV->AV->AV->AV->Mem->Nat->O2}:x1rw call hs u x18r (j6 (x6v call hs u rec2 rec3) 1 2 3 4 5 6) (setE 2 (j5 (xm call hs u rec2) 1 2 3 4 5) (setE 1 (j5 (xm call hs u rec2) 1 2 3 4 5) (setE 0 (j4 (xf call hs u) 1 2 3 4) eNil)))=j6 (x8d call hs u rec2 rec3) 1 2 3 4 5 6:=by kernel_rfl
theorem x19c{rec2:AV->AV->AV->AV->AV->Mem->Nat->O2}{rec3:AV->AV->AV->AV->AV->AV->Mem->Nat->O2}:x1rw call hs u xid (j6 rec3 1 2 3 4 5 6) (setE 2 (j5 (xm call hs u rec2) 1 2 3 4 5) (setE 1 (j5 (xm call hs u rec2) 1 2 3 4 5) (setE 0 (j4 (xf call hs u) 1 2 3 4) eNil)))=j6 (x8d call hs u rec2 rec3) 1 2 3 4 5 6:=sq2 x19a x19b
theorem x19d{rec2:AV->AV->AV->AV->AV->Mem->Nat->O2}{rec3:AV->AV->AV->AV->AV->AV->Mem->Nat->O2}:x1rw call hs u xq4 (j6 rec3 1 2 3 4 5 6) (setE 2 (j5 (xm call hs u rec2) 1 2 3 4 5) (setE 1 (j5 (xm call hs u rec2) 1 2 3 4 5) (setE 0 (j4 (xf call hs u) 1 2 3 4) eNil)))=j6 (x8e call hs u rec2 rec3) 1 2 3 4 5 6:=tr (sqN 1 x19c)
theorem x19e{rec2:AV->AV->AV->AV->AV->Mem->Nat->O2}:x1rw call hs u xq3 (j5 (xm call hs u rec2) 1 2 3 4 5) (setE 2 (j5 (xm call hs u rec2) 1 2 3 4 5) (setE 1 (j5 (xm call hs u rec2) 1 2 3 4 5) (setE 0 (j4 (xf call hs u) 1 2 3 4) eNil)))=j6 (x1d call hs u rec2 NN) 1 2 3 4 5 6:=lp (Ln:=fun n=>j6 (x1d call hs u rec2 n) 1 2 3 4 5 6) fun n=>tr x19d
theorem x19f{rec2:AV->AV->AV->AV->AV->Mem->Nat->O2}:x1rw call hs u xq2 (j5 (xm call hs u rec2) 1 2 3 4 5) (setE 1 (j5 (xm call hs u rec2) 1 2 3 4 5) (setE 0 (j4 (xf call hs u) 1 2 3 4) eNil))=j6 (x1d call hs u rec2 NN) 1 2 3 4 5 6:=bk x19e
theorem x19g{rec2:AV->AV->AV->AV->AV->Mem->Nat->O2}:x1rw call hs u xq1 (j5 (xm call hs u rec2) 1 2 3 4 5) (setE 1 (j5 (xm call hs u rec2) 1 2 3 4 5) (setE 0 (j4 (xf call hs u) 1 2 3 4) eNil))=j5 (x8f call hs u rec2) 1 2 3 4 5:=tr (sqN 1 x19f)
theorem x19h{rec2:AV->AV->AV->AV->AV->Mem->Nat->O2}:x1rw call hs u xq0 (j5 (xm call hs u rec2) 1 2 3 4 5) (setE 0 (j4 (xf call hs u) 1 2 3 4) eNil)=j5 (x8f call hs u rec2) 1 2 3 4 5:=bk x19g
theorem x19i{rec2:AV->AV->AV->AV->AV->Mem->Nat->O2}:x1rw call hs u xic (j5 rec2 1 2 3 4 5) (setE 0 (j4 (xf call hs u) 1 2 3 4) eNil)=j5 (x8f call hs u rec2) 1 2 3 4 5:=sq2 x199 x19h
theorem x19j{rec2:AV->AV->AV->AV->AV->Mem->Nat->O2}:x1rw call hs u xpz (j5 rec2 1 2 3 4 5) (setE 0 (j4 (xf call hs u) 1 2 3 4) eNil)=j5 (xaw call hs u rec2) 1 2 3 4 5:=tr (sqN 1 x19i)
theorem x19k:x1rw call hs u xpy (j4 (xf call hs u) 1 2 3 4) (setE 0 (j4 (xf call hs u) 1 2 3 4) eNil)=j5 (x33 call hs u NN) 1 2 3 4 5:=lp (Ln:=fun n=>j5 (x33 call hs u n) 1 2 3 4 5) fun n=>tr x19j
theorem x19l:x1rw call hs u xpx (j4 (xf call hs u) 1 2 3 4) eNil=j5 (x33 call hs u NN) 1 2 3 4 5:=bk x19k
theorem x19m:x1rw call hs u xpn (j4 (xf call hs u) 1 2 3 4) eNil=j4 (xax call hs u) 1 2 3 4:=tr (sqN 1 x19l)
theorem x19n:x1rw call hs u xi8 r_5 eNil=j4 (xax call hs u) 1 2 3 4:=sq2 x198 x19m
theorem x11m:x1rw call hs u xpm r_5 eNil=j1 (xfm call hs u) 0:=tr (sqN 3 x19n)
noncomputable abbrev x29l:=VX x57 66 r_9
noncomputable def x19o:=x1qv x57
theorem x11n:x29l call hs u x19o r_9 eNil=j3 (xm4 call hs u) 0 1 2:=by kernel_rfl
noncomputable abbrev x29m:=VX x9s 16 r_10
noncomputable def x19p:=x1qv x9s
theorem x11o:x29m call hs u x19p r_10 eNil=j1 (xm5 call hs u) 0:=by kernel_rfl
noncomputable abbrev x1xb:=VX x3q 26 r_2
noncomputable def xq5:=x1qv x3q
noncomputable def xie:=nRs 2 xq5
noncomputable def xq6:=nL xie
noncomputable def x19q:=nR xie
noncomputable def xq7:=nR xq6
noncomputable def xq8:=nR xq7
noncomputable def x19r:=nR xq8
theorem x19s:x1xb call hs u x19q r_2 eNil=j0 (x63 call hs u):=by kernel_rfl
theorem x19t{rec0:AV->AV->AV->Mem->Nat->O2}:x1xb call hs u x19r (j3 rec0 0 1 5) (setE 0 (j0 (x63 call hs u)) eNil)=j3 (xm6 call hs u rec0) 0 1 5:=by kernel_rfl
theorem x19u:x1xb call hs u xq8 (j0 (x63 call hs u)) (setE 0 (j0 (x63 call hs u)) eNil)=j3 (x8g call hs u NN) 0 1 5:=lp (Ln:=fun n=>j3 (x8g call hs u n) 0 1 5) fun n=>tr x19t
theorem x19v:x1xb call hs u xq7 (j0 (x63 call hs u)) eNil=j3 (x8g call hs u NN) 0 1 5:=bk x19u
theorem x19w:x1xb call hs u xq6 (j0 (x63 call hs u)) eNil=j2 (xfn call hs u) 0 1:=tr (sqN 1 x19v)
theorem x19x:x1xb call hs u xie r_2 eNil=j2 (xfn call hs u) 0 1:=sq2 x19s x19w
theorem x11p:x1xb call hs u xq5 r_2 eNil=j2 (xm7 call hs u) 0 1:=tr (sqN 2 x19x)
noncomputable abbrev x1sh:=VX x9t 69 r_0
noncomputable def xq9:=x1qv x9t
noncomputable def xif:=nRs 3 xq9
noncomputable def xqa:=nL xif
noncomputable def xig:=nR xif
noncomputable def xqb:=nL xig
noncomputable def x19y:=nR xig
noncomputable def xqc:=nR xqb
noncomputable def xqd:=nR xqc
noncomputable def x19z:=nR xqd
noncomputable def xqe:=nR xqa
noncomputable def xqf:=nR xqe
noncomputable def xqg:=nR xqf
noncomputable def xih:=nR xqg
noncomputable def xqh:=nL xih
noncomputable def x1a0:=nR xih
noncomputable def xqi:=nR xqh
noncomputable def xii:=nR xqi
noncomputable def xqj:=nL xii
noncomputable def x1a1:=nR xii
noncomputable def xqk:=nR xqj
noncomputable def xql:=nR xqk
noncomputable def xqm:=nR xql
noncomputable def xij:=nR xqm
noncomputable def x1a2:=nL xij
noncomputable def x1a3:=nR xij
theorem x1a4:x1sh call hs u x19y r_0 eNil=j1 (x64 call hs u) 4:=by kernel_rfl
theorem x1a5{rec0:AV->AV->AV->Mem->Nat->O2}:x1sh call hs u x19z (j3 rec0 1 4 10) (setE 4 (j1 (x64 call hs u) 4) eNil)=j3 (xm8 call hs u rec0) 1 4 10:=by kernel_rfl
theorem x1a6:x1sh call hs u xqd (j1 (x64 call hs u) 4) (setE 4 (j1 (x64 call hs u) 4) eNil)=j3 (x8h call hs u NN) 1 4 10:=lp (Ln:=fun n=>j3 (x8h call hs u n) 1 4 10) fun n=>tr x1a5
theorem x1a7:x1sh call hs u xqc (j1 (x64 call hs u) 4) eNil=j3 (x8h call hs u NN) 1 4 10:=bk x1a6
theorem x1a8:x1sh call hs u xqb (j1 (x64 call hs u) 4) eNil=j2 (xd call hs u) 1 4:=tr (sqN 1 x1a7)
theorem x1a9:x1sh call hs u xig r_0 eNil=j2 (xd call hs u) 1 4:=sq2 x1a4 x1a8
theorem x1aa{rec1:AV->AV->AV->AV->Mem->Nat->O2}:x1sh call hs u x1a0 (j4 rec1 1 3 4 5) (setE 0 (j2 (xd call hs u) 1 4) eNil)=j4 (x10 call hs u rec1) 1 3 4 5:=by kernel_rfl
theorem x1ab{rec1:AV->AV->AV->AV->Mem->Nat->O2}:x1sh call hs u x1a1 (j4 (x10 call hs u rec1) 1 3 4 5) (setE 1 (j4 (x10 call hs u rec1) 1 3 4 5) (setE 0 (j2 (xd call hs u) 1 4) eNil))=j5 (x2f call hs u rec1) 1 3 4 5 6:=by kernel_rfl
theorem x1ac{rec1:AV->AV->AV->AV->Mem->Nat->O2}{rec2:AV->AV->AV->AV->AV->AV->Mem->Nat->O2}:x1sh call hs u x1a3 (j6 rec2 1 3 4 5 6 7) (setE 2 (j5 (x2f call hs u rec1) 1 3 4 5 6) (setE 1 (j4 (x10 call hs u rec1) 1 3 4 5) (setE 0 (j2 (xd call hs u) 1 4) eNil)))=j6 (xay call hs u rec1 rec2) 1 3 4 5 6 7:=by kernel_rfl
theorem x1ad{rec1:AV->AV->AV->AV->Mem->Nat->O2}{rec2:AV->AV->AV->AV->AV->AV->Mem->Nat->O2}:x1sh call hs u x1a2 (j6 (xay call hs u rec1 rec2) 1 3 4 5 6 7) (setE 2 (j5 (x2f call hs u rec1) 1 3 4 5 6) (setE 1 (j4 (x10 call hs u rec1) 1 3 4 5) (setE 0 (j2 (xd call hs u) 1 4) eNil)))=j6 (xfo call hs u rec1 rec2) 1 3 4 5 6 7:=by kernel_rfl
theorem x1ae{rec1:AV->AV->AV->AV->Mem->Nat->O2}{rec2:AV->AV->AV->AV->AV->AV->Mem->Nat->O2}:x1sh call hs u xij (j6 rec2 1 3 4 5 6 7) (setE 2 (j5 (x2f call hs u rec1) 1 3 4 5 6) (setE 1 (j4 (x10 call hs u rec1) 1 3 4 5) (setE 0 (j2 (xd call hs u) 1 4) eNil)))=j6 (xfo call hs u rec1 rec2) 1 3 4 5 6 7:=sq2 x1ac x1ad
theorem x1af{rec1:AV->AV->AV->AV->Mem->Nat->O2}{rec2:AV->AV->AV->AV->AV->AV->Mem->Nat->O2}:x1sh call hs u xqm (j6 rec2 1 3 4 5 6 7) (setE 2 (j5 (x2f call hs u rec1) 1 3 4 5 6) (setE 1 (j4 (x10 call hs u rec1) 1 3 4 5) (setE 0 (j2 (xd call hs u) 1 4) eNil)))=j6 (xm9 call hs u rec1 rec2) 1 3 4 5 6 7:=tr (sqN 1 x1ae)
theorem x1ag{rec1:AV->AV->AV->AV->Mem->Nat->O2}:x1sh call hs u xql (j5 (x2f call hs u rec1) 1 3 4 5 6) (setE 2 (j5 (x2f call hs u rec1) 1 3 4 5 6) (setE 1 (j4 (x10 call hs u rec1) 1 3 4 5) (setE 0 (j2 (xd call hs u) 1 4) eNil)))=j6 (x8i call hs u rec1 NN) 1 3 4 5 6 7:=lp (Ln:=fun n=>j6 (x8i call hs u rec1 n) 1 3 4 5 6 7) fun n=>tr x1af
theorem x1ah{rec1:AV->AV->AV->AV->Mem->Nat->O2}:x1sh call hs u xqk (j5 (x2f call hs u rec1) 1 3 4 5 6) (setE 1 (j4 (x10 call hs u rec1) 1 3 4 5) (setE 0 (j2 (xd call hs u) 1 4) eNil))=j6 (x8i call hs u rec1 NN) 1 3 4 5 6 7:=bk x1ag
theorem x1ai{rec1:AV->AV->AV->AV->Mem->Nat->O2}:x1sh call hs u xqj (j5 (x2f call hs u rec1) 1 3 4 5 6) (setE 1 (j4 (x10 call hs u rec1) 1 3 4 5) (setE 0 (j2 (xd call hs u) 1 4) eNil))=j5 (xfp call hs u rec1) 1 3 4 5 6:=tr (sqN 1 x1ah)
theorem x1aj{rec1:AV->AV->AV->AV->Mem->Nat->O2}:x1sh call hs u xii (j4 (x10 call hs u rec1) 1 3 4 5) (setE 1 (j4 (x10 call hs u rec1) 1 3 4 5) (setE 0 (j2 (xd call hs u) 1 4) eNil))=j5 (xfp call hs u rec1) 1 3 4 5 6:=sq2 x1ab x1ai
theorem x1ak{rec1:AV->AV->AV->AV->Mem->Nat->O2}:x1sh call hs u xqi (j4 (x10 call hs u rec1) 1 3 4 5) (setE 1 (j4 (x10 call hs u rec1) 1 3 4 5) (setE 0 (j2 (xd call hs u) 1 4) eNil))=j4 (xaz call hs u rec1) 1 3 4 5:=tr (sqN 1 x1aj)
theorem x1al{rec1:AV->AV->AV->AV->Mem->Nat->O2}:x1sh call hs u xqh (j4 (x10 call hs u rec1) 1 3 4 5) (setE 0 (j2 (xd call hs u) 1 4) eNil)=j4 (xaz call hs u rec1) 1 3 4 5:=bk x1ak
theorem x1am{rec1:AV->AV->AV->AV->Mem->Nat->O2}:x1sh call hs u xih (j4 rec1 1 3 4 5) (setE 0 (j2 (xd call hs u) 1 4) eNil)=j4 (xaz call hs u rec1) 1 3 4 5:=sq2 x1aa x1al
theorem x1an{rec1:AV->AV->AV->AV->Mem->Nat->O2}:x1sh call hs u xqg (j4 rec1 1 3 4 5) (setE 0 (j2 (xd call hs u) 1 4) eNil)=j4 (xma call hs u rec1) 1 3 4 5:=tr (sqN 1 x1am)
theorem x1ao:x1sh call hs u xqf (j2 (xd call hs u) 1 4) (setE 0 (j2 (xd call hs u) 1 4) eNil)=j4 (x8j call hs u NN) 1 3 4 5:=lp (Ln:=fun n=>j4 (x8j call hs u n) 1 3 4 5) fun n=>tr x1an
theorem x1ap:x1sh call hs u xqe (j2 (xd call hs u) 1 4) eNil=j4 (x8j call hs u NN) 1 3 4 5:=bk x1ao
theorem x1aq:x1sh call hs u xqa (j2 (xd call hs u) 1 4) eNil=j3 (xfq call hs u) 1 3 4:=tr (sqN 1 x1ap)
theorem x1ar:x1sh call hs u xif r_0 eNil=j3 (xfq call hs u) 1 3 4:=sq2 x1a9 x1aq
theorem x11q:x1sh call hs u xq9 r_0 eNil=j1 (xmb call hs u) 0:=tr (sqN 3 x1ar)
noncomputable abbrev x29n:=VX x7 15 r_1
noncomputable def x1as:=x1qv x7
theorem x11r:x29n call hs u x1as r_1 eNil=j3 (xfr call hs u) 0 1 2:=by kernel_rfl
noncomputable abbrev x29o:=VX x2w 37 r_11
noncomputable def x1at:=x1qv x2w
theorem x11s:x29o call hs u x1at r_11 eNil=j4 (xfs call hs u) 0 1 2 3:=by kernel_rfl
noncomputable abbrev x20x:=VX x2c 20 r_0
noncomputable def xqn:=x1qv x2c
noncomputable def xqo:=nRs 2 xqn
noncomputable def xqp:=nR xqo
noncomputable def x1au:=nR xqp
theorem x1av{rec0:AV->AV->Mem->Nat->O2}:x20x call hs u x1au (j2 rec0 1 3) (setE 0 r_0 eNil)=j2 (x4d call hs u rec0) 1 3:=by kernel_rfl
theorem x1aw:x20x call hs u xqp r_0 (setE 0 r_0 eNil)=j2 (x1e call hs u NN) 1 3:=lp (Ln:=fun n=>j2 (x1e call hs u n) 1 3) fun n=>tr x1av
theorem x1ax:x20x call hs u xqo r_0 eNil=j2 (x1e call hs u NN) 1 3:=bk x1aw
theorem x11t:x20x call hs u xqn r_0 eNil=j1 (xft call hs u) 0:=tr (sqN 2 x1ax)
noncomputable abbrev x29p:=VX x58 29 r_6
noncomputable def x1ay:=x1qv x58
theorem x11u:x29p call hs u x1ay r_6 eNil=j2 (xmc call hs u) 0 1:=by kernel_rfl
noncomputable abbrev x29q:=VX xi 6 r_0
noncomputable def x1az:=x1qv xi
theorem x11v:x29q call hs u x1az r_0 eNil=j1 (x8k call hs u) 0:=by kernel_rfl
noncomputable abbrev x29r:=VX x7q 10 r_0
noncomputable def x1b0:=x1qv x7q
theorem x11w:x29r call hs u x1b0 r_0 eNil=j1 (xmd call hs u) 0:=by kernel_rfl
noncomputable abbrev x1vb:=VX x3r 72 r_12
noncomputable def xqq:=x1qv x3r
noncomputable def xik:=nRs 5 xqq
noncomputable def xqr:=nL xik
noncomputable def x1b1:=nR xik
noncomputable def xqs:=nR xqr
noncomputable def xqt:=nR xqs
noncomputable def xqu:=nR xqt
noncomputable def xil:=nRs 2 xqu
noncomputable def x1b2:=nL xil
noncomputable def x1b3:=nR xil
theorem x1b4:x1vb call hs u x1b1 r_12 eNil=j4 (x1k call hs u) 2 7 8 9:=by kernel_rfl
theorem x1b5{rec0:AV->AV->AV->AV->AV->AV->AV->Mem->Nat->O2}:x1vb call hs u x1b3 (j7 rec0 2 7 8 9 37 38 39) (setE 0 (j4 (x1k call hs u) 2 7 8 9) eNil)=j7 (x6w call hs u rec0) 2 7 8 9 37 38 39:=by kernel_rfl
theorem x1b6{rec0:AV->AV->AV->AV->AV->AV->AV->Mem->Nat->O2}:x1vb call hs u x1b2 (j7 (x6w call hs u rec0) 2 7 8 9 37 38 39) (setE 0 (j4 (x1k call hs u) 2 7 8 9) eNil)=j7 (x8l call hs u rec0) 2 7 8 9 37 38 39:=by kernel_rfl
theorem x1b7{rec0:AV->AV->AV->AV->AV->AV->AV->Mem->Nat->O2}:x1vb call hs u xil (j7 rec0 2 7 8 9 37 38 39) (setE 0 (j4 (x1k call hs u) 2 7 8 9) eNil)=j7 (x8l call hs u rec0) 2 7 8 9 37 38 39:=sq2 x1b5 x1b6
theorem x1b8{rec0:AV->AV->AV->AV->AV->AV->AV->Mem->Nat->O2}:x1vb call hs u xqu (j7 rec0 2 7 8 9 37 38 39) (setE 0 (j4 (x1k call hs u) 2 7 8 9) eNil)=j7 (x8m call hs u rec0) 2 7 8 9 37 38 39:=tr (sqN 2 x1b7)
theorem x1b9:x1vb call hs u xqt (j4 (x1k call hs u) 2 7 8 9) (setE 0 (j4 (x1k call hs u) 2 7 8 9) eNil)=j7 (x2g call hs u NN) 2 7 8 9 37 38 39:=lp (Ln:=fun n=>j7 (x2g call hs u n) 2 7 8 9 37 38 39) fun n=>tr x1b8
theorem x1ba:x1vb call hs u xqs (j4 (x1k call hs u) 2 7 8 9) eNil=j7 (x2g call hs u NN) 2 7 8 9 37 38 39:=bk x1b9
theorem x1bb:x1vb call hs u xqr (j4 (x1k call hs u) 2 7 8 9) eNil=j4 (xb0 call hs u) 2 7 8 9:=tr (sqN 1 x1ba)
theorem x1bc:x1vb call hs u xik r_12 eNil=j4 (xb0 call hs u) 2 7 8 9:=sq2 x1b4 x1bb
theorem x11x:x1vb call hs u xqq r_12 eNil=j1 (xb1 call hs u) 0:=tr (sqN 5 x1bc)
noncomputable abbrev x29s:=VX x9u 24 r_2
noncomputable def x1bd:=x1qv x9u
theorem x11y:x29s call hs u x1bd r_2 eNil=j2 (xme call hs u) 0 1:=by kernel_rfl
noncomputable abbrev x29t:=VX x9v 21 r_6
noncomputable def x1be:=x1qv x9v
theorem x11z:x29t call hs u x1be r_6 eNil=j2 (xmf call hs u) 0 1:=by kernel_rfl
noncomputable abbrev x29u:=VX x9w 19 r_6
noncomputable def x1bf:=x1qv x9w
theorem x120:x29u call hs u x1bf r_6 eNil=j2 (xmg call hs u) 0 1:=by kernel_rfl
noncomputable abbrev x29v:=VX x6l 21 r_6
noncomputable def x1bg:=x1qv x6l
theorem x121:x29v call hs u x1bg r_6 eNil=j2 (xmh call hs u) 0 1:=by kernel_rfl
noncomputable abbrev x1tx:=VX x9x 101 r_6
noncomputable def xqv:=x1qv x9x
noncomputable def xim:=nRs 4 xqv
noncomputable def xqw:=nL xim
noncomputable def x1bh:=nR xim
noncomputable def xqx:=nR xqw
noncomputable def xqy:=nR xqx
noncomputable def xqz:=nR xqy
noncomputable def xin:=nRs 2 xqz
noncomputable def xr0:=nL xin
noncomputable def x1bi:=nR xin
noncomputable def xr1:=nR xr0
noncomputable def xio:=nRs 3 xr1
noncomputable def x1bj:=nL xio
noncomputable def x1bk:=nR xio
theorem x1bl:x1tx call hs u x1bh r_6 eNil=j1 (x19 call hs u) 7:=by kernel_rfl
theorem x1bm{rec0:AV->AV->AV->AV->AV->AV->Mem->Nat->O2}:x1tx call hs u x1bi (j6 rec0 1 2 7 21 22 23) (setE 0 (j1 (x19 call hs u) 7) eNil)=j6 (x1y call hs u rec0) 1 2 7 21 22 23:=by kernel_rfl
theorem x1bn{rec0:AV->AV->AV->AV->AV->AV->Mem->Nat->O2}:x1tx call hs u x1bk (j6 (x1y call hs u rec0) 1 2 7 21 22 23) (setE 1 (j6 (x1y call hs u rec0) 1 2 7 21 22 23) (setE 0 (j1 (x19 call hs u) 7) eNil))=j10 (xb2 call hs u rec0) 1 2 7 8 10 11 12 21 22 23:=by kernel_rfl
theorem x1bo{rec0:AV->AV->AV->AV->AV->AV->Mem->Nat->O2}:x1tx call hs u x1bj (j10 (xb2 call hs u rec0) 1 2 7 8 10 11 12 21 22 23) (setE 1 (j6 (x1y call hs u rec0) 1 2 7 21 22 23) (setE 0 (j1 (x19 call hs u) 7) eNil))=j10 (xfu call hs u rec0) 1 2 7 8 10 11 12 21 22 23:=by kernel_rfl
theorem x1bp{rec0:AV->AV->AV->AV->AV->AV->Mem->Nat->O2}:x1tx call hs u xio (j6 (x1y call hs u rec0) 1 2 7 21 22 23) (setE 1 (j6 (x1y call hs u rec0) 1 2 7 21 22 23) (setE 0 (j1 (x19 call hs u) 7) eNil))=j10 (xfu call hs u rec0) 1 2 7 8 10 11 12 21 22 23:=sq2 x1bn x1bo
theorem x1bq{rec0:AV->AV->AV->AV->AV->AV->Mem->Nat->O2}:x1tx call hs u xr1 (j6 (x1y call hs u rec0) 1 2 7 21 22 23) (setE 1 (j6 (x1y call hs u rec0) 1 2 7 21 22 23) (setE 0 (j1 (x19 call hs u) 7) eNil))=j6 (xb3 call hs u rec0) 1 2 7 21 22 23:=tr (sqN 3 x1bp)
theorem x1br{rec0:AV->AV->AV->AV->AV->AV->Mem->Nat->O2}:x1tx call hs u xr0 (j6 (x1y call hs u rec0) 1 2 7 21 22 23) (setE 0 (j1 (x19 call hs u) 7) eNil)=j6 (xb3 call hs u rec0) 1 2 7 21 22 23:=bk x1bq
theorem x1bs{rec0:AV->AV->AV->AV->AV->AV->Mem->Nat->O2}:x1tx call hs u xin (j6 rec0 1 2 7 21 22 23) (setE 0 (j1 (x19 call hs u) 7) eNil)=j6 (xb3 call hs u rec0) 1 2 7 21 22 23:=sq2 x1bm x1br
theorem x1bt{rec0:AV->AV->AV->AV->AV->AV->Mem->Nat->O2}:x1tx call hs u xqz (j6 rec0 1 2 7 21 22 23) (setE 0 (j1 (x19 call hs u) 7) eNil)=j6 (xmi call hs u rec0) 1 2 7 21 22 23:=tr (sqN 2 x1bs)
theorem x1bu:x1tx call hs u xqy (j1 (x19 call hs u) 7) (setE 0 (j1 (x19 call hs u) 7) eNil)=j6 (x8n call hs u NN) 1 2 7 21 22 23:=lp (Ln:=fun n=>j6 (x8n call hs u n) 1 2 7 21 22 23) fun n=>tr x1bt
theorem x1bv:x1tx call hs u xqx (j1 (x19 call hs u) 7) eNil=j6 (x8n call hs u NN) 1 2 7 21 22 23:=bk x1bu
theorem x1bw:x1tx call hs u xqw (j1 (x19 call hs u) 7) eNil=j3 (xfv call hs u) 1 2 7:=tr (sqN 1 x1bv)
theorem x1bx:x1tx call hs u xim r_6 eNil=j3 (xfv call hs u) 1 2 7:=sq2 x1bl x1bw
theorem x122:x1tx call hs u xqv r_6 eNil=j2 (xmj call hs u) 0 1:=tr (sqN 4 x1bx)
noncomputable abbrev x29w:=VX x1v 11 r_13
noncomputable def x1by:=x1qv x1v
theorem x123:x29w call hs u x1by r_13 eNil=j1 (xfw call hs u) 0:=by kernel_rfl
noncomputable abbrev x29x:=VX x9y 18 r_0
noncomputable def x1bz:=x1qv x9y
theorem x124:x29x call hs u x1bz r_0 eNil=j1 (xmk call hs u) 0:=by kernel_rfl
noncomputable abbrev x1vc:=VX x9z 77 r_6
noncomputable def xr2:=x1qv x9z
noncomputable def xip:=nRs 3 xr2
noncomputable def xr3:=nL xip
noncomputable def x1c0:=nR xip
noncomputable def xr4:=nR xr3
noncomputable def xr5:=nR xr4
noncomputable def xr6:=nR xr5
noncomputable def xiq:=nR xr6
noncomputable def x1c1:=nL xiq
noncomputable def x1c2:=nR xiq
theorem x1c3:x1vc call hs u x1c0 r_6 eNil=j1 (x2h call hs u) 6:=by kernel_rfl
theorem x1c4{rec0:AV->AV->AV->AV->Mem->Nat->O2}:x1vc call hs u x1c2 (j4 rec0 1 2 6 7) (setE 0 (j1 (x2h call hs u) 6) eNil)=j4 (xb4 call hs u rec0) 1 2 6 7:=by kernel_rfl
theorem x1c5{rec0:AV->AV->AV->AV->Mem->Nat->O2}:x1vc call hs u x1c1 (j4 (xb4 call hs u rec0) 1 2 6 7) (setE 0 (j1 (x2h call hs u) 6) eNil)=j4 (xfx call hs u rec0) 1 2 6 7:=by kernel_rfl
theorem x1c6{rec0:AV->AV->AV->AV->Mem->Nat->O2}:x1vc call hs u xiq (j4 rec0 1 2 6 7) (setE 0 (j1 (x2h call hs u) 6) eNil)=j4 (xfx call hs u rec0) 1 2 6 7:=sq2 x1c4 x1c5
theorem x1c7{rec0:AV->AV->AV->AV->Mem->Nat->O2}:x1vc call hs u xr6 (j4 rec0 1 2 6 7) (setE 0 (j1 (x2h call hs u) 6) eNil)=j4 (xml call hs u rec0) 1 2 6 7:=tr (sqN 1 x1c6)
theorem x1c8:x1vc call hs u xr5 (j1 (x2h call hs u) 6) (setE 0 (j1 (x2h call hs u) 6) eNil)=j4 (x8o call hs u NN) 1 2 6 7:=lp (Ln:=fun n=>j4 (x8o call hs u n) 1 2 6 7) fun n=>tr x1c7
theorem x1c9:x1vc call hs u xr4 (j1 (x2h call hs u) 6) eNil=j4 (x8o call hs u NN) 1 2 6 7:=bk x1c8
theorem x1ca:x1vc call hs u xr3 (j1 (x2h call hs u) 6) eNil=j3 (xfy call hs u) 1 2 6:=tr (sqN 1 x1c9)
theorem x1cb:x1vc call hs u xip r_6 eNil=j3 (xfy call hs u) 1 2 6:=sq2 x1c3 x1ca
theorem x125:x1vc call hs u xr2 r_6 eNil=j2 (xmm call hs u) 0 1:=tr (sqN 3 x1cb)
noncomputable abbrev x29y:=VX x59 22 r_6
noncomputable def x1cc:=x1qv x59
theorem x126:x29y call hs u x1cc r_6 eNil=j2 (xfz call hs u) 0 1:=by kernel_rfl
noncomputable abbrev x29z:=VX x2x 22 r_6
noncomputable def x1cd:=x1qv x2x
theorem x127:x29z call hs u x1cd r_6 eNil=j2 (xg0 call hs u) 0 1:=by kernel_rfl
noncomputable abbrev x1vd:=VX x7r 78 r_6
noncomputable def xr7:=x1qv x7r
noncomputable def xir:=nRs 3 xr7
noncomputable def xr8:=nL xir
noncomputable def x1ce:=nR xir
noncomputable def xr9:=nR xr8
noncomputable def xra:=nR xr9
noncomputable def xrb:=nR xra
noncomputable def xis:=nR xrb
noncomputable def x1cf:=nL xis
noncomputable def x1cg:=nR xis
theorem x1ch:x1vd call hs u x1ce r_6 eNil=j1 (x2i call hs u) 6:=by kernel_rfl
theorem x1ci{rec0:AV->AV->AV->AV->Mem->Nat->O2}:x1vd call hs u x1cg (j4 rec0 2 3 6 7) (setE 0 (j1 (x2i call hs u) 6) eNil)=j4 (xb5 call hs u rec0) 2 3 6 7:=by kernel_rfl
theorem x1cj{rec0:AV->AV->AV->AV->Mem->Nat->O2}:x1vd call hs u x1cf (j4 (xb5 call hs u rec0) 2 3 6 7) (setE 0 (j1 (x2i call hs u) 6) eNil)=j4 (xg1 call hs u rec0) 2 3 6 7:=by kernel_rfl
theorem x1ck{rec0:AV->AV->AV->AV->Mem->Nat->O2}:x1vd call hs u xis (j4 rec0 2 3 6 7) (setE 0 (j1 (x2i call hs u) 6) eNil)=j4 (xg1 call hs u rec0) 2 3 6 7:=sq2 x1ci x1cj
theorem x1cl{rec0:AV->AV->AV->AV->Mem->Nat->O2}:x1vd call hs u xrb (j4 rec0 2 3 6 7) (setE 0 (j1 (x2i call hs u) 6) eNil)=j4 (xmn call hs u rec0) 2 3 6 7:=tr (sqN 1 x1ck)
theorem x1cm:x1vd call hs u xra (j1 (x2i call hs u) 6) (setE 0 (j1 (x2i call hs u) 6) eNil)=j4 (x8p call hs u NN) 2 3 6 7:=lp (Ln:=fun n=>j4 (x8p call hs u n) 2 3 6 7) fun n=>tr x1cl
theorem x1cn:x1vd call hs u xr9 (j1 (x2i call hs u) 6) eNil=j4 (x8p call hs u NN) 2 3 6 7:=bk x1cm
theorem x1co:x1vd call hs u xr8 (j1 (x2i call hs u) 6) eNil=j3 (xg2 call hs u) 2 3 6:=tr (sqN 1 x1cn)
theorem x1cp:x1vd call hs u xir r_6 eNil=j3 (xg2 call hs u) 2 3 6:=sq2 x1ch x1co
theorem x128:x1vd call hs u xr7 r_6 eNil=j2 (xmo call hs u) 0 1:=tr (sqN 3 x1cp)
noncomputable abbrev x1xc:=VX x6m 32 r_2
noncomputable def xrc:=x1qv x6m
noncomputable def xit:=nRs 2 xrc
noncomputable def xrd:=nL xit
noncomputable def x1cq:=nR xit
noncomputable def xre:=nR xrd
noncomputable def xrf:=nR xre
noncomputable def x1cr:=nR xrf
theorem x1cs:x1xc call hs u x1cq r_2 eNil=j1 (x65 call hs u) 5:=by kernel_rfl
theorem x1ct{rec0:AV->AV->AV->AV->Mem->Nat->O2}:x1xc call hs u x1cr (j4 rec0 1 2 5 6) (setE 0 (j1 (x65 call hs u) 5) eNil)=j4 (xmp call hs u rec0) 1 2 5 6:=by kernel_rfl
theorem x1cu:x1xc call hs u xrf (j1 (x65 call hs u) 5) (setE 0 (j1 (x65 call hs u) 5) eNil)=j4 (x8q call hs u NN) 1 2 5 6:=lp (Ln:=fun n=>j4 (x8q call hs u n) 1 2 5 6) fun n=>tr x1ct
theorem x1cv:x1xc call hs u xre (j1 (x65 call hs u) 5) eNil=j4 (x8q call hs u NN) 1 2 5 6:=bk x1cu
theorem x1cw:x1xc call hs u xrd (j1 (x65 call hs u) 5) eNil=j3 (xg3 call hs u) 1 2 5:=tr (sqN 1 x1cv)
theorem x1cx:x1xc call hs u xit r_2 eNil=j3 (xg3 call hs u) 1 2 5:=sq2 x1cs x1cw
theorem x129:x1xc call hs u xrc r_2 eNil=j2 (xmq call hs u) 0 1:=tr (sqN 2 x1cx)
noncomputable abbrev x1xd:=VX x3s 26 r_2
noncomputable def xrg:=x1qv x3s
noncomputable def xiu:=nRs 2 xrg
noncomputable def xrh:=nL xiu
noncomputable def x1cy:=nR xiu
noncomputable def xri:=nR xrh
noncomputable def xrj:=nR xri
noncomputable def x1cz:=nR xrj
theorem x1d0:x1xd call hs u x1cy r_2 eNil=j0 (x4e call hs u):=by kernel_rfl
theorem x1d1{rec0:AV->AV->AV->Mem->Nat->O2}:x1xd call hs u x1cz (j3 rec0 0 1 5) (setE 0 (j0 (x4e call hs u)) eNil)=j3 (xb7 call hs u rec0) 0 1 5:=by kernel_rfl
theorem x1d2:x1xd call hs u xrj (j0 (x4e call hs u)) (setE 0 (j0 (x4e call hs u)) eNil)=j3 (x4f call hs u NN) 0 1 5:=lp (Ln:=fun n=>j3 (x4f call hs u n) 0 1 5) fun n=>tr x1d1
theorem x1d3:x1xd call hs u xri (j0 (x4e call hs u)) eNil=j3 (x4f call hs u NN) 0 1 5:=bk x1d2
theorem x1d4:x1xd call hs u xrh (j0 (x4e call hs u)) eNil=j2 (xb8 call hs u) 0 1:=tr (sqN 1 x1d3)
theorem x1d5:x1xd call hs u xiu r_2 eNil=j2 (xb8 call hs u) 0 1:=sq2 x1d0 x1d4
theorem x12a:x1xd call hs u xrg r_2 eNil=j2 (xg4 call hs u) 0 1:=tr (sqN 2 x1d5)
noncomputable abbrev x1ve:=VX xa0 39 r_2
noncomputable def xrk:=x1qv xa0
noncomputable def xiv:=nRs 2 xrk
noncomputable def xrl:=nL xiv
noncomputable def x1d6:=nR xiv
noncomputable def xrm:=nR xrl
noncomputable def xrn:=nR xrm
noncomputable def xro:=nR xrn
noncomputable def xiw:=nR xro
noncomputable def x1d7:=nL xiw
noncomputable def x1d8:=nR xiw
theorem x1d9:x1ve call hs u x1d6 r_2 eNil=j1 (x2j call hs u) 5:=by kernel_rfl
theorem x1da{rec0:AV->AV->AV->AV->Mem->Nat->O2}:x1ve call hs u x1d8 (j4 rec0 1 2 5 6) (setE 0 (j1 (x2j call hs u) 5) eNil)=j4 (xb9 call hs u rec0) 1 2 5 6:=by kernel_rfl
theorem x1db{rec0:AV->AV->AV->AV->Mem->Nat->O2}:x1ve call hs u x1d7 (j4 (xb9 call hs u rec0) 1 2 5 6) (setE 0 (j1 (x2j call hs u) 5) eNil)=j4 (xg5 call hs u rec0) 1 2 5 6:=by kernel_rfl
theorem x1dc{rec0:AV->AV->AV->AV->Mem->Nat->O2}:x1ve call hs u xiw (j4 rec0 1 2 5 6) (setE 0 (j1 (x2j call hs u) 5) eNil)=j4 (xg5 call hs u rec0) 1 2 5 6:=sq2 x1da x1db
theorem x1dd{rec0:AV->AV->AV->AV->Mem->Nat->O2}:x1ve call hs u xro (j4 rec0 1 2 5 6) (setE 0 (j1 (x2j call hs u) 5) eNil)=j4 (xmr call hs u rec0) 1 2 5 6:=tr (sqN 1 x1dc)
theorem x1de:x1ve call hs u xrn (j1 (x2j call hs u) 5) (setE 0 (j1 (x2j call hs u) 5) eNil)=j4 (x8r call hs u NN) 1 2 5 6:=lp (Ln:=fun n=>j4 (x8r call hs u n) 1 2 5 6) fun n=>tr x1dd
theorem x1df:x1ve call hs u xrm (j1 (x2j call hs u) 5) eNil=j4 (x8r call hs u NN) 1 2 5 6:=bk x1de
theorem x1dg:x1ve call hs u xrl (j1 (x2j call hs u) 5) eNil=j3 (xg6 call hs u) 1 2 5:=tr (sqN 1 x1df)
theorem x1dh:x1ve call hs u xiv r_2 eNil=j3 (xg6 call hs u) 1 2 5:=sq2 x1d9 x1dg
theorem x12b:x1ve call hs u xrk r_2 eNil=j2 (xms call hs u) 0 1:=tr (sqN 2 x1dh)
noncomputable abbrev x2a0:=VX x3t 20 r_10
noncomputable def x1di:=x1qv x3t
theorem x12c:x2a0 call hs u x1di r_10 eNil=j1 (xba call hs u) 0:=by kernel_rfl
noncomputable abbrev x1vf:=VX x6n 51 r_0
noncomputable def xrp:=x1qv x6n
noncomputable def xix:=nRs 3 xrp
noncomputable def xrq:=nL xix
noncomputable def x1dj:=nR xix
noncomputable def xrr:=nR xrq
noncomputable def xrs:=nR xrr
noncomputable def xrt:=nR xrs
noncomputable def xiy:=nR xrt
noncomputable def x1dk:=nL xiy
noncomputable def x1dl:=nR xiy
theorem x1dm:x1vf call hs u x1dj r_0 eNil=j1 (x1z call hs u) 4:=by kernel_rfl
theorem x1dn{rec0:AV->AV->AV->AV->Mem->Nat->O2}:x1vf call hs u x1dl (j4 rec0 1 3 4 5) (setE 0 (j1 (x1z call hs u) 4) eNil)=j4 (x8s call hs u rec0) 1 3 4 5:=by kernel_rfl
theorem x1do{rec0:AV->AV->AV->AV->Mem->Nat->O2}:x1vf call hs u x1dk (j4 (x8s call hs u rec0) 1 3 4 5) (setE 0 (j1 (x1z call hs u) 4) eNil)=j4 (xbb call hs u rec0) 1 3 4 5:=by kernel_rfl
theorem x1dp{rec0:AV->AV->AV->AV->Mem->Nat->O2}:x1vf call hs u xiy (j4 rec0 1 3 4 5) (setE 0 (j1 (x1z call hs u) 4) eNil)=j4 (xbb call hs u rec0) 1 3 4 5:=sq2 x1dn x1do
theorem x1dq{rec0:AV->AV->AV->AV->Mem->Nat->O2}:x1vf call hs u xrt (j4 rec0 1 3 4 5) (setE 0 (j1 (x1z call hs u) 4) eNil)=j4 (x8t call hs u rec0) 1 3 4 5:=tr (sqN 1 x1dp)
theorem x1dr:x1vf call hs u xrs (j1 (x1z call hs u) 4) (setE 0 (j1 (x1z call hs u) 4) eNil)=j4 (x1f call hs u NN) 1 3 4 5:=lp (Ln:=fun n=>j4 (x1f call hs u n) 1 3 4 5) fun n=>tr x1dq
theorem x1ds:x1vf call hs u xrr (j1 (x1z call hs u) 4) eNil=j4 (x1f call hs u NN) 1 3 4 5:=bk x1dr
theorem x1dt:x1vf call hs u xrq (j1 (x1z call hs u) 4) eNil=j3 (xbc call hs u) 1 3 4:=tr (sqN 1 x1ds)
theorem x1du:x1vf call hs u xix r_0 eNil=j3 (xbc call hs u) 1 3 4:=sq2 x1dm x1dt
theorem x12d:x1vf call hs u xrp r_0 eNil=j1 (xg7 call hs u) 0:=tr (sqN 3 x1du)
noncomputable abbrev x2a1:=VX x7s 9 r_5
noncomputable def x1dv:=x1qv x7s
theorem x12e:x2a1 call hs u x1dv r_5 eNil=j1 (xmt call hs u) 0:=by kernel_rfl
noncomputable abbrev x20y:=VX x7t 20 r_8
noncomputable def xru:=x1qv x7t
noncomputable def xiz:=nRs 2 xru
noncomputable def x1dw:=nL xiz
noncomputable def x1dx:=nR xiz
theorem x1dy:x20y call hs u x1dx r_8 eNil=j2 (xbd call hs u) 2 3:=by kernel_rfl
theorem x1dz:x20y call hs u x1dw (j2 (xbd call hs u) 2 3) eNil=j3 (xg8 call hs u) 0 2 3:=by kernel_rfl
theorem x1e0:x20y call hs u xiz r_8 eNil=j3 (xg8 call hs u) 0 2 3:=sq2 x1dy x1dz
theorem x12f:x20y call hs u xru r_8 eNil=j1 (xmu call hs u) 0:=tr (sqN 2 x1e0)
noncomputable abbrev x2a2:=VX x5a 7 r_0
noncomputable def x1e1:=x1qv x5a
theorem x12g:x2a2 call hs u x1e1 r_0 eNil=j1 (xmv call hs u) 0:=by kernel_rfl
noncomputable abbrev x2a3:=VX x3u 14 r_14
noncomputable def x1e2:=x1qv x3u
theorem x12h:x2a3 call hs u x1e2 r_14 eNil=j1 (xmw call hs u) 0:=by kernel_rfl
noncomputable abbrev x1sw:=VX x1w 64 r_0
noncomputable def xrv:=x1qv x1w
noncomputable def xj0:=nRs 2 xrv
noncomputable def xrw:=nL xj0
noncomputable def xrx:=nR xj0
noncomputable def xj1:=nRs 2 xrx
noncomputable def xry:=nL xj1
noncomputable def x1e3:=nR xj1
noncomputable def xrz:=nR xry
noncomputable def xs0:=nR xrz
noncomputable def xs1:=nR xs0
noncomputable def xj2:=nRs 2 xs1
noncomputable def xs2:=nL xj2
noncomputable def x1e4:=nR xj2
noncomputable def xs3:=nR xs2
noncomputable def xj3:=nR xs3
noncomputable def x1e5:=nL xj3
noncomputable def x1e6:=nR xj3
noncomputable def xs4:=nR xrw
noncomputable def x1e7:=nR xs4
theorem x1e8:x1sw call hs u x1e3 r_0 eNil=j1 (x14 call hs u) 3:=by kernel_rfl
theorem x1e9{rec0:AV->AV->AV->AV->AV->Mem->Nat->O2}:x1sw call hs u x1e4 (j5 rec0 3 6 26 27 28) (setE 2 (j1 (x14 call hs u) 3) eNil)=j5 (x20 call hs u rec0) 3 6 26 27 28:=by kernel_rfl
theorem x1ea{rec0:AV->AV->AV->AV->AV->Mem->Nat->O2}:x1sw call hs u x1e6 (j5 (x20 call hs u rec0) 3 6 26 27 28) (setE 3 (j5 (x20 call hs u rec0) 3 6 26 27 28) (setE 2 (j1 (x14 call hs u) 3) eNil))=j7 (x4g call hs u rec0) 3 6 7 8 26 27 28:=by kernel_rfl
theorem x1eb{rec0:AV->AV->AV->AV->AV->Mem->Nat->O2}:x1sw call hs u x1e5 (j7 (x4g call hs u rec0) 3 6 7 8 26 27 28) (setE 3 (j5 (x20 call hs u rec0) 3 6 26 27 28) (setE 2 (j1 (x14 call hs u) 3) eNil))=j7 (xbe call hs u rec0) 3 6 7 8 26 27 28:=by kernel_rfl
theorem x1ec{rec0:AV->AV->AV->AV->AV->Mem->Nat->O2}:x1sw call hs u xj3 (j5 (x20 call hs u rec0) 3 6 26 27 28) (setE 3 (j5 (x20 call hs u rec0) 3 6 26 27 28) (setE 2 (j1 (x14 call hs u) 3) eNil))=j7 (xbe call hs u rec0) 3 6 7 8 26 27 28:=sq2 x1ea x1eb
theorem x1ed{rec0:AV->AV->AV->AV->AV->Mem->Nat->O2}:x1sw call hs u xs3 (j5 (x20 call hs u rec0) 3 6 26 27 28) (setE 3 (j5 (x20 call hs u rec0) 3 6 26 27 28) (setE 2 (j1 (x14 call hs u) 3) eNil))=j5 (x8u call hs u rec0) 3 6 26 27 28:=tr (sqN 1 x1ec)
theorem x1ee{rec0:AV->AV->AV->AV->AV->Mem->Nat->O2}:x1sw call hs u xs2 (j5 (x20 call hs u rec0) 3 6 26 27 28) (setE 2 (j1 (x14 call hs u) 3) eNil)=j5 (x8u call hs u rec0) 3 6 26 27 28:=bk x1ed
theorem x1ef{rec0:AV->AV->AV->AV->AV->Mem->Nat->O2}:x1sw call hs u xj2 (j5 rec0 3 6 26 27 28) (setE 2 (j1 (x14 call hs u) 3) eNil)=j5 (x8u call hs u rec0) 3 6 26 27 28:=sq2 x1e9 x1ee
theorem x1eg{rec0:AV->AV->AV->AV->AV->Mem->Nat->O2}:x1sw call hs u xs1 (j5 rec0 3 6 26 27 28) (setE 2 (j1 (x14 call hs u) 3) eNil)=j5 (xbf call hs u rec0) 3 6 26 27 28:=tr (sqN 2 x1ef)
theorem x1eh:x1sw call hs u xs0 (j1 (x14 call hs u) 3) (setE 2 (j1 (x14 call hs u) 3) eNil)=j5 (x1l call hs u NN) 3 6 26 27 28:=lp (Ln:=fun n=>j5 (x1l call hs u n) 3 6 26 27 28) fun n=>tr x1eg
theorem x1ei:x1sw call hs u xrz (j1 (x14 call hs u) 3) eNil=j5 (x1l call hs u NN) 3 6 26 27 28:=bk x1eh
theorem x1ej:x1sw call hs u xry (j1 (x14 call hs u) 3) eNil=j3 (xbg call hs u) 3 5 6:=tr (sqN 1 x1ei)
theorem x1ek:x1sw call hs u xj1 r_0 eNil=j3 (xbg call hs u) 3 5 6:=sq2 x1e8 x1ej
theorem x1el:x1sw call hs u xrx r_0 eNil=j2 (x35 call hs u) 1 3:=tr (sqN 2 x1ek)
theorem x1em{rec1:AV->AV->Mem->Nat->O2}:x1sw call hs u x1e7 (j2 rec1 1 3) (setE 0 (j2 (x35 call hs u) 1 3) eNil)=j2 (xg9 call hs u rec1) 1 3:=by kernel_rfl
theorem x1en:x1sw call hs u xs4 (j2 (x35 call hs u) 1 3) (setE 0 (j2 (x35 call hs u) 1 3) eNil)=j2 (x21 call hs u NN) 1 3:=lp (Ln:=fun n=>j2 (x21 call hs u n) 1 3) fun n=>tr x1em
theorem x1eo:x1sw call hs u xrw (j2 (x35 call hs u) 1 3) eNil=j2 (x21 call hs u NN) 1 3:=bk x1en
theorem x1ep:x1sw call hs u xj0 r_0 eNil=j2 (x21 call hs u NN) 1 3:=sq2 x1el x1eo
theorem x12i:x1sw call hs u xrv r_0 eNil=j1 (xbh call hs u) 0:=tr (sqN 2 x1ep)
noncomputable abbrev x1xe:=VX x1x 27 r_2
noncomputable def xs5:=x1qv x1x
noncomputable def xj4:=nRs 2 xs5
noncomputable def xs6:=nL xj4
noncomputable def x1eq:=nR xj4
noncomputable def xs7:=nR xs6
noncomputable def xs8:=nR xs7
noncomputable def x1er:=nR xs8
theorem x1es:x1xe call hs u x1eq r_2 eNil=j1 (x4i call hs u) 5:=by kernel_rfl
theorem x1et{rec0:AV->AV->AV->AV->AV->Mem->Nat->O2}:x1xe call hs u x1er (j5 rec0 1 5 10 11 12) (setE 0 (j1 (x4i call hs u) 5) eNil)=j5 (xbi call hs u rec0) 1 5 10 11 12:=by kernel_rfl
theorem x1eu:x1xe call hs u xs8 (j1 (x4i call hs u) 5) (setE 0 (j1 (x4i call hs u) 5) eNil)=j5 (x4j call hs u NN) 1 5 10 11 12:=lp (Ln:=fun n=>j5 (x4j call hs u n) 1 5 10 11 12) fun n=>tr x1et
theorem x1ev:x1xe call hs u xs7 (j1 (x4i call hs u) 5) eNil=j5 (x4j call hs u NN) 1 5 10 11 12:=bk x1eu
theorem x1ew:x1xe call hs u xs6 (j1 (x4i call hs u) 5) eNil=j3 (x8v call hs u) 1 2 5:=tr (sqN 1 x1ev)
theorem x1ex:x1xe call hs u xj4 r_2 eNil=j3 (x8v call hs u) 1 2 5:=sq2 x1es x1ew
theorem x12j:x1xe call hs u xs5 r_2 eNil=j2 (xbj call hs u) 0 1:=tr (sqN 2 x1ex)
noncomputable abbrev x1xf:=VX xa3 60 r_10
noncomputable def xs9:=x1qv xa3
noncomputable def xj5:=nRs 3 xs9
noncomputable def xsa:=nL xj5
noncomputable def x1ey:=nR xj5
noncomputable def xsb:=nR xsa
noncomputable def xsc:=nR xsb
noncomputable def x1ez:=nR xsc
theorem x1f0:x1xf call hs u x1ey r_10 eNil=j0 (x66 call hs u):=by kernel_rfl
theorem x1f1{rec0:AV->AV->Mem->Nat->O2}:x1xf call hs u x1ez (j2 rec0 1 4) (setE 0 (j0 (x66 call hs u)) eNil)=j2 (xmx call hs u rec0) 1 4:=by kernel_rfl
theorem x1f2:x1xf call hs u xsc (j0 (x66 call hs u)) (setE 0 (j0 (x66 call hs u)) eNil)=j2 (x8w call hs u NN) 1 4:=lp (Ln:=fun n=>j2 (x8w call hs u n) 1 4) fun n=>tr x1f1
theorem x1f3:x1xf call hs u xsb (j0 (x66 call hs u)) eNil=j2 (x8w call hs u NN) 1 4:=bk x1f2
theorem x1f4:x1xf call hs u xsa (j0 (x66 call hs u)) eNil=j1 (xga call hs u) 1:=tr (sqN 1 x1f3)
theorem x1f5:x1xf call hs u xj5 r_10 eNil=j1 (xga call hs u) 1:=sq2 x1f0 x1f4
theorem x12k:x1xf call hs u xs9 r_10 eNil=j1 (xmy call hs u) 0:=tr (sqN 3 x1f5)
noncomputable abbrev x1xg:=VX xa4 27 r_2
noncomputable def xsd:=x1qv xa4
noncomputable def xj6:=nRs 2 xsd
noncomputable def xse:=nL xj6
noncomputable def x1f6:=nR xj6
noncomputable def xsf:=nR xse
noncomputable def xsg:=nR xsf
noncomputable def x1f7:=nR xsg
theorem x1f8:x1xg call hs u x1f6 r_2 eNil=j1 (x67 call hs u) 5:=by kernel_rfl
theorem x1f9{rec0:AV->AV->AV->AV->Mem->Nat->O2}:x1xg call hs u x1f7 (j4 rec0 1 2 5 6) (setE 0 (j1 (x67 call hs u) 5) eNil)=j4 (xmz call hs u rec0) 1 2 5 6:=by kernel_rfl
theorem x1fa:x1xg call hs u xsg (j1 (x67 call hs u) 5) (setE 0 (j1 (x67 call hs u) 5) eNil)=j4 (x8x call hs u NN) 1 2 5 6:=lp (Ln:=fun n=>j4 (x8x call hs u n) 1 2 5 6) fun n=>tr x1f9
theorem x1fb:x1xg call hs u xsf (j1 (x67 call hs u) 5) eNil=j4 (x8x call hs u NN) 1 2 5 6:=bk x1fa
theorem x1fc:x1xg call hs u xse (j1 (x67 call hs u) 5) eNil=j3 (xgb call hs u) 1 2 5:=tr (sqN 1 x1fb)
theorem x1fd:x1xg call hs u xj6 r_2 eNil=j3 (xgb call hs u) 1 2 5:=sq2 x1f8 x1fc
theorem x12l:x1xg call hs u xsd r_2 eNil=j2 (xn0 call hs u) 0 1:=tr (sqN 2 x1fd)
noncomputable abbrev x1vg:=VX x7u 38 r_0
noncomputable def xsh:=x1qv x7u
noncomputable def xj7:=nRs 3 xsh
noncomputable def xsi:=nL xj7
noncomputable def x1fe:=nR xj7
noncomputable def xsj:=nR xsi
noncomputable def xsk:=nR xsj
noncomputable def xsl:=nR xsk
noncomputable def xj8:=nR xsl
noncomputable def x1ff:=nL xj8
noncomputable def x1fg:=nR xj8
theorem x1fh:x1vg call hs u x1fe r_0 eNil=j1 (x2k call hs u) 3:=by kernel_rfl
theorem x1fi{rec0:AV->AV->AV->AV->Mem->Nat->O2}:x1vg call hs u x1fg (j4 rec0 0 3 4 5) (setE 0 (j1 (x2k call hs u) 3) eNil)=j4 (xbk call hs u rec0) 0 3 4 5:=by kernel_rfl
theorem x1fj{rec0:AV->AV->AV->AV->Mem->Nat->O2}:x1vg call hs u x1ff (j4 (xbk call hs u rec0) 0 3 4 5) (setE 0 (j1 (x2k call hs u) 3) eNil)=j4 (xgc call hs u rec0) 0 3 4 5:=by kernel_rfl
theorem x1fk{rec0:AV->AV->AV->AV->Mem->Nat->O2}:x1vg call hs u xj8 (j4 rec0 0 3 4 5) (setE 0 (j1 (x2k call hs u) 3) eNil)=j4 (xgc call hs u rec0) 0 3 4 5:=sq2 x1fi x1fj
theorem x1fl{rec0:AV->AV->AV->AV->Mem->Nat->O2}:x1vg call hs u xsl (j4 rec0 0 3 4 5) (setE 0 (j1 (x2k call hs u) 3) eNil)=j4 (xn1 call hs u rec0) 0 3 4 5:=tr (sqN 1 x1fk)
theorem x1fm:x1vg call hs u xsk (j1 (x2k call hs u) 3) (setE 0 (j1 (x2k call hs u) 3) eNil)=j4 (x8y call hs u NN) 0 3 4 5:=lp (Ln:=fun n=>j4 (x8y call hs u n) 0 3 4 5) fun n=>tr x1fl
theorem x1fn:x1vg call hs u xsj (j1 (x2k call hs u) 3) eNil=j4 (x8y call hs u NN) 0 3 4 5:=bk x1fm
theorem x1fo:x1vg call hs u xsi (j1 (x2k call hs u) 3) eNil=j3 (xgd call hs u) 0 3 4:=tr (sqN 1 x1fn)
theorem x1fp:x1vg call hs u xj7 r_0 eNil=j3 (xgd call hs u) 0 3 4:=sq2 x1fh x1fo
theorem x12m:x1vg call hs u xsh r_0 eNil=j1 (xn2 call hs u) 0:=tr (sqN 3 x1fp)
noncomputable abbrev x1yg:=VX x1j 71 r_5
noncomputable abbrev x26v:=VX (R:=Mem) x1j 71 fNil
noncomputable def xsm:=x1qv x1j
noncomputable def xj9:=nRs 4 xsm
noncomputable def xsn:=nL xj9
noncomputable def x1fq:=nR xj9
noncomputable def xso:=nR xsn
noncomputable def xdb:=nR xso
noncomputable def x1fr:=nL xdb
noncomputable def x1fs:=nR xdb
theorem x1ft:x1yg call hs u x1fq r_5 eNil=j2 (x68 call hs u) 2 4:=by kernel_rfl
theorem x1fu:x26v call hs u x1fs (fun s=>some s.m) eNil=j5 (x69 call hs u) 3 4 5 6 7:=by kernel_rfl
theorem x1fv:x26v call hs u x1fr (j5 (x69 call hs u) 3 4 5 6 7) eNil=j5 (x6x call hs u) 3 4 5 27 28:=by kernel_rfl
theorem x1fw:x1yg call hs u xdb (j2 (x68 call hs u) 2 4) (setE 0 (j2 (x68 call hs u) 2 4) eNil)=j5 (xbl call hs u) 2 3 4 5 26:=tr (rg (C:=xdb) (c:={f:=x1j,u:=u,nt:=71,hs:=hs}) (f:=(.tmp 26)) (ps:=#[27,28]) (fun u=>x1fu) (fun u=>x1fv))
theorem x1fx:x1yg call hs u xso (j2 (x68 call hs u) 2 4) eNil=j5 (xbl call hs u) 2 3 4 5 26:=bk x1fw
theorem x1fy:x1yg call hs u xsn (j2 (x68 call hs u) 2 4) eNil=j4 (xbm call hs u) 2 3 4 5:=tr (sqN 1 x1fx)
theorem x1fz:x1yg call hs u xj9 r_5 eNil=j4 (xbm call hs u) 2 3 4 5:=sq2 x1ft x1fy
theorem x12n:x1yg call hs u xsm r_5 eNil=j1 (xge call hs u) 0:=tr (sqN 4 x1fz)
noncomputable abbrev x2a4:=VX x5b 20 r_1
noncomputable def x1g0:=x1qv x5b
theorem x12o:x2a4 call hs u x1g0 r_1 eNil=j3 (xgf call hs u) 0 1 2:=by kernel_rfl
noncomputable abbrev x1xh:=VX x5c 23 r_0
noncomputable def xsp:=x1qv x5c
noncomputable def xja:=nR xsp
noncomputable def xsq:=nL xja
noncomputable def x1g1:=nR xja
noncomputable def xsr:=nR xsq
noncomputable def xss:=nR xsr
noncomputable def x1g2:=nR xss
theorem x1g3:x1xh call hs u x1g1 r_0 eNil=j0 (x4k call hs u):=by kernel_rfl
theorem x1g4{rec0:AV->AV->Mem->Nat->O2}:x1xh call hs u x1g2 (j2 rec0 0 3) (setE 0 (j0 (x4k call hs u)) eNil)=j2 (xbn call hs u rec0) 0 3:=by kernel_rfl
theorem x1g5:x1xh call hs u xss (j0 (x4k call hs u)) (setE 0 (j0 (x4k call hs u)) eNil)=j2 (x4l call hs u NN) 0 3:=lp (Ln:=fun n=>j2 (x4l call hs u n) 0 3) fun n=>tr x1g4
theorem x1g6:x1xh call hs u xsr (j0 (x4k call hs u)) eNil=j2 (x4l call hs u NN) 0 3:=bk x1g5
theorem x1g7:x1xh call hs u xsq (j0 (x4k call hs u)) eNil=j1 (xbo call hs u) 0:=tr (sqN 1 x1g6)
theorem x1g8:x1xh call hs u xja r_0 eNil=j1 (xbo call hs u) 0:=sq2 x1g3 x1g7
theorem x12p:x1xh call hs u xsp r_0 eNil=j1 (xgg call hs u) 0:=tr (sqN 1 x1g8)
noncomputable abbrev x2a5:=VX x5d 22 r_1
noncomputable def x1g9:=x1qv x5d
theorem x12q:x2a5 call hs u x1g9 r_1 eNil=j3 (xgh call hs u) 0 1 2:=by kernel_rfl
noncomputable abbrev x2a6:=VX x5e 9 r_2
noncomputable def x1ga:=x1qv x5e
theorem x12r:x2a6 call hs u x1ga r_2 eNil=j2 (xgi call hs u) 0 1:=by kernel_rfl
noncomputable abbrev x2a7:=VX x3v 7 r_0
noncomputable def x1gb:=x1qv x3v
theorem x12s:x2a7 call hs u x1gb r_0 eNil=j1 (xgj call hs u) 0:=by kernel_rfl
noncomputable abbrev x1tk:=VX x3w 36 r_0
noncomputable def xst:=x1qv x3w
noncomputable def xjb:=nRs 2 xst
noncomputable def xsu:=nL xjb
noncomputable def xsv:=nR xjb
noncomputable def xjc:=nR xsv
noncomputable def xsw:=nL xjc
noncomputable def x1gc:=nR xjc
noncomputable def xsx:=nR xsw
noncomputable def xsy:=nR xsx
noncomputable def x1gd:=nR xsy
noncomputable def xsz:=nR xsu
noncomputable def xt0:=nR xsz
noncomputable def xt1:=nR xt0
noncomputable def xjd:=nRs 2 xt1
noncomputable def x1ge:=nL xjd
noncomputable def x1gf:=nR xjd
theorem x1gg:x1tk call hs u x1gc r_0 eNil=j1 (x36 call hs u) 6:=by kernel_rfl
theorem x1gh{rec0:AV->AV->AV->AV->Mem->Nat->O2}:x1tk call hs u x1gd (j4 rec0 6 25 26 27) (setE 2 (j1 (x36 call hs u) 6) eNil)=j4 (xbp call hs u rec0) 6 25 26 27:=by kernel_rfl
theorem x1gi:x1tk call hs u xsy (j1 (x36 call hs u) 6) (setE 2 (j1 (x36 call hs u) 6) eNil)=j4 (x6a call hs u NN) 6 25 26 27:=lp (Ln:=fun n=>j4 (x6a call hs u n) 6 25 26 27) fun n=>tr x1gh
theorem x1gj:x1tk call hs u xsx (j1 (x36 call hs u) 6) eNil=j4 (x6a call hs u NN) 6 25 26 27:=bk x1gi
theorem x1gk:x1tk call hs u xsw (j1 (x36 call hs u) 6) eNil=j2 (x8z call hs u) 0 6:=tr (sqN 1 x1gj)
theorem x1gl:x1tk call hs u xjc r_0 eNil=j2 (x8z call hs u) 0 6:=sq2 x1gg x1gk
theorem x1gm:x1tk call hs u xsv r_0 eNil=j2 (x1m call hs u) 0 3:=tr (sqN 1 x1gl)
theorem x1gn{rec1:AV->AV->AV->AV->AV->Mem->Nat->O2}:x1tk call hs u x1gf (j5 rec1 0 3 9 10 11) (setE 0 (j2 (x1m call hs u) 0 3) eNil)=j5 (xbr call hs u rec1) 0 3 9 10 11:=by kernel_rfl
theorem x1go{rec1:AV->AV->AV->AV->AV->Mem->Nat->O2}:x1tk call hs u x1ge (j5 (xbr call hs u rec1) 0 3 9 10 11) (setE 0 (j2 (x1m call hs u) 0 3) eNil)=j5 (xbs call hs u rec1) 0 3 9 10 11:=by kernel_rfl
theorem x1gp{rec1:AV->AV->AV->AV->AV->Mem->Nat->O2}:x1tk call hs u xjd (j5 rec1 0 3 9 10 11) (setE 0 (j2 (x1m call hs u) 0 3) eNil)=j5 (xbs call hs u rec1) 0 3 9 10 11:=sq2 x1gn x1go
theorem x1gq{rec1:AV->AV->AV->AV->AV->Mem->Nat->O2}:x1tk call hs u xt1 (j5 rec1 0 3 9 10 11) (setE 0 (j2 (x1m call hs u) 0 3) eNil)=j5 (xgk call hs u rec1) 0 3 9 10 11:=tr (sqN 2 x1gp)
theorem x1gr:x1tk call hs u xt0 (j2 (x1m call hs u) 0 3) (setE 0 (j2 (x1m call hs u) 0 3) eNil)=j5 (x6y call hs u NN) 0 3 9 10 11:=lp (Ln:=fun n=>j5 (x6y call hs u n) 0 3 9 10 11) fun n=>tr x1gq
theorem x1gs:x1tk call hs u xsz (j2 (x1m call hs u) 0 3) eNil=j5 (x6y call hs u NN) 0 3 9 10 11:=bk x1gr
theorem x1gt:x1tk call hs u xsu (j2 (x1m call hs u) 0 3) eNil=j2 (xbt call hs u) 0 3:=tr (sqN 1 x1gs)
theorem x1gu:x1tk call hs u xjb r_0 eNil=j2 (xbt call hs u) 0 3:=sq2 x1gm x1gt
theorem x12t:x1tk call hs u xst r_0 eNil=j1 (xgl call hs u) 0:=tr (sqN 2 x1gu)
noncomputable abbrev x2a8:=VX x5f 5 r_0
noncomputable def x1gv:=x1qv x5f
theorem x12u:x2a8 call hs u x1gv r_0 eNil=j1 (xgm call hs u) 0:=by kernel_rfl
noncomputable abbrev x2a9:=VX x5g 42 r_15
noncomputable def x1gw:=x1qv x5g
theorem x12v:x2a9 call hs u x1gw r_15 eNil=j4 (xgn call hs u) 0 1 2 3:=by kernel_rfl
noncomputable abbrev x2aa:=VX xo 15 r_1
noncomputable def x1gx:=x1qv xo
theorem x10i:x2aa call hs u x1gx r_1 eNil=j3 (xgo call hs u) 0 1 2:=by kernel_rfl
noncomputable abbrev x1vh:=VX x5h 53 r_0
noncomputable def xt2:=x1qv x5h
noncomputable def xje:=nRs 2 xt2
noncomputable def xt3:=nL xje
noncomputable def x1gy:=nR xje
noncomputable def xt4:=nR xt3
noncomputable def xt5:=nR xt4
noncomputable def xt6:=nR xt5
noncomputable def xjf:=nRs 2 xt6
noncomputable def x1gz:=nL xjf
noncomputable def x1h0:=nR xjf
theorem x1h1:x1vh call hs u x1gy r_0 eNil=j2 (x1n call hs u) 1 3:=by kernel_rfl
theorem x1h2{rec0:AV->AV->AV->AV->AV->Mem->Nat->O2}:x1vh call hs u x1h0 (j5 rec0 1 3 12 13 14) (setE 0 (j2 (x1n call hs u) 1 3) eNil)=j5 (x6z call hs u rec0) 1 3 12 13 14:=by kernel_rfl
theorem x1h3{rec0:AV->AV->AV->AV->AV->Mem->Nat->O2}:x1vh call hs u x1gz (j5 (x6z call hs u rec0) 1 3 12 13 14) (setE 0 (j2 (x1n call hs u) 1 3) eNil)=j5 (x90 call hs u rec0) 1 3 12 13 14:=by kernel_rfl
theorem x1h4{rec0:AV->AV->AV->AV->AV->Mem->Nat->O2}:x1vh call hs u xjf (j5 rec0 1 3 12 13 14) (setE 0 (j2 (x1n call hs u) 1 3) eNil)=j5 (x90 call hs u rec0) 1 3 12 13 14:=sq2 x1h2 x1h3
theorem x1h5{rec0:AV->AV->AV->AV->AV->Mem->Nat->O2}:x1vh call hs u xt6 (j5 rec0 1 3 12 13 14) (setE 0 (j2 (x1n call hs u) 1 3) eNil)=j5 (x91 call hs u rec0) 1 3 12 13 14:=tr (sqN 2 x1h4)
theorem x1h6:x1vh call hs u xt5 (j2 (x1n call hs u) 1 3) (setE 0 (j2 (x1n call hs u) 1 3) eNil)=j5 (x2l call hs u NN) 1 3 12 13 14:=lp (Ln:=fun n=>j5 (x2l call hs u n) 1 3 12 13 14) fun n=>tr x1h5
theorem x1h7:x1vh call hs u xt4 (j2 (x1n call hs u) 1 3) eNil=j5 (x2l call hs u NN) 1 3 12 13 14:=bk x1h6
theorem x1h8:x1vh call hs u xt3 (j2 (x1n call hs u) 1 3) eNil=j2 (xbu call hs u) 1 3:=tr (sqN 1 x1h7)
theorem x1h9:x1vh call hs u xje r_0 eNil=j2 (xbu call hs u) 1 3:=sq2 x1h1 x1h8
theorem x12w:x1vh call hs u xt2 r_0 eNil=j1 (xbv call hs u) 0:=tr (sqN 2 x1h9)
noncomputable abbrev x1vi:=VX x2y 47 r_2
noncomputable def xt7:=x1qv x2y
noncomputable def xjg:=nRs 2 xt7
noncomputable def xt8:=nL xjg
noncomputable def x1ha:=nR xjg
noncomputable def xt9:=nR xt8
noncomputable def xta:=nR xt9
noncomputable def xtb:=nR xta
noncomputable def xjh:=nRs 2 xtb
noncomputable def x1hb:=nL xjh
noncomputable def x1hc:=nR xjh
theorem x1hd:x1vi call hs u x1ha r_2 eNil=j1 (x22 call hs u) 5:=by kernel_rfl
theorem x1he{rec0:AV->AV->AV->AV->AV->Mem->Nat->O2}:x1vi call hs u x1hc (j5 rec0 0 1 5 12 13) (setE 0 (j1 (x22 call hs u) 5) eNil)=j5 (x70 call hs u rec0) 0 1 5 12 13:=by kernel_rfl
theorem x1hf{rec0:AV->AV->AV->AV->AV->Mem->Nat->O2}:x1vi call hs u x1hb (j5 (x70 call hs u rec0) 0 1 5 12 13) (setE 0 (j1 (x22 call hs u) 5) eNil)=j5 (x92 call hs u rec0) 0 1 5 12 13:=by kernel_rfl
theorem x1hg{rec0:AV->AV->AV->AV->AV->Mem->Nat->O2}:x1vi call hs u xjh (j5 rec0 0 1 5 12 13) (setE 0 (j1 (x22 call hs u) 5) eNil)=j5 (x92 call hs u rec0) 0 1 5 12 13:=sq2 x1he x1hf
theorem x1hh{rec0:AV->AV->AV->AV->AV->Mem->Nat->O2}:x1vi call hs u xtb (j5 rec0 0 1 5 12 13) (setE 0 (j1 (x22 call hs u) 5) eNil)=j5 (x93 call hs u rec0) 0 1 5 12 13:=tr (sqN 2 x1hg)
theorem x1hi:x1vi call hs u xta (j1 (x22 call hs u) 5) (setE 0 (j1 (x22 call hs u) 5) eNil)=j5 (x37 call hs u NN) 0 1 5 12 13:=lp (Ln:=fun n=>j5 (x37 call hs u n) 0 1 5 12 13) fun n=>tr x1hh
theorem x1hj:x1vi call hs u xt9 (j1 (x22 call hs u) 5) eNil=j5 (x37 call hs u NN) 0 1 5 12 13:=bk x1hi
theorem x1hk:x1vi call hs u xt8 (j1 (x22 call hs u) 5) eNil=j3 (xbx call hs u) 0 1 5:=tr (sqN 1 x1hj)
theorem x1hl:x1vi call hs u xjg r_2 eNil=j3 (xbx call hs u) 0 1 5:=sq2 x1hd x1hk
theorem x12x:x1vi call hs u xt7 r_2 eNil=j2 (xby call hs u) 0 1:=tr (sqN 2 x1hl)
noncomputable abbrev x1xi:=VX x3x 26 r_0
noncomputable def xtc:=x1qv x3x
noncomputable def xji:=nRs 3 xtc
noncomputable def xtd:=nL xji
noncomputable def x1hm:=nR xji
noncomputable def xte:=nR xtd
noncomputable def xtf:=nR xte
noncomputable def x1hn:=nR xtf
theorem x1ho:x1xi call hs u x1hm r_0 eNil=j2 (x38 call hs u) 1 4:=by kernel_rfl
theorem x1hp{rec0:AV->AV->AV->AV->AV->Mem->Nat->O2}:x1xi call hs u x1hn (j5 rec0 1 3 4 10 11) (setE 0 (j2 (x38 call hs u) 1 4) eNil)=j5 (xbz call hs u rec0) 1 3 4 10 11:=by kernel_rfl
theorem x1hq:x1xi call hs u xtf (j2 (x38 call hs u) 1 4) (setE 0 (j2 (x38 call hs u) 1 4) eNil)=j5 (x4m call hs u NN) 1 3 4 10 11:=lp (Ln:=fun n=>j5 (x4m call hs u n) 1 3 4 10 11) fun n=>tr x1hp
theorem x1hr:x1xi call hs u xte (j2 (x38 call hs u) 1 4) eNil=j5 (x4m call hs u NN) 1 3 4 10 11:=bk x1hq
theorem x1hs:x1xi call hs u xtd (j2 (x38 call hs u) 1 4) eNil=j3 (xc0 call hs u) 1 3 4:=tr (sqN 1 x1hr)
theorem x1ht:x1xi call hs u xji r_0 eNil=j3 (xc0 call hs u) 1 3 4:=sq2 x1ho x1hs
theorem x12y:x1xi call hs u xtc r_0 eNil=j1 (xc1 call hs u) 0:=tr (sqN 3 x1ht)
noncomputable abbrev x1so:=VX x5i 87 r_1
noncomputable def xtg:=x1qv x5i
noncomputable def xjj:=nRs 2 xtg
noncomputable def xth:=nL xjj
noncomputable def xti:=nR xjj
noncomputable def xjk:=nRs 2 xti
noncomputable def xtj:=nL xjk
noncomputable def x1hu:=nR xjk
noncomputable def xtk:=nR xtj
noncomputable def xtl:=nR xtk
noncomputable def xtm:=nR xtl
noncomputable def xjl:=nR xtm
noncomputable def xtn:=nL xjl
noncomputable def x1hv:=nR xjl
noncomputable def xto:=nR xtn
noncomputable def xtp:=nR xto
noncomputable def xtq:=nR xtp
noncomputable def xtr:=nR xtq
noncomputable def xjm:=nR xtr
noncomputable def x1hw:=nL xjm
noncomputable def x1hx:=nR xjm
noncomputable def xts:=nR xth
noncomputable def xtt:=nR xts
noncomputable def x1hy:=nR xtt
theorem x1hz:x1so call hs u x1hu r_1 eNil=j1 (xq call hs u) 7:=by kernel_rfl
theorem x1i0{rec0:AV->AV->AV->AV->Mem->Nat->O2}:x1so call hs u x1hv (j4 rec0 3 7 9 10) (setE 2 (j1 (xq call hs u) 7) eNil)=j4 (xg call hs u rec0) 3 7 9 10:=by kernel_rfl
theorem x1i1{rec0:AV->AV->AV->AV->Mem->Nat->O2}{rec1:AV->AV->AV->AV->AV->Mem->Nat->O2}:x1so call hs u x1hx (j5 rec1 3 7 9 10 11) (setE 4 (j4 (xg call hs u rec0) 3 7 9 10) (setE 3 (j4 (xg call hs u rec0) 3 7 9 10) (setE 2 (j1 (xq call hs u) 7) eNil)))=j5 (x6b call hs u rec0 rec1) 3 7 9 10 11:=by kernel_rfl
theorem x1i2{rec0:AV->AV->AV->AV->Mem->Nat->O2}{rec1:AV->AV->AV->AV->AV->Mem->Nat->O2}:x1so call hs u x1hw (j5 (x6b call hs u rec0 rec1) 3 7 9 10 11) (setE 4 (j4 (xg call hs u rec0) 3 7 9 10) (setE 3 (j4 (xg call hs u rec0) 3 7 9 10) (setE 2 (j1 (xq call hs u) 7) eNil)))=j5 (x72 call hs u rec0 rec1) 3 7 9 10 11:=by kernel_rfl
theorem x1i3{rec0:AV->AV->AV->AV->Mem->Nat->O2}{rec1:AV->AV->AV->AV->AV->Mem->Nat->O2}:x1so call hs u xjm (j5 rec1 3 7 9 10 11) (setE 4 (j4 (xg call hs u rec0) 3 7 9 10) (setE 3 (j4 (xg call hs u rec0) 3 7 9 10) (setE 2 (j1 (xq call hs u) 7) eNil)))=j5 (x72 call hs u rec0 rec1) 3 7 9 10 11:=sq2 x1i1 x1i2
theorem x1i4{rec0:AV->AV->AV->AV->Mem->Nat->O2}{rec1:AV->AV->AV->AV->AV->Mem->Nat->O2}:x1so call hs u xtr (j5 rec1 3 7 9 10 11) (setE 4 (j4 (xg call hs u rec0) 3 7 9 10) (setE 3 (j4 (xg call hs u rec0) 3 7 9 10) (setE 2 (j1 (xq call hs u) 7) eNil)))=j5 (x73 call hs u rec0 rec1) 3 7 9 10 11:=tr (sqN 1 x1i3)
theorem x1i5{rec0:AV->AV->AV->AV->Mem->Nat->O2}:x1so call hs u xtq (j4 (xg call hs u rec0) 3 7 9 10) (setE 4 (j4 (xg call hs u rec0) 3 7 9 10) (setE 3 (j4 (xg call hs u rec0) 3 7 9 10) (setE 2 (j1 (xq call hs u) 7) eNil)))=j5 (x2m call hs u rec0 NN) 3 7 9 10 11:=lp (Ln:=fun n=>j5 (x2m call hs u rec0 n) 3 7 9 10 11) fun n=>tr x1i4
theorem x1i6{rec0:AV->AV->AV->AV->Mem->Nat->O2}:x1so call hs u xtp (j4 (xg call hs u rec0) 3 7 9 10) (setE 3 (j4 (xg call hs u rec0) 3 7 9 10) (setE 2 (j1 (xq call hs u) 7) eNil))=j5 (x2m call hs u rec0 NN) 3 7 9 10 11:=bk x1i5
theorem x1i7{rec0:AV->AV->AV->AV->Mem->Nat->O2}:x1so call hs u xto (j4 (xg call hs u rec0) 3 7 9 10) (setE 3 (j4 (xg call hs u rec0) 3 7 9 10) (setE 2 (j1 (xq call hs u) 7) eNil))=j4 (x94 call hs u rec0) 3 7 9 10:=tr (sqN 1 x1i6)
theorem x1i8{rec0:AV->AV->AV->AV->Mem->Nat->O2}:x1so call hs u xtn (j4 (xg call hs u rec0) 3 7 9 10) (setE 2 (j1 (xq call hs u) 7) eNil)=j4 (x94 call hs u rec0) 3 7 9 10:=bk x1i7
theorem x1i9{rec0:AV->AV->AV->AV->Mem->Nat->O2}:x1so call hs u xjl (j4 rec0 3 7 9 10) (setE 2 (j1 (xq call hs u) 7) eNil)=j4 (x94 call hs u rec0) 3 7 9 10:=sq2 x1i0 x1i8
theorem x1ia{rec0:AV->AV->AV->AV->Mem->Nat->O2}:x1so call hs u xtm (j4 rec0 3 7 9 10) (setE 2 (j1 (xq call hs u) 7) eNil)=j4 (x95 call hs u rec0) 3 7 9 10:=tr (sqN 1 x1i9)
theorem x1ib:x1so call hs u xtl (j1 (xq call hs u) 7) (setE 2 (j1 (xq call hs u) 7) eNil)=j4 (x2n call hs u NN) 3 7 9 10:=lp (Ln:=fun n=>j4 (x2n call hs u n) 3 7 9 10) fun n=>tr x1ia
theorem x1ic:x1so call hs u xtk (j1 (xq call hs u) 7) eNil=j4 (x2n call hs u NN) 3 7 9 10:=bk x1ib
theorem x1id:x1so call hs u xtj (j1 (xq call hs u) 7) eNil=j3 (xc2 call hs u) 3 7 9:=tr (sqN 1 x1ic)
theorem x1ie:x1so call hs u xjk r_1 eNil=j3 (xc2 call hs u) 3 7 9:=sq2 x1hz x1id
theorem x1if:x1so call hs u xti r_1 eNil=j4 (x39 call hs u) 1 2 3 7:=tr (sqN 2 x1ie)
theorem x1ig{rec2:AV->AV->AV->AV->AV->Mem->Nat->O2}:x1so call hs u x1hy (j5 rec2 1 2 3 7 8) (setE 0 (j4 (x39 call hs u) 1 2 3 7) eNil)=j5 (xc3 call hs u rec2) 1 2 3 7 8:=by kernel_rfl
theorem x1ih:x1so call hs u xtt (j4 (x39 call hs u) 1 2 3 7) (setE 0 (j4 (x39 call hs u) 1 2 3 7) eNil)=j5 (x4n call hs u NN) 1 2 3 7 8:=lp (Ln:=fun n=>j5 (x4n call hs u n) 1 2 3 7 8) fun n=>tr x1ig
theorem x1ii:x1so call hs u xts (j4 (x39 call hs u) 1 2 3 7) eNil=j5 (x4n call hs u NN) 1 2 3 7 8:=bk x1ih
theorem x1ij:x1so call hs u xth (j4 (x39 call hs u) 1 2 3 7) eNil=j4 (xc4 call hs u) 1 2 3 7:=tr (sqN 1 x1ii)
theorem x1ik:x1so call hs u xjj r_1 eNil=j4 (xc4 call hs u) 1 2 3 7:=sq2 x1if x1ij
theorem x12z:x1so call hs u xtg r_1 eNil=j3 (xgq call hs u) 0 1 2:=tr (sqN 2 x1ik)
noncomputable abbrev x1rt:=VX x5j 169 r_6
noncomputable def xtu:=x1qv x5j
noncomputable def xjn:=nRs 4 xtu
noncomputable def xtv:=nL xjn
noncomputable def xjo:=nR xjn
noncomputable def xtw:=nL xjo
noncomputable def xtx:=nR xjo
noncomputable def xjp:=nR xtx
noncomputable def xty:=nL xjp
noncomputable def xtz:=nR xjp
noncomputable def xu0:=nRs 2 xtz
noncomputable def xu1:=nR xu0
noncomputable def x1il:=nR xu1
noncomputable def xu2:=nR xty
noncomputable def xu3:=nR xu2
noncomputable def x1im:=nR xu3
noncomputable def xu4:=nR xtw
noncomputable def xu5:=nR xu4
noncomputable def x1in:=nR xu5
noncomputable def xu6:=nR xtv
noncomputable def xu7:=nR xu6
noncomputable def xu8:=nR xu7
noncomputable def xjq:=nR xu8
noncomputable def xu9:=nL xjq
noncomputable def x1io:=nR xjq
noncomputable def xua:=nR xu9
noncomputable def xjr:=nR xua
noncomputable def xub:=nL xjr
noncomputable def x1ip:=nR xjr
noncomputable def xuc:=nR xub
noncomputable def xud:=nR xuc
noncomputable def xue:=nR xud
noncomputable def xjs:=nR xue
noncomputable def x1iq:=nL xjs
noncomputable def x1ir:=nR xjs
theorem x1is{rec0:AV->AV->AV->AV->AV->AV->Mem->Nat->O2}:x1rt call hs u x1il (j6 rec0 6 8 9 14 16 17) (setE 8 r_6 eNil)=j6 (xc5 call hs u rec0) 6 8 9 14 16 17:=by kernel_rfl
theorem x1it:x1rt call hs u xu1 r_6 (setE 8 r_6 eNil)=j6 (x4p call hs u NN) 6 8 9 14 16 17:=lp (Ln:=fun n=>j6 (x4p call hs u n) 6 8 9 14 16 17) fun n=>tr x1is
theorem x1iu:x1rt call hs u xu0 r_6 eNil=j6 (x4p call hs u NN) 6 8 9 14 16 17:=bk x1it
theorem x1iv:x1rt call hs u xtz r_6 eNil=j5 (x3a call hs u) 1 6 8 9 14:=tr (sqN 2 x1iu)
theorem x1iw{rec1:AV->AV->AV->AV->AV->AV->Mem->Nat->O2}:x1rt call hs u x1im (j6 rec1 1 6 8 9 14 15) (setE 6 (j5 (x3a call hs u) 1 6 8 9 14) eNil)=j6 (xc6 call hs u rec1) 1 6 8 9 14 15:=by kernel_rfl
theorem x1ix:x1rt call hs u xu3 (j5 (x3a call hs u) 1 6 8 9 14) (setE 6 (j5 (x3a call hs u) 1 6 8 9 14) eNil)=j6 (x4q call hs u NN) 1 6 8 9 14 15:=lp (Ln:=fun n=>j6 (x4q call hs u n) 1 6 8 9 14 15) fun n=>tr x1iw
theorem x1iy:x1rt call hs u xu2 (j5 (x3a call hs u) 1 6 8 9 14) eNil=j6 (x4q call hs u NN) 1 6 8 9 14 15:=bk x1ix
theorem x1iz:x1rt call hs u xty (j5 (x3a call hs u) 1 6 8 9 14) eNil=j5 (xc7 call hs u) 1 6 8 9 14:=tr (sqN 1 x1iy)
theorem x1j0:x1rt call hs u xjp r_6 eNil=j5 (xc7 call hs u) 1 6 8 9 14:=sq2 x1iv x1iz
theorem x1j1:x1rt call hs u xtx r_6 eNil=j4 (x3b call hs u) 1 6 8 9:=tr (sqN 1 x1j0)
theorem x1j2{rec2:AV->AV->AV->AV->AV->AV->Mem->Nat->O2}:x1rt call hs u x1in (j6 rec2 1 2 6 8 9 13) (setE 4 (j4 (x3b call hs u) 1 6 8 9) eNil)=j6 (xc8 call hs u rec2) 1 2 6 8 9 13:=by kernel_rfl
theorem x1j3:x1rt call hs u xu5 (j4 (x3b call hs u) 1 6 8 9) (setE 4 (j4 (x3b call hs u) 1 6 8 9) eNil)=j6 (x4r call hs u NN) 1 2 6 8 9 13:=lp (Ln:=fun n=>j6 (x4r call hs u n) 1 2 6 8 9 13) fun n=>tr x1j2
theorem x1j4:x1rt call hs u xu4 (j4 (x3b call hs u) 1 6 8 9) eNil=j6 (x4r call hs u NN) 1 2 6 8 9 13:=bk x1j3
theorem x1j5:x1rt call hs u xtw (j4 (x3b call hs u) 1 6 8 9) eNil=j5 (x9 call hs u) 1 2 6 8 9:=tr (sqN 1 x1j4)
theorem x1j6:x1rt call hs u xjo r_6 eNil=j5 (x9 call hs u) 1 2 6 8 9:=sq2 x1j1 x1j5
theorem x1j7{rec3:AV->AV->AV->AV->AV->AV->AV->Mem->Nat->O2}:x1rt call hs u x1io (j7 rec3 1 2 6 7 8 9 10) (setE 0 (j5 (x9 call hs u) 1 2 6 8 9) eNil)=j7 (xu call hs u rec3) 1 2 6 7 8 9 10:=by kernel_rfl
theorem x1j8{rec3:AV->AV->AV->AV->AV->AV->AV->Mem->Nat->O2}:x1rt call hs u x1ip (j7 (xu call hs u rec3) 1 2 6 7 8 9 10) (setE 1 (j7 (xu call hs u rec3) 1 2 6 7 8 9 10) (setE 0 (j5 (x9 call hs u) 1 2 6 8 9) eNil))=j7 (x1g call hs u rec3) 1 2 6 7 8 9 10:=by kernel_rfl
theorem x1j9{rec3:AV->AV->AV->AV->AV->AV->AV->Mem->Nat->O2}{rec4:AV->AV->AV->AV->AV->AV->AV->AV->Mem->Nat->O2}:x1rt call hs u x1ir (j8 rec4 1 2 6 7 8 9 10 11) (setE 2 (j7 (x1g call hs u rec3) 1 2 6 7 8 9 10) (setE 1 (j7 (xu call hs u rec3) 1 2 6 7 8 9 10) (setE 0 (j5 (x9 call hs u) 1 2 6 8 9) eNil)))=j8 (x74 call hs u rec3 rec4) 1 2 6 7 8 9 10 11:=by kernel_rfl
theorem x1ja{rec3:AV->AV->AV->AV->AV->AV->AV->Mem->Nat->O2}{rec4:AV->AV->AV->AV->AV->AV->AV->AV->Mem->Nat->O2}:x1rt call hs u x1iq (j8 (x74 call hs u rec3 rec4) 1 2 6 7 8 9 10 11) (setE 2 (j7 (x1g call hs u rec3) 1 2 6 7 8 9 10) (setE 1 (j7 (xu call hs u rec3) 1 2 6 7 8 9 10) (setE 0 (j5 (x9 call hs u) 1 2 6 8 9) eNil)))=j8 (x96 call hs u rec3 rec4) 1 2 6 7 8 9 10 11:=by kernel_rfl
theorem x1jb{rec3:AV->AV->AV->AV->AV->AV->AV->Mem->Nat->O2}{rec4:AV->AV->AV->AV->AV->AV->AV->AV->Mem->Nat->O2}:x1rt call hs u xjs (j8 rec4 1 2 6 7 8 9 10 11) (setE 2 (j7 (x1g call hs u rec3) 1 2 6 7 8 9 10) (setE 1 (j7 (xu call hs u rec3) 1 2 6 7 8 9 10) (setE 0 (j5 (x9 call hs u) 1 2 6 8 9) eNil)))=j8 (x96 call hs u rec3 rec4) 1 2 6 7 8 9 10 11:=sq2 x1j9 x1ja
theorem x1jc{rec3:AV->AV->AV->AV->AV->AV->AV->Mem->Nat->O2}{rec4:AV->AV->AV->AV->AV->AV->AV->AV->Mem->Nat->O2}:x1rt call hs u xue (j8 rec4 1 2 6 7 8 9 10 11) (setE 2 (j7 (x1g call hs u rec3) 1 2 6 7 8 9 10) (setE 1 (j7 (xu call hs u rec3) 1 2 6 7 8 9 10) (setE 0 (j5 (x9 call hs u) 1 2 6 8 9) eNil)))=j8 (x97 call hs u rec3 rec4) 1 2 6 7 8 9 10 11:=tr (sqN 1 x1jb)
theorem x1jd{rec3:AV->AV->AV->AV->AV->AV->AV->Mem->Nat->O2}:x1rt call hs u xud (j7 (x1g call hs u rec3) 1 2 6 7 8 9 10) (setE 2 (j7 (x1g call hs u rec3) 1 2 6 7 8 9 10) (setE 1 (j7 (xu call hs u rec3) 1 2 6 7 8 9 10) (setE 0 (j5 (x9 call hs u) 1 2 6 8 9) eNil)))=j8 (x3c call hs u rec3 NN) 1 2 6 7 8 9 10 11:=lp (Ln:=fun n=>j8 (x3c call hs u rec3 n) 1 2 6 7 8 9 10 11) fun n=>tr x1jc
theorem x1je{rec3:AV->AV->AV->AV->AV->AV->AV->Mem->Nat->O2}:x1rt call hs u xuc (j7 (x1g call hs u rec3) 1 2 6 7 8 9 10) (setE 1 (j7 (xu call hs u rec3) 1 2 6 7 8 9 10) (setE 0 (j5 (x9 call hs u) 1 2 6 8 9) eNil))=j8 (x3c call hs u rec3 NN) 1 2 6 7 8 9 10 11:=bk x1jd
theorem x1jf{rec3:AV->AV->AV->AV->AV->AV->AV->Mem->Nat->O2}:x1rt call hs u xub (j7 (x1g call hs u rec3) 1 2 6 7 8 9 10) (setE 1 (j7 (xu call hs u rec3) 1 2 6 7 8 9 10) (setE 0 (j5 (x9 call hs u) 1 2 6 8 9) eNil))=j7 (xc9 call hs u rec3) 1 2 6 7 8 9 10:=tr (sqN 1 x1je)
theorem x1jg{rec3:AV->AV->AV->AV->AV->AV->AV->Mem->Nat->O2}:x1rt call hs u xjr (j7 (xu call hs u rec3) 1 2 6 7 8 9 10) (setE 1 (j7 (xu call hs u rec3) 1 2 6 7 8 9 10) (setE 0 (j5 (x9 call hs u) 1 2 6 8 9) eNil))=j7 (xc9 call hs u rec3) 1 2 6 7 8 9 10:=sq2 x1j8 x1jf
theorem x1jh{rec3:AV->AV->AV->AV->AV->AV->AV->Mem->Nat->O2}:x1rt call hs u xua (j7 (xu call hs u rec3) 1 2 6 7 8 9 10) (setE 1 (j7 (xu call hs u rec3) 1 2 6 7 8 9 10) (setE 0 (j5 (x9 call hs u) 1 2 6 8 9) eNil))=j6 (x98 call hs u rec3) 1 2 6 7 8 10:=tr (sqN 1 x1jg)
theorem x1ji{rec3:AV->AV->AV->AV->AV->AV->AV->Mem->Nat->O2}:x1rt call hs u xu9 (j7 (xu call hs u rec3) 1 2 6 7 8 9 10) (setE 0 (j5 (x9 call hs u) 1 2 6 8 9) eNil)=j6 (x98 call hs u rec3) 1 2 6 7 8 10:=bk x1jh
theorem x1jj{rec3:AV->AV->AV->AV->AV->AV->AV->Mem->Nat->O2}:x1rt call hs u xjq (j7 rec3 1 2 6 7 8 9 10) (setE 0 (j5 (x9 call hs u) 1 2 6 8 9) eNil)=j6 (x98 call hs u rec3) 1 2 6 7 8 10:=sq2 x1j7 x1ji
theorem x1jk{rec3:AV->AV->AV->AV->AV->AV->AV->Mem->Nat->O2}:x1rt call hs u xu8 (j7 rec3 1 2 6 7 8 9 10) (setE 0 (j5 (x9 call hs u) 1 2 6 8 9) eNil)=j7 (x99 call hs u rec3) 1 2 6 7 8 9 10:=tr (sqN 1 x1jj)
theorem x1jl:x1rt call hs u xu7 (j5 (x9 call hs u) 1 2 6 8 9) (setE 0 (j5 (x9 call hs u) 1 2 6 8 9) eNil)=j7 (x1a call hs u NN) 1 2 6 7 8 9 10:=lp (Ln:=fun n=>j7 (x1a call hs u n) 1 2 6 7 8 9 10) fun n=>tr x1jk
theorem x1jm:x1rt call hs u xu6 (j5 (x9 call hs u) 1 2 6 8 9) eNil=j7 (x1a call hs u NN) 1 2 6 7 8 9 10:=bk x1jl
theorem x1jn:x1rt call hs u xtv (j5 (x9 call hs u) 1 2 6 8 9) eNil=j6 (xca call hs u) 1 2 6 7 8 9:=tr (sqN 1 x1jm)
theorem x1jo:x1rt call hs u xjn r_6 eNil=j6 (xca call hs u) 1 2 6 7 8 9:=sq2 x1j6 x1jn
theorem x130:x1rt call hs u xtu r_6 eNil=j2 (xgr call hs u) 0 1:=tr (sqN 4 x1jo)
noncomputable abbrev x2ab:=VX x3y 9 r_2
noncomputable def x1jp:=x1qv x3y
theorem x131:x2ab call hs u x1jp r_2 eNil=j2 (xgs call hs u) 0 1:=by kernel_rfl
noncomputable abbrev x2ac:=VX xa5 6 r_0
noncomputable def x1jq:=x1qv xa5
theorem x132:x2ac call hs u x1jq r_0 eNil=j1 (xn3 call hs u) 0:=by kernel_rfl
noncomputable abbrev x2ad:=VX x5k 8 r_0
noncomputable def x1jr:=x1qv x5k
theorem x133:x2ad call hs u x1jr r_0 eNil=j1 (xcb call hs u) 0:=by kernel_rfl
noncomputable abbrev x2ae:=VX x1b 5 r_0
noncomputable def x1js:=x1qv x1b
theorem x10q:x2ae call hs u x1js r_0 eNil=j1 (xgt call hs u) 0:=by kernel_rfl
noncomputable abbrev x1xj:=VX x7v 76 r_6
noncomputable def xuf:=x1qv x7v
noncomputable def xjt:=nRs 3 xuf
noncomputable def xug:=nL xjt
noncomputable def x1jt:=nR xjt
noncomputable def xuh:=nR xug
noncomputable def xui:=nR xuh
noncomputable def x1ju:=nR xui
theorem x1jv:x1xj call hs u x1jt r_6 eNil=j2 (x6c call hs u) 6 7:=by kernel_rfl
theorem x1jw{rec0:AV->AV->AV->AV->AV->AV->Mem->Nat->O2}:x1xj call hs u x1ju (j6 rec0 1 6 7 23 24 25) (setE 0 (j2 (x6c call hs u) 6 7) eNil)=j6 (xn4 call hs u rec0) 1 6 7 23 24 25:=by kernel_rfl
theorem x1jx:x1xj call hs u xui (j2 (x6c call hs u) 6 7) (setE 0 (j2 (x6c call hs u) 6 7) eNil)=j6 (x9a call hs u NN) 1 6 7 23 24 25:=lp (Ln:=fun n=>j6 (x9a call hs u n) 1 6 7 23 24 25) fun n=>tr x1jw
theorem x1jy:x1xj call hs u xuh (j2 (x6c call hs u) 6 7) eNil=j6 (x9a call hs u NN) 1 6 7 23 24 25:=bk x1jx
theorem x1jz:x1xj call hs u xug (j2 (x6c call hs u) 6 7) eNil=j4 (xgu call hs u) 1 2 6 7:=tr (sqN 1 x1jy)
theorem x1k0:x1xj call hs u xjt r_6 eNil=j4 (xgu call hs u) 1 2 6 7:=sq2 x1jv x1jz
theorem x134:x1xj call hs u xuf r_6 eNil=j2 (xn5 call hs u) 0 1:=tr (sqN 3 x1k0)
noncomputable abbrev x2af:=VX xa6 20 r_2
noncomputable def x1k1:=x1qv xa6
theorem x135:x2af call hs u x1k1 r_2 eNil=j2 (xn6 call hs u) 0 1:=by kernel_rfl
noncomputable abbrev x2ag:=VX xa7 38 r_1
noncomputable def x1k2:=x1qv xa7
theorem x136:x2ag call hs u x1k2 r_1 eNil=j3 (xn7 call hs u) 0 1 2:=by kernel_rfl
noncomputable abbrev x20z:=VX x3m 12 r_0
noncomputable def xuj:=x1qv x3m
noncomputable def xju:=nRs 2 xuj
noncomputable def x1k3:=nL xju
noncomputable def x1k4:=nR xju
theorem x1k5:x20z call hs u x1k4 r_0 eNil=j1 (x75 call hs u) 0:=by kernel_rfl
theorem x1k6:x20z call hs u x1k3 (j1 (x75 call hs u) 0) eNil=j1 (xcc call hs u) 0:=by kernel_rfl
theorem x1k7:x20z call hs u xju r_0 eNil=j1 (xcc call hs u) 0:=sq2 x1k5 x1k6
theorem x10p:x20z call hs u xuj r_0 eNil=j1 (xgv call hs u) 0:=tr (sqN 2 x1k7)
noncomputable abbrev x2ah:=VX xa8 29 r_1
noncomputable def x1k8:=x1qv xa8
theorem x137:x2ah call hs u x1k8 r_1 eNil=j3 (xn8 call hs u) 0 1 2:=by kernel_rfl
noncomputable abbrev x2ai:=VX x7w 27 r_1
noncomputable def x1k9:=x1qv x7w
theorem x138:x2ai call hs u x1k9 r_1 eNil=j3 (xn9 call hs u) 0 1 2:=by kernel_rfl
noncomputable abbrev x2aj:=VX x5l 27 r_16
noncomputable def x1ka:=x1qv x5l
theorem x139:x2aj call hs u x1ka r_16 eNil=j2 (xcd call hs u) 0 1:=by kernel_rfl
noncomputable abbrev x1vj:=VX x3z 29 r_2
noncomputable def xuk:=x1qv x3z
noncomputable def xjv:=nRs 2 xuk
noncomputable def xul:=nL xjv
noncomputable def x1kb:=nR xjv
noncomputable def xum:=nR xul
noncomputable def xun:=nR xum
noncomputable def xuo:=nR xun
noncomputable def xjw:=nRs 2 xuo
noncomputable def x1kc:=nL xjw
noncomputable def x1kd:=nR xjw
theorem x1ke:x1vj call hs u x1kb r_2 eNil=j1 (x23 call hs u) 5:=by kernel_rfl
theorem x1kf{rec0:AV->AV->AV->AV->AV->Mem->Nat->O2}:x1vj call hs u x1kd (j5 rec0 1 5 10 11 12) (setE 0 (j1 (x23 call hs u) 5) eNil)=j5 (x4s call hs u rec0) 1 5 10 11 12:=by kernel_rfl
theorem x1kg{rec0:AV->AV->AV->AV->AV->Mem->Nat->O2}:x1vj call hs u x1kc (j5 (x4s call hs u rec0) 1 5 10 11 12) (setE 0 (j1 (x23 call hs u) 5) eNil)=j5 (xce call hs u rec0) 1 5 10 11 12:=by kernel_rfl
theorem x1kh{rec0:AV->AV->AV->AV->AV->Mem->Nat->O2}:x1vj call hs u xjw (j5 rec0 1 5 10 11 12) (setE 0 (j1 (x23 call hs u) 5) eNil)=j5 (xce call hs u rec0) 1 5 10 11 12:=sq2 x1kf x1kg
theorem x1ki{rec0:AV->AV->AV->AV->AV->Mem->Nat->O2}:x1vj call hs u xuo (j5 rec0 1 5 10 11 12) (setE 0 (j1 (x23 call hs u) 5) eNil)=j5 (xcf call hs u rec0) 1 5 10 11 12:=tr (sqN 2 x1kh)
theorem x1kj:x1vj call hs u xun (j1 (x23 call hs u) 5) (setE 0 (j1 (x23 call hs u) 5) eNil)=j5 (x24 call hs u NN) 1 5 10 11 12:=lp (Ln:=fun n=>j5 (x24 call hs u n) 1 5 10 11 12) fun n=>tr x1ki
theorem x1kk:x1vj call hs u xum (j1 (x23 call hs u) 5) eNil=j5 (x24 call hs u NN) 1 5 10 11 12:=bk x1kj
theorem x1kl:x1vj call hs u xul (j1 (x23 call hs u) 5) eNil=j3 (xcg call hs u) 1 2 5:=tr (sqN 1 x1kk)
theorem x1km:x1vj call hs u xjv r_2 eNil=j3 (xcg call hs u) 1 2 5:=sq2 x1ke x1kl
theorem x13a:x1vj call hs u xuk r_2 eNil=j2 (xgw call hs u) 0 1:=tr (sqN 2 x1km)
noncomputable abbrev x2ak:=VX x40 8 r_17
noncomputable def x1kn:=x1qv x40
theorem x13b:x2ak call hs u x1kn r_17 eNil=j2 (xgx call hs u) 0 1:=by kernel_rfl
noncomputable abbrev x2al:=VX x55 19 r_2
noncomputable def x1ko:=x1qv x55
theorem x10r:x2al call hs u x1ko r_2 eNil=j2 (xgy call hs u) 0 1:=by kernel_rfl
noncomputable abbrev x2am:=VX xaa 5 r_0
noncomputable def x1kp:=x1qv xaa
theorem x13c:x2am call hs u x1kp r_0 eNil=j1 (xna call hs u) 0:=by kernel_rfl
noncomputable abbrev x210:=VX x5m 14 r_2
noncomputable def xup:=x1qv x5m
noncomputable def xjx:=nRs 2 xup
noncomputable def x1kq:=nL xjx
noncomputable def x1kr:=nR xjx
theorem x1ks:x210 call hs u x1kr r_2 eNil=j1 (x76 call hs u) 0:=by kernel_rfl
theorem x1kt:x210 call hs u x1kq (j1 (x76 call hs u) 0) eNil=j2 (xch call hs u) 0 1:=by kernel_rfl
theorem x1ku:x210 call hs u xjx r_2 eNil=j2 (xch call hs u) 0 1:=sq2 x1ks x1kt
theorem x13d:x210 call hs u xup r_2 eNil=j2 (xgz call hs u) 0 1:=tr (sqN 2 x1ku)
noncomputable abbrev x2an:=VX x7x 19 r_2
noncomputable def x1kv:=x1qv x7x
theorem x13e:x2an call hs u x1kv r_2 eNil=j2 (xnb call hs u) 0 1:=by kernel_rfl
noncomputable abbrev x2ao:=VX x5n 15 r_17
noncomputable def x1kw:=x1qv x5n
theorem x13f:x2ao call hs u x1kw r_17 eNil=j2 (xh0 call hs u) 0 1:=by kernel_rfl
noncomputable abbrev x1xk:=VX xab 62 r_10
noncomputable def xuq:=x1qv xab
noncomputable def xjy:=nRs 2 xuq
noncomputable def xur:=nL xjy
noncomputable def x1kx:=nR xjy
noncomputable def xus:=nR xur
noncomputable def xut:=nR xus
noncomputable def x1ky:=nR xut
theorem x1kz:x1xk call hs u x1kx r_10 eNil=j0 (x6d call hs u):=by kernel_rfl
theorem x1l0{rec0:AV->AV->AV->AV->Mem->Nat->O2}:x1xk call hs u x1ky (j4 rec0 1 17 18 19) (setE 1 (j0 (x6d call hs u)) eNil)=j4 (xnc call hs u rec0) 1 17 18 19:=by kernel_rfl
theorem x1l1:x1xk call hs u xut (j0 (x6d call hs u)) (setE 1 (j0 (x6d call hs u)) eNil)=j4 (x9b call hs u NN) 1 17 18 19:=lp (Ln:=fun n=>j4 (x9b call hs u n) 1 17 18 19) fun n=>tr x1l0
theorem x1l2:x1xk call hs u xus (j0 (x6d call hs u)) eNil=j4 (x9b call hs u NN) 1 17 18 19:=bk x1l1
theorem x1l3:x1xk call hs u xur (j0 (x6d call hs u)) eNil=j1 (xh1 call hs u) 1:=tr (sqN 1 x1l2)
theorem x1l4:x1xk call hs u xjy r_10 eNil=j1 (xh1 call hs u) 1:=sq2 x1kz x1l3
theorem x13g:x1xk call hs u xuq r_10 eNil=j1 (xnd call hs u) 0:=tr (sqN 2 x1l4)
noncomputable abbrev x1ty:=VX x5o 132 r_0
noncomputable def xuu:=x1qv x5o
noncomputable def xjz:=nRs 2 xuu
noncomputable def xuv:=nL xjz
noncomputable def x1l5:=nR xjz
noncomputable def xuw:=nR xuv
noncomputable def xux:=nR xuw
noncomputable def xuy:=nR xux
noncomputable def xk0:=nRs 2 xuy
noncomputable def xuz:=nL xk0
noncomputable def x1l6:=nR xk0
noncomputable def xv0:=nR xuz
noncomputable def xk1:=nR xv0
noncomputable def x1l7:=nL xk1
noncomputable def x1l8:=nR xk1
theorem x1l9:x1ty call hs u x1l5 r_0 eNil=j1 (x15 call hs u) 3:=by kernel_rfl
theorem x1la{rec0:AV->AV->AV->AV->Mem->Nat->O2}:x1ty call hs u x1l6 (j4 rec0 3 28 29 30) (setE 0 (j1 (x15 call hs u) 3) eNil)=j4 (x25 call hs u rec0) 3 28 29 30:=by kernel_rfl
theorem x1lb{rec0:AV->AV->AV->AV->Mem->Nat->O2}:x1ty call hs u x1l8 (j4 (x25 call hs u rec0) 3 28 29 30) (setE 1 (j4 (x25 call hs u rec0) 3 28 29 30) (setE 0 (j1 (x15 call hs u) 3) eNil))=j6 (x4t call hs u rec0) 3 4 5 28 29 30:=by kernel_rfl
theorem x1lc{rec0:AV->AV->AV->AV->Mem->Nat->O2}:x1ty call hs u x1l7 (j6 (x4t call hs u rec0) 3 4 5 28 29 30) (setE 1 (j4 (x25 call hs u rec0) 3 28 29 30) (setE 0 (j1 (x15 call hs u) 3) eNil))=j6 (xci call hs u rec0) 3 4 5 28 29 30:=by kernel_rfl
theorem x1ld{rec0:AV->AV->AV->AV->Mem->Nat->O2}:x1ty call hs u xk1 (j4 (x25 call hs u rec0) 3 28 29 30) (setE 1 (j4 (x25 call hs u rec0) 3 28 29 30) (setE 0 (j1 (x15 call hs u) 3) eNil))=j6 (xci call hs u rec0) 3 4 5 28 29 30:=sq2 x1lb x1lc
theorem x1le{rec0:AV->AV->AV->AV->Mem->Nat->O2}:x1ty call hs u xv0 (j4 (x25 call hs u rec0) 3 28 29 30) (setE 1 (j4 (x25 call hs u rec0) 3 28 29 30) (setE 0 (j1 (x15 call hs u) 3) eNil))=j4 (x9c call hs u rec0) 3 28 29 30:=tr (sqN 1 x1ld)
theorem x1lf{rec0:AV->AV->AV->AV->Mem->Nat->O2}:x1ty call hs u xuz (j4 (x25 call hs u rec0) 3 28 29 30) (setE 0 (j1 (x15 call hs u) 3) eNil)=j4 (x9c call hs u rec0) 3 28 29 30:=bk x1le
theorem x1lg{rec0:AV->AV->AV->AV->Mem->Nat->O2}:x1ty call hs u xk0 (j4 rec0 3 28 29 30) (setE 0 (j1 (x15 call hs u) 3) eNil)=j4 (x9c call hs u rec0) 3 28 29 30:=sq2 x1la x1lf
theorem x1lh{rec0:AV->AV->AV->AV->Mem->Nat->O2}:x1ty call hs u xuy (j4 rec0 3 28 29 30) (setE 0 (j1 (x15 call hs u) 3) eNil)=j4 (xcj call hs u rec0) 3 28 29 30:=tr (sqN 2 x1lg)
theorem x1li:x1ty call hs u xux (j1 (x15 call hs u) 3) (setE 0 (j1 (x15 call hs u) 3) eNil)=j4 (x2o call hs u NN) 3 28 29 30:=lp (Ln:=fun n=>j4 (x2o call hs u n) 3 28 29 30) fun n=>tr x1lh
theorem x1lj:x1ty call hs u xuw (j1 (x15 call hs u) 3) eNil=j4 (x2o call hs u NN) 3 28 29 30:=bk x1li
theorem x1lk:x1ty call hs u xuv (j1 (x15 call hs u) 3) eNil=j2 (xck call hs u) 1 3:=tr (sqN 1 x1lj)
theorem x1ll:x1ty call hs u xjz r_0 eNil=j2 (xck call hs u) 1 3:=sq2 x1l9 x1lk
theorem x13h:x1ty call hs u xuu r_0 eNil=j1 (xh2 call hs u) 0:=tr (sqN 2 x1ll)
noncomputable abbrev x1xl:=VX x3o 19 r_2
noncomputable def xv1:=x1qv x3o
noncomputable def xk2:=nR xv1
noncomputable def xv2:=nL xk2
noncomputable def x1lm:=nR xk2
noncomputable def xv3:=nR xv2
noncomputable def xv4:=nR xv3
noncomputable def x1ln:=nR xv4
theorem x1lo:x1xl call hs u x1lm r_2 eNil=j0 (x3d call hs u):=by kernel_rfl
theorem x1lp{rec0:AV->AV->AV->AV->Mem->Nat->O2}:x1xl call hs u x1ln (j4 rec0 0 1 7 8) (setE 0 (j0 (x3d call hs u)) eNil)=j4 (x6e call hs u rec0) 0 1 7 8:=by kernel_rfl
theorem x1lq:x1xl call hs u xv4 (j0 (x3d call hs u)) (setE 0 (j0 (x3d call hs u)) eNil)=j4 (x1o call hs u NN) 0 1 7 8:=lp (Ln:=fun n=>j4 (x1o call hs u n) 0 1 7 8) fun n=>tr x1lp
theorem x1lr:x1xl call hs u xv3 (j0 (x3d call hs u)) eNil=j4 (x1o call hs u NN) 0 1 7 8:=bk x1lq
theorem x1ls:x1xl call hs u xv2 (j0 (x3d call hs u)) eNil=j2 (x9d call hs u) 0 1:=tr (sqN 1 x1lr)
theorem x1lt:x1xl call hs u xk2 r_2 eNil=j2 (x9d call hs u) 0 1:=sq2 x1lo x1ls
theorem x10t:x1xl call hs u xv1 r_2 eNil=j2 (xcl call hs u) 0 1:=tr (sqN 1 x1lt)
noncomputable abbrev x2ap:=VX x2t 5 r_0
noncomputable def x1lu:=x1qv x2t
theorem x10u:x2ap call hs u x1lu r_0 eNil=j1 (xh3 call hs u) 0:=by kernel_rfl
noncomputable abbrev x1sk:=VX x5p 160 r_18
noncomputable def xv5:=x1qv x5p
noncomputable def xk3:=nRs 2 xv5
noncomputable def xv6:=nL xk3
noncomputable def xv7:=nR xk3
noncomputable def xk4:=nR xv7
noncomputable def xv8:=nL xk4
noncomputable def xk5:=nR xk4
noncomputable def xv9:=nL xk5
noncomputable def xva:=nR xk5
noncomputable def xvb:=nRs 3 xva
noncomputable def xvc:=nR xvb
noncomputable def x1lv:=nR xvc
noncomputable def xvd:=nR xv9
noncomputable def xve:=nR xvd
noncomputable def x1lw:=nR xve
noncomputable def xvf:=nR xv8
noncomputable def xvg:=nR xvf
noncomputable def x1lx:=nR xvg
noncomputable def xvh:=nR xv6
noncomputable def xvi:=nR xvh
noncomputable def xvj:=nR xvi
noncomputable def xk6:=nRs 2 xvj
noncomputable def x1ly:=nL xk6
noncomputable def x1lz:=nR xk6
theorem x1m0{rec0:AV->AV->AV->AV->AV->AV->Mem->Nat->O2}:x1sk call hs u x1lv (j6 rec0 0 4 5 136 137 138) (setE 6 r_18 eNil)=j6 (xcm call hs u rec0) 0 4 5 136 137 138:=by kernel_rfl
theorem x1m1:x1sk call hs u xvc r_18 (setE 6 r_18 eNil)=j6 (x4u call hs u NN) 0 4 5 136 137 138:=lp (Ln:=fun n=>j6 (x4u call hs u n) 0 4 5 136 137 138) fun n=>tr x1m0
theorem x1m2:x1sk call hs u xvb r_18 eNil=j6 (x4u call hs u NN) 0 4 5 136 137 138:=bk x1m1
theorem x1m3:x1sk call hs u xva r_18 eNil=j5 (x3e call hs u) 0 1 4 5 8:=tr (sqN 3 x1m2)
theorem x1m4{rec1:AV->AV->AV->AV->AV->AV->Mem->Nat->O2}:x1sk call hs u x1lw (j6 rec1 0 1 4 5 8 10) (setE 4 (j5 (x3e call hs u) 0 1 4 5 8) eNil)=j6 (xcn call hs u rec1) 0 1 4 5 8 10:=by kernel_rfl
theorem x1m5:x1sk call hs u xve (j5 (x3e call hs u) 0 1 4 5 8) (setE 4 (j5 (x3e call hs u) 0 1 4 5 8) eNil)=j6 (x4v call hs u NN) 0 1 4 5 8 10:=lp (Ln:=fun n=>j6 (x4v call hs u n) 0 1 4 5 8 10) fun n=>tr x1m4
theorem x1m6:x1sk call hs u xvd (j5 (x3e call hs u) 0 1 4 5 8) eNil=j6 (x4v call hs u NN) 0 1 4 5 8 10:=bk x1m5
theorem x1m7:x1sk call hs u xv9 (j5 (x3e call hs u) 0 1 4 5 8) eNil=j5 (x2p call hs u) 0 1 4 5 8:=tr (sqN 1 x1m6)
theorem x1m8:x1sk call hs u xk5 r_18 eNil=j5 (x2p call hs u) 0 1 4 5 8:=sq2 x1m3 x1m7
theorem x1m9{rec2:AV->AV->AV->AV->AV->AV->Mem->Nat->O2}:x1sk call hs u x1lx (j6 rec2 0 1 4 5 8 9) (setE 2 (j5 (x2p call hs u) 0 1 4 5 8) eNil)=j6 (xco call hs u rec2) 0 1 4 5 8 9:=by kernel_rfl
theorem x1ma:x1sk call hs u xvg (j5 (x2p call hs u) 0 1 4 5 8) (setE 2 (j5 (x2p call hs u) 0 1 4 5 8) eNil)=j6 (x4w call hs u NN) 0 1 4 5 8 9:=lp (Ln:=fun n=>j6 (x4w call hs u n) 0 1 4 5 8 9) fun n=>tr x1m9
theorem x1mb:x1sk call hs u xvf (j5 (x2p call hs u) 0 1 4 5 8) eNil=j6 (x4w call hs u NN) 0 1 4 5 8 9:=bk x1ma
theorem x1mc:x1sk call hs u xv8 (j5 (x2p call hs u) 0 1 4 5 8) eNil=j5 (xcp call hs u) 0 1 4 5 8:=tr (sqN 1 x1mb)
theorem x1md:x1sk call hs u xk4 r_18 eNil=j5 (xcp call hs u) 0 1 4 5 8:=sq2 x1m8 x1mc
theorem x1me:x1sk call hs u xv7 r_18 eNil=j4 (x1p call hs u) 0 1 4 5:=tr (sqN 1 x1md)
theorem x1mf{rec3:AV->AV->AV->AV->AV->AV->AV->Mem->Nat->O2}:x1sk call hs u x1lz (j7 rec3 0 1 4 5 17 18 19) (setE 0 (j4 (x1p call hs u) 0 1 4 5) eNil)=j7 (x3f call hs u rec3) 0 1 4 5 17 18 19:=by kernel_rfl
theorem x1mg{rec3:AV->AV->AV->AV->AV->AV->AV->Mem->Nat->O2}:x1sk call hs u x1ly (j7 (x3f call hs u rec3) 0 1 4 5 17 18 19) (setE 0 (j4 (x1p call hs u) 0 1 4 5) eNil)=j7 (x9e call hs u rec3) 0 1 4 5 17 18 19:=by kernel_rfl
theorem x1mh{rec3:AV->AV->AV->AV->AV->AV->AV->Mem->Nat->O2}:x1sk call hs u xk6 (j7 rec3 0 1 4 5 17 18 19) (setE 0 (j4 (x1p call hs u) 0 1 4 5) eNil)=j7 (x9e call hs u rec3) 0 1 4 5 17 18 19:=sq2 x1mf x1mg
theorem x1mi{rec3:AV->AV->AV->AV->AV->AV->AV->Mem->Nat->O2}:x1sk call hs u xvj (j7 rec3 0 1 4 5 17 18 19) (setE 0 (j4 (x1p call hs u) 0 1 4 5) eNil)=j7 (x9f call hs u rec3) 0 1 4 5 17 18 19:=tr (sqN 2 x1mh)
theorem x1mj:x1sk call hs u xvi (j4 (x1p call hs u) 0 1 4 5) (setE 0 (j4 (x1p call hs u) 0 1 4 5) eNil)=j7 (x3g call hs u NN) 0 1 4 5 17 18 19:=lp (Ln:=fun n=>j7 (x3g call hs u n) 0 1 4 5 17 18 19) fun n=>tr x1mi
theorem x1mk:x1sk call hs u xvh (j4 (x1p call hs u) 0 1 4 5) eNil=j7 (x3g call hs u NN) 0 1 4 5 17 18 19:=bk x1mj
theorem x1ml:x1sk call hs u xv6 (j4 (x1p call hs u) 0 1 4 5) eNil=j4 (xcq call hs u) 0 1 4 5:=tr (sqN 1 x1mk)
theorem x1mm:x1sk call hs u xk3 r_18 eNil=j4 (xcq call hs u) 0 1 4 5:=sq2 x1me x1ml
theorem x13i:x1sk call hs u xv5 r_18 eNil=j2 (xh4 call hs u) 0 1:=tr (sqN 2 x1mm)
noncomputable abbrev x2aq:=VX x3n 7 r_0
noncomputable def x1mn:=x1qv x3n
theorem x10s:x2aq call hs u x1mn r_0 eNil=j1 (xh5 call hs u) 0:=by kernel_rfl
noncomputable abbrev x2ar:=VX x6o 6 r_2
noncomputable def x1mo:=x1qv x6o
theorem x13j:x2ar call hs u x1mo r_2 eNil=j2 (xh6 call hs u) 0 1:=by kernel_rfl
noncomputable abbrev x2as:=VX x6p 5 r_0
noncomputable def x1mp:=x1qv x6p
theorem x13k:x2as call hs u x1mp r_0 eNil=j1 (xh7 call hs u) 0:=by kernel_rfl
noncomputable abbrev x2at:=VX x5q 13 r_17
noncomputable def x1mq:=x1qv x5q
theorem x13l:x2at call hs u x1mq r_17 eNil=j2 (xh8 call hs u) 0 1:=by kernel_rfl
noncomputable abbrev x1yh:=VX x5r 27 r_2
noncomputable def xvk:=x1qv x5r
noncomputable def xk7:=nR xvk
noncomputable def x1mr:=nL xk7
noncomputable def xk8:=nR xk7
noncomputable def x1ms:=nL xk8
noncomputable def x1mt:=nR xk8
theorem x1mu:x1yh call hs u x1mt r_2 eNil=j1 (x77 call hs u) 0:=by kernel_rfl
theorem x1mv:x1yh call hs u x1ms (j1 (x77 call hs u) 0) eNil=j2 (x78 call hs u) 0 1:=by kernel_rfl
theorem x1mw:x1yh call hs u xk8 r_2 eNil=j2 (x78 call hs u) 0 1:=sq2 x1mu x1mv
theorem x1mx:x1yh call hs u x1mr (j2 (x78 call hs u) 0 1) eNil=j2 (x9g call hs u) 0 1:=by kernel_rfl
theorem x1my:x1yh call hs u xk7 r_2 eNil=j2 (x9g call hs u) 0 1:=sq2 x1mw x1mx
theorem x13m:x1yh call hs u xvk r_2 eNil=j2 (xcr call hs u) 0 1:=tr (sqN 1 x1my)
noncomputable abbrev x2au:=VX x5s 7 r_0
noncomputable def x1mz:=x1qv x5s
theorem x13n:x2au call hs u x1mz r_0 eNil=j1 (xh9 call hs u) 0:=by kernel_rfl
noncomputable abbrev x1tl:=VX x5t 45 r_2
noncomputable def xvl:=x1qv x5t
noncomputable def xk9:=nRs 3 xvl
noncomputable def xvm:=nL xk9
noncomputable def x1n0:=nR xk9
noncomputable def xvn:=nR xvm
noncomputable def xvo:=nR xvn
noncomputable def xvp:=nR xvo
noncomputable def xka:=nRs 2 xvp
noncomputable def xvq:=nL xka
noncomputable def x1n1:=nR xka
noncomputable def xvr:=nR xvq
noncomputable def xkb:=nRs 4 xvr
noncomputable def xvs:=nL xkb
noncomputable def x1n2:=nR xkb
noncomputable def xvt:=nR xvs
noncomputable def x1n3:=nR xvt
theorem x1n4:x1tl call hs u x1n0 r_2 eNil=j1 (xv call hs u) 5:=by kernel_rfl
theorem x1n5{rec0:AV->AV->AV->AV->AV->Mem->Nat->O2}:x1tl call hs u x1n1 (j5 rec0 1 5 6 14 15) (setE 0 (j1 (xv call hs u) 5) eNil)=j5 (x16 call hs u rec0) 1 5 6 14 15:=by kernel_rfl
theorem x1n6{rec0:AV->AV->AV->AV->AV->Mem->Nat->O2}:x1tl call hs u x1n2 (j5 (x16 call hs u rec0) 1 5 6 14 15) (setE 1 (j5 (x16 call hs u rec0) 1 5 6 14 15) (setE 0 (j1 (xv call hs u) 5) eNil))=j5 (x4x call hs u rec0) 1 5 6 14 15:=by kernel_rfl
theorem x1n7{rec0:AV->AV->AV->AV->AV->Mem->Nat->O2}{rec1:AV->AV->AV->AV->AV->AV->Mem->Nat->O2}:x1tl call hs u x1n3 (j6 rec1 1 5 6 8 14 15) (setE 2 (j5 (x4x call hs u rec0) 1 5 6 14 15) (setE 1 (j5 (x16 call hs u rec0) 1 5 6 14 15) (setE 0 (j1 (xv call hs u) 5) eNil)))=j6 (x9h call hs u rec0 rec1) 1 5 6 8 14 15:=by kernel_rfl
theorem x1n8{rec0:AV->AV->AV->AV->AV->Mem->Nat->O2}:x1tl call hs u xvt (j5 (x4x call hs u rec0) 1 5 6 14 15) (setE 2 (j5 (x4x call hs u rec0) 1 5 6 14 15) (setE 1 (j5 (x16 call hs u rec0) 1 5 6 14 15) (setE 0 (j1 (xv call hs u) 5) eNil)))=j6 (x2q call hs u rec0 NN) 1 5 6 8 14 15:=lp (Ln:=fun n=>j6 (x2q call hs u rec0 n) 1 5 6 8 14 15) fun n=>tr x1n7
theorem x1n9{rec0:AV->AV->AV->AV->AV->Mem->Nat->O2}:x1tl call hs u xvs (j5 (x4x call hs u rec0) 1 5 6 14 15) (setE 1 (j5 (x16 call hs u rec0) 1 5 6 14 15) (setE 0 (j1 (xv call hs u) 5) eNil))=j6 (x2q call hs u rec0 NN) 1 5 6 8 14 15:=bk x1n8
theorem x1na{rec0:AV->AV->AV->AV->AV->Mem->Nat->O2}:x1tl call hs u xkb (j5 (x16 call hs u rec0) 1 5 6 14 15) (setE 1 (j5 (x16 call hs u rec0) 1 5 6 14 15) (setE 0 (j1 (xv call hs u) 5) eNil))=j6 (x2q call hs u rec0 NN) 1 5 6 8 14 15:=sq2 x1n6 x1n9
theorem x1nb{rec0:AV->AV->AV->AV->AV->Mem->Nat->O2}:x1tl call hs u xvr (j5 (x16 call hs u rec0) 1 5 6 14 15) (setE 1 (j5 (x16 call hs u rec0) 1 5 6 14 15) (setE 0 (j1 (xv call hs u) 5) eNil))=j5 (x79 call hs u rec0) 1 5 6 14 15:=tr (sqN 4 x1na)
theorem x1nc{rec0:AV->AV->AV->AV->AV->Mem->Nat->O2}:x1tl call hs u xvq (j5 (x16 call hs u rec0) 1 5 6 14 15) (setE 0 (j1 (xv call hs u) 5) eNil)=j5 (x79 call hs u rec0) 1 5 6 14 15:=bk x1nb
theorem x1nd{rec0:AV->AV->AV->AV->AV->Mem->Nat->O2}:x1tl call hs u xka (j5 rec0 1 5 6 14 15) (setE 0 (j1 (xv call hs u) 5) eNil)=j5 (x79 call hs u rec0) 1 5 6 14 15:=sq2 x1n5 x1nc
theorem x1ne{rec0:AV->AV->AV->AV->AV->Mem->Nat->O2}:x1tl call hs u xvp (j5 rec0 1 5 6 14 15) (setE 0 (j1 (xv call hs u) 5) eNil)=j5 (x9i call hs u rec0) 1 5 6 14 15:=tr (sqN 2 x1nd)
theorem x1nf:x1tl call hs u xvo (j1 (xv call hs u) 5) (setE 0 (j1 (xv call hs u) 5) eNil)=j5 (x2r call hs u NN) 1 5 6 14 15:=lp (Ln:=fun n=>j5 (x2r call hs u n) 1 5 6 14 15) fun n=>tr x1ne
theorem x1ng:x1tl call hs u xvn (j1 (xv call hs u) 5) eNil=j5 (x2r call hs u NN) 1 5 6 14 15:=bk x1nf
theorem x1nh:x1tl call hs u xvm (j1 (xv call hs u) 5) eNil=j3 (xcs call hs u) 1 5 6:=tr (sqN 1 x1ng)
theorem x1ni:x1tl call hs u xk9 r_2 eNil=j3 (xcs call hs u) 1 5 6:=sq2 x1n4 x1nh
theorem x13o:x1tl call hs u xvl r_2 eNil=j2 (xha call hs u) 0 1:=tr (sqN 3 x1ni)
noncomputable abbrev x211:=VX x3k 20 r_18
noncomputable def xvu:=x1qv x3k
noncomputable def xvv:=nR xvu
noncomputable def xvw:=nR xvv
noncomputable def x1nj:=nR xvw
theorem x1nk{rec0:AV->AV->AV->AV->Mem->Nat->O2}:x211 call hs u x1nj (j4 rec0 1 10 11 12) (setE 0 r_18 eNil)=j4 (xct call hs u rec0) 1 10 11 12:=by kernel_rfl
theorem x1nl:x211 call hs u xvw r_18 (setE 0 r_18 eNil)=j4 (x4y call hs u NN) 1 10 11 12:=lp (Ln:=fun n=>j4 (x4y call hs u n) 1 10 11 12) fun n=>tr x1nk
theorem x1nm:x211 call hs u xvv r_18 eNil=j4 (x4y call hs u NN) 1 10 11 12:=bk x1nl
theorem x10m:x211 call hs u xvu r_18 eNil=j3 (xcu call hs u) 0 1 2:=tr (sqN 1 x1nm)
noncomputable abbrev x1tm:=VX x1s 139 r_19
noncomputable abbrev x26w:=VX (R:=Mem) x1s 139 fNil
noncomputable def xvx:=x1qv x1s
noncomputable def xvy:=nRs 4 xvx
noncomputable def xvz:=nR xvy
noncomputable def xw0:=nR xvz
noncomputable def xw1:=nR xw0
noncomputable def xkc:=nR xw1
noncomputable def xw2:=nL xkc
noncomputable def xw3:=nR xkc
noncomputable def xw4:=nRs 3 xw3
noncomputable def xdc:=nR xw4
noncomputable def x1nn:=nL xdc
noncomputable def x1no:=nR xdc
noncomputable def xw5:=nR xw2
noncomputable def xw6:=nR xw5
noncomputable def xw7:=nR xw6
noncomputable def xkd:=nRs 2 xw7
noncomputable def x1np:=nL xkd
noncomputable def x1nq:=nR xkd
theorem x1nr:x26w call hs u x1no (fun s=>some s.m) eNil=j4 (x7a call hs u) 2 5 7 10:=by kernel_rfl
theorem x1ns:x26w call hs u x1nn (j4 (x7a call hs u) 2 5 7 10) eNil=j4 (x6f call hs u) 2 5 7 87:=by kernel_rfl
theorem x1nt{rec0:AV->AV->AV->AV->Mem->Nat->O2}:x1tm call hs u xdc (j4 rec0 2 4 5 6) (setE 4 (j4 rec0 2 4 5 6) (setE 1 (j4 rec0 2 4 5 6) (setE 0 r_19 eNil)))=j6 (xcv call hs u rec0) 2 4 5 6 7 86:=tr (rg (C:=xdc) (c:={f:=x1s,u:=u,nt:=139,hs:=hs}) (f:=(.tmp 86)) (ps:=#[87]) (fun u=>x1nr) (fun u=>x1ns))
theorem x1nu{rec0:AV->AV->AV->AV->Mem->Nat->O2}:x1tm call hs u xw4 (j4 rec0 2 4 5 6) (setE 1 (j4 rec0 2 4 5 6) (setE 0 r_19 eNil))=j6 (xcv call hs u rec0) 2 4 5 6 7 86:=bk x1nt
theorem x1nv{rec0:AV->AV->AV->AV->Mem->Nat->O2}:x1tm call hs u xw3 (j4 rec0 2 4 5 6) (setE 1 (j4 rec0 2 4 5 6) (setE 0 r_19 eNil))=j5 (x17 call hs u rec0) 2 4 5 6 7:=tr (sqN 3 x1nu)
theorem x1nw{rec0:AV->AV->AV->AV->Mem->Nat->O2}{rec1:AV->AV->AV->AV->AV->AV->AV->AV->Mem->Nat->O2}:x1tm call hs u x1nq (j8 rec1 2 4 5 6 7 47 48 49) (setE 2 (j5 (x17 call hs u rec0) 2 4 5 6 7) (setE 1 (j4 rec0 2 4 5 6) (setE 0 r_19 eNil)))=j8 (x3h call hs u rec0 rec1) 2 4 5 6 7 47 48 49:=by kernel_rfl
theorem x1nx{rec0:AV->AV->AV->AV->Mem->Nat->O2}{rec1:AV->AV->AV->AV->AV->AV->AV->AV->Mem->Nat->O2}:x1tm call hs u x1np (j8 (x3h call hs u rec0 rec1) 2 4 5 6 7 47 48 49) (setE 2 (j5 (x17 call hs u rec0) 2 4 5 6 7) (setE 1 (j4 rec0 2 4 5 6) (setE 0 r_19 eNil)))=j8 (x9j call hs u rec0 rec1) 2 4 5 6 7 47 48 49:=by kernel_rfl
theorem x1ny{rec0:AV->AV->AV->AV->Mem->Nat->O2}{rec1:AV->AV->AV->AV->AV->AV->AV->AV->Mem->Nat->O2}:x1tm call hs u xkd (j8 rec1 2 4 5 6 7 47 48 49) (setE 2 (j5 (x17 call hs u rec0) 2 4 5 6 7) (setE 1 (j4 rec0 2 4 5 6) (setE 0 r_19 eNil)))=j8 (x9j call hs u rec0 rec1) 2 4 5 6 7 47 48 49:=sq2 x1nw x1nx
theorem x1nz{rec0:AV->AV->AV->AV->Mem->Nat->O2}{rec1:AV->AV->AV->AV->AV->AV->AV->AV->Mem->Nat->O2}:x1tm call hs u xw7 (j8 rec1 2 4 5 6 7 47 48 49) (setE 2 (j5 (x17 call hs u rec0) 2 4 5 6 7) (setE 1 (j4 rec0 2 4 5 6) (setE 0 r_19 eNil)))=j8 (x9k call hs u rec0 rec1) 2 4 5 6 7 47 48 49:=tr (sqN 2 x1ny)
theorem x1o0{rec0:AV->AV->AV->AV->Mem->Nat->O2}:x1tm call hs u xw6 (j5 (x17 call hs u rec0) 2 4 5 6 7) (setE 2 (j5 (x17 call hs u rec0) 2 4 5 6 7) (setE 1 (j4 rec0 2 4 5 6) (setE 0 r_19 eNil)))=j8 (x3i call hs u rec0 NN) 2 4 5 6 7 47 48 49:=lp (Ln:=fun n=>j8 (x3i call hs u rec0 n) 2 4 5 6 7 47 48 49) fun n=>tr x1nz
theorem x1o1{rec0:AV->AV->AV->AV->Mem->Nat->O2}:x1tm call hs u xw5 (j5 (x17 call hs u rec0) 2 4 5 6 7) (setE 1 (j4 rec0 2 4 5 6) (setE 0 r_19 eNil))=j8 (x3i call hs u rec0 NN) 2 4 5 6 7 47 48 49:=bk x1o0
theorem x1o2{rec0:AV->AV->AV->AV->Mem->Nat->O2}:x1tm call hs u xw2 (j5 (x17 call hs u rec0) 2 4 5 6 7) (setE 1 (j4 rec0 2 4 5 6) (setE 0 r_19 eNil))=j5 (xcw call hs u rec0) 2 4 5 6 7:=tr (sqN 1 x1o1)
theorem x1o3{rec0:AV->AV->AV->AV->Mem->Nat->O2}:x1tm call hs u xkc (j4 rec0 2 4 5 6) (setE 1 (j4 rec0 2 4 5 6) (setE 0 r_19 eNil))=j5 (xcw call hs u rec0) 2 4 5 6 7:=sq2 x1nv x1o2
theorem x1o4{rec0:AV->AV->AV->AV->Mem->Nat->O2}:x1tm call hs u xw1 (j4 rec0 2 4 5 6) (setE 1 (j4 rec0 2 4 5 6) (setE 0 r_19 eNil))=j4 (xcx call hs u rec0) 2 4 5 6:=tr (sqN 1 x1o3)
theorem x1o5{rec0:AV->AV->AV->AV->Mem->Nat->O2}:x1tm call hs u xw0 (j4 rec0 2 4 5 6) (setE 0 r_19 eNil)=j4 (xcx call hs u rec0) 2 4 5 6:=bk x1o4
theorem x1o6:x1tm call hs u xvz r_19 (setE 0 r_19 eNil)=j4 (x26 call hs u NN) 2 4 5 6:=lp (Ln:=fun n=>j4 (x26 call hs u n) 2 4 5 6) fun n=>tr x1o5
theorem x1o7:x1tm call hs u xvy r_19 eNil=j4 (x26 call hs u NN) 2 4 5 6:=bk x1o6
theorem x10k:x1tm call hs u xvx r_19 eNil=j2 (xhb call hs u) 0 1:=tr (sqN 4 x1o7)
noncomputable abbrev x1xm:=VX x3l 53 r_18
noncomputable def xw8:=x1qv x3l
noncomputable def xw9:=nR xw8
noncomputable def xwa:=nR xw9
noncomputable def xwb:=nR xwa
noncomputable def xke:=nRs 2 xwb
noncomputable def x1o8:=nL xke
noncomputable def x1o9:=nR xke
theorem x1oa{rec0:AV->AV->AV->AV->AV->Mem->Nat->O2}:x1xm call hs u x1o9 (j5 rec0 0 1 3 9 10) (setE 0 r_18 eNil)=j5 (x4z call hs u rec0) 0 1 3 9 10:=by kernel_rfl
theorem x1ob{rec0:AV->AV->AV->AV->AV->Mem->Nat->O2}:x1xm call hs u x1o8 (j5 (x4z call hs u rec0) 0 1 3 9 10) (setE 0 r_18 eNil)=j5 (x6g call hs u rec0) 0 1 3 9 10:=by kernel_rfl
theorem x1oc{rec0:AV->AV->AV->AV->AV->Mem->Nat->O2}:x1xm call hs u xke (j5 rec0 0 1 3 9 10) (setE 0 r_18 eNil)=j5 (x6g call hs u rec0) 0 1 3 9 10:=sq2 x1oa x1ob
theorem x1od{rec0:AV->AV->AV->AV->AV->Mem->Nat->O2}:x1xm call hs u xwb (j5 rec0 0 1 3 9 10) (setE 0 r_18 eNil)=j5 (x6h call hs u rec0) 0 1 3 9 10:=tr (sqN 2 x1oc)
theorem x1oe:x1xm call hs u xwa r_18 (setE 0 r_18 eNil)=j5 (x1q call hs u NN) 0 1 3 9 10:=lp (Ln:=fun n=>j5 (x1q call hs u n) 0 1 3 9 10) fun n=>tr x1od
theorem x1of:x1xm call hs u xw9 r_18 eNil=j5 (x1q call hs u NN) 0 1 3 9 10:=bk x1oe
theorem x10o:x1xm call hs u xw8 r_18 eNil=j4 (xcy call hs u) 0 1 2 3:=tr (sqN 1 x1of)
noncomputable abbrev x1tz:=VX x5u 73 r_2
noncomputable def xwc:=x1qv x5u
noncomputable def xkf:=nRs 2 xwc
noncomputable def xwd:=nL xkf
noncomputable def x1og:=nR xkf
noncomputable def xwe:=nR xwd
noncomputable def xwf:=nR xwe
noncomputable def xwg:=nR xwf
noncomputable def xkg:=nR xwg
noncomputable def xwh:=nL xkg
noncomputable def x1oh:=nR xkg
noncomputable def xwi:=nR xwh
noncomputable def xkh:=nR xwi
noncomputable def x1oi:=nL xkh
noncomputable def x1oj:=nR xkh
theorem x1ok:x1tz call hs u x1og r_2 eNil=j1 (x18 call hs u) 5:=by kernel_rfl
theorem x1ol{rec0:AV->AV->AV->AV->Mem->Nat->O2}:x1tz call hs u x1oh (j4 rec0 1 2 5 6) (setE 0 (j1 (x18 call hs u) 5) eNil)=j4 (x1h call hs u rec0) 1 2 5 6:=by kernel_rfl
theorem x1om{rec0:AV->AV->AV->AV->Mem->Nat->O2}:x1tz call hs u x1oj (j4 (x1h call hs u rec0) 1 2 5 6) (setE 1 (j4 (x1h call hs u rec0) 1 2 5 6) (setE 0 (j1 (x18 call hs u) 5) eNil))=j5 (x6i call hs u rec0) 1 2 5 6 7:=by kernel_rfl
theorem x1on{rec0:AV->AV->AV->AV->Mem->Nat->O2}:x1tz call hs u x1oi (j5 (x6i call hs u rec0) 1 2 5 6 7) (setE 1 (j4 (x1h call hs u rec0) 1 2 5 6) (setE 0 (j1 (x18 call hs u) 5) eNil))=j5 (x7c call hs u rec0) 1 2 5 6 7:=by kernel_rfl
theorem x1oo{rec0:AV->AV->AV->AV->Mem->Nat->O2}:x1tz call hs u xkh (j4 (x1h call hs u rec0) 1 2 5 6) (setE 1 (j4 (x1h call hs u rec0) 1 2 5 6) (setE 0 (j1 (x18 call hs u) 5) eNil))=j5 (x7c call hs u rec0) 1 2 5 6 7:=sq2 x1om x1on
theorem x1op{rec0:AV->AV->AV->AV->Mem->Nat->O2}:x1tz call hs u xwi (j4 (x1h call hs u rec0) 1 2 5 6) (setE 1 (j4 (x1h call hs u rec0) 1 2 5 6) (setE 0 (j1 (x18 call hs u) 5) eNil))=j4 (x9l call hs u rec0) 1 2 5 6:=tr (sqN 1 x1oo)
theorem x1oq{rec0:AV->AV->AV->AV->Mem->Nat->O2}:x1tz call hs u xwh (j4 (x1h call hs u rec0) 1 2 5 6) (setE 0 (j1 (x18 call hs u) 5) eNil)=j4 (x9l call hs u rec0) 1 2 5 6:=bk x1op
theorem x1or{rec0:AV->AV->AV->AV->Mem->Nat->O2}:x1tz call hs u xkg (j4 rec0 1 2 5 6) (setE 0 (j1 (x18 call hs u) 5) eNil)=j4 (x9l call hs u rec0) 1 2 5 6:=sq2 x1ol x1oq
theorem x1os{rec0:AV->AV->AV->AV->Mem->Nat->O2}:x1tz call hs u xwg (j4 rec0 1 2 5 6) (setE 0 (j1 (x18 call hs u) 5) eNil)=j4 (xcz call hs u rec0) 1 2 5 6:=tr (sqN 1 x1or)
theorem x1ot:x1tz call hs u xwf (j1 (x18 call hs u) 5) (setE 0 (j1 (x18 call hs u) 5) eNil)=j4 (x3j call hs u NN) 1 2 5 6:=lp (Ln:=fun n=>j4 (x3j call hs u n) 1 2 5 6) fun n=>tr x1os
theorem x1ou:x1tz call hs u xwe (j1 (x18 call hs u) 5) eNil=j4 (x3j call hs u NN) 1 2 5 6:=bk x1ot
theorem x1ov:x1tz call hs u xwd (j1 (x18 call hs u) 5) eNil=j3 (xd0 call hs u) 1 2 5:=tr (sqN 1 x1ou)
theorem x1ow:x1tz call hs u xkf r_2 eNil=j3 (xd0 call hs u) 1 2 5:=sq2 x1ok x1ov
theorem x13p:x1tz call hs u xwc r_2 eNil=j2 (xhc call hs u) 0 1:=tr (sqN 2 x1ow)
noncomputable abbrev x2av:=VX xad 5 r_0
noncomputable def x1ox:=x1qv xad
theorem x13q:x2av call hs u x1ox r_0 eNil=j1 (xng call hs u) 0:=by kernel_rfl
noncomputable abbrev x1vk:=VX x6q 85 r_6
noncomputable def xwj:=x1qv x6q
noncomputable def xki:=nRs 4 xwj
noncomputable def xwk:=nL xki
noncomputable def x1oy:=nR xki
noncomputable def xwl:=nR xwk
noncomputable def xwm:=nR xwl
noncomputable def xwn:=nR xwm
noncomputable def xkj:=nRs 2 xwn
noncomputable def x1oz:=nL xkj
noncomputable def x1p0:=nR xkj
theorem x1p1:x1vk call hs u x1oy r_6 eNil=j1 (x27 call hs u) 7:=by kernel_rfl
theorem x1p2{rec0:AV->AV->AV->AV->AV->Mem->Nat->O2}:x1vk call hs u x1p0 (j5 rec0 6 7 38 39 40) (setE 0 (j1 (x27 call hs u) 7) eNil)=j5 (x7d call hs u rec0) 6 7 38 39 40:=by kernel_rfl
theorem x1p3{rec0:AV->AV->AV->AV->AV->Mem->Nat->O2}:x1vk call hs u x1oz (j5 (x7d call hs u rec0) 6 7 38 39 40) (setE 0 (j1 (x27 call hs u) 7) eNil)=j5 (xd1 call hs u rec0) 6 7 38 39 40:=by kernel_rfl
theorem x1p4{rec0:AV->AV->AV->AV->AV->Mem->Nat->O2}:x1vk call hs u xkj (j5 rec0 6 7 38 39 40) (setE 0 (j1 (x27 call hs u) 7) eNil)=j5 (xd1 call hs u rec0) 6 7 38 39 40:=sq2 x1p2 x1p3
theorem x1p5{rec0:AV->AV->AV->AV->AV->Mem->Nat->O2}:x1vk call hs u xwn (j5 rec0 6 7 38 39 40) (setE 0 (j1 (x27 call hs u) 7) eNil)=j5 (xd2 call hs u rec0) 6 7 38 39 40:=tr (sqN 2 x1p4)
theorem x1p6:x1vk call hs u xwm (j1 (x27 call hs u) 7) (setE 0 (j1 (x27 call hs u) 7) eNil)=j5 (x50 call hs u NN) 6 7 38 39 40:=lp (Ln:=fun n=>j5 (x50 call hs u n) 6 7 38 39 40) fun n=>tr x1p5
theorem x1p7:x1vk call hs u xwl (j1 (x27 call hs u) 7) eNil=j5 (x50 call hs u NN) 6 7 38 39 40:=bk x1p6
theorem x1p8:x1vk call hs u xwk (j1 (x27 call hs u) 7) eNil=j3 (xd3 call hs u) 3 6 7:=tr (sqN 1 x1p7)
theorem x1p9:x1vk call hs u xki r_6 eNil=j3 (xd3 call hs u) 3 6 7:=sq2 x1p1 x1p8
theorem x13r:x1vk call hs u xwj r_6 eNil=j2 (xd4 call hs u) 0 1:=tr (sqN 4 x1p9)
noncomputable abbrev x1u0:=VX x41 55 r_18
noncomputable def xwo:=x1qv x41
noncomputable def xwp:=nRs 2 xwo
noncomputable def xwq:=nR xwp
noncomputable def xwr:=nR xwq
noncomputable def xkk:=nRs 2 xwr
noncomputable def xws:=nL xkk
noncomputable def x1pa:=nR xkk
noncomputable def xwt:=nR xws
noncomputable def xwu:=nRs 2 xwt
noncomputable def xwv:=nR xwu
noncomputable def xww:=nR xwv
noncomputable def xkl:=nRs 2 xww
noncomputable def x1pb:=nL xkl
noncomputable def x1pc:=nR xkl
theorem x1pd{rec0:AV->AV->AV->AV->AV->AV->Mem->Nat->O2}:x1u0 call hs u x1pa (j6 rec0 0 1 2 4 9 10) (setE 0 r_18 eNil)=j6 (xh call hs u rec0) 0 1 2 4 9 10:=by kernel_rfl
theorem x1pe{rec0:AV->AV->AV->AV->AV->AV->Mem->Nat->O2}{rec1:AV->AV->AV->AV->AV->AV->AV->AV->AV->AV->Mem->Nat->O2}:x1u0 call hs u x1pc (j10 rec1 0 1 2 4 5 6 9 10 16 17) (setE 2 (j6 (xh call hs u rec0) 0 1 2 4 9 10) (setE 1 (j6 (xh call hs u rec0) 0 1 2 4 9 10) (setE 0 r_18 eNil)))=j10 (x51 call hs u rec0 rec1) 0 1 2 4 5 6 9 10 16 17:=by kernel_rfl
theorem x1pf{rec0:AV->AV->AV->AV->AV->AV->Mem->Nat->O2}{rec1:AV->AV->AV->AV->AV->AV->AV->AV->AV->AV->Mem->Nat->O2}:x1u0 call hs u x1pb (j10 (x51 call hs u rec0 rec1) 0 1 2 4 5 6 9 10 16 17) (setE 2 (j6 (xh call hs u rec0) 0 1 2 4 9 10) (setE 1 (j6 (xh call hs u rec0) 0 1 2 4 9 10) (setE 0 r_18 eNil)))=j10 (x9m call hs u rec0 rec1) 0 1 2 4 5 6 9 10 16 17:=by kernel_rfl
theorem x1pg{rec0:AV->AV->AV->AV->AV->AV->Mem->Nat->O2}{rec1:AV->AV->AV->AV->AV->AV->AV->AV->AV->AV->Mem->Nat->O2}:x1u0 call hs u xkl (j10 rec1 0 1 2 4 5 6 9 10 16 17) (setE 2 (j6 (xh call hs u rec0) 0 1 2 4 9 10) (setE 1 (j6 (xh call hs u rec0) 0 1 2 4 9 10) (setE 0 r_18 eNil)))=j10 (x9m call hs u rec0 rec1) 0 1 2 4 5 6 9 10 16 17:=sq2 x1pe x1pf
theorem x1ph{rec0:AV->AV->AV->AV->AV->AV->Mem->Nat->O2}{rec1:AV->AV->AV->AV->AV->AV->AV->AV->AV->AV->Mem->Nat->O2}:x1u0 call hs u xww (j10 rec1 0 1 2 4 5 6 9 10 16 17) (setE 2 (j6 (xh call hs u rec0) 0 1 2 4 9 10) (setE 1 (j6 (xh call hs u rec0) 0 1 2 4 9 10) (setE 0 r_18 eNil)))=j10 (x7e call hs u rec0 rec1) 0 1 2 4 5 6 9 10 16 17:=tr (sqN 2 x1pg)
theorem x1pi{rec0:AV->AV->AV->AV->AV->AV->Mem->Nat->O2}:x1u0 call hs u xwv (j6 (xh call hs u rec0) 0 1 2 4 9 10) (setE 2 (j6 (xh call hs u rec0) 0 1 2 4 9 10) (setE 1 (j6 (xh call hs u rec0) 0 1 2 4 9 10) (setE 0 r_18 eNil)))=j10 (x28 call hs u rec0 NN) 0 1 2 4 5 6 9 10 16 17:=lp (Ln:=fun n=>j10 (x28 call hs u rec0 n) 0 1 2 4 5 6 9 10 16 17) fun n=>tr x1ph
theorem x1pj{rec0:AV->AV->AV->AV->AV->AV->Mem->Nat->O2}:x1u0 call hs u xwu (j6 (xh call hs u rec0) 0 1 2 4 9 10) (setE 1 (j6 (xh call hs u rec0) 0 1 2 4 9 10) (setE 0 r_18 eNil))=j10 (x28 call hs u rec0 NN) 0 1 2 4 5 6 9 10 16 17:=bk x1pi
theorem x1pk{rec0:AV->AV->AV->AV->AV->AV->Mem->Nat->O2}:x1u0 call hs u xwt (j6 (xh call hs u rec0) 0 1 2 4 9 10) (setE 1 (j6 (xh call hs u rec0) 0 1 2 4 9 10) (setE 0 r_18 eNil))=j6 (x7f call hs u rec0) 0 1 2 4 9 10:=tr (sqN 2 x1pj)
theorem x1pl{rec0:AV->AV->AV->AV->AV->AV->Mem->Nat->O2}:x1u0 call hs u xws (j6 (xh call hs u rec0) 0 1 2 4 9 10) (setE 0 r_18 eNil)=j6 (x7f call hs u rec0) 0 1 2 4 9 10:=bk x1pk
theorem x1pm{rec0:AV->AV->AV->AV->AV->AV->Mem->Nat->O2}:x1u0 call hs u xkk (j6 rec0 0 1 2 4 9 10) (setE 0 r_18 eNil)=j6 (x7f call hs u rec0) 0 1 2 4 9 10:=sq2 x1pd x1pl
theorem x1pn{rec0:AV->AV->AV->AV->AV->AV->Mem->Nat->O2}:x1u0 call hs u xwr (j6 rec0 0 1 2 4 9 10) (setE 0 r_18 eNil)=j6 (x7g call hs u rec0) 0 1 2 4 9 10:=tr (sqN 2 x1pm)
theorem x1po:x1u0 call hs u xwq r_18 (setE 0 r_18 eNil)=j6 (x29 call hs u NN) 0 1 2 4 9 10:=lp (Ln:=fun n=>j6 (x29 call hs u n) 0 1 2 4 9 10) fun n=>tr x1pn
theorem x1pp:x1u0 call hs u xwp r_18 eNil=j6 (x29 call hs u NN) 0 1 2 4 9 10:=bk x1po
theorem x13s:x1u0 call hs u xwo r_18 eNil=j3 (xhd call hs u) 0 1 2:=tr (sqN 2 x1pp)
noncomputable abbrev x1uk:=VX x2d 48 r_2
noncomputable def xwx:=x1qv x2d
noncomputable def xkm:=nR xwx
noncomputable def x1pq:=nL xkm
noncomputable def xwy:=nR xkm
noncomputable def xkn:=nR xwy
noncomputable def x1pr:=nL xkn
noncomputable def xwz:=nR xkn
noncomputable def xko:=nRs 2 xwz
noncomputable def xx0:=nL xko
noncomputable def x1ps:=nR xko
noncomputable def xx1:=nR xx0
noncomputable def x1pt:=nR xx1
theorem x1pu:x1uk call hs u x1ps r_2 eNil=j1 (x52 call hs u) 7:=by kernel_rfl
theorem x1pv{rec0:AV->AV->Mem->Nat->O2}:x1uk call hs u x1pt (j2 rec0 7 8) (setE 0 (j1 (x52 call hs u) 7) eNil)=j2 (xd5 call hs u rec0) 7 8:=by kernel_rfl
theorem x1pw:x1uk call hs u xx1 (j1 (x52 call hs u) 7) (setE 0 (j1 (x52 call hs u) 7) eNil)=j2 (x2s call hs u NN) 7 8:=lp (Ln:=fun n=>j2 (x2s call hs u n) 7 8) fun n=>tr x1pv
theorem x1px:x1uk call hs u xx0 (j1 (x52 call hs u) 7) eNil=j2 (x2s call hs u NN) 7 8:=bk x1pw
theorem x1py:x1uk call hs u xko r_2 eNil=j2 (x2s call hs u NN) 7 8:=sq2 x1pu x1px
theorem x1pz:x1uk call hs u xwz r_2 eNil=j2 (xd6 call hs u) 0 6:=tr (sqN 2 x1py)
theorem x1q0:x1uk call hs u x1pr (j2 (xd6 call hs u) 0 6) eNil=j3 (xd7 call hs u) 0 5 6:=by kernel_rfl
theorem x1q1:x1uk call hs u xkn r_2 eNil=j3 (xd7 call hs u) 0 5 6:=sq2 x1pz x1q0
theorem x1q2:x1uk call hs u xwy r_2 eNil=j2 (xd8 call hs u) 0 1:=tr (sqN 1 x1q1)
theorem x1q3:x1uk call hs u x1pq (j2 (xd8 call hs u) 0 1) eNil=j2 (xd9 call hs u) 0 1:=by kernel_rfl
theorem x1q4:x1uk call hs u xkm r_2 eNil=j2 (xd9 call hs u) 0 1:=sq2 x1q2 x1q3
theorem x13t:x1uk call hs u xwx r_2 eNil=j2 (xhe call hs u) 0 1:=tr (sqN 1 x1q4)
noncomputable abbrev x2aw:=VX x1i 18 r_18
noncomputable def x1q5:=x1qv x1i
theorem x10j:x2aw call hs u x1q5 r_18 eNil=j4 (x9n call hs u) 0 1 2 3:=by kernel_rfl
noncomputable abbrev x2ax:=VX x6j 6 r_2
noncomputable def x1q6:=x1qv x6j
theorem x10l:x2ax call hs u x1q6 r_2 eNil=j2 (xhf call hs u) 0 1:=by kernel_rfl
noncomputable abbrev x2ay:=VX x6r 5 r_0
noncomputable def x1q7:=x1qv x6r
theorem x13u:x2ay call hs u x1q7 r_0 eNil=j1 (xhg call hs u) 0:=by kernel_rfl
noncomputable abbrev x2az:=VX x6s 30 r_6
noncomputable def x1q8:=x1qv x6s
theorem x13v:x2az call hs u x1q8 r_6 eNil=j2 (xnh call hs u) 0 1:=by kernel_rfl
noncomputable abbrev x1uv:=VX x54 76 r_18
noncomputable def xx2:=x1qv x54
noncomputable def xx3:=nR xx2
noncomputable def xx4:=nR xx3
noncomputable def xx5:=nR xx4
noncomputable def xkp:=nRs 2 xx5
noncomputable def xx6:=nL xkp
noncomputable def x1q9:=nR xkp
noncomputable def xx7:=nR xx6
noncomputable def xkq:=nRs 3 xx7
noncomputable def x1qa:=nL xkq
noncomputable def x1qb:=nR xkq
theorem x1qc{rec0:AV->AV->AV->AV->AV->AV->Mem->Nat->O2}:x1uv call hs u x1q9 (j6 rec0 0 1 2 14 15 16) (setE 0 r_18 eNil)=j6 (x1r call hs u rec0) 0 1 2 14 15 16:=by kernel_rfl
theorem x1qd{rec0:AV->AV->AV->AV->AV->AV->Mem->Nat->O2}:x1uv call hs u x1qb (j6 (x1r call hs u rec0) 0 1 2 14 15 16) (setE 1 (j6 (x1r call hs u rec0) 0 1 2 14 15 16) (setE 0 r_18 eNil))=j7 (x7h call hs u rec0) 0 1 2 7 14 15 16:=by kernel_rfl
theorem x1qe{rec0:AV->AV->AV->AV->AV->AV->Mem->Nat->O2}:x1uv call hs u x1qa (j7 (x7h call hs u rec0) 0 1 2 7 14 15 16) (setE 1 (j6 (x1r call hs u rec0) 0 1 2 14 15 16) (setE 0 r_18 eNil))=j9 (x7i call hs u rec0) 0 1 2 5 6 7 14 15 16:=by kernel_rfl
theorem x1qf{rec0:AV->AV->AV->AV->AV->AV->Mem->Nat->O2}:x1uv call hs u xkq (j6 (x1r call hs u rec0) 0 1 2 14 15 16) (setE 1 (j6 (x1r call hs u rec0) 0 1 2 14 15 16) (setE 0 r_18 eNil))=j9 (x7i call hs u rec0) 0 1 2 5 6 7 14 15 16:=sq2 x1qd x1qe
theorem x1qg{rec0:AV->AV->AV->AV->AV->AV->Mem->Nat->O2}:x1uv call hs u xx7 (j6 (x1r call hs u rec0) 0 1 2 14 15 16) (setE 1 (j6 (x1r call hs u rec0) 0 1 2 14 15 16) (setE 0 r_18 eNil))=j6 (x9o call hs u rec0) 0 1 2 14 15 16:=tr (sqN 3 x1qf)
theorem x1qh{rec0:AV->AV->AV->AV->AV->AV->Mem->Nat->O2}:x1uv call hs u xx6 (j6 (x1r call hs u rec0) 0 1 2 14 15 16) (setE 0 r_18 eNil)=j6 (x9o call hs u rec0) 0 1 2 14 15 16:=bk x1qg
theorem x1qi{rec0:AV->AV->AV->AV->AV->AV->Mem->Nat->O2}:x1uv call hs u xkp (j6 rec0 0 1 2 14 15 16) (setE 0 r_18 eNil)=j6 (x9o call hs u rec0) 0 1 2 14 15 16:=sq2 x1qc x1qh
theorem x1qj{rec0:AV->AV->AV->AV->AV->AV->Mem->Nat->O2}:x1uv call hs u xx5 (j6 rec0 0 1 2 14 15 16) (setE 0 r_18 eNil)=j6 (xda call hs u rec0) 0 1 2 14 15 16:=tr (sqN 2 x1qi)
theorem x1qk:x1uv call hs u xx4 r_18 (setE 0 r_18 eNil)=j6 (x2a call hs u NN) 0 1 2 14 15 16:=lp (Ln:=fun n=>j6 (x2a call hs u n) 0 1 2 14 15 16) fun n=>tr x1qj
theorem x1ql:x1uv call hs u xx3 r_18 eNil=j6 (x2a call hs u NN) 0 1 2 14 15 16:=bk x1qk
theorem x10h:x1uv call hs u xx2 r_18 eNil=j3 (xhh call hs u) 0 1 2:=tr (sqN 1 x1ql)
noncomputable abbrev x2b0:=VX xaf 17 r_6
noncomputable def x1qm:=x1qv xaf
theorem x13w:x2b0 call hs u x1qm r_6 eNil=j2 (xni call hs u) 0 1:=by kernel_rfl
noncomputable abbrev x2b1:=VX x9p 51 r_6
noncomputable def x1qn:=x1qv x9p
theorem x10n:x2b1 call hs u x1qn r_6 eNil=j2 (xnj call hs u) 0 1:=by kernel_rfl
end Go.Ix
