import Derived.Test.YtpeakdjfagbpcaaGreatFxText0
import Derived.Test.YtpeakdjfagbpcaaGreatFxText1
import Derived.Test.YtpeakdjfagbpcaaGreatFxEnt
import Derived.Test.YtpeakdjfagbpcaaGreatFxRules
import Derived.Test.YtpeakdjfagbpcaaGreatFxProj
import Derived.ProofKit
set_option linter.unusedVariables false
namespace Go.Ix
open Go.Proofs
variable{call:x1uq}{hs:FHs}{u:Nat}
noncomputable abbrev x1vf:=VX x8w 133 r_0
noncomputable def xnq:=x1uv x8w
noncomputable def xf5:=nRs 2 xnq
noncomputable def xnr:=nL xf5
noncomputable def x15g:=nR xf5
noncomputable def xns:=nR xnr
noncomputable def xnt:=nR xns
noncomputable def xnu:=nR xnt
noncomputable def xf6:=nR xnu
noncomputable def xnv:=nL xf6
noncomputable def x15h:=nR xf6
noncomputable def xf7:=nR xnv
noncomputable def xnw:=nL xf7
noncomputable def xnx:=nR xf7
noncomputable def xf8:=nRs 3 xnx
noncomputable def xny:=nL xf8
noncomputable def xnz:=nR xf8
noncomputable def xf9:=nR xnz
noncomputable def xo0:=nL xf9
noncomputable def x15i:=nR xf9
noncomputable def xo1:=nR xo0
noncomputable def xo2:=nR xo1
noncomputable def x15j:=nR xo2
noncomputable def xfa:=nR xny
noncomputable def xo3:=nL xfa
noncomputable def x15k:=nR xfa
noncomputable def xo4:=nR xo3
noncomputable def xo5:=nR xo4
noncomputable def x15l:=nR xo5
noncomputable def xo6:=nR xnw
noncomputable def x15m:=nR xo6
theorem x15n:x1vf call hs u x15g r_0 eNil=j0 (x3 call hs u):=by kernel_rfl
theorem x15o{rec0:AV->AV->AV->AV->AV->Mem->Nat->O2}:x1vf call hs u x15h (j5 rec0 0 1 2 7 8) (setE 0 (j0 (x3 call hs u)) eNil)=j5 (x1 call hs u rec0) 0 1 2 7 8:=by kernel_rfl
theorem x15p{rec0:AV->AV->AV->AV->AV->Mem->Nat->O2}{rec1:AV->AV->AV->AV->AV->AV->Mem->Nat->O2}:x1vf call hs u x15j (j6 rec1 0 1 2 7 8 10) (setE 6 (j5 (x1 call hs u rec0) 0 1 2 7 8) (setE 1 (j5 (x1 call hs u rec0) 0 1 2 7 8) (setE 0 (j0 (x3 call hs u)) eNil)))=j6 (xmj call hs u rec0 rec1) 0 1 2 7 8 10:=by kernel_rfl
theorem x15q{rec0:AV->AV->AV->AV->AV->Mem->Nat->O2}:x1vf call hs u xo2 (j5 (x1 call hs u rec0) 0 1 2 7 8) (setE 6 (j5 (x1 call hs u rec0) 0 1 2 7 8) (setE 1 (j5 (x1 call hs u rec0) 0 1 2 7 8) (setE 0 (j0 (x3 call hs u)) eNil)))=j6 (x7f call hs u rec0 NN) 0 1 2 7 8 10:=lp (Ln:=fun n=>j6 (x7f call hs u rec0 n) 0 1 2 7 8 10) fun n=>tr x15p
theorem x15r{rec0:AV->AV->AV->AV->AV->Mem->Nat->O2}:x1vf call hs u xo1 (j5 (x1 call hs u rec0) 0 1 2 7 8) (setE 1 (j5 (x1 call hs u rec0) 0 1 2 7 8) (setE 0 (j0 (x3 call hs u)) eNil))=j6 (x7f call hs u rec0 NN) 0 1 2 7 8 10:=bk x15q
theorem x15s{rec0:AV->AV->AV->AV->AV->Mem->Nat->O2}:x1vf call hs u xo0 (j5 (x1 call hs u rec0) 0 1 2 7 8) (setE 1 (j5 (x1 call hs u rec0) 0 1 2 7 8) (setE 0 (j0 (x3 call hs u)) eNil))=j5 (xmk call hs u rec0) 0 1 2 7 8:=tr (sqN 1 x15r)
theorem x15t{rec0:AV->AV->AV->AV->AV->Mem->Nat->O2}:x1vf call hs u x15i (j5 (x1 call hs u rec0) 0 1 2 7 8) (setE 1 (j5 (x1 call hs u rec0) 0 1 2 7 8) (setE 0 (j0 (x3 call hs u)) eNil))=j5 (xml call hs u rec0) 0 1 2 7 8:=by kernel_rfl
theorem x15u{rec0:AV->AV->AV->AV->AV->Mem->Nat->O2}:x1vf call hs u xf9 (j5 (x1 call hs u rec0) 0 1 2 7 8) (setE 1 (j5 (x1 call hs u rec0) 0 1 2 7 8) (setE 0 (j0 (x3 call hs u)) eNil))=j6 (xmm call hs u rec0) 0 1 2 7 8 98:=tr (cd x15s x15t)
theorem x15v{rec0:AV->AV->AV->AV->AV->Mem->Nat->O2}:x1vf call hs u xnz (j5 (x1 call hs u rec0) 0 1 2 7 8) (setE 1 (j5 (x1 call hs u rec0) 0 1 2 7 8) (setE 0 (j0 (x3 call hs u)) eNil))=j5 (x13 call hs u rec0) 0 1 2 7 8:=tr (sqN 1 x15u)
theorem x15w{rec0:AV->AV->AV->AV->AV->Mem->Nat->O2}{rec2:AV->AV->AV->AV->AV->AV->Mem->Nat->O2}:x1vf call hs u x15l (j6 rec2 0 1 2 7 8 9) (setE 4 (j5 (x13 call hs u rec0) 0 1 2 7 8) (setE 1 (j5 (x1 call hs u rec0) 0 1 2 7 8) (setE 0 (j0 (x3 call hs u)) eNil)))=j6 (xmn call hs u rec0 rec2) 0 1 2 7 8 9:=by kernel_rfl
theorem x15x{rec0:AV->AV->AV->AV->AV->Mem->Nat->O2}:x1vf call hs u xo5 (j5 (x13 call hs u rec0) 0 1 2 7 8) (setE 4 (j5 (x13 call hs u rec0) 0 1 2 7 8) (setE 1 (j5 (x1 call hs u rec0) 0 1 2 7 8) (setE 0 (j0 (x3 call hs u)) eNil)))=j6 (x7g call hs u rec0 NN) 0 1 2 7 8 9:=lp (Ln:=fun n=>j6 (x7g call hs u rec0 n) 0 1 2 7 8 9) fun n=>tr x15w
theorem x15y{rec0:AV->AV->AV->AV->AV->Mem->Nat->O2}:x1vf call hs u xo4 (j5 (x13 call hs u rec0) 0 1 2 7 8) (setE 1 (j5 (x1 call hs u rec0) 0 1 2 7 8) (setE 0 (j0 (x3 call hs u)) eNil))=j6 (x7g call hs u rec0 NN) 0 1 2 7 8 9:=bk x15x
theorem x15z{rec0:AV->AV->AV->AV->AV->Mem->Nat->O2}:x1vf call hs u xo3 (j5 (x13 call hs u rec0) 0 1 2 7 8) (setE 1 (j5 (x1 call hs u rec0) 0 1 2 7 8) (setE 0 (j0 (x3 call hs u)) eNil))=j5 (xmo call hs u rec0) 0 1 2 7 8:=tr (sqN 1 x15y)
theorem x160{rec0:AV->AV->AV->AV->AV->Mem->Nat->O2}:x1vf call hs u x15k (j5 (x13 call hs u rec0) 0 1 2 7 8) (setE 1 (j5 (x1 call hs u rec0) 0 1 2 7 8) (setE 0 (j0 (x3 call hs u)) eNil))=j5 (xmp call hs u rec0) 0 1 2 7 8:=by kernel_rfl
theorem x161{rec0:AV->AV->AV->AV->AV->Mem->Nat->O2}:x1vf call hs u xfa (j5 (x13 call hs u rec0) 0 1 2 7 8) (setE 1 (j5 (x1 call hs u rec0) 0 1 2 7 8) (setE 0 (j0 (x3 call hs u)) eNil))=j6 (xmq call hs u rec0) 0 1 2 7 8 61:=tr (cd x15z x160)
theorem x162{rec0:AV->AV->AV->AV->AV->Mem->Nat->O2}:x1vf call hs u xny (j5 (x13 call hs u rec0) 0 1 2 7 8) (setE 1 (j5 (x1 call hs u rec0) 0 1 2 7 8) (setE 0 (j0 (x3 call hs u)) eNil))=j5 (xey call hs u rec0) 0 1 2 7 8:=tr (sqN 1 x161)
theorem x163{rec0:AV->AV->AV->AV->AV->Mem->Nat->O2}:x1vf call hs u xf8 (j5 (x1 call hs u rec0) 0 1 2 7 8) (setE 1 (j5 (x1 call hs u rec0) 0 1 2 7 8) (setE 0 (j0 (x3 call hs u)) eNil))=j5 (xey call hs u rec0) 0 1 2 7 8:=sq2 x15v x162
theorem x164{rec0:AV->AV->AV->AV->AV->Mem->Nat->O2}:x1vf call hs u xnx (j5 (x1 call hs u rec0) 0 1 2 7 8) (setE 1 (j5 (x1 call hs u rec0) 0 1 2 7 8) (setE 0 (j0 (x3 call hs u)) eNil))=j5 (x4x call hs u rec0) 0 1 2 7 8:=tr (sqN 3 x163)
theorem x165{rec0:AV->AV->AV->AV->AV->Mem->Nat->O2}{rec3:AV->AV->AV->AV->AV->Mem->Nat->O2}:x1vf call hs u x15m (j5 rec3 0 1 2 7 8) (setE 2 (j5 (x4x call hs u rec0) 0 1 2 7 8) (setE 1 (j5 (x1 call hs u rec0) 0 1 2 7 8) (setE 0 (j0 (x3 call hs u)) eNil)))=j5 (xmr call hs u rec0 rec3) 0 1 2 7 8:=by kernel_rfl
theorem x166{rec0:AV->AV->AV->AV->AV->Mem->Nat->O2}:x1vf call hs u xo6 (j5 (x4x call hs u rec0) 0 1 2 7 8) (setE 2 (j5 (x4x call hs u rec0) 0 1 2 7 8) (setE 1 (j5 (x1 call hs u rec0) 0 1 2 7 8) (setE 0 (j0 (x3 call hs u)) eNil)))=j5 (x32 call hs u rec0 NN) 0 1 2 7 8:=lp (Ln:=fun n=>j5 (x32 call hs u rec0 n) 0 1 2 7 8) fun n=>tr x165
theorem x167{rec0:AV->AV->AV->AV->AV->Mem->Nat->O2}:x1vf call hs u xnw (j5 (x4x call hs u rec0) 0 1 2 7 8) (setE 1 (j5 (x1 call hs u rec0) 0 1 2 7 8) (setE 0 (j0 (x3 call hs u)) eNil))=j5 (x32 call hs u rec0 NN) 0 1 2 7 8:=bk x166
theorem x168{rec0:AV->AV->AV->AV->AV->Mem->Nat->O2}:x1vf call hs u xf7 (j5 (x1 call hs u rec0) 0 1 2 7 8) (setE 1 (j5 (x1 call hs u rec0) 0 1 2 7 8) (setE 0 (j0 (x3 call hs u)) eNil))=j5 (x32 call hs u rec0 NN) 0 1 2 7 8:=sq2 x164 x167
theorem x169{rec0:AV->AV->AV->AV->AV->Mem->Nat->O2}:x1vf call hs u xnv (j5 (x1 call hs u rec0) 0 1 2 7 8) (setE 0 (j0 (x3 call hs u)) eNil)=j5 (x32 call hs u rec0 NN) 0 1 2 7 8:=bk x168
theorem x16a{rec0:AV->AV->AV->AV->AV->Mem->Nat->O2}:x1vf call hs u xf6 (j5 rec0 0 1 2 7 8) (setE 0 (j0 (x3 call hs u)) eNil)=j5 (x32 call hs u rec0 NN) 0 1 2 7 8:=sq2 x15o x169
theorem x16b{rec0:AV->AV->AV->AV->AV->Mem->Nat->O2}:x1vf call hs u xnu (j5 rec0 0 1 2 7 8) (setE 0 (j0 (x3 call hs u)) eNil)=j5 (xms call hs u rec0) 0 1 2 7 8:=tr (sqN 1 x16a)
theorem x16c:x1vf call hs u xnt (j0 (x3 call hs u)) (setE 0 (j0 (x3 call hs u)) eNil)=j5 (x7h call hs u NN) 0 1 2 7 8:=lp (Ln:=fun n=>j5 (x7h call hs u n) 0 1 2 7 8) fun n=>tr x16b
theorem x16d:x1vf call hs u xns (j0 (x3 call hs u)) eNil=j5 (x7h call hs u NN) 0 1 2 7 8:=bk x16c
theorem x16e:x1vf call hs u xnr (j0 (x3 call hs u)) eNil=j4 (xez call hs u) 0 1 2 7:=tr (sqN 1 x16d)
theorem x16f:x1vf call hs u xf5 r_0 eNil=j4 (xez call hs u) 0 1 2 7:=sq2 x15n x16e
theorem x14r:x1vf call hs u xnq r_0 eNil=j3 (xmt call hs u) 0 1 2:=tr (sqN 2 x16f)
noncomputable abbrev x27q:=VX xg 17 r_1
noncomputable def x16g:=x1uv xg
theorem x14s:x27q call hs u x16g r_1 eNil=j2 (xmu call hs u) 0 1:=by kernel_rfl
noncomputable abbrev x1wh:=VX x8x 84 r_19
noncomputable def xo7:=x1uv x8x
noncomputable def xfb:=nRs 3 xo7
noncomputable def xo8:=nL xfb
noncomputable def x16h:=nR xfb
noncomputable def xo9:=nR xo8
noncomputable def xoa:=nR xo9
noncomputable def xfc:=nR xoa
noncomputable def xob:=nL xfc
noncomputable def xfd:=nR xfc
noncomputable def xoc:=nL xfd
noncomputable def x16i:=nR xfd
noncomputable def xod:=nR xoc
noncomputable def x16j:=nR xod
noncomputable def xoe:=nR xob
noncomputable def x16k:=nR xoe
theorem x16l:x1wh call hs u x16h r_19 eNil=j1 (xp call hs u) 9:=by kernel_rfl
theorem x16m{rec0:AV->AV->AV->AV->Mem->Nat->O2}:x1wh call hs u x16i (j4 rec0 0 1 9 10) (setE 1 (j4 rec0 0 1 9 10) (setE 0 (j1 (xp call hs u) 9) eNil))=j4 (x4y call hs u rec0) 0 1 9 10:=by kernel_rfl
theorem x16n{rec0:AV->AV->AV->AV->Mem->Nat->O2}{rec1:AV->AV->AV->AV->Mem->Nat->O2}:x1wh call hs u x16j (j4 rec1 0 1 9 10) (setE 4 (j4 (x4y call hs u rec0) 0 1 9 10) (setE 1 (j4 rec0 0 1 9 10) (setE 0 (j1 (xp call hs u) 9) eNil)))=j4 (xmv call hs u rec0 rec1) 0 1 9 10:=by kernel_rfl
theorem x16o{rec0:AV->AV->AV->AV->Mem->Nat->O2}:x1wh call hs u xod (j4 (x4y call hs u rec0) 0 1 9 10) (setE 4 (j4 (x4y call hs u rec0) 0 1 9 10) (setE 1 (j4 rec0 0 1 9 10) (setE 0 (j1 (xp call hs u) 9) eNil)))=j4 (x1m call hs u rec0 NN) 0 1 9 10:=lp (Ln:=fun n=>j4 (x1m call hs u rec0 n) 0 1 9 10) fun n=>tr x16n
theorem x16p{rec0:AV->AV->AV->AV->Mem->Nat->O2}:x1wh call hs u xoc (j4 (x4y call hs u rec0) 0 1 9 10) (setE 1 (j4 rec0 0 1 9 10) (setE 0 (j1 (xp call hs u) 9) eNil))=j4 (x1m call hs u rec0 NN) 0 1 9 10:=bk x16o
theorem x16q{rec0:AV->AV->AV->AV->Mem->Nat->O2}:x1wh call hs u xfd (j4 rec0 0 1 9 10) (setE 1 (j4 rec0 0 1 9 10) (setE 0 (j1 (xp call hs u) 9) eNil))=j4 (x1m call hs u rec0 NN) 0 1 9 10:=sq2 x16m x16p
theorem x16r{rec0:AV->AV->AV->AV->Mem->Nat->O2}{rec2:AV->AV->AV->AV->Mem->Nat->O2}:x1wh call hs u x16k (j4 rec2 0 1 9 10) (setE 2 (j4 (x1m call hs u rec0 NN) 0 1 9 10) (setE 1 (j4 rec0 0 1 9 10) (setE 0 (j1 (xp call hs u) 9) eNil)))=j4 (xmw call hs u rec0 rec2) 0 1 9 10:=by kernel_rfl
theorem x16s{rec0:AV->AV->AV->AV->Mem->Nat->O2}:x1wh call hs u xoe (j4 (x1m call hs u rec0 NN) 0 1 9 10) (setE 2 (j4 (x1m call hs u rec0 NN) 0 1 9 10) (setE 1 (j4 rec0 0 1 9 10) (setE 0 (j1 (xp call hs u) 9) eNil)))=j4 (x3y call hs u rec0 NN) 0 1 9 10:=lp (Ln:=fun n=>j4 (x3y call hs u rec0 n) 0 1 9 10) fun n=>tr x16r
theorem x16t{rec0:AV->AV->AV->AV->Mem->Nat->O2}:x1wh call hs u xob (j4 (x1m call hs u rec0 NN) 0 1 9 10) (setE 1 (j4 rec0 0 1 9 10) (setE 0 (j1 (xp call hs u) 9) eNil))=j4 (x3y call hs u rec0 NN) 0 1 9 10:=bk x16s
theorem x16u{rec0:AV->AV->AV->AV->Mem->Nat->O2}:x1wh call hs u xfc (j4 rec0 0 1 9 10) (setE 1 (j4 rec0 0 1 9 10) (setE 0 (j1 (xp call hs u) 9) eNil))=j4 (x3y call hs u rec0 NN) 0 1 9 10:=sq2 x16q x16t
theorem x16v{rec0:AV->AV->AV->AV->Mem->Nat->O2}:x1wh call hs u xoa (j4 rec0 0 1 9 10) (setE 0 (j1 (xp call hs u) 9) eNil)=j4 (x3y call hs u rec0 NN) 0 1 9 10:=bk x16u
theorem x16w:x1wh call hs u xo9 (j1 (xp call hs u) 9) (setE 0 (j1 (xp call hs u) 9) eNil)=j4 (x4z call hs u NN) 0 1 9 10:=lp (Ln:=fun n=>j4 (x4z call hs u n) 0 1 9 10) fun n=>tr x16v
theorem x16x:x1wh call hs u xo8 (j1 (xp call hs u) 9) eNil=j4 (x4z call hs u NN) 0 1 9 10:=bk x16w
theorem x16y:x1wh call hs u xfb r_19 eNil=j4 (x4z call hs u NN) 0 1 9 10:=sq2 x16l x16x
theorem x14t:x1wh call hs u xo7 r_19 eNil=j4 (xmx call hs u) 0 1 2 3:=tr (sqN 3 x16y)
noncomputable abbrev x1vn:=VX x8y 168 r_20
noncomputable def xof:=x1uv x8y
noncomputable def xfe:=nRs 3 xof
noncomputable def xog:=nL xfe
noncomputable def xff:=nR xfe
noncomputable def xoh:=nL xff
noncomputable def xoi:=nR xff
noncomputable def xfg:=nRs 4 xoi
noncomputable def xoj:=nL xfg
noncomputable def x16z:=nR xfg
noncomputable def xok:=nR xoj
noncomputable def xol:=nR xok
noncomputable def xfh:=nR xol
noncomputable def xom:=nL xfh
noncomputable def xfi:=nR xfh
noncomputable def xon:=nL xfi
noncomputable def x170:=nR xfi
noncomputable def xoo:=nR xon
noncomputable def x171:=nR xoo
noncomputable def xop:=nR xom
noncomputable def x172:=nR xop
noncomputable def xoq:=nR xoh
noncomputable def x173:=nR xoq
noncomputable def xos:=nR xog
noncomputable def x174:=nR xos
theorem x175:x1vn call hs u x16z r_20 eNil=j3 (xq call hs u) 0 1 11:=by kernel_rfl
theorem x176{rec0:AV->AV->AV->AV->Mem->Nat->O2}:x1vn call hs u x170 (j4 rec0 0 1 10 11) (setE 5 (j4 rec0 0 1 10 11) (setE 4 (j3 (xq call hs u) 0 1 11) eNil))=j4 (x50 call hs u rec0) 0 1 10 11:=by kernel_rfl
theorem x177{rec0:AV->AV->AV->AV->Mem->Nat->O2}{rec1:AV->AV->AV->AV->Mem->Nat->O2}:x1vn call hs u x171 (j4 rec1 0 1 10 11) (setE 8 (j4 (x50 call hs u rec0) 0 1 10 11) (setE 5 (j4 rec0 0 1 10 11) (setE 4 (j3 (xq call hs u) 0 1 11) eNil)))=j4 (xmy call hs u rec0 rec1) 0 1 10 11:=by kernel_rfl
theorem x178{rec0:AV->AV->AV->AV->Mem->Nat->O2}:x1vn call hs u xoo (j4 (x50 call hs u rec0) 0 1 10 11) (setE 8 (j4 (x50 call hs u rec0) 0 1 10 11) (setE 5 (j4 rec0 0 1 10 11) (setE 4 (j3 (xq call hs u) 0 1 11) eNil)))=j4 (x1n call hs u rec0 NN) 0 1 10 11:=lp (Ln:=fun n=>j4 (x1n call hs u rec0 n) 0 1 10 11) fun n=>tr x177
theorem x179{rec0:AV->AV->AV->AV->Mem->Nat->O2}:x1vn call hs u xon (j4 (x50 call hs u rec0) 0 1 10 11) (setE 5 (j4 rec0 0 1 10 11) (setE 4 (j3 (xq call hs u) 0 1 11) eNil))=j4 (x1n call hs u rec0 NN) 0 1 10 11:=bk x178
theorem x17a{rec0:AV->AV->AV->AV->Mem->Nat->O2}:x1vn call hs u xfi (j4 rec0 0 1 10 11) (setE 5 (j4 rec0 0 1 10 11) (setE 4 (j3 (xq call hs u) 0 1 11) eNil))=j4 (x1n call hs u rec0 NN) 0 1 10 11:=sq2 x176 x179
theorem x17b{rec0:AV->AV->AV->AV->Mem->Nat->O2}{rec2:AV->AV->AV->AV->Mem->Nat->O2}:x1vn call hs u x172 (j4 rec2 0 1 10 11) (setE 6 (j4 (x1n call hs u rec0 NN) 0 1 10 11) (setE 5 (j4 rec0 0 1 10 11) (setE 4 (j3 (xq call hs u) 0 1 11) eNil)))=j4 (xmz call hs u rec0 rec2) 0 1 10 11:=by kernel_rfl
theorem x17c{rec0:AV->AV->AV->AV->Mem->Nat->O2}:x1vn call hs u xop (j4 (x1n call hs u rec0 NN) 0 1 10 11) (setE 6 (j4 (x1n call hs u rec0 NN) 0 1 10 11) (setE 5 (j4 rec0 0 1 10 11) (setE 4 (j3 (xq call hs u) 0 1 11) eNil)))=j4 (x3z call hs u rec0 NN) 0 1 10 11:=lp (Ln:=fun n=>j4 (x3z call hs u rec0 n) 0 1 10 11) fun n=>tr x17b
theorem x17d{rec0:AV->AV->AV->AV->Mem->Nat->O2}:x1vn call hs u xom (j4 (x1n call hs u rec0 NN) 0 1 10 11) (setE 5 (j4 rec0 0 1 10 11) (setE 4 (j3 (xq call hs u) 0 1 11) eNil))=j4 (x3z call hs u rec0 NN) 0 1 10 11:=bk x17c
theorem x17e{rec0:AV->AV->AV->AV->Mem->Nat->O2}:x1vn call hs u xfh (j4 rec0 0 1 10 11) (setE 5 (j4 rec0 0 1 10 11) (setE 4 (j3 (xq call hs u) 0 1 11) eNil))=j4 (x3z call hs u rec0 NN) 0 1 10 11:=sq2 x17a x17d
theorem x17f{rec0:AV->AV->AV->AV->Mem->Nat->O2}:x1vn call hs u xol (j4 rec0 0 1 10 11) (setE 4 (j3 (xq call hs u) 0 1 11) eNil)=j4 (x3z call hs u rec0 NN) 0 1 10 11:=bk x17e
theorem x17g:x1vn call hs u xok (j3 (xq call hs u) 0 1 11) (setE 4 (j3 (xq call hs u) 0 1 11) eNil)=j4 (x51 call hs u NN) 0 1 10 11:=lp (Ln:=fun n=>j4 (x51 call hs u n) 0 1 10 11) fun n=>tr x17f
theorem x17h:x1vn call hs u xoj (j3 (xq call hs u) 0 1 11) eNil=j4 (x51 call hs u NN) 0 1 10 11:=bk x17g
theorem x17i:x1vn call hs u xfg r_20 eNil=j4 (x51 call hs u NN) 0 1 10 11:=sq2 x175 x17h
theorem x17j:x1vn call hs u xoi r_20 eNil=j4 (x52 call hs u) 0 1 10 11:=tr (sqN 4 x17i)
theorem x17k{rec3:AV->AV->AV->AV->Mem->Nat->O2}:x1vn call hs u x173 (j4 rec3 0 1 10 11) (setE 2 (j4 (x52 call hs u) 0 1 10 11) eNil)=j4 (xn0 call hs u rec3) 0 1 10 11:=by kernel_rfl
theorem x17l:x1vn call hs u xoq (j4 (x52 call hs u) 0 1 10 11) (setE 2 (j4 (x52 call hs u) 0 1 10 11) eNil)=j4 (x1o call hs u NN) 0 1 10 11:=lp (Ln:=fun n=>j4 (x1o call hs u n) 0 1 10 11) fun n=>tr x17k
theorem x17m:x1vn call hs u xoh (j4 (x52 call hs u) 0 1 10 11) eNil=j4 (x1o call hs u NN) 0 1 10 11:=bk x17l
theorem x17n:x1vn call hs u xff r_20 eNil=j4 (x1o call hs u NN) 0 1 10 11:=sq2 x17j x17m
theorem x17o{rec4:AV->AV->AV->AV->Mem->Nat->O2}:x1vn call hs u x174 (j4 rec4 0 1 10 11) (setE 0 (j4 (x1o call hs u NN) 0 1 10 11) eNil)=j4 (xn1 call hs u rec4) 0 1 10 11:=by kernel_rfl
theorem x17p:x1vn call hs u xos (j4 (x1o call hs u NN) 0 1 10 11) (setE 0 (j4 (x1o call hs u NN) 0 1 10 11) eNil)=j4 (x53 call hs u NN) 0 1 10 11:=lp (Ln:=fun n=>j4 (x53 call hs u n) 0 1 10 11) fun n=>tr x17o
theorem x17q:x1vn call hs u xog (j4 (x1o call hs u NN) 0 1 10 11) eNil=j4 (x53 call hs u NN) 0 1 10 11:=bk x17p
theorem x17r:x1vn call hs u xfe r_20 eNil=j4 (x53 call hs u NN) 0 1 10 11:=sq2 x17n x17q
theorem x14u:x1vn call hs u xof r_20 eNil=j4 (xn2 call hs u) 0 1 2 3:=tr (sqN 3 x17r)
noncomputable abbrev x202:=VX x8z 19 r_6
noncomputable def xot:=x1uv x8z
noncomputable def xfj:=nR xot
noncomputable def x17s:=nL xfj
noncomputable def xfk:=nR xfj
noncomputable def x17t:=nL xfk
noncomputable def x17u:=nR xfk
theorem x17v:x202 call hs u x17u r_6 eNil=j2 (xb6 call hs u) 0 2:=by kernel_rfl
theorem x17w:x202 call hs u x17t (j2 (xb6 call hs u) 0 2) eNil=j2 (x7i call hs u) 0 2:=by kernel_rfl
theorem x17x:x202 call hs u xfk r_6 eNil=j2 (x7i call hs u) 0 2:=sq2 x17v x17w
theorem x17y:x202 call hs u x17s (j2 (x7i call hs u) 0 2) eNil=j2 (xf0 call hs u) 0 2:=by kernel_rfl
theorem x17z:x202 call hs u xfj r_6 eNil=j2 (xf0 call hs u) 0 2:=sq2 x17x x17y
theorem x14v:x202 call hs u xot r_6 eNil=j1 (xn3 call hs u) 0:=tr (sqN 1 x17z)
noncomputable abbrev x1ym:=VX x90 25 r_6
noncomputable def xou:=x1uv x90
noncomputable def xfl:=nR xou
noncomputable def x180:=nL xfl
noncomputable def xfm:=nR xfl
noncomputable def x181:=nL xfm
noncomputable def xfn:=nR xfm
noncomputable def x182:=nL xfn
noncomputable def x183:=nR xfn
theorem x184:x1ym call hs u x183 r_6 eNil=j2 (xb7 call hs u) 0 2:=by kernel_rfl
theorem x185:x1ym call hs u x182 (j2 (xb7 call hs u) 0 2) eNil=j2 (x7j call hs u) 0 2:=by kernel_rfl
theorem x186:x1ym call hs u xfn r_6 eNil=j2 (x7j call hs u) 0 2:=sq2 x184 x185
theorem x187:x1ym call hs u x181 (j2 (x7j call hs u) 0 2) eNil=j2 (x7k call hs u) 0 2:=by kernel_rfl
theorem x188:x1ym call hs u xfm r_6 eNil=j2 (x7k call hs u) 0 2:=sq2 x186 x187
theorem x189:x1ym call hs u x180 (j2 (x7k call hs u) 0 2) eNil=j2 (xf1 call hs u) 0 2:=by kernel_rfl
theorem x18a:x1ym call hs u xfl r_6 eNil=j2 (xf1 call hs u) 0 2:=sq2 x188 x189
theorem x14w:x1ym call hs u xou r_6 eNil=j1 (xn4 call hs u) 0:=tr (sqN 1 x18a)
noncomputable abbrev x27r:=VX x7q 6 r_1
noncomputable def x18b:=x1uv x7q
theorem x126:x27r call hs u x18b r_1 eNil=j2 (xn5 call hs u) 0 1:=by kernel_rfl
noncomputable abbrev x27s:=VX x91 30 r_7
noncomputable def x18c:=x1uv x91
theorem x14x:x27s call hs u x18c r_7 eNil=j2 (xn6 call hs u) 0 1:=by kernel_rfl
noncomputable abbrev x203:=VX x92 58 r_15
noncomputable def xov:=x1uv x92
noncomputable def xfo:=nRs 2 xov
noncomputable def xow:=nL xfo
noncomputable def x18d:=nR xfo
noncomputable def xox:=nR xow
noncomputable def x18e:=nR xox
theorem x18f:x203 call hs u x18d r_15 eNil=j4 (x54 call hs u) 0 2 4 10:=by kernel_rfl
theorem x18g{rec0:AV->AV->AV->AV->AV->Mem->Nat->O2}:x203 call hs u x18e (j5 rec0 0 2 4 10 11) (setE 0 (j4 (x54 call hs u) 0 2 4 10) eNil)=j5 (xn7 call hs u rec0) 0 2 4 10 11:=by kernel_rfl
theorem x18h:x203 call hs u xox (j4 (x54 call hs u) 0 2 4 10) (setE 0 (j4 (x54 call hs u) 0 2 4 10) eNil)=j5 (x55 call hs u NN) 0 2 4 10 11:=lp (Ln:=fun n=>j5 (x55 call hs u n) 0 2 4 10 11) fun n=>tr x18g
theorem x18i:x203 call hs u xow (j4 (x54 call hs u) 0 2 4 10) eNil=j5 (x55 call hs u NN) 0 2 4 10 11:=bk x18h
theorem x18j:x203 call hs u xfo r_15 eNil=j5 (x55 call hs u NN) 0 2 4 10 11:=sq2 x18f x18i
theorem x14y:x203 call hs u xov r_15 eNil=j5 (xn8 call hs u) 0 1 2 3 4:=tr (sqN 2 x18j)
noncomputable abbrev x1yn:=VX x5k 76 r_15
noncomputable def xoy:=x1uv x5k
noncomputable def xoz:=nR xoy
noncomputable def xp0:=nR xoz
noncomputable def xp1:=nR xp0
noncomputable def xp2:=nR xp1
noncomputable def xfp:=nRs 2 xp2
noncomputable def x18k:=nL xfp
noncomputable def x18l:=nR xfp
theorem x18m{rec0:AV->AV->AV->AV->Mem->Nat->O2}:x1yn call hs u x18l (j4 rec0 0 2 3 8) (setE 1 (j4 rec0 0 2 3 8) (setE 0 r_15 eNil))=j5 (xb8 call hs u rec0) 0 2 3 8 9:=by kernel_rfl
theorem x18n{rec0:AV->AV->AV->AV->Mem->Nat->O2}:x1yn call hs u x18k (j5 (xb8 call hs u rec0) 0 2 3 8 9) (setE 1 (j4 rec0 0 2 3 8) (setE 0 r_15 eNil))=j5 (xf2 call hs u rec0) 0 2 3 8 9:=by kernel_rfl
theorem x18o{rec0:AV->AV->AV->AV->Mem->Nat->O2}:x1yn call hs u xfp (j4 rec0 0 2 3 8) (setE 1 (j4 rec0 0 2 3 8) (setE 0 r_15 eNil))=j5 (xf2 call hs u rec0) 0 2 3 8 9:=sq2 x18m x18n
theorem x18p{rec0:AV->AV->AV->AV->Mem->Nat->O2}:x1yn call hs u xp2 (j4 rec0 0 2 3 8) (setE 1 (j4 rec0 0 2 3 8) (setE 0 r_15 eNil))=j4 (xf3 call hs u rec0) 0 2 3 8:=tr (sqN 2 x18o)
theorem x18q{rec0:AV->AV->AV->AV->Mem->Nat->O2}:x1yn call hs u xp1 (j4 rec0 0 2 3 8) (setE 0 r_15 eNil)=j4 (xf3 call hs u rec0) 0 2 3 8:=bk x18p
theorem x18r:x1yn call hs u xp0 r_15 (setE 0 r_15 eNil)=j4 (x7l call hs u NN) 0 2 3 8:=lp (Ln:=fun n=>j4 (x7l call hs u n) 0 2 3 8) fun n=>tr x18q
theorem x18s:x1yn call hs u xoz r_15 eNil=j4 (x7l call hs u NN) 0 2 3 8:=bk x18r
theorem x14z:x1yn call hs u xoy r_15 eNil=j4 (xn9 call hs u) 0 1 2 3:=tr (sqN 1 x18s)
noncomputable abbrev x27t:=VX x93 7 r_6
noncomputable def x18t:=x1uv x93
theorem x150:x27t call hs u x18t r_6 eNil=j1 (xna call hs u) 0:=by kernel_rfl
noncomputable abbrev x27u:=VX x94 33 r_6
noncomputable def x18u:=x1uv x94
theorem x151:x27u call hs u x18u r_6 eNil=j1 (xnb call hs u) 0:=by kernel_rfl
noncomputable abbrev x27v:=VX x4g 15 r_0
noncomputable def x18v:=x1uv x4g
theorem x152:x27v call hs u x18v r_0 eNil=j3 (xnc call hs u) 0 1 2:=by kernel_rfl
noncomputable abbrev x27w:=VX x5l 36 r_21
noncomputable def x18w:=x1uv x5l
theorem x153:x27w call hs u x18w r_21 eNil=j5 (xnd call hs u) 0 1 2 3 4:=by kernel_rfl
noncomputable abbrev x27x:=VX x5m 6 r_6
noncomputable def x18x:=x1uv x5m
theorem x154:x27x call hs u x18x r_6 eNil=j1 (xne call hs u) 0:=by kernel_rfl
noncomputable abbrev x1xd:=VX x7o 76 r_15
noncomputable def xp3:=x1uv x7o
noncomputable def xp4:=nR xp3
noncomputable def xp5:=nR xp4
noncomputable def xp6:=nR xp5
noncomputable def xfq:=nRs 2 xp6
noncomputable def xp7:=nL xfq
noncomputable def x18y:=nR xfq
noncomputable def xp8:=nR xp7
noncomputable def xfr:=nRs 3 xp8
noncomputable def x18z:=nL xfr
noncomputable def x190:=nR xfr
theorem x191{rec0:AV->AV->AV->AV->AV->AV->Mem->Nat->O2}:x1xd call hs u x18y (j6 rec0 0 1 2 14 15 16) (setE 0 r_15 eNil)=j6 (x1p call hs u rec0) 0 1 2 14 15 16:=by kernel_rfl
theorem x192{rec0:AV->AV->AV->AV->AV->AV->Mem->Nat->O2}:x1xd call hs u x190 (j6 (x1p call hs u rec0) 0 1 2 14 15 16) (setE 1 (j6 (x1p call hs u rec0) 0 1 2 14 15 16) (setE 0 r_15 eNil))=j7 (xb9 call hs u rec0) 0 1 2 7 14 15 16:=by kernel_rfl
theorem x193{rec0:AV->AV->AV->AV->AV->AV->Mem->Nat->O2}:x1xd call hs u x18z (j7 (xb9 call hs u rec0) 0 1 2 7 14 15 16) (setE 1 (j6 (x1p call hs u rec0) 0 1 2 14 15 16) (setE 0 r_15 eNil))=j9 (xf4 call hs u rec0) 0 1 2 5 6 7 14 15 16:=by kernel_rfl
theorem x194{rec0:AV->AV->AV->AV->AV->AV->Mem->Nat->O2}:x1xd call hs u xfr (j6 (x1p call hs u rec0) 0 1 2 14 15 16) (setE 1 (j6 (x1p call hs u rec0) 0 1 2 14 15 16) (setE 0 r_15 eNil))=j9 (xf4 call hs u rec0) 0 1 2 5 6 7 14 15 16:=sq2 x192 x193
theorem x195{rec0:AV->AV->AV->AV->AV->AV->Mem->Nat->O2}:x1xd call hs u xp8 (j6 (x1p call hs u rec0) 0 1 2 14 15 16) (setE 1 (j6 (x1p call hs u rec0) 0 1 2 14 15 16) (setE 0 r_15 eNil))=j6 (xba call hs u rec0) 0 1 2 14 15 16:=tr (sqN 3 x194)
theorem x196{rec0:AV->AV->AV->AV->AV->AV->Mem->Nat->O2}:x1xd call hs u xp7 (j6 (x1p call hs u rec0) 0 1 2 14 15 16) (setE 0 r_15 eNil)=j6 (xba call hs u rec0) 0 1 2 14 15 16:=bk x195
theorem x197{rec0:AV->AV->AV->AV->AV->AV->Mem->Nat->O2}:x1xd call hs u xfq (j6 rec0 0 1 2 14 15 16) (setE 0 r_15 eNil)=j6 (xba call hs u rec0) 0 1 2 14 15 16:=sq2 x191 x196
theorem x198{rec0:AV->AV->AV->AV->AV->AV->Mem->Nat->O2}:x1xd call hs u xp6 (j6 rec0 0 1 2 14 15 16) (setE 0 r_15 eNil)=j6 (xnf call hs u rec0) 0 1 2 14 15 16:=tr (sqN 2 x197)
theorem x199:x1xd call hs u xp5 r_15 (setE 0 r_15 eNil)=j6 (x7m call hs u NN) 0 1 2 14 15 16:=lp (Ln:=fun n=>j6 (x7m call hs u n) 0 1 2 14 15 16) fun n=>tr x198
theorem x19a:x1xd call hs u xp4 r_15 eNil=j6 (x7m call hs u NN) 0 1 2 14 15 16:=bk x199
theorem x122:x1xd call hs u xp3 r_15 eNil=j3 (xng call hs u) 0 1 2:=tr (sqN 1 x19a)
noncomputable abbrev x27y:=VX x95 17 r_7
noncomputable def x19b:=x1uv x95
theorem x155:x27y call hs u x19b r_7 eNil=j2 (xnh call hs u) 0 1:=by kernel_rfl
noncomputable abbrev x27z:=VX x7s 51 r_7
noncomputable def x19c:=x1uv x7s
theorem x128:x27z call hs u x19c r_7 eNil=j2 (xni call hs u) 0 1:=by kernel_rfl
noncomputable abbrev x21t:=VX x4h 38 r_15
noncomputable def xp9:=x1uv x4h
noncomputable def xpa:=nR xp9
noncomputable def xpb:=nR xpa
noncomputable def x19d:=nR xpb
theorem x19e{rec0:AV->AV->AV->AV->AV->Mem->Nat->O2}:x21t call hs u x19d (j5 rec0 0 1 2 3 10) (setE 0 r_15 eNil)=j5 (xnj call hs u rec0) 0 1 2 3 10:=by kernel_rfl
theorem x19f:x21t call hs u xpb r_15 (setE 0 r_15 eNil)=j5 (x7n call hs u NN) 0 1 2 3 10:=lp (Ln:=fun n=>j5 (x7n call hs u n) 0 1 2 3 10) fun n=>tr x19e
theorem x19g:x21t call hs u xpa r_15 eNil=j5 (x7n call hs u NN) 0 1 2 3 10:=bk x19f
theorem x156:x21t call hs u xp9 r_15 eNil=j4 (xnk call hs u) 0 1 2 3:=tr (sqN 1 x19g)
noncomputable abbrev x280:=VX x4i 28 r_20
noncomputable def x19h:=x1uv x4i
theorem x157:x280 call hs u x19h r_20 eNil=j4 (xnl call hs u) 0 1 2 3:=by kernel_rfl
end Go.Ix
