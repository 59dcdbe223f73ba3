import Derived.Test.YtpeakdjfagbpcaaGreatFxText0
import Derived.Test.YtpeakdjfagbpcaaGreatFxText1
import Derived.Test.YtpeakdjfagbpcaaGreatFxEnt
import Derived.Test.YtpeakdjfagbpcaaGreatFxRules
import Derived.Test.YtpeakdjfagbpcaaGreatFxProj
import Derived.ProofKit
set_option linter.unusedVariables false
namespace Go.Ix
open Go.Proofs
variable{call:x1xq}{hs:FHs}{u:Nat}
noncomputable abbrev x1zm:=VX x97 65 r_15
noncomputable def xon:=x1xu x97
noncomputable def xfc:=nRs 2 xon
noncomputable def xoo:=nL xfc
noncomputable def x175:=nR xfc
noncomputable def xop:=nRs 3 xoo
noncomputable def xoq:=nR xop
noncomputable def xos:=nR xoq
noncomputable def xfd:=nR xos
noncomputable def xot:=nL xfd
noncomputable def x176:=nR xfd
noncomputable def xou:=nR xot
noncomputable def xfe:=nR xou
noncomputable def x177:=nL xfe
noncomputable def x178:=nR xfe
theorem x179{rec0:AV->AV->AV->AV->AV->AV->Mem->Nat->O2}:x1zm call hs u x176 (j6 rec0 0 1 6 7 8 9) (setE 0 r_15 eNil)=j6 (x1u call hs u rec0) 0 1 6 7 8 9:=by kernel_rfl
theorem x17a{rec0:AV->AV->AV->AV->AV->AV->Mem->Nat->O2}:x1zm call hs u x178 (j6 (x1u call hs u rec0) 0 1 6 7 8 9) (setE 1 (j6 (x1u call hs u rec0) 0 1 6 7 8 9) (setE 0 r_15 eNil))=j7 (xbd call hs u rec0) 0 1 6 7 8 9 10:=by kernel_rfl
theorem x17b{rec0:AV->AV->AV->AV->AV->AV->Mem->Nat->O2}:x1zm call hs u x177 (j7 (xbd call hs u rec0) 0 1 6 7 8 9 10) (setE 1 (j6 (x1u call hs u rec0) 0 1 6 7 8 9) (setE 0 r_15 eNil))=j7 (xf2 call hs u rec0) 0 1 6 7 8 9 10:=by kernel_rfl
theorem x17c{rec0:AV->AV->AV->AV->AV->AV->Mem->Nat->O2}:x1zm call hs u xfe (j6 (x1u call hs u rec0) 0 1 6 7 8 9) (setE 1 (j6 (x1u call hs u rec0) 0 1 6 7 8 9) (setE 0 r_15 eNil))=j7 (xf2 call hs u rec0) 0 1 6 7 8 9 10:=sq2 x17a x17b
theorem x17d{rec0:AV->AV->AV->AV->AV->AV->Mem->Nat->O2}:x1zm call hs u xou (j6 (x1u call hs u rec0) 0 1 6 7 8 9) (setE 1 (j6 (x1u call hs u rec0) 0 1 6 7 8 9) (setE 0 r_15 eNil))=j6 (xbe call hs u rec0) 0 1 6 7 8 9:=tr (sqN 1 x17c)
theorem x17e{rec0:AV->AV->AV->AV->AV->AV->Mem->Nat->O2}:x1zm call hs u xot (j6 (x1u call hs u rec0) 0 1 6 7 8 9) (setE 0 r_15 eNil)=j6 (xbe call hs u rec0) 0 1 6 7 8 9:=bk x17d
theorem x17f{rec0:AV->AV->AV->AV->AV->AV->Mem->Nat->O2}:x1zm call hs u xfd (j6 rec0 0 1 6 7 8 9) (setE 0 r_15 eNil)=j6 (xbe call hs u rec0) 0 1 6 7 8 9:=sq2 x179 x17e
theorem x17g{rec0:AV->AV->AV->AV->AV->AV->Mem->Nat->O2}:x1zm call hs u xos (j6 rec0 0 1 6 7 8 9) (setE 0 r_15 eNil)=j6 (xn6 call hs u rec0) 0 1 6 7 8 9:=tr (sqN 1 x17f)
theorem x17h:x1zm call hs u xoq r_15 (setE 0 r_15 eNil)=j6 (x7n call hs u NN) 0 1 6 7 8 9:=lp (Ln:=fun n=>j6 (x7n call hs u n) 0 1 6 7 8 9) fun n=>tr x17g
theorem x17i:x1zm call hs u xop r_15 eNil=j6 (x7n call hs u NN) 0 1 6 7 8 9:=bk x17h
theorem x17j:x1zm call hs u xoo r_15 eNil=j3 (xn7 call hs u) 0 1 6:=tr (sqN 3 x17i)
theorem x17k:x1zm call hs u x175 r_15 eNil=j0 (xn8 call hs u):=by kernel_rfl
theorem x17l:x1zm call hs u xfc r_15 eNil=j4 (xn9 call hs u) 0 1 6 15:=tr (cd x17j x17k)
theorem x16d:x1zm call hs u xon r_15 eNil=j3 (xna call hs u) 0 1 2:=tr (sqN 2 x17l)
noncomputable abbrev x218:=VX x98 57 r_4
noncomputable def xov:=x1xu x98
noncomputable def xff:=nRs 6 xov
noncomputable def xow:=nL xff
noncomputable def x17m:=nR xff
noncomputable def xfg:=nR xow
noncomputable def xfh:=nL xfg
noncomputable def x17n:=nR xfg
noncomputable def x17o:=nL xfh
noncomputable def x17p:=nR xfh
theorem x17q:x218 call hs u x17m r_4 eNil=j2 (x2z call hs u) 9 11:=by kernel_rfl
theorem x17r:x218 call hs u x17p (j2 (x2z call hs u) 9 11) eNil=j5 (xbf call hs u) 0 9 10 11 12:=by kernel_rfl
theorem x17s:x218 call hs u x17o (j5 (xbf call hs u) 0 9 10 11 12) eNil=j6 (xf3 call hs u) 0 8 9 10 11 12:=by kernel_rfl
theorem x17t:x218 call hs u xfh (j2 (x2z call hs u) 9 11) eNil=j6 (xf3 call hs u) 0 8 9 10 11 12:=sq2 x17r x17s
theorem x17u:x218 call hs u x17n (j2 (x2z call hs u) 9 11) eNil=j2 (xnb call hs u) 9 11:=by kernel_rfl
theorem x17v:x218 call hs u xfg (j2 (x2z call hs u) 9 11) eNil=j7 (xnc call hs u) 0 8 9 10 11 12 32:=tr (cd x17t x17u)
theorem x17w:x218 call hs u xow (j2 (x2z call hs u) 9 11) eNil=j6 (xf4 call hs u) 0 8 9 10 11 12:=tr (sqN 1 x17v)
theorem x17x:x218 call hs u xff r_4 eNil=j6 (xf4 call hs u) 0 8 9 10 11 12:=sq2 x17q x17w
theorem x16e:x218 call hs u xov r_4 eNil=j3 (xnd call hs u) 0 1 2:=tr (sqN 6 x17x)
noncomputable abbrev x24o:=VX x99 32 r_15
noncomputable def xox:=x1xu x99
noncomputable def xoy:=nRs 2 xox
noncomputable def xoz:=nR xoy
noncomputable def x17y:=nR xoz
theorem x17z{rec0:AV->AV->AV->Mem->Nat->O2}:x24o call hs u x17y (j3 rec0 0 6 7) (setE 0 r_15 eNil)=j3 (xne call hs u rec0) 0 6 7:=by kernel_rfl
theorem x180:x24o call hs u xoz r_15 (setE 0 r_15 eNil)=j3 (x7o call hs u NN) 0 6 7:=lp (Ln:=fun n=>j3 (x7o call hs u n) 0 6 7) fun n=>tr x17z
theorem x181:x24o call hs u xoy r_15 eNil=j3 (x7o call hs u NN) 0 6 7:=bk x180
theorem x16f:x24o call hs u xox r_15 eNil=j3 (xnf call hs u) 0 1 2:=tr (sqN 2 x181)
noncomputable abbrev x1yf:=VX x9a 133 r_0
noncomputable def xp0:=x1xu x9a
noncomputable def xfi:=nRs 2 xp0
noncomputable def xp1:=nL xfi
noncomputable def x182:=nR xfi
noncomputable def xp2:=nR xp1
noncomputable def xp3:=nR xp2
noncomputable def xp4:=nR xp3
noncomputable def xfj:=nR xp4
noncomputable def xp5:=nL xfj
noncomputable def x183:=nR xfj
noncomputable def xfk:=nR xp5
noncomputable def xp6:=nL xfk
noncomputable def xp7:=nR xfk
noncomputable def xfl:=nRs 3 xp7
noncomputable def xp8:=nL xfl
noncomputable def xp9:=nR xfl
noncomputable def xfm:=nR xp9
noncomputable def xpa:=nL xfm
noncomputable def x184:=nR xfm
noncomputable def xpb:=nR xpa
noncomputable def xpc:=nR xpb
noncomputable def x185:=nR xpc
noncomputable def xfn:=nR xp8
noncomputable def xpd:=nL xfn
noncomputable def x186:=nR xfn
noncomputable def xpe:=nR xpd
noncomputable def xpf:=nR xpe
noncomputable def x187:=nR xpf
noncomputable def xpg:=nR xp6
noncomputable def x188:=nR xpg
theorem x189:x1yf call hs u x182 r_0 eNil=j0 (x6 call hs u):=by kernel_rfl
theorem x18a{rec0:AV->AV->AV->AV->AV->Mem->Nat->O2}:x1yf call hs u x183 (j5 rec0 0 1 2 7 8) (setE 0 (j0 (x6 call hs u)) eNil)=j5 (x5 call hs u rec0) 0 1 2 7 8:=by kernel_rfl
theorem x18b{rec0:AV->AV->AV->AV->AV->Mem->Nat->O2}{rec1:AV->AV->AV->AV->AV->AV->Mem->Nat->O2}:x1yf call hs u x185 (j6 rec1 0 1 2 7 8 10) (setE 6 (j5 (x5 call hs u rec0) 0 1 2 7 8) (setE 1 (j5 (x5 call hs u rec0) 0 1 2 7 8) (setE 0 (j0 (x6 call hs u)) eNil)))=j6 (xng call hs u rec0 rec1) 0 1 2 7 8 10:=by kernel_rfl
theorem x18c{rec0:AV->AV->AV->AV->AV->Mem->Nat->O2}:x1yf call hs u xpc (j5 (x5 call hs u rec0) 0 1 2 7 8) (setE 6 (j5 (x5 call hs u rec0) 0 1 2 7 8) (setE 1 (j5 (x5 call hs u rec0) 0 1 2 7 8) (setE 0 (j0 (x6 call hs u)) eNil)))=j6 (x7p call hs u rec0 NN) 0 1 2 7 8 10:=lp (Ln:=fun n=>j6 (x7p call hs u rec0 n) 0 1 2 7 8 10) fun n=>tr x18b
theorem x18d{rec0:AV->AV->AV->AV->AV->Mem->Nat->O2}:x1yf call hs u xpb (j5 (x5 call hs u rec0) 0 1 2 7 8) (setE 1 (j5 (x5 call hs u rec0) 0 1 2 7 8) (setE 0 (j0 (x6 call hs u)) eNil))=j6 (x7p call hs u rec0 NN) 0 1 2 7 8 10:=bk x18c
theorem x18e{rec0:AV->AV->AV->AV->AV->Mem->Nat->O2}:x1yf call hs u xpa (j5 (x5 call hs u rec0) 0 1 2 7 8) (setE 1 (j5 (x5 call hs u rec0) 0 1 2 7 8) (setE 0 (j0 (x6 call hs u)) eNil))=j5 (xnh call hs u rec0) 0 1 2 7 8:=tr (sqN 1 x18d)
theorem x18f{rec0:AV->AV->AV->AV->AV->Mem->Nat->O2}:x1yf call hs u x184 (j5 (x5 call hs u rec0) 0 1 2 7 8) (setE 1 (j5 (x5 call hs u rec0) 0 1 2 7 8) (setE 0 (j0 (x6 call hs u)) eNil))=j5 (xni call hs u rec0) 0 1 2 7 8:=by kernel_rfl
theorem x18g{rec0:AV->AV->AV->AV->AV->Mem->Nat->O2}:x1yf call hs u xfm (j5 (x5 call hs u rec0) 0 1 2 7 8) (setE 1 (j5 (x5 call hs u rec0) 0 1 2 7 8) (setE 0 (j0 (x6 call hs u)) eNil))=j6 (xnj call hs u rec0) 0 1 2 7 8 98:=tr (cd x18e x18f)
theorem x18h{rec0:AV->AV->AV->AV->AV->Mem->Nat->O2}:x1yf call hs u xp9 (j5 (x5 call hs u rec0) 0 1 2 7 8) (setE 1 (j5 (x5 call hs u rec0) 0 1 2 7 8) (setE 0 (j0 (x6 call hs u)) eNil))=j5 (x1a call hs u rec0) 0 1 2 7 8:=tr (sqN 1 x18g)
theorem x18i{rec0:AV->AV->AV->AV->AV->Mem->Nat->O2}{rec2:AV->AV->AV->AV->AV->AV->Mem->Nat->O2}:x1yf call hs u x187 (j6 rec2 0 1 2 7 8 9) (setE 4 (j5 (x1a call hs u rec0) 0 1 2 7 8) (setE 1 (j5 (x5 call hs u rec0) 0 1 2 7 8) (setE 0 (j0 (x6 call hs u)) eNil)))=j6 (xnk call hs u rec0 rec2) 0 1 2 7 8 9:=by kernel_rfl
theorem x18j{rec0:AV->AV->AV->AV->AV->Mem->Nat->O2}:x1yf call hs u xpf (j5 (x1a call hs u rec0) 0 1 2 7 8) (setE 4 (j5 (x1a call hs u rec0) 0 1 2 7 8) (setE 1 (j5 (x5 call hs u rec0) 0 1 2 7 8) (setE 0 (j0 (x6 call hs u)) eNil)))=j6 (x7q call hs u rec0 NN) 0 1 2 7 8 9:=lp (Ln:=fun n=>j6 (x7q call hs u rec0 n) 0 1 2 7 8 9) fun n=>tr x18i
theorem x18k{rec0:AV->AV->AV->AV->AV->Mem->Nat->O2}:x1yf call hs u xpe (j5 (x1a call hs u rec0) 0 1 2 7 8) (setE 1 (j5 (x5 call hs u rec0) 0 1 2 7 8) (setE 0 (j0 (x6 call hs u)) eNil))=j6 (x7q call hs u rec0 NN) 0 1 2 7 8 9:=bk x18j
theorem x18l{rec0:AV->AV->AV->AV->AV->Mem->Nat->O2}:x1yf call hs u xpd (j5 (x1a call hs u rec0) 0 1 2 7 8) (setE 1 (j5 (x5 call hs u rec0) 0 1 2 7 8) (setE 0 (j0 (x6 call hs u)) eNil))=j5 (xnl call hs u rec0) 0 1 2 7 8:=tr (sqN 1 x18k)
theorem x18m{rec0:AV->AV->AV->AV->AV->Mem->Nat->O2}:x1yf call hs u x186 (j5 (x1a call hs u rec0) 0 1 2 7 8) (setE 1 (j5 (x5 call hs u rec0) 0 1 2 7 8) (setE 0 (j0 (x6 call hs u)) eNil))=j5 (xnm call hs u rec0) 0 1 2 7 8:=by kernel_rfl
theorem x18n{rec0:AV->AV->AV->AV->AV->Mem->Nat->O2}:x1yf call hs u xfn (j5 (x1a call hs u rec0) 0 1 2 7 8) (setE 1 (j5 (x5 call hs u rec0) 0 1 2 7 8) (setE 0 (j0 (x6 call hs u)) eNil))=j6 (xnn call hs u rec0) 0 1 2 7 8 61:=tr (cd x18l x18m)
theorem x18o{rec0:AV->AV->AV->AV->AV->Mem->Nat->O2}:x1yf call hs u xp8 (j5 (x1a call hs u rec0) 0 1 2 7 8) (setE 1 (j5 (x5 call hs u rec0) 0 1 2 7 8) (setE 0 (j0 (x6 call hs u)) eNil))=j5 (xf5 call hs u rec0) 0 1 2 7 8:=tr (sqN 1 x18n)
theorem x18p{rec0:AV->AV->AV->AV->AV->Mem->Nat->O2}:x1yf call hs u xfl (j5 (x5 call hs u rec0) 0 1 2 7 8) (setE 1 (j5 (x5 call hs u rec0) 0 1 2 7 8) (setE 0 (j0 (x6 call hs u)) eNil))=j5 (xf5 call hs u rec0) 0 1 2 7 8:=sq2 x18h x18o
theorem x18q{rec0:AV->AV->AV->AV->AV->Mem->Nat->O2}:x1yf call hs u xp7 (j5 (x5 call hs u rec0) 0 1 2 7 8) (setE 1 (j5 (x5 call hs u rec0) 0 1 2 7 8) (setE 0 (j0 (x6 call hs u)) eNil))=j5 (x4x call hs u rec0) 0 1 2 7 8:=tr (sqN 3 x18p)
theorem x18r{rec0:AV->AV->AV->AV->AV->Mem->Nat->O2}{rec3:AV->AV->AV->AV->AV->Mem->Nat->O2}:x1yf call hs u x188 (j5 rec3 0 1 2 7 8) (setE 2 (j5 (x4x call hs u rec0) 0 1 2 7 8) (setE 1 (j5 (x5 call hs u rec0) 0 1 2 7 8) (setE 0 (j0 (x6 call hs u)) eNil)))=j5 (xno call hs u rec0 rec3) 0 1 2 7 8:=by kernel_rfl
theorem x18s{rec0:AV->AV->AV->AV->AV->Mem->Nat->O2}:x1yf call hs u xpg (j5 (x4x call hs u rec0) 0 1 2 7 8) (setE 2 (j5 (x4x call hs u rec0) 0 1 2 7 8) (setE 1 (j5 (x5 call hs u rec0) 0 1 2 7 8) (setE 0 (j0 (x6 call hs u)) eNil)))=j5 (x30 call hs u rec0 NN) 0 1 2 7 8:=lp (Ln:=fun n=>j5 (x30 call hs u rec0 n) 0 1 2 7 8) fun n=>tr x18r
theorem x18t{rec0:AV->AV->AV->AV->AV->Mem->Nat->O2}:x1yf call hs u xp6 (j5 (x4x call hs u rec0) 0 1 2 7 8) (setE 1 (j5 (x5 call hs u rec0) 0 1 2 7 8) (setE 0 (j0 (x6 call hs u)) eNil))=j5 (x30 call hs u rec0 NN) 0 1 2 7 8:=bk x18s
theorem x18u{rec0:AV->AV->AV->AV->AV->Mem->Nat->O2}:x1yf call hs u xfk (j5 (x5 call hs u rec0) 0 1 2 7 8) (setE 1 (j5 (x5 call hs u rec0) 0 1 2 7 8) (setE 0 (j0 (x6 call hs u)) eNil))=j5 (x30 call hs u rec0 NN) 0 1 2 7 8:=sq2 x18q x18t
theorem x18v{rec0:AV->AV->AV->AV->AV->Mem->Nat->O2}:x1yf call hs u xp5 (j5 (x5 call hs u rec0) 0 1 2 7 8) (setE 0 (j0 (x6 call hs u)) eNil)=j5 (x30 call hs u rec0 NN) 0 1 2 7 8:=bk x18u
theorem x18w{rec0:AV->AV->AV->AV->AV->Mem->Nat->O2}:x1yf call hs u xfj (j5 rec0 0 1 2 7 8) (setE 0 (j0 (x6 call hs u)) eNil)=j5 (x30 call hs u rec0 NN) 0 1 2 7 8:=sq2 x18a x18v
theorem x18x{rec0:AV->AV->AV->AV->AV->Mem->Nat->O2}:x1yf call hs u xp4 (j5 rec0 0 1 2 7 8) (setE 0 (j0 (x6 call hs u)) eNil)=j5 (xnp call hs u rec0) 0 1 2 7 8:=tr (sqN 1 x18w)
theorem x18y:x1yf call hs u xp3 (j0 (x6 call hs u)) (setE 0 (j0 (x6 call hs u)) eNil)=j5 (x7r call hs u NN) 0 1 2 7 8:=lp (Ln:=fun n=>j5 (x7r call hs u n) 0 1 2 7 8) fun n=>tr x18x
theorem x18z:x1yf call hs u xp2 (j0 (x6 call hs u)) eNil=j5 (x7r call hs u NN) 0 1 2 7 8:=bk x18y
theorem x190:x1yf call hs u xp1 (j0 (x6 call hs u)) eNil=j4 (xf6 call hs u) 0 1 2 7:=tr (sqN 1 x18z)
theorem x191:x1yf call hs u xfi r_0 eNil=j4 (xf6 call hs u) 0 1 2 7:=sq2 x189 x190
theorem x16g:x1yf call hs u xp0 r_0 eNil=j3 (xnq call hs u) 0 1 2:=tr (sqN 2 x191)
noncomputable abbrev x2ah:=VX xi 17 r_3
noncomputable def x192:=x1xu xi
theorem x16h:x2ah call hs u x192 r_3 eNil=j2 (xnr call hs u) 0 1:=by kernel_rfl
noncomputable abbrev x1zj:=VX x9b 84 r_19
noncomputable def xph:=x1xu x9b
noncomputable def xfo:=nRs 3 xph
noncomputable def xpi:=nL xfo
noncomputable def x193:=nR xfo
noncomputable def xpj:=nR xpi
noncomputable def xpk:=nR xpj
noncomputable def xfp:=nR xpk
noncomputable def xpl:=nL xfp
noncomputable def xfq:=nR xfp
noncomputable def xpm:=nL xfq
noncomputable def x194:=nR xfq
noncomputable def xpn:=nR xpm
noncomputable def x195:=nR xpn
noncomputable def xpo:=nR xpl
noncomputable def x196:=nR xpo
theorem x197:x1zj call hs u x193 r_19 eNil=j1 (xw call hs u) 9:=by kernel_rfl
theorem x198{rec0:AV->AV->AV->AV->Mem->Nat->O2}:x1zj call hs u x194 (j4 rec0 0 1 9 10) (setE 1 (j4 rec0 0 1 9 10) (setE 0 (j1 (xw call hs u) 9) eNil))=j4 (x4y call hs u rec0) 0 1 9 10:=by kernel_rfl
theorem x199{rec0:AV->AV->AV->AV->Mem->Nat->O2}{rec1:AV->AV->AV->AV->Mem->Nat->O2}:x1zj call hs u x195 (j4 rec1 0 1 9 10) (setE 4 (j4 (x4y call hs u rec0) 0 1 9 10) (setE 1 (j4 rec0 0 1 9 10) (setE 0 (j1 (xw call hs u) 9) eNil)))=j4 (xns call hs u rec0 rec1) 0 1 9 10:=by kernel_rfl
theorem x19a{rec0:AV->AV->AV->AV->Mem->Nat->O2}:x1zj call hs u xpn (j4 (x4y call hs u rec0) 0 1 9 10) (setE 4 (j4 (x4y call hs u rec0) 0 1 9 10) (setE 1 (j4 rec0 0 1 9 10) (setE 0 (j1 (xw call hs u) 9) eNil)))=j4 (x1v call hs u rec0 NN) 0 1 9 10:=lp (Ln:=fun n=>j4 (x1v call hs u rec0 n) 0 1 9 10) fun n=>tr x199
theorem x19b{rec0:AV->AV->AV->AV->Mem->Nat->O2}:x1zj call hs u xpm (j4 (x4y call hs u rec0) 0 1 9 10) (setE 1 (j4 rec0 0 1 9 10) (setE 0 (j1 (xw call hs u) 9) eNil))=j4 (x1v call hs u rec0 NN) 0 1 9 10:=bk x19a
theorem x19c{rec0:AV->AV->AV->AV->Mem->Nat->O2}:x1zj call hs u xfq (j4 rec0 0 1 9 10) (setE 1 (j4 rec0 0 1 9 10) (setE 0 (j1 (xw call hs u) 9) eNil))=j4 (x1v call hs u rec0 NN) 0 1 9 10:=sq2 x198 x19b
theorem x19d{rec0:AV->AV->AV->AV->Mem->Nat->O2}{rec2:AV->AV->AV->AV->Mem->Nat->O2}:x1zj call hs u x196 (j4 rec2 0 1 9 10) (setE 2 (j4 (x1v call hs u rec0 NN) 0 1 9 10) (setE 1 (j4 rec0 0 1 9 10) (setE 0 (j1 (xw call hs u) 9) eNil)))=j4 (xnt call hs u rec0 rec2) 0 1 9 10:=by kernel_rfl
theorem x19e{rec0:AV->AV->AV->AV->Mem->Nat->O2}:x1zj call hs u xpo (j4 (x1v call hs u rec0 NN) 0 1 9 10) (setE 2 (j4 (x1v call hs u rec0 NN) 0 1 9 10) (setE 1 (j4 rec0 0 1 9 10) (setE 0 (j1 (xw call hs u) 9) eNil)))=j4 (x3w call hs u rec0 NN) 0 1 9 10:=lp (Ln:=fun n=>j4 (x3w call hs u rec0 n) 0 1 9 10) fun n=>tr x19d
theorem x19f{rec0:AV->AV->AV->AV->Mem->Nat->O2}:x1zj call hs u xpl (j4 (x1v call hs u rec0 NN) 0 1 9 10) (setE 1 (j4 rec0 0 1 9 10) (setE 0 (j1 (xw call hs u) 9) eNil))=j4 (x3w call hs u rec0 NN) 0 1 9 10:=bk x19e
theorem x19g{rec0:AV->AV->AV->AV->Mem->Nat->O2}:x1zj call hs u xfp (j4 rec0 0 1 9 10) (setE 1 (j4 rec0 0 1 9 10) (setE 0 (j1 (xw call hs u) 9) eNil))=j4 (x3w call hs u rec0 NN) 0 1 9 10:=sq2 x19c x19f
theorem x19h{rec0:AV->AV->AV->AV->Mem->Nat->O2}:x1zj call hs u xpk (j4 rec0 0 1 9 10) (setE 0 (j1 (xw call hs u) 9) eNil)=j4 (x3w call hs u rec0 NN) 0 1 9 10:=bk x19g
theorem x19i:x1zj call hs u xpj (j1 (xw call hs u) 9) (setE 0 (j1 (xw call hs u) 9) eNil)=j4 (x4z call hs u NN) 0 1 9 10:=lp (Ln:=fun n=>j4 (x4z call hs u n) 0 1 9 10) fun n=>tr x19h
theorem x19j:x1zj call hs u xpi (j1 (xw call hs u) 9) eNil=j4 (x4z call hs u NN) 0 1 9 10:=bk x19i
theorem x19k:x1zj call hs u xfo r_19 eNil=j4 (x4z call hs u NN) 0 1 9 10:=sq2 x197 x19j
theorem x16i:x1zj call hs u xph r_19 eNil=j4 (xnu call hs u) 0 1 2 3:=tr (sqN 3 x19k)
noncomputable abbrev x1yl:=VX x9c 168 r_20
noncomputable def xpp:=x1xu x9c
noncomputable def xfr:=nRs 3 xpp
noncomputable def xpq:=nL xfr
noncomputable def xfs:=nR xfr
noncomputable def xpr:=nL xfs
noncomputable def xps:=nR xfs
noncomputable def xft:=nRs 4 xps
noncomputable def xpt:=nL xft
noncomputable def x19l:=nR xft
noncomputable def xpu:=nR xpt
noncomputable def xpv:=nR xpu
noncomputable def xfu:=nR xpv
noncomputable def xpw:=nL xfu
noncomputable def xfv:=nR xfu
noncomputable def xpx:=nL xfv
noncomputable def x19m:=nR xfv
noncomputable def xpy:=nR xpx
noncomputable def x19n:=nR xpy
noncomputable def xpz:=nR xpw
noncomputable def x19o:=nR xpz
noncomputable def xq0:=nR xpr
noncomputable def x19p:=nR xq0
noncomputable def xq1:=nR xpq
noncomputable def x19q:=nR xq1
theorem x19r:x1yl call hs u x19l r_20 eNil=j3 (xx call hs u) 0 1 11:=by kernel_rfl
theorem x19s{rec0:AV->AV->AV->AV->Mem->Nat->O2}:x1yl call hs u x19m (j4 rec0 0 1 10 11) (setE 5 (j4 rec0 0 1 10 11) (setE 4 (j3 (xx call hs u) 0 1 11) eNil))=j4 (x50 call hs u rec0) 0 1 10 11:=by kernel_rfl
theorem x19t{rec0:AV->AV->AV->AV->Mem->Nat->O2}{rec1:AV->AV->AV->AV->Mem->Nat->O2}:x1yl call hs u x19n (j4 rec1 0 1 10 11) (setE 8 (j4 (x50 call hs u rec0) 0 1 10 11) (setE 5 (j4 rec0 0 1 10 11) (setE 4 (j3 (xx call hs u) 0 1 11) eNil)))=j4 (xnv call hs u rec0 rec1) 0 1 10 11:=by kernel_rfl
theorem x19u{rec0:AV->AV->AV->AV->Mem->Nat->O2}:x1yl call hs u xpy (j4 (x50 call hs u rec0) 0 1 10 11) (setE 8 (j4 (x50 call hs u rec0) 0 1 10 11) (setE 5 (j4 rec0 0 1 10 11) (setE 4 (j3 (xx call hs u) 0 1 11) eNil)))=j4 (x1w call hs u rec0 NN) 0 1 10 11:=lp (Ln:=fun n=>j4 (x1w call hs u rec0 n) 0 1 10 11) fun n=>tr x19t
theorem x19v{rec0:AV->AV->AV->AV->Mem->Nat->O2}:x1yl call hs u xpx (j4 (x50 call hs u rec0) 0 1 10 11) (setE 5 (j4 rec0 0 1 10 11) (setE 4 (j3 (xx call hs u) 0 1 11) eNil))=j4 (x1w call hs u rec0 NN) 0 1 10 11:=bk x19u
theorem x19w{rec0:AV->AV->AV->AV->Mem->Nat->O2}:x1yl call hs u xfv (j4 rec0 0 1 10 11) (setE 5 (j4 rec0 0 1 10 11) (setE 4 (j3 (xx call hs u) 0 1 11) eNil))=j4 (x1w call hs u rec0 NN) 0 1 10 11:=sq2 x19s x19v
theorem x19x{rec0:AV->AV->AV->AV->Mem->Nat->O2}{rec2:AV->AV->AV->AV->Mem->Nat->O2}:x1yl call hs u x19o (j4 rec2 0 1 10 11) (setE 6 (j4 (x1w call hs u rec0 NN) 0 1 10 11) (setE 5 (j4 rec0 0 1 10 11) (setE 4 (j3 (xx call hs u) 0 1 11) eNil)))=j4 (xnw call hs u rec0 rec2) 0 1 10 11:=by kernel_rfl
theorem x19y{rec0:AV->AV->AV->AV->Mem->Nat->O2}:x1yl call hs u xpz (j4 (x1w call hs u rec0 NN) 0 1 10 11) (setE 6 (j4 (x1w call hs u rec0 NN) 0 1 10 11) (setE 5 (j4 rec0 0 1 10 11) (setE 4 (j3 (xx call hs u) 0 1 11) eNil)))=j4 (x3x call hs u rec0 NN) 0 1 10 11:=lp (Ln:=fun n=>j4 (x3x call hs u rec0 n) 0 1 10 11) fun n=>tr x19x
theorem x19z{rec0:AV->AV->AV->AV->Mem->Nat->O2}:x1yl call hs u xpw (j4 (x1w call hs u rec0 NN) 0 1 10 11) (setE 5 (j4 rec0 0 1 10 11) (setE 4 (j3 (xx call hs u) 0 1 11) eNil))=j4 (x3x call hs u rec0 NN) 0 1 10 11:=bk x19y
theorem x1a0{rec0:AV->AV->AV->AV->Mem->Nat->O2}:x1yl call hs u xfu (j4 rec0 0 1 10 11) (setE 5 (j4 rec0 0 1 10 11) (setE 4 (j3 (xx call hs u) 0 1 11) eNil))=j4 (x3x call hs u rec0 NN) 0 1 10 11:=sq2 x19w x19z
theorem x1a1{rec0:AV->AV->AV->AV->Mem->Nat->O2}:x1yl call hs u xpv (j4 rec0 0 1 10 11) (setE 4 (j3 (xx call hs u) 0 1 11) eNil)=j4 (x3x call hs u rec0 NN) 0 1 10 11:=bk x1a0
theorem x1a2:x1yl call hs u xpu (j3 (xx call hs u) 0 1 11) (setE 4 (j3 (xx call hs u) 0 1 11) eNil)=j4 (x51 call hs u NN) 0 1 10 11:=lp (Ln:=fun n=>j4 (x51 call hs u n) 0 1 10 11) fun n=>tr x1a1
theorem x1a3:x1yl call hs u xpt (j3 (xx call hs u) 0 1 11) eNil=j4 (x51 call hs u NN) 0 1 10 11:=bk x1a2
theorem x1a4:x1yl call hs u xft r_20 eNil=j4 (x51 call hs u NN) 0 1 10 11:=sq2 x19r x1a3
theorem x1a5:x1yl call hs u xps r_20 eNil=j4 (x52 call hs u) 0 1 10 11:=tr (sqN 4 x1a4)
theorem x1a6{rec3:AV->AV->AV->AV->Mem->Nat->O2}:x1yl call hs u x19p (j4 rec3 0 1 10 11) (setE 2 (j4 (x52 call hs u) 0 1 10 11) eNil)=j4 (xnx call hs u rec3) 0 1 10 11:=by kernel_rfl
theorem x1a7:x1yl call hs u xq0 (j4 (x52 call hs u) 0 1 10 11) (setE 2 (j4 (x52 call hs u) 0 1 10 11) eNil)=j4 (x1x call hs u NN) 0 1 10 11:=lp (Ln:=fun n=>j4 (x1x call hs u n) 0 1 10 11) fun n=>tr x1a6
theorem x1a8:x1yl call hs u xpr (j4 (x52 call hs u) 0 1 10 11) eNil=j4 (x1x call hs u NN) 0 1 10 11:=bk x1a7
theorem x1a9:x1yl call hs u xfs r_20 eNil=j4 (x1x call hs u NN) 0 1 10 11:=sq2 x1a5 x1a8
theorem x1aa{rec4:AV->AV->AV->AV->Mem->Nat->O2}:x1yl call hs u x19q (j4 rec4 0 1 10 11) (setE 0 (j4 (x1x call hs u NN) 0 1 10 11) eNil)=j4 (xny call hs u rec4) 0 1 10 11:=by kernel_rfl
theorem x1ab:x1yl call hs u xq1 (j4 (x1x call hs u NN) 0 1 10 11) (setE 0 (j4 (x1x call hs u NN) 0 1 10 11) eNil)=j4 (x53 call hs u NN) 0 1 10 11:=lp (Ln:=fun n=>j4 (x53 call hs u n) 0 1 10 11) fun n=>tr x1aa
theorem x1ac:x1yl call hs u xpq (j4 (x1x call hs u NN) 0 1 10 11) eNil=j4 (x53 call hs u NN) 0 1 10 11:=bk x1ab
theorem x1ad:x1yl call hs u xfr r_20 eNil=j4 (x53 call hs u NN) 0 1 10 11:=sq2 x1a9 x1ac
theorem x16j:x1yl call hs u xpp r_20 eNil=j4 (xnz call hs u) 0 1 2 3:=tr (sqN 3 x1ad)
noncomputable abbrev x234:=VX x9d 19 r_6
noncomputable def xq2:=x1xu x9d
noncomputable def xfw:=nR xq2
noncomputable def x1ae:=nL xfw
noncomputable def xfx:=nR xfw
noncomputable def x1af:=nL xfx
noncomputable def x1ag:=nR xfx
theorem x1ah:x234 call hs u x1ag r_6 eNil=j2 (xbg call hs u) 0 2:=by kernel_rfl
theorem x1ai:x234 call hs u x1af (j2 (xbg call hs u) 0 2) eNil=j2 (x7s call hs u) 0 2:=by kernel_rfl
theorem x1aj:x234 call hs u xfx r_6 eNil=j2 (x7s call hs u) 0 2:=sq2 x1ah x1ai
theorem x1ak:x234 call hs u x1ae (j2 (x7s call hs u) 0 2) eNil=j2 (xf7 call hs u) 0 2:=by kernel_rfl
theorem x1al:x234 call hs u xfw r_6 eNil=j2 (xf7 call hs u) 0 2:=sq2 x1aj x1ak
theorem x16k:x234 call hs u xq2 r_6 eNil=j1 (xo0 call hs u) 0:=tr (sqN 1 x1al)
noncomputable abbrev x21k:=VX x9e 25 r_6
noncomputable def xq3:=x1xu x9e
noncomputable def xfy:=nR xq3
noncomputable def x1am:=nL xfy
noncomputable def xfz:=nR xfy
noncomputable def x1an:=nL xfz
noncomputable def xg0:=nR xfz
noncomputable def x1ao:=nL xg0
noncomputable def x1ap:=nR xg0
theorem x1aq:x21k call hs u x1ap r_6 eNil=j2 (xbh call hs u) 0 2:=by kernel_rfl
theorem x1ar:x21k call hs u x1ao (j2 (xbh call hs u) 0 2) eNil=j2 (x7t call hs u) 0 2:=by kernel_rfl
theorem x1as:x21k call hs u xg0 r_6 eNil=j2 (x7t call hs u) 0 2:=sq2 x1aq x1ar
theorem x1at:x21k call hs u x1an (j2 (x7t call hs u) 0 2) eNil=j2 (x7u call hs u) 0 2:=by kernel_rfl
theorem x1au:x21k call hs u xfz r_6 eNil=j2 (x7u call hs u) 0 2:=sq2 x1as x1at
theorem x1av:x21k call hs u x1am (j2 (x7u call hs u) 0 2) eNil=j2 (xf8 call hs u) 0 2:=by kernel_rfl
theorem x1aw:x21k call hs u xfy r_6 eNil=j2 (xf8 call hs u) 0 2:=sq2 x1au x1av
theorem x16l:x21k call hs u xq3 r_6 eNil=j1 (xo1 call hs u) 0:=tr (sqN 1 x1aw)
noncomputable abbrev x2ai:=VX x80 6 r_3
noncomputable def x1ax:=x1xu x80
theorem x13r:x2ai call hs u x1ax r_3 eNil=j2 (xo2 call hs u) 0 1:=by kernel_rfl
noncomputable abbrev x2aj:=VX x9f 30 r_7
noncomputable def x1ay:=x1xu x9f
theorem x16m:x2aj call hs u x1ay r_7 eNil=j2 (xo3 call hs u) 0 1:=by kernel_rfl
noncomputable abbrev x235:=VX x9g 58 r_15
noncomputable def xq4:=x1xu x9g
noncomputable def xg1:=nRs 2 xq4
noncomputable def xq5:=nL xg1
noncomputable def x1az:=nR xg1
noncomputable def xq6:=nR xq5
noncomputable def x1b0:=nR xq6
theorem x1b1:x235 call hs u x1az r_15 eNil=j4 (x54 call hs u) 0 2 4 10:=by kernel_rfl
theorem x1b2{rec0:AV->AV->AV->AV->AV->Mem->Nat->O2}:x235 call hs u x1b0 (j5 rec0 0 2 4 10 11) (setE 0 (j4 (x54 call hs u) 0 2 4 10) eNil)=j5 (xo4 call hs u rec0) 0 2 4 10 11:=by kernel_rfl
theorem x1b3:x235 call hs u xq6 (j4 (x54 call hs u) 0 2 4 10) (setE 0 (j4 (x54 call hs u) 0 2 4 10) eNil)=j5 (x55 call hs u NN) 0 2 4 10 11:=lp (Ln:=fun n=>j5 (x55 call hs u n) 0 2 4 10 11) fun n=>tr x1b2
theorem x1b4:x235 call hs u xq5 (j4 (x54 call hs u) 0 2 4 10) eNil=j5 (x55 call hs u NN) 0 2 4 10 11:=bk x1b3
theorem x1b5:x235 call hs u xg1 r_15 eNil=j5 (x55 call hs u NN) 0 2 4 10 11:=sq2 x1b1 x1b4
theorem x16n:x235 call hs u xq4 r_15 eNil=j5 (xo5 call hs u) 0 1 2 3 4:=tr (sqN 2 x1b5)
noncomputable abbrev x21l:=VX x5m 76 r_15
noncomputable def xq7:=x1xu x5m
noncomputable def xq8:=nR xq7
noncomputable def xq9:=nR xq8
noncomputable def xqa:=nR xq9
noncomputable def xqb:=nR xqa
noncomputable def xg2:=nRs 2 xqb
noncomputable def x1b6:=nL xg2
noncomputable def x1b7:=nR xg2
theorem x1b8{rec0:AV->AV->AV->AV->Mem->Nat->O2}:x21l call hs u x1b7 (j4 rec0 0 2 3 8) (setE 1 (j4 rec0 0 2 3 8) (setE 0 r_15 eNil))=j5 (xbi call hs u rec0) 0 2 3 8 9:=by kernel_rfl
theorem x1b9{rec0:AV->AV->AV->AV->Mem->Nat->O2}:x21l call hs u x1b6 (j5 (xbi call hs u rec0) 0 2 3 8 9) (setE 1 (j4 rec0 0 2 3 8) (setE 0 r_15 eNil))=j5 (xf9 call hs u rec0) 0 2 3 8 9:=by kernel_rfl
theorem x1ba{rec0:AV->AV->AV->AV->Mem->Nat->O2}:x21l call hs u xg2 (j4 rec0 0 2 3 8) (setE 1 (j4 rec0 0 2 3 8) (setE 0 r_15 eNil))=j5 (xf9 call hs u rec0) 0 2 3 8 9:=sq2 x1b8 x1b9
theorem x1bb{rec0:AV->AV->AV->AV->Mem->Nat->O2}:x21l call hs u xqb (j4 rec0 0 2 3 8) (setE 1 (j4 rec0 0 2 3 8) (setE 0 r_15 eNil))=j4 (xfa call hs u rec0) 0 2 3 8:=tr (sqN 2 x1ba)
theorem x1bc{rec0:AV->AV->AV->AV->Mem->Nat->O2}:x21l call hs u xqa (j4 rec0 0 2 3 8) (setE 0 r_15 eNil)=j4 (xfa call hs u rec0) 0 2 3 8:=bk x1bb
theorem x1bd:x21l call hs u xq9 r_15 (setE 0 r_15 eNil)=j4 (x7v call hs u NN) 0 2 3 8:=lp (Ln:=fun n=>j4 (x7v call hs u n) 0 2 3 8) fun n=>tr x1bc
theorem x1be:x21l call hs u xq8 r_15 eNil=j4 (x7v call hs u NN) 0 2 3 8:=bk x1bd
theorem x16o:x21l call hs u xq7 r_15 eNil=j4 (xo6 call hs u) 0 1 2 3:=tr (sqN 1 x1be)
noncomputable abbrev x2ak:=VX x9h 7 r_6
noncomputable def x1bf:=x1xu x9h
theorem x16p:x2ak call hs u x1bf r_6 eNil=j1 (xo7 call hs u) 0:=by kernel_rfl
noncomputable abbrev x2al:=VX x9i 33 r_6
noncomputable def x1bg:=x1xu x9i
theorem x16q:x2al call hs u x1bg r_6 eNil=j1 (xo8 call hs u) 0:=by kernel_rfl
noncomputable abbrev x2am:=VX x4d 15 r_0
noncomputable def x1bh:=x1xu x4d
theorem x16r:x2am call hs u x1bh r_0 eNil=j3 (xo9 call hs u) 0 1 2:=by kernel_rfl
noncomputable abbrev x2an:=VX x5n 36 r_21
noncomputable def x1bi:=x1xu x5n
theorem x16s:x2an call hs u x1bi r_21 eNil=j5 (xoa call hs u) 0 1 2 3 4:=by kernel_rfl
noncomputable abbrev x2ao:=VX x5o 6 r_6
noncomputable def x1bj:=x1xu x5o
theorem x16t:x2ao call hs u x1bj r_6 eNil=j1 (xob call hs u) 0:=by kernel_rfl
noncomputable abbrev x209:=VX x7y 76 r_15
noncomputable def xqc:=x1xu x7y
noncomputable def xqd:=nR xqc
noncomputable def xqe:=nR xqd
noncomputable def xqf:=nR xqe
noncomputable def xg3:=nRs 2 xqf
noncomputable def xqg:=nL xg3
noncomputable def x1bk:=nR xg3
noncomputable def xqh:=nR xqg
noncomputable def xg4:=nRs 3 xqh
noncomputable def x1bl:=nL xg4
noncomputable def x1bm:=nR xg4
theorem x1bn{rec0:AV->AV->AV->AV->AV->AV->Mem->Nat->O2}:x209 call hs u x1bk (j6 rec0 0 1 2 14 15 16) (setE 0 r_15 eNil)=j6 (x1y call hs u rec0) 0 1 2 14 15 16:=by kernel_rfl
theorem x1bo{rec0:AV->AV->AV->AV->AV->AV->Mem->Nat->O2}:x209 call hs u x1bm (j6 (x1y call hs u rec0) 0 1 2 14 15 16) (setE 1 (j6 (x1y call hs u rec0) 0 1 2 14 15 16) (setE 0 r_15 eNil))=j7 (xbj call hs u rec0) 0 1 2 7 14 15 16:=by kernel_rfl
theorem x1bp{rec0:AV->AV->AV->AV->AV->AV->Mem->Nat->O2}:x209 call hs u x1bl (j7 (xbj call hs u rec0) 0 1 2 7 14 15 16) (setE 1 (j6 (x1y call hs u rec0) 0 1 2 14 15 16) (setE 0 r_15 eNil))=j9 (xfb call hs u rec0) 0 1 2 5 6 7 14 15 16:=by kernel_rfl
theorem x1bq{rec0:AV->AV->AV->AV->AV->AV->Mem->Nat->O2}:x209 call hs u xg4 (j6 (x1y call hs u rec0) 0 1 2 14 15 16) (setE 1 (j6 (x1y call hs u rec0) 0 1 2 14 15 16) (setE 0 r_15 eNil))=j9 (xfb call hs u rec0) 0 1 2 5 6 7 14 15 16:=sq2 x1bo x1bp
theorem x1br{rec0:AV->AV->AV->AV->AV->AV->Mem->Nat->O2}:x209 call hs u xqh (j6 (x1y call hs u rec0) 0 1 2 14 15 16) (setE 1 (j6 (x1y call hs u rec0) 0 1 2 14 15 16) (setE 0 r_15 eNil))=j6 (xbk call hs u rec0) 0 1 2 14 15 16:=tr (sqN 3 x1bq)
theorem x1bs{rec0:AV->AV->AV->AV->AV->AV->Mem->Nat->O2}:x209 call hs u xqg (j6 (x1y call hs u rec0) 0 1 2 14 15 16) (setE 0 r_15 eNil)=j6 (xbk call hs u rec0) 0 1 2 14 15 16:=bk x1br
theorem x1bt{rec0:AV->AV->AV->AV->AV->AV->Mem->Nat->O2}:x209 call hs u xg3 (j6 rec0 0 1 2 14 15 16) (setE 0 r_15 eNil)=j6 (xbk call hs u rec0) 0 1 2 14 15 16:=sq2 x1bn x1bs
theorem x1bu{rec0:AV->AV->AV->AV->AV->AV->Mem->Nat->O2}:x209 call hs u xqf (j6 rec0 0 1 2 14 15 16) (setE 0 r_15 eNil)=j6 (xoc call hs u rec0) 0 1 2 14 15 16:=tr (sqN 2 x1bt)
theorem x1bv:x209 call hs u xqe r_15 (setE 0 r_15 eNil)=j6 (x7w call hs u NN) 0 1 2 14 15 16:=lp (Ln:=fun n=>j6 (x7w call hs u n) 0 1 2 14 15 16) fun n=>tr x1bu
theorem x1bw:x209 call hs u xqd r_15 eNil=j6 (x7w call hs u NN) 0 1 2 14 15 16:=bk x1bv
theorem x13n:x209 call hs u xqc r_15 eNil=j3 (xod call hs u) 0 1 2:=tr (sqN 1 x1bw)
noncomputable abbrev x2ap:=VX x9j 17 r_7
noncomputable def x1bx:=x1xu x9j
theorem x16u:x2ap call hs u x1bx r_7 eNil=j2 (xoe call hs u) 0 1:=by kernel_rfl
noncomputable abbrev x2aq:=VX x82 51 r_7
noncomputable def x1by:=x1xu x82
theorem x13t:x2aq call hs u x1by r_7 eNil=j2 (xof call hs u) 0 1:=by kernel_rfl
noncomputable abbrev x24p:=VX x4e 38 r_15
noncomputable def xqi:=x1xu x4e
noncomputable def xqj:=nR xqi
noncomputable def xqk:=nR xqj
noncomputable def x1bz:=nR xqk
theorem x1c0{rec0:AV->AV->AV->AV->AV->Mem->Nat->O2}:x24p call hs u x1bz (j5 rec0 0 1 2 3 10) (setE 0 r_15 eNil)=j5 (xog call hs u rec0) 0 1 2 3 10:=by kernel_rfl
theorem x1c1:x24p call hs u xqk r_15 (setE 0 r_15 eNil)=j5 (x7x call hs u NN) 0 1 2 3 10:=lp (Ln:=fun n=>j5 (x7x call hs u n) 0 1 2 3 10) fun n=>tr x1c0
theorem x1c2:x24p call hs u xqj r_15 eNil=j5 (x7x call hs u NN) 0 1 2 3 10:=bk x1c1
theorem x16v:x24p call hs u xqi r_15 eNil=j4 (xoh call hs u) 0 1 2 3:=tr (sqN 1 x1c2)
noncomputable abbrev x2ar:=VX x4f 28 r_20
noncomputable def x1c3:=x1xu x4f
theorem x16w:x2ar call hs u x1c3 r_20 eNil=j4 (xoi call hs u) 0 1 2 3:=by kernel_rfl
end Go.Ix
