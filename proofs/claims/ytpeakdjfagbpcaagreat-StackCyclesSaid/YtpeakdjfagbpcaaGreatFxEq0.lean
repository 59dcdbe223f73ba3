import Derived.Test.YtpeakdjfagbpcaaGreatFxText0
import Derived.Test.YtpeakdjfagbpcaaGreatFxEnt
import Derived.Test.YtpeakdjfagbpcaaGreatFxRules
import Derived.Test.YtpeakdjfagbpcaaGreatFxProj
import Derived.ProofKit
set_option linter.unusedVariables false
namespace Go.Ix
open Go.Proofs
variable{call:xut}{hs:FHs}{u:Nat}
noncomputable abbrev x19o:=VX x4c 154 r_0
noncomputable def xjy:=xv0 x4c
theorem xie:x19o call hs u xjy r_0 eNil=j3 (x8r call hs u) 0 1 2:=by kernel_rfl
noncomputable abbrev x19p:=VX xu 15 r_0
noncomputable def xjz:=xv0 xu
theorem xif:x19p call hs u xjz r_0 eNil=j3 (x8t call hs u) 0 1 2:=by kernel_rfl
noncomputable abbrev xwh:=VX x2y 50 r_1
noncomputable def xbu:=xv0 x2y
noncomputable def xab:=nRs 2 xbu
noncomputable def xbv:=nL xab
noncomputable def xk0:=nR xab
noncomputable def xbw:=nR xbv
noncomputable def xbx:=nR xbw
noncomputable def xby:=nR xbx
noncomputable def xac:=nR xby
noncomputable def xbz:=nL xac
noncomputable def xk1:=nR xac
noncomputable def xc0:=nR xbz
noncomputable def xad:=nRs 2 xc0
noncomputable def xc1:=nL xad
noncomputable def xk2:=nR xad
noncomputable def xc2:=nR xc1
noncomputable def xc3:=nR xc2
noncomputable def xk3:=nR xc3
theorem xk4:xwh call hs u xk0 r_1 eNil=j0 (xg call hs u):=by kernel_rfl
theorem xk5{rec0:AV->AV->Mem->Nat->O2}:xwh call hs u xk1 (j2 rec0 0 4) (setE 0 (j0 (xg call hs u)) eNil)=j2 (xp call hs u rec0) 0 4:=by kernel_rfl
theorem xk6{rec0:AV->AV->Mem->Nat->O2}:xwh call hs u xk2 (j2 (xp call hs u rec0) 0 4) (setE 1 (j2 (xp call hs u rec0) 0 4) (setE 0 (j0 (xg call hs u)) eNil))=j3 (x19 call hs u rec0) 0 4 5:=by kernel_rfl
theorem xk7{rec0:AV->AV->Mem->Nat->O2}{rec1:AV->AV->AV->AV->Mem->Nat->O2}:xwh call hs u xk3 (j4 rec1 0 4 5 6) (setE 2 (j3 (x19 call hs u rec0) 0 4 5) (setE 1 (j2 (xp call hs u rec0) 0 4) (setE 0 (j0 (xg call hs u)) eNil)))=j4 (x50 call hs u rec0 rec1) 0 4 5 6:=by kernel_rfl
theorem xk8{rec0:AV->AV->Mem->Nat->O2}:xwh call hs u xc3 (j3 (x19 call hs u rec0) 0 4 5) (setE 2 (j3 (x19 call hs u rec0) 0 4 5) (setE 1 (j2 (xp call hs u rec0) 0 4) (setE 0 (j0 (xg call hs u)) eNil)))=j4 (x1v call hs u rec0 NN) 0 4 5 6:=lp (Ln:=fun n=>j4 (x1v call hs u rec0 n) 0 4 5 6) fun n=>tr xk7
theorem xk9{rec0:AV->AV->Mem->Nat->O2}:xwh call hs u xc2 (j3 (x19 call hs u rec0) 0 4 5) (setE 1 (j2 (xp call hs u rec0) 0 4) (setE 0 (j0 (xg call hs u)) eNil))=j4 (x1v call hs u rec0 NN) 0 4 5 6:=bk xk8
theorem xka{rec0:AV->AV->Mem->Nat->O2}:xwh call hs u xc1 (j3 (x19 call hs u rec0) 0 4 5) (setE 1 (j2 (xp call hs u rec0) 0 4) (setE 0 (j0 (xg call hs u)) eNil))=j3 (x51 call hs u rec0) 0 4 5:=tr (sqN 1 xk9)
theorem xkb{rec0:AV->AV->Mem->Nat->O2}:xwh call hs u xad (j2 (xp call hs u rec0) 0 4) (setE 1 (j2 (xp call hs u rec0) 0 4) (setE 0 (j0 (xg call hs u)) eNil))=j3 (x51 call hs u rec0) 0 4 5:=sq2 xk6 xka
theorem xkc{rec0:AV->AV->Mem->Nat->O2}:xwh call hs u xc0 (j2 (xp call hs u rec0) 0 4) (setE 1 (j2 (xp call hs u rec0) 0 4) (setE 0 (j0 (xg call hs u)) eNil))=j2 (x4d call hs u rec0) 0 4:=tr (sqN 2 xkb)
theorem xkd{rec0:AV->AV->Mem->Nat->O2}:xwh call hs u xbz (j2 (xp call hs u rec0) 0 4) (setE 0 (j0 (xg call hs u)) eNil)=j2 (x4d call hs u rec0) 0 4:=bk xkc
theorem xke{rec0:AV->AV->Mem->Nat->O2}:xwh call hs u xac (j2 rec0 0 4) (setE 0 (j0 (xg call hs u)) eNil)=j2 (x4d call hs u rec0) 0 4:=sq2 xk5 xkd
theorem xkf{rec0:AV->AV->Mem->Nat->O2}:xwh call hs u xby (j2 rec0 0 4) (setE 0 (j0 (xg call hs u)) eNil)=j2 (x52 call hs u rec0) 0 4:=tr (sqN 1 xke)
theorem xkg:xwh call hs u xbx (j0 (xg call hs u)) (setE 0 (j0 (xg call hs u)) eNil)=j2 (x13 call hs u NN) 0 4:=lp (Ln:=fun n=>j2 (x13 call hs u n) 0 4) fun n=>tr xkf
theorem xkh:xwh call hs u xbw (j0 (xg call hs u)) eNil=j2 (x13 call hs u NN) 0 4:=bk xkg
theorem xki:xwh call hs u xbv (j0 (xg call hs u)) eNil=j1 (x53 call hs u) 0:=tr (sqN 1 xkh)
theorem xkj:xwh call hs u xab r_1 eNil=j1 (x53 call hs u) 0:=sq2 xk4 xki
theorem xig:xwh call hs u xbu r_1 eNil=j1 (x8u call hs u) 0:=tr (sqN 2 xkj)
noncomputable abbrev xze:=VX x3o 53 r_2
noncomputable def xc4:=xv0 x3o
noncomputable def xae:=nRs 2 xc4
noncomputable def xc5:=nL xae
noncomputable def xkk:=nR xae
noncomputable def xc6:=nR xc5
noncomputable def xc7:=nR xc6
noncomputable def xkl:=nR xc7
theorem xkm:xze call hs u xkk r_2 eNil=j0 (x1x call hs u):=by kernel_rfl
theorem xkn{rec0:AV->AV->Mem->Nat->O2}:xze call hs u xkl (j2 rec0 1 3) (setE 0 (j0 (x1x call hs u)) eNil)=j2 (x54 call hs u rec0) 1 3:=by kernel_rfl
theorem xko:xze call hs u xc7 (j0 (x1x call hs u)) (setE 0 (j0 (x1x call hs u)) eNil)=j2 (x1y call hs u NN) 1 3:=lp (Ln:=fun n=>j2 (x1y call hs u n) 1 3) fun n=>tr xkn
theorem xkp:xze call hs u xc6 (j0 (x1x call hs u)) eNil=j2 (x1y call hs u NN) 1 3:=bk xko
theorem xkq:xze call hs u xc5 (j0 (x1x call hs u)) eNil=j1 (x4e call hs u) 1:=tr (sqN 1 xkp)
theorem xkr:xze call hs u xae r_2 eNil=j1 (x4e call hs u) 1:=sq2 xkm xkq
theorem xih:xze call hs u xc4 r_2 eNil=j1 (x8v call hs u) 0:=tr (sqN 2 xkr)
noncomputable abbrev xzf:=VX x1o 64 r_3
noncomputable def xc8:=xv0 x1o
noncomputable def xaf:=nRs 3 xc8
noncomputable def xc9:=nL xaf
noncomputable def xks:=nR xaf
noncomputable def xca:=nR xc9
noncomputable def xcb:=nR xca
noncomputable def xkt:=nR xcb
theorem xku:xzf call hs u xks r_3 eNil=j3 (x1z call hs u) 1 2 7:=by kernel_rfl
theorem xkv{rec0:AV->AV->AV->AV->AV->AV->Mem->Nat->O2}:xzf call hs u xkt (j6 rec0 1 2 7 19 20 21) (setE 0 (j3 (x1z call hs u) 1 2 7) eNil)=j6 (x55 call hs u rec0) 1 2 7 19 20 21:=by kernel_rfl
theorem xkw:xzf call hs u xcb (j3 (x1z call hs u) 1 2 7) (setE 0 (j3 (x1z call hs u) 1 2 7) eNil)=j6 (x1a call hs u NN) 1 2 7 19 20 21:=lp (Ln:=fun n=>j6 (x1a call hs u n) 1 2 7 19 20 21) fun n=>tr xkv
theorem xkx:xzf call hs u xca (j3 (x1z call hs u) 1 2 7) eNil=j6 (x1a call hs u NN) 1 2 7 19 20 21:=bk xkw
theorem xky:xzf call hs u xc9 (j3 (x1z call hs u) 1 2 7) eNil=j3 (x56 call hs u) 1 2 7:=tr (sqN 1 xkx)
theorem xkz:xzf call hs u xaf r_3 eNil=j3 (x56 call hs u) 1 2 7:=sq2 xku xky
theorem xii:xzf call hs u xc8 r_3 eNil=j2 (x8w call hs u) 0 1:=tr (sqN 3 xkz)
noncomputable abbrev x19q:=VX x17 12 r_4
noncomputable def xl0:=xv0 x17
theorem xij:x19q call hs u xl0 r_4 eNil=j1 (x8x call hs u) 0:=by kernel_rfl
noncomputable abbrev x19r:=VX x2z 6 r_2
noncomputable def xl1:=xv0 x2z
theorem xik:x19r call hs u xl1 r_2 eNil=j1 (x57 call hs u) 0:=by kernel_rfl
noncomputable abbrev x19s:=VX x3p 11 r_2
noncomputable def xl2:=xv0 x3p
theorem xil:x19s call hs u xl2 r_2 eNil=j1 (x8z call hs u) 0:=by kernel_rfl
noncomputable abbrev xwx:=VX x30 109 r_3
noncomputable def xcc:=xv0 x30
noncomputable def xag:=nRs 2 xcc
noncomputable def xcd:=nL xag
noncomputable def xce:=nR xag
noncomputable def xah:=nR xce
noncomputable def xcf:=nL xah
noncomputable def xl3:=nR xah
noncomputable def xcg:=nR xcf
noncomputable def xch:=nR xcg
noncomputable def xl4:=nR xch
noncomputable def xci:=nR xcd
noncomputable def xcj:=nR xci
noncomputable def xl5:=nR xcj
theorem xl6:xwx call hs u xl3 r_3 eNil=j1 (x20 call hs u) 6:=by kernel_rfl
theorem xl7{rec0:AV->AV->AV->AV->Mem->Nat->O2}:xwx call hs u xl4 (j4 rec0 2 6 9 10) (setE 2 (j1 (x20 call hs u) 6) eNil)=j4 (x58 call hs u rec0) 2 6 9 10:=by kernel_rfl
theorem xl8:xwx call hs u xch (j1 (x20 call hs u) 6) (setE 2 (j1 (x20 call hs u) 6) eNil)=j4 (x21 call hs u NN) 2 6 9 10:=lp (Ln:=fun n=>j4 (x21 call hs u n) 2 6 9 10) fun n=>tr xl7
theorem xl9:xwx call hs u xcg (j1 (x20 call hs u) 6) eNil=j4 (x21 call hs u NN) 2 6 9 10:=bk xl8
theorem xla:xwx call hs u xcf (j1 (x20 call hs u) 6) eNil=j3 (x59 call hs u) 2 6 9:=tr (sqN 1 xl9)
theorem xlb:xwx call hs u xah r_3 eNil=j3 (x59 call hs u) 2 6 9:=sq2 xl6 xla
theorem xlc:xwx call hs u xce r_3 eNil=j3 (x22 call hs u) 1 2 6:=tr (sqN 1 xlb)
theorem xld{rec1:AV->AV->AV->AV->Mem->Nat->O2}:xwx call hs u xl5 (j4 rec1 1 2 6 7) (setE 0 (j3 (x22 call hs u) 1 2 6) eNil)=j4 (x5a call hs u rec1) 1 2 6 7:=by kernel_rfl
theorem xle:xwx call hs u xcj (j3 (x22 call hs u) 1 2 6) (setE 0 (j3 (x22 call hs u) 1 2 6) eNil)=j4 (x23 call hs u NN) 1 2 6 7:=lp (Ln:=fun n=>j4 (x23 call hs u n) 1 2 6 7) fun n=>tr xld
theorem xlf:xwx call hs u xci (j3 (x22 call hs u) 1 2 6) eNil=j4 (x23 call hs u NN) 1 2 6 7:=bk xle
theorem xlg:xwx call hs u xcd (j3 (x22 call hs u) 1 2 6) eNil=j3 (x5b call hs u) 1 2 6:=tr (sqN 1 xlf)
theorem xlh:xwx call hs u xag r_3 eNil=j3 (x5b call hs u) 1 2 6:=sq2 xlc xlg
theorem xim:xwx call hs u xcc r_3 eNil=j2 (x90 call hs u) 0 1:=tr (sqN 2 xlh)
noncomputable abbrev xzg:=VX x31 18 r_5
noncomputable def xck:=xv0 x31
noncomputable def xai:=nR xck
noncomputable def xcl:=nL xai
noncomputable def xli:=nR xai
noncomputable def xcm:=nR xcl
noncomputable def xcn:=nR xcm
noncomputable def xlj:=nR xcn
theorem xlk:xzg call hs u xli r_5 eNil=j0 (x24 call hs u):=by kernel_rfl
theorem xll{rec0:AV->AV->AV->Mem->Nat->O2}:xzg call hs u xlj (j3 rec0 0 1 5) (setE 0 (j0 (x24 call hs u)) eNil)=j3 (x5c call hs u rec0) 0 1 5:=by kernel_rfl
theorem xlm:xzg call hs u xcn (j0 (x24 call hs u)) (setE 0 (j0 (x24 call hs u)) eNil)=j3 (x25 call hs u NN) 0 1 5:=lp (Ln:=fun n=>j3 (x25 call hs u n) 0 1 5) fun n=>tr xll
theorem xln:xzg call hs u xcm (j0 (x24 call hs u)) eNil=j3 (x25 call hs u NN) 0 1 5:=bk xlm
theorem xlo:xzg call hs u xcl (j0 (x24 call hs u)) eNil=j2 (x91 call hs u) 0 1:=tr (sqN 1 xln)
theorem xlp:xzg call hs u xai r_5 eNil=j2 (x91 call hs u) 0 1:=sq2 xlk xlo
theorem xin:xzg call hs u xck r_5 eNil=j2 (xbs call hs u) 0 1:=tr (sqN 1 xlp)
noncomputable abbrev x19t:=VX x32 22 r_3
noncomputable def xlq:=xv0 x32
theorem xio:x19t call hs u xlq r_3 eNil=j2 (x92 call hs u) 0 1:=by kernel_rfl
noncomputable abbrev x19u:=VX x3q 40 r_5
noncomputable def xlr:=xv0 x3q
theorem xip:x19u call hs u xlr r_5 eNil=j2 (x93 call hs u) 0 1:=by kernel_rfl
noncomputable abbrev xzh:=VX x33 26 r_5
noncomputable def xco:=xv0 x33
noncomputable def xaj:=nRs 2 xco
noncomputable def xcp:=nL xaj
noncomputable def xls:=nR xaj
noncomputable def xcq:=nR xcp
noncomputable def xcr:=nR xcq
noncomputable def xlt:=nR xcr
theorem xlu:xzh call hs u xls r_5 eNil=j0 (x26 call hs u):=by kernel_rfl
theorem xlv{rec0:AV->AV->AV->Mem->Nat->O2}:xzh call hs u xlt (j3 rec0 0 1 5) (setE 0 (j0 (x26 call hs u)) eNil)=j3 (x5d call hs u rec0) 0 1 5:=by kernel_rfl
theorem xlw:xzh call hs u xcr (j0 (x26 call hs u)) (setE 0 (j0 (x26 call hs u)) eNil)=j3 (x27 call hs u NN) 0 1 5:=lp (Ln:=fun n=>j3 (x27 call hs u n) 0 1 5) fun n=>tr xlv
theorem xlx:xzh call hs u xcq (j0 (x26 call hs u)) eNil=j3 (x27 call hs u NN) 0 1 5:=bk xlw
theorem xly:xzh call hs u xcp (j0 (x26 call hs u)) eNil=j2 (x5e call hs u) 0 1:=tr (sqN 1 xlx)
theorem xlz:xzh call hs u xaj r_5 eNil=j2 (x5e call hs u) 0 1:=sq2 xlu xly
theorem xiq:xzh call hs u xco r_5 eNil=j2 (x94 call hs u) 0 1:=tr (sqN 2 xlz)
noncomputable abbrev x19v:=VX x34 36 r_6
noncomputable def xm0:=xv0 x34
theorem xir:x19v call hs u xm0 r_6 eNil=j3 (x95 call hs u) 0 1 2:=by kernel_rfl
noncomputable abbrev xvi:=VX x35 106 r_1
noncomputable def xcs:=xv0 x35
noncomputable def xak:=nRs 3 xcs
noncomputable def xct:=nL xak
noncomputable def xcu:=nR xak
noncomputable def xal:=nR xcu
noncomputable def xcv:=nL xal
noncomputable def xm1:=nR xal
noncomputable def xcw:=nR xcv
noncomputable def xcx:=nR xcw
noncomputable def xcy:=nR xcx
noncomputable def xam:=nRs 2 xcy
noncomputable def xcz:=nL xam
noncomputable def xm2:=nR xam
noncomputable def xd0:=nR xcz
noncomputable def xd1:=nRs 2 xd0
noncomputable def xd2:=nR xd1
noncomputable def xd3:=nR xd2
noncomputable def xan:=nR xd3
noncomputable def xd4:=nL xan
noncomputable def xm3:=nR xan
noncomputable def xd5:=nR xd4
noncomputable def xd6:=nRs 2 xd5
noncomputable def xd7:=nR xd6
noncomputable def xd8:=nR xd7
noncomputable def xao:=nR xd8
noncomputable def xm4:=nL xao
noncomputable def xm5:=nR xao
noncomputable def xd9:=nR xct
noncomputable def xda:=nR xd9
noncomputable def xm6:=nR xda
theorem xm7:xvi call hs u xm1 r_1 eNil=j1 (x4 call hs u) 8:=by kernel_rfl
theorem xm8{rec0:AV->AV->AV->AV->AV->Mem->Nat->O2}:xvi call hs u xm2 (j5 rec0 1 5 8 38 39) (setE 2 (j1 (x4 call hs u) 8) eNil)=j5 (x0 call hs u rec0) 1 5 8 38 39:=by kernel_rfl
theorem xm9{rec0:AV->AV->AV->AV->AV->Mem->Nat->O2}{rec1:AV->AV->AV->AV->AV->AV->AV->Mem->Nat->O2}:xvi call hs u xm3 (j7 rec1 1 5 8 9 10 38 39) (setE 4 (j5 (x0 call hs u rec0) 1 5 8 38 39) (setE 3 (j5 (x0 call hs u rec0) 1 5 8 38 39) (setE 2 (j1 (x4 call hs u) 8) eNil)))=j7 (xd call hs u rec0 rec1) 1 5 8 9 10 38 39:=by kernel_rfl
theorem xma{rec0:AV->AV->AV->AV->AV->Mem->Nat->O2}{rec1:AV->AV->AV->AV->AV->AV->AV->Mem->Nat->O2}{rec2:AV->AV->AV->AV->AV->AV->AV->AV->AV->AV->Mem->Nat->O2}:xvi call hs u xm5 (j10 rec2 1 5 8 9 10 11 12 13 38 39) (setE 6 (j7 (xd call hs u rec0 rec1) 1 5 8 9 10 38 39) (setE 5 (j7 (xd call hs u rec0 rec1) 1 5 8 9 10 38 39) (setE 4 (j5 (x0 call hs u rec0) 1 5 8 38 39) (setE 3 (j5 (x0 call hs u rec0) 1 5 8 38 39) (setE 2 (j1 (x4 call hs u) 8) eNil)))))=j10 (x3h call hs u rec0 rec1 rec2) 1 5 8 9 10 11 12 13 38 39:=by kernel_rfl
theorem xmb{rec0:AV->AV->AV->AV->AV->Mem->Nat->O2}{rec1:AV->AV->AV->AV->AV->AV->AV->Mem->Nat->O2}{rec2:AV->AV->AV->AV->AV->AV->AV->AV->AV->AV->Mem->Nat->O2}:xvi call hs u xm4 (j10 (x3h call hs u rec0 rec1 rec2) 1 5 8 9 10 11 12 13 38 39) (setE 6 (j7 (xd call hs u rec0 rec1) 1 5 8 9 10 38 39) (setE 5 (j7 (xd call hs u rec0 rec1) 1 5 8 9 10 38 39) (setE 4 (j5 (x0 call hs u rec0) 1 5 8 38 39) (setE 3 (j5 (x0 call hs u rec0) 1 5 8 38 39) (setE 2 (j1 (x4 call hs u) 8) eNil)))))=j10 (x5f call hs u rec0 rec1 rec2) 1 5 8 9 10 11 12 13 38 39:=by kernel_rfl
theorem xmc{rec0:AV->AV->AV->AV->AV->Mem->Nat->O2}{rec1:AV->AV->AV->AV->AV->AV->AV->Mem->Nat->O2}{rec2:AV->AV->AV->AV->AV->AV->AV->AV->AV->AV->Mem->Nat->O2}:xvi call hs u xao (j10 rec2 1 5 8 9 10 11 12 13 38 39) (setE 6 (j7 (xd call hs u rec0 rec1) 1 5 8 9 10 38 39) (setE 5 (j7 (xd call hs u rec0 rec1) 1 5 8 9 10 38 39) (setE 4 (j5 (x0 call hs u rec0) 1 5 8 38 39) (setE 3 (j5 (x0 call hs u rec0) 1 5 8 38 39) (setE 2 (j1 (x4 call hs u) 8) eNil)))))=j10 (x5f call hs u rec0 rec1 rec2) 1 5 8 9 10 11 12 13 38 39:=sq2 xma xmb
theorem xmd{rec0:AV->AV->AV->AV->AV->Mem->Nat->O2}{rec1:AV->AV->AV->AV->AV->AV->AV->Mem->Nat->O2}{rec2:AV->AV->AV->AV->AV->AV->AV->AV->AV->AV->Mem->Nat->O2}:xvi call hs u xd8 (j10 rec2 1 5 8 9 10 11 12 13 38 39) (setE 6 (j7 (xd call hs u rec0 rec1) 1 5 8 9 10 38 39) (setE 5 (j7 (xd call hs u rec0 rec1) 1 5 8 9 10 38 39) (setE 4 (j5 (x0 call hs u rec0) 1 5 8 38 39) (setE 3 (j5 (x0 call hs u rec0) 1 5 8 38 39) (setE 2 (j1 (x4 call hs u) 8) eNil)))))=j10 (x5g call hs u rec0 rec1 rec2) 1 5 8 9 10 11 12 13 38 39:=tr (sqN 1 xmc)
theorem xme{rec0:AV->AV->AV->AV->AV->Mem->Nat->O2}{rec1:AV->AV->AV->AV->AV->AV->AV->Mem->Nat->O2}:xvi call hs u xd7 (j7 (xd call hs u rec0 rec1) 1 5 8 9 10 38 39) (setE 6 (j7 (xd call hs u rec0 rec1) 1 5 8 9 10 38 39) (setE 5 (j7 (xd call hs u rec0 rec1) 1 5 8 9 10 38 39) (setE 4 (j5 (x0 call hs u rec0) 1 5 8 38 39) (setE 3 (j5 (x0 call hs u rec0) 1 5 8 38 39) (setE 2 (j1 (x4 call hs u) 8) eNil)))))=j10 (x1b call hs u rec0 rec1 NN) 1 5 8 9 10 11 12 13 38 39:=lp (Ln:=fun n=>j10 (x1b call hs u rec0 rec1 n) 1 5 8 9 10 11 12 13 38 39) fun n=>tr xmd
theorem xmf{rec0:AV->AV->AV->AV->AV->Mem->Nat->O2}{rec1:AV->AV->AV->AV->AV->AV->AV->Mem->Nat->O2}:xvi call hs u xd6 (j7 (xd call hs u rec0 rec1) 1 5 8 9 10 38 39) (setE 5 (j7 (xd call hs u rec0 rec1) 1 5 8 9 10 38 39) (setE 4 (j5 (x0 call hs u rec0) 1 5 8 38 39) (setE 3 (j5 (x0 call hs u rec0) 1 5 8 38 39) (setE 2 (j1 (x4 call hs u) 8) eNil))))=j10 (x1b call hs u rec0 rec1 NN) 1 5 8 9 10 11 12 13 38 39:=bk xme
theorem xmg{rec0:AV->AV->AV->AV->AV->Mem->Nat->O2}{rec1:AV->AV->AV->AV->AV->AV->AV->Mem->Nat->O2}:xvi call hs u xd5 (j7 (xd call hs u rec0 rec1) 1 5 8 9 10 38 39) (setE 5 (j7 (xd call hs u rec0 rec1) 1 5 8 9 10 38 39) (setE 4 (j5 (x0 call hs u rec0) 1 5 8 38 39) (setE 3 (j5 (x0 call hs u rec0) 1 5 8 38 39) (setE 2 (j1 (x4 call hs u) 8) eNil))))=j7 (x4f call hs u rec0 rec1) 1 5 8 9 10 38 39:=tr (sqN 2 xmf)
theorem xmh{rec0:AV->AV->AV->AV->AV->Mem->Nat->O2}{rec1:AV->AV->AV->AV->AV->AV->AV->Mem->Nat->O2}:xvi call hs u xd4 (j7 (xd call hs u rec0 rec1) 1 5 8 9 10 38 39) (setE 4 (j5 (x0 call hs u rec0) 1 5 8 38 39) (setE 3 (j5 (x0 call hs u rec0) 1 5 8 38 39) (setE 2 (j1 (x4 call hs u) 8) eNil)))=j7 (x4f call hs u rec0 rec1) 1 5 8 9 10 38 39:=bk xmg
theorem xmi{rec0:AV->AV->AV->AV->AV->Mem->Nat->O2}{rec1:AV->AV->AV->AV->AV->AV->AV->Mem->Nat->O2}:xvi call hs u xan (j7 rec1 1 5 8 9 10 38 39) (setE 4 (j5 (x0 call hs u rec0) 1 5 8 38 39) (setE 3 (j5 (x0 call hs u rec0) 1 5 8 38 39) (setE 2 (j1 (x4 call hs u) 8) eNil)))=j7 (x4f call hs u rec0 rec1) 1 5 8 9 10 38 39:=sq2 xm9 xmh
theorem xmj{rec0:AV->AV->AV->AV->AV->Mem->Nat->O2}{rec1:AV->AV->AV->AV->AV->AV->AV->Mem->Nat->O2}:xvi call hs u xd3 (j7 rec1 1 5 8 9 10 38 39) (setE 4 (j5 (x0 call hs u rec0) 1 5 8 38 39) (setE 3 (j5 (x0 call hs u rec0) 1 5 8 38 39) (setE 2 (j1 (x4 call hs u) 8) eNil)))=j7 (x5h call hs u rec0 rec1) 1 5 8 9 10 38 39:=tr (sqN 1 xmi)
theorem xmk{rec0:AV->AV->AV->AV->AV->Mem->Nat->O2}:xvi call hs u xd2 (j5 (x0 call hs u rec0) 1 5 8 38 39) (setE 4 (j5 (x0 call hs u rec0) 1 5 8 38 39) (setE 3 (j5 (x0 call hs u rec0) 1 5 8 38 39) (setE 2 (j1 (x4 call hs u) 8) eNil)))=j7 (xx call hs u rec0 NN) 1 5 8 9 10 38 39:=lp (Ln:=fun n=>j7 (xx call hs u rec0 n) 1 5 8 9 10 38 39) fun n=>tr xmj
theorem xml{rec0:AV->AV->AV->AV->AV->Mem->Nat->O2}:xvi call hs u xd1 (j5 (x0 call hs u rec0) 1 5 8 38 39) (setE 3 (j5 (x0 call hs u rec0) 1 5 8 38 39) (setE 2 (j1 (x4 call hs u) 8) eNil))=j7 (xx call hs u rec0 NN) 1 5 8 9 10 38 39:=bk xmk
theorem xmm{rec0:AV->AV->AV->AV->AV->Mem->Nat->O2}:xvi call hs u xd0 (j5 (x0 call hs u rec0) 1 5 8 38 39) (setE 3 (j5 (x0 call hs u rec0) 1 5 8 38 39) (setE 2 (j1 (x4 call hs u) 8) eNil))=j5 (x4g call hs u rec0) 1 5 8 38 39:=tr (sqN 2 xml)
theorem xmn{rec0:AV->AV->AV->AV->AV->Mem->Nat->O2}:xvi call hs u xcz (j5 (x0 call hs u rec0) 1 5 8 38 39) (setE 2 (j1 (x4 call hs u) 8) eNil)=j5 (x4g call hs u rec0) 1 5 8 38 39:=bk xmm
theorem xmo{rec0:AV->AV->AV->AV->AV->Mem->Nat->O2}:xvi call hs u xam (j5 rec0 1 5 8 38 39) (setE 2 (j1 (x4 call hs u) 8) eNil)=j5 (x4g call hs u rec0) 1 5 8 38 39:=sq2 xm8 xmn
theorem xmp{rec0:AV->AV->AV->AV->AV->Mem->Nat->O2}:xvi call hs u xcy (j5 rec0 1 5 8 38 39) (setE 2 (j1 (x4 call hs u) 8) eNil)=j5 (x5i call hs u rec0) 1 5 8 38 39:=tr (sqN 2 xmo)
theorem xmq:xvi call hs u xcx (j1 (x4 call hs u) 8) (setE 2 (j1 (x4 call hs u) 8) eNil)=j5 (xm call hs u NN) 1 5 8 38 39:=lp (Ln:=fun n=>j5 (xm call hs u n) 1 5 8 38 39) fun n=>tr xmp
theorem xmr:xvi call hs u xcw (j1 (x4 call hs u) 8) eNil=j5 (xm call hs u NN) 1 5 8 38 39:=bk xmq
theorem xms:xvi call hs u xcv (j1 (x4 call hs u) 8) eNil=j3 (x5j call hs u) 1 5 8:=tr (sqN 1 xmr)
theorem xmt:xvi call hs u xal r_1 eNil=j3 (x5j call hs u) 1 5 8:=sq2 xm7 xms
theorem xmu:xvi call hs u xcu r_1 eNil=j2 (x1c call hs u) 1 5:=tr (sqN 1 xmt)
theorem xmv{rec3:AV->AV->AV->AV->AV->Mem->Nat->O2}:xvi call hs u xm6 (j5 rec3 1 5 25 26 27) (setE 0 (j2 (x1c call hs u) 1 5) eNil)=j5 (x5k call hs u rec3) 1 5 25 26 27:=by kernel_rfl
theorem xmw:xvi call hs u xda (j2 (x1c call hs u) 1 5) (setE 0 (j2 (x1c call hs u) 1 5) eNil)=j5 (x28 call hs u NN) 1 5 25 26 27:=lp (Ln:=fun n=>j5 (x28 call hs u n) 1 5 25 26 27) fun n=>tr xmv
theorem xmx:xvi call hs u xd9 (j2 (x1c call hs u) 1 5) eNil=j5 (x28 call hs u NN) 1 5 25 26 27:=bk xmw
theorem xmy:xvi call hs u xct (j2 (x1c call hs u) 1 5) eNil=j2 (x5l call hs u) 1 5:=tr (sqN 1 xmx)
theorem xmz:xvi call hs u xak r_1 eNil=j2 (x5l call hs u) 1 5:=sq2 xmu xmy
theorem xis:xvi call hs u xcs r_1 eNil=j1 (x5m call hs u) 0:=tr (sqN 3 xmz)
noncomputable abbrev xzi:=VX x36 27 r_5
noncomputable def xdb:=xv0 x36
noncomputable def xap:=nRs 2 xdb
noncomputable def xdc:=nL xap
noncomputable def xn0:=nR xap
noncomputable def xdd:=nR xdc
noncomputable def xde:=nR xdd
noncomputable def xn1:=nR xde
theorem xn2:xzi call hs u xn0 r_5 eNil=j0 (x29 call hs u):=by kernel_rfl
theorem xn3{rec0:AV->AV->AV->Mem->Nat->O2}:xzi call hs u xn1 (j3 rec0 0 1 5) (setE 0 (j0 (x29 call hs u)) eNil)=j3 (x5n call hs u rec0) 0 1 5:=by kernel_rfl
theorem xn4:xzi call hs u xde (j0 (x29 call hs u)) (setE 0 (j0 (x29 call hs u)) eNil)=j3 (x2a call hs u NN) 0 1 5:=lp (Ln:=fun n=>j3 (x2a call hs u n) 0 1 5) fun n=>tr xn3
theorem xn5:xzi call hs u xdd (j0 (x29 call hs u)) eNil=j3 (x2a call hs u NN) 0 1 5:=bk xn4
theorem xn6:xzi call hs u xdc (j0 (x29 call hs u)) eNil=j2 (x5o call hs u) 0 1:=tr (sqN 1 xn5)
theorem xn7:xzi call hs u xap r_5 eNil=j2 (x5o call hs u) 0 1:=sq2 xn2 xn6
theorem xit:xzi call hs u xdb r_5 eNil=j2 (x96 call hs u) 0 1:=tr (sqN 2 xn7)
noncomputable abbrev xvv:=VX x3r 68 r_2
noncomputable def xdf:=xv0 x3r
noncomputable def xaq:=nRs 2 xdf
noncomputable def xdg:=nL xaq
noncomputable def xn8:=nR xaq
noncomputable def xdh:=nR xdg
noncomputable def xdi:=nR xdh
noncomputable def xdj:=nR xdi
noncomputable def xar:=nR xdj
noncomputable def xdk:=nL xar
noncomputable def xn9:=nR xar
noncomputable def xdl:=nR xdk
noncomputable def xdm:=nR xdl
noncomputable def xdn:=nR xdm
noncomputable def xdo:=nR xdn
noncomputable def xas:=nR xdo
noncomputable def xdp:=nL xas
noncomputable def xna:=nR xas
noncomputable def xdq:=nR xdp
noncomputable def xdr:=nRs 2 xdq
noncomputable def xds:=nR xdr
noncomputable def xdt:=nR xds
noncomputable def xat:=nR xdt
noncomputable def xnb:=nL xat
noncomputable def xnc:=nR xat
theorem xnd:xvv call hs u xn8 r_2 eNil=j1 (x6 call hs u) 3:=by kernel_rfl
theorem xne{rec0:AV->AV->AV->Mem->Nat->O2}:xvv call hs u xn9 (j3 rec0 1 3 4) (setE 0 (j1 (x6 call hs u) 3) eNil)=j3 (x1 call hs u rec0) 1 3 4:=by kernel_rfl
theorem xnf{rec0:AV->AV->AV->Mem->Nat->O2}{rec1:AV->AV->AV->AV->Mem->Nat->O2}:xvv call hs u xna (j4 rec1 1 3 4 5) (setE 2 (j3 (x1 call hs u rec0) 1 3 4) (setE 1 (j3 (x1 call hs u rec0) 1 3 4) (setE 0 (j1 (x6 call hs u) 3) eNil)))=j4 (xc call hs u rec0 rec1) 1 3 4 5:=by kernel_rfl
theorem xng{rec0:AV->AV->AV->Mem->Nat->O2}{rec1:AV->AV->AV->AV->Mem->Nat->O2}{rec2:AV->AV->AV->AV->AV->AV->Mem->Nat->O2}:xvv call hs u xnc (j6 rec2 1 3 4 5 6 7) (setE 4 (j4 (xc call hs u rec0 rec1) 1 3 4 5) (setE 3 (j4 (xc call hs u rec0 rec1) 1 3 4 5) (setE 2 (j3 (x1 call hs u rec0) 1 3 4) (setE 1 (j3 (x1 call hs u rec0) 1 3 4) (setE 0 (j1 (x6 call hs u) 3) eNil)))))=j6 (x3j call hs u rec0 rec1 rec2) 1 3 4 5 6 7:=by kernel_rfl
theorem xnh{rec0:AV->AV->AV->Mem->Nat->O2}{rec1:AV->AV->AV->AV->Mem->Nat->O2}{rec2:AV->AV->AV->AV->AV->AV->Mem->Nat->O2}:xvv call hs u xnb (j6 (x3j call hs u rec0 rec1 rec2) 1 3 4 5 6 7) (setE 4 (j4 (xc call hs u rec0 rec1) 1 3 4 5) (setE 3 (j4 (xc call hs u rec0 rec1) 1 3 4 5) (setE 2 (j3 (x1 call hs u rec0) 1 3 4) (setE 1 (j3 (x1 call hs u rec0) 1 3 4) (setE 0 (j1 (x6 call hs u) 3) eNil)))))=j6 (x5p call hs u rec0 rec1 rec2) 1 3 4 5 6 7:=by kernel_rfl
theorem xni{rec0:AV->AV->AV->Mem->Nat->O2}{rec1:AV->AV->AV->AV->Mem->Nat->O2}{rec2:AV->AV->AV->AV->AV->AV->Mem->Nat->O2}:xvv call hs u xat (j6 rec2 1 3 4 5 6 7) (setE 4 (j4 (xc call hs u rec0 rec1) 1 3 4 5) (setE 3 (j4 (xc call hs u rec0 rec1) 1 3 4 5) (setE 2 (j3 (x1 call hs u rec0) 1 3 4) (setE 1 (j3 (x1 call hs u rec0) 1 3 4) (setE 0 (j1 (x6 call hs u) 3) eNil)))))=j6 (x5p call hs u rec0 rec1 rec2) 1 3 4 5 6 7:=sq2 xng xnh
theorem xnj{rec0:AV->AV->AV->Mem->Nat->O2}{rec1:AV->AV->AV->AV->Mem->Nat->O2}{rec2:AV->AV->AV->AV->AV->AV->Mem->Nat->O2}:xvv call hs u xdt (j6 rec2 1 3 4 5 6 7) (setE 4 (j4 (xc call hs u rec0 rec1) 1 3 4 5) (setE 3 (j4 (xc call hs u rec0 rec1) 1 3 4 5) (setE 2 (j3 (x1 call hs u rec0) 1 3 4) (setE 1 (j3 (x1 call hs u rec0) 1 3 4) (setE 0 (j1 (x6 call hs u) 3) eNil)))))=j6 (x5q call hs u rec0 rec1 rec2) 1 3 4 5 6 7:=tr (sqN 1 xni)
theorem xnk{rec0:AV->AV->AV->Mem->Nat->O2}{rec1:AV->AV->AV->AV->Mem->Nat->O2}:xvv call hs u xds (j4 (xc call hs u rec0 rec1) 1 3 4 5) (setE 4 (j4 (xc call hs u rec0 rec1) 1 3 4 5) (setE 3 (j4 (xc call hs u rec0 rec1) 1 3 4 5) (setE 2 (j3 (x1 call hs u rec0) 1 3 4) (setE 1 (j3 (x1 call hs u rec0) 1 3 4) (setE 0 (j1 (x6 call hs u) 3) eNil)))))=j6 (x1d call hs u rec0 rec1 NN) 1 3 4 5 6 7:=lp (Ln:=fun n=>j6 (x1d call hs u rec0 rec1 n) 1 3 4 5 6 7) fun n=>tr xnj
theorem xnl{rec0:AV->AV->AV->Mem->Nat->O2}{rec1:AV->AV->AV->AV->Mem->Nat->O2}:xvv call hs u xdr (j4 (xc call hs u rec0 rec1) 1 3 4 5) (setE 3 (j4 (xc call hs u rec0 rec1) 1 3 4 5) (setE 2 (j3 (x1 call hs u rec0) 1 3 4) (setE 1 (j3 (x1 call hs u rec0) 1 3 4) (setE 0 (j1 (x6 call hs u) 3) eNil))))=j6 (x1d call hs u rec0 rec1 NN) 1 3 4 5 6 7:=bk xnk
theorem xnm{rec0:AV->AV->AV->Mem->Nat->O2}{rec1:AV->AV->AV->AV->Mem->Nat->O2}:xvv call hs u xdq (j4 (xc call hs u rec0 rec1) 1 3 4 5) (setE 3 (j4 (xc call hs u rec0 rec1) 1 3 4 5) (setE 2 (j3 (x1 call hs u rec0) 1 3 4) (setE 1 (j3 (x1 call hs u rec0) 1 3 4) (setE 0 (j1 (x6 call hs u) 3) eNil))))=j4 (x4h call hs u rec0 rec1) 1 3 4 5:=tr (sqN 2 xnl)
theorem xnn{rec0:AV->AV->AV->Mem->Nat->O2}{rec1:AV->AV->AV->AV->Mem->Nat->O2}:xvv call hs u xdp (j4 (xc call hs u rec0 rec1) 1 3 4 5) (setE 2 (j3 (x1 call hs u rec0) 1 3 4) (setE 1 (j3 (x1 call hs u rec0) 1 3 4) (setE 0 (j1 (x6 call hs u) 3) eNil)))=j4 (x4h call hs u rec0 rec1) 1 3 4 5:=bk xnm
theorem xno{rec0:AV->AV->AV->Mem->Nat->O2}{rec1:AV->AV->AV->AV->Mem->Nat->O2}:xvv call hs u xas (j4 rec1 1 3 4 5) (setE 2 (j3 (x1 call hs u rec0) 1 3 4) (setE 1 (j3 (x1 call hs u rec0) 1 3 4) (setE 0 (j1 (x6 call hs u) 3) eNil)))=j4 (x4h call hs u rec0 rec1) 1 3 4 5:=sq2 xnf xnn
theorem xnp{rec0:AV->AV->AV->Mem->Nat->O2}{rec1:AV->AV->AV->AV->Mem->Nat->O2}:xvv call hs u xdo (j4 rec1 1 3 4 5) (setE 2 (j3 (x1 call hs u rec0) 1 3 4) (setE 1 (j3 (x1 call hs u rec0) 1 3 4) (setE 0 (j1 (x6 call hs u) 3) eNil)))=j4 (x5r call hs u rec0 rec1) 1 3 4 5:=tr (sqN 1 xno)
theorem xnq{rec0:AV->AV->AV->Mem->Nat->O2}:xvv call hs u xdn (j3 (x1 call hs u rec0) 1 3 4) (setE 2 (j3 (x1 call hs u rec0) 1 3 4) (setE 1 (j3 (x1 call hs u rec0) 1 3 4) (setE 0 (j1 (x6 call hs u) 3) eNil)))=j4 (xy call hs u rec0 NN) 1 3 4 5:=lp (Ln:=fun n=>j4 (xy call hs u rec0 n) 1 3 4 5) fun n=>tr xnp
theorem xnr{rec0:AV->AV->AV->Mem->Nat->O2}:xvv call hs u xdm (j3 (x1 call hs u rec0) 1 3 4) (setE 1 (j3 (x1 call hs u rec0) 1 3 4) (setE 0 (j1 (x6 call hs u) 3) eNil))=j4 (xy call hs u rec0 NN) 1 3 4 5:=bk xnq
theorem xns{rec0:AV->AV->AV->Mem->Nat->O2}:xvv call hs u xdl (j3 (x1 call hs u rec0) 1 3 4) (setE 1 (j3 (x1 call hs u rec0) 1 3 4) (setE 0 (j1 (x6 call hs u) 3) eNil))=j3 (x4i call hs u rec0) 1 3 4:=tr (sqN 1 xnr)
theorem xnt{rec0:AV->AV->AV->Mem->Nat->O2}:xvv call hs u xdk (j3 (x1 call hs u rec0) 1 3 4) (setE 0 (j1 (x6 call hs u) 3) eNil)=j3 (x4i call hs u rec0) 1 3 4:=bk xns
theorem xnu{rec0:AV->AV->AV->Mem->Nat->O2}:xvv call hs u xar (j3 rec0 1 3 4) (setE 0 (j1 (x6 call hs u) 3) eNil)=j3 (x4i call hs u rec0) 1 3 4:=sq2 xne xnt
theorem xnv{rec0:AV->AV->AV->Mem->Nat->O2}:xvv call hs u xdj (j3 rec0 1 3 4) (setE 0 (j1 (x6 call hs u) 3) eNil)=j3 (x5s call hs u rec0) 1 3 4:=tr (sqN 1 xnu)
theorem xnw:xvv call hs u xdi (j1 (x6 call hs u) 3) (setE 0 (j1 (x6 call hs u) 3) eNil)=j3 (xn call hs u NN) 1 3 4:=lp (Ln:=fun n=>j3 (xn call hs u n) 1 3 4) fun n=>tr xnv
theorem xnx:xvv call hs u xdh (j1 (x6 call hs u) 3) eNil=j3 (xn call hs u NN) 1 3 4:=bk xnw
theorem xny:xvv call hs u xdg (j1 (x6 call hs u) 3) eNil=j2 (x5t call hs u) 1 3:=tr (sqN 1 xnx)
theorem xnz:xvv call hs u xaq r_2 eNil=j2 (x5t call hs u) 1 3:=sq2 xnd xny
theorem xiu:xvv call hs u xdf r_2 eNil=j1 (x97 call hs u) 0:=tr (sqN 2 xnz)
noncomputable abbrev xxw:=VX x3s 26 r_5
noncomputable def xdu:=xv0 x3s
noncomputable def xau:=nRs 2 xdu
noncomputable def xdv:=nL xau
noncomputable def xo0:=nR xau
noncomputable def xdw:=nR xdv
noncomputable def xdx:=nR xdw
noncomputable def xdy:=nR xdx
noncomputable def xav:=nR xdy
noncomputable def xo1:=nL xav
noncomputable def xo2:=nR xav
theorem xo3:xxw call hs u xo0 r_5 eNil=j1 (xz call hs u) 5:=by kernel_rfl
theorem xo4{rec0:AV->AV->AV->AV->Mem->Nat->O2}:xxw call hs u xo2 (j4 rec0 1 2 5 6) (setE 0 (j1 (xz call hs u) 5) eNil)=j4 (x4j call hs u rec0) 1 2 5 6:=by kernel_rfl
theorem xo5{rec0:AV->AV->AV->AV->Mem->Nat->O2}:xxw call hs u xo1 (j4 (x4j call hs u rec0) 1 2 5 6) (setE 0 (j1 (xz call hs u) 5) eNil)=j4 (x5u call hs u rec0) 1 2 5 6:=by kernel_rfl
theorem xo6{rec0:AV->AV->AV->AV->Mem->Nat->O2}:xxw call hs u xav (j4 rec0 1 2 5 6) (setE 0 (j1 (xz call hs u) 5) eNil)=j4 (x5u call hs u rec0) 1 2 5 6:=sq2 xo4 xo5
theorem xo7{rec0:AV->AV->AV->AV->Mem->Nat->O2}:xxw call hs u xdy (j4 rec0 1 2 5 6) (setE 0 (j1 (xz call hs u) 5) eNil)=j4 (x5v call hs u rec0) 1 2 5 6:=tr (sqN 1 xo6)
theorem xo8:xxw call hs u xdx (j1 (xz call hs u) 5) (setE 0 (j1 (xz call hs u) 5) eNil)=j4 (x2b call hs u NN) 1 2 5 6:=lp (Ln:=fun n=>j4 (x2b call hs u n) 1 2 5 6) fun n=>tr xo7
theorem xo9:xxw call hs u xdw (j1 (xz call hs u) 5) eNil=j4 (x2b call hs u NN) 1 2 5 6:=bk xo8
theorem xoa:xxw call hs u xdv (j1 (xz call hs u) 5) eNil=j3 (x5w call hs u) 1 2 5:=tr (sqN 1 xo9)
theorem xob:xxw call hs u xau r_5 eNil=j3 (x5w call hs u) 1 2 5:=sq2 xo3 xoa
theorem xiv:xxw call hs u xdu r_5 eNil=j2 (x98 call hs u) 0 1:=tr (sqN 2 xob)
noncomputable abbrev x19w:=VX x37 26 r_0
noncomputable def xoc:=xv0 x37
theorem xiw:x19w call hs u xoc r_0 eNil=j3 (x99 call hs u) 0 1 2:=by kernel_rfl
noncomputable abbrev x19x:=VX x38 7 r_2
noncomputable def xod:=xv0 x38
theorem xix:x19x call hs u xod r_2 eNil=j1 (x9a call hs u) 0:=by kernel_rfl
noncomputable abbrev x19y:=VX xv 15 r_0
noncomputable def xoe:=xv0 xv
theorem xiy:x19y call hs u xoe r_0 eNil=j3 (x9b call hs u) 0 1 2:=by kernel_rfl
noncomputable abbrev xzj:=VX x39 42 r_1
noncomputable def xdz:=xv0 x39
noncomputable def xaw:=nRs 2 xdz
noncomputable def xe0:=nL xaw
noncomputable def xof:=nR xaw
noncomputable def xe1:=nR xe0
noncomputable def xe2:=nR xe1
noncomputable def xog:=nR xe2
theorem xoh:xzj call hs u xof r_1 eNil=j0 (x2c call hs u):=by kernel_rfl
theorem xoi{rec0:AV->AV->AV->AV->Mem->Nat->O2}:xzj call hs u xog (j4 rec0 0 9 10 11) (setE 0 (j0 (x2c call hs u)) eNil)=j4 (x5x call hs u rec0) 0 9 10 11:=by kernel_rfl
theorem xoj:xzj call hs u xe2 (j0 (x2c call hs u)) (setE 0 (j0 (x2c call hs u)) eNil)=j4 (x1e call hs u NN) 0 9 10 11:=lp (Ln:=fun n=>j4 (x1e call hs u n) 0 9 10 11) fun n=>tr xoi
theorem xok:xzj call hs u xe1 (j0 (x2c call hs u)) eNil=j4 (x1e call hs u NN) 0 9 10 11:=bk xoj
theorem xol:xzj call hs u xe0 (j0 (x2c call hs u)) eNil=j1 (x5y call hs u) 0:=tr (sqN 1 xok)
theorem xom:xzj call hs u xaw r_1 eNil=j1 (x5y call hs u) 0:=sq2 xoh xol
theorem xiz:xzj call hs u xdz r_1 eNil=j1 (x9c call hs u) 0:=tr (sqN 2 xom)
noncomputable abbrev x19z:=VX x3t 10 r_5
noncomputable def xon:=xv0 x3t
theorem xj0:x19z call hs u xon r_5 eNil=j2 (x9d call hs u) 0 1:=by kernel_rfl
noncomputable abbrev xzk:=VX x3u 55 r_2
noncomputable def xe3:=xv0 x3u
noncomputable def xax:=nRs 2 xe3
noncomputable def xe4:=nL xax
noncomputable def xoo:=nR xax
noncomputable def xe5:=nR xe4
noncomputable def xe6:=nR xe5
noncomputable def xop:=nR xe6
theorem xoq:xzk call hs u xoo r_2 eNil=j0 (x2d call hs u):=by kernel_rfl
theorem xor{rec0:AV->AV->Mem->Nat->O2}:xzk call hs u xop (j2 rec0 0 3) (setE 0 (j0 (x2d call hs u)) eNil)=j2 (x5z call hs u rec0) 0 3:=by kernel_rfl
theorem xos:xzk call hs u xe6 (j0 (x2d call hs u)) (setE 0 (j0 (x2d call hs u)) eNil)=j2 (x1f call hs u NN) 0 3:=lp (Ln:=fun n=>j2 (x1f call hs u n) 0 3) fun n=>tr xor
theorem xot:xzk call hs u xe5 (j0 (x2d call hs u)) eNil=j2 (x1f call hs u NN) 0 3:=bk xos
theorem xou:xzk call hs u xe4 (j0 (x2d call hs u)) eNil=j1 (x60 call hs u) 0:=tr (sqN 1 xot)
theorem xov:xzk call hs u xax r_2 eNil=j1 (x60 call hs u) 0:=sq2 xoq xou
theorem xj1:xzk call hs u xe3 r_2 eNil=j1 (x9e call hs u) 0:=tr (sqN 2 xov)
noncomputable abbrev x1a0:=VX x3a 11 r_2
noncomputable def xow:=xv0 x3a
theorem xj2:x1a0 call hs u xow r_2 eNil=j1 (x9f call hs u) 0:=by kernel_rfl
noncomputable abbrev xzl:=VX x3b 15 r_2
noncomputable def xe7:=xv0 x3b
noncomputable def xay:=nRs 2 xe7
noncomputable def xe8:=nL xay
noncomputable def xox:=nR xay
noncomputable def xe9:=nR xe8
noncomputable def xea:=nR xe9
noncomputable def xoy:=nR xea
theorem xoz:xzl call hs u xox r_2 eNil=j1 (x2e call hs u) 3:=by kernel_rfl
theorem xp0{rec0:AV->AV->AV->Mem->Nat->O2}:xzl call hs u xoy (j3 rec0 3 5 6) (setE 0 (j1 (x2e call hs u) 3) eNil)=j3 (x61 call hs u rec0) 3 5 6:=by kernel_rfl
theorem xp1:xzl call hs u xea (j1 (x2e call hs u) 3) (setE 0 (j1 (x2e call hs u) 3) eNil)=j3 (x2f call hs u NN) 3 5 6:=lp (Ln:=fun n=>j3 (x2f call hs u n) 3 5 6) fun n=>tr xp0
theorem xp2:xzl call hs u xe9 (j1 (x2e call hs u) 3) eNil=j3 (x2f call hs u NN) 3 5 6:=bk xp1
theorem xp3:xzl call hs u xe8 (j1 (x2e call hs u) 3) eNil=j2 (x62 call hs u) 0 3:=tr (sqN 1 xp2)
theorem xp4:xzl call hs u xay r_2 eNil=j2 (x62 call hs u) 0 3:=sq2 xoz xp3
theorem xj3:xzl call hs u xe7 r_2 eNil=j1 (x9g call hs u) 0:=tr (sqN 2 xp4)
noncomputable abbrev xxx:=VX x3c 44 r_5
noncomputable def xeb:=xv0 x3c
noncomputable def xaz:=nRs 2 xeb
noncomputable def xec:=nL xaz
noncomputable def xp5:=nR xaz
noncomputable def xed:=nR xec
noncomputable def xee:=nR xed
noncomputable def xef:=nR xee
noncomputable def xb0:=nRs 2 xef
noncomputable def xp6:=nL xb0
noncomputable def xp7:=nR xb0
theorem xp8:xxx call hs u xp5 r_5 eNil=j2 (x10 call hs u) 5 6:=by kernel_rfl
theorem xp9{rec0:AV->AV->AV->AV->AV->AV->Mem->Nat->O2}:xxx call hs u xp7 (j6 rec0 0 5 6 19 20 21) (setE 0 (j2 (x10 call hs u) 5 6) eNil)=j6 (x4k call hs u rec0) 0 5 6 19 20 21:=by kernel_rfl
theorem xpa{rec0:AV->AV->AV->AV->AV->AV->Mem->Nat->O2}:xxx call hs u xp6 (j6 (x4k call hs u rec0) 0 5 6 19 20 21) (setE 0 (j2 (x10 call hs u) 5 6) eNil)=j6 (x63 call hs u rec0) 0 5 6 19 20 21:=by kernel_rfl
theorem xpb{rec0:AV->AV->AV->AV->AV->AV->Mem->Nat->O2}:xxx call hs u xb0 (j6 rec0 0 5 6 19 20 21) (setE 0 (j2 (x10 call hs u) 5 6) eNil)=j6 (x63 call hs u rec0) 0 5 6 19 20 21:=sq2 xp9 xpa
theorem xpc{rec0:AV->AV->AV->AV->AV->AV->Mem->Nat->O2}:xxx call hs u xef (j6 rec0 0 5 6 19 20 21) (setE 0 (j2 (x10 call hs u) 5 6) eNil)=j6 (x64 call hs u rec0) 0 5 6 19 20 21:=tr (sqN 2 xpb)
theorem xpd:xxx call hs u xee (j2 (x10 call hs u) 5 6) (setE 0 (j2 (x10 call hs u) 5 6) eNil)=j6 (x2g call hs u NN) 0 5 6 19 20 21:=lp (Ln:=fun n=>j6 (x2g call hs u n) 0 5 6 19 20 21) fun n=>tr xpc
theorem xpe:xxx call hs u xed (j2 (x10 call hs u) 5 6) eNil=j6 (x2g call hs u NN) 0 5 6 19 20 21:=bk xpd
theorem xpf:xxx call hs u xec (j2 (x10 call hs u) 5 6) eNil=j3 (x65 call hs u) 0 5 6:=tr (sqN 1 xpe)
theorem xpg:xxx call hs u xaz r_5 eNil=j3 (x65 call hs u) 0 5 6:=sq2 xp8 xpf
theorem xj4:xxx call hs u xeb r_5 eNil=j2 (x9i call hs u) 0 1:=tr (sqN 2 xpg)
noncomputable abbrev x1a1:=VX x3d 9 r_5
noncomputable def xph:=xv0 x3d
theorem xj5:x1a1 call hs u xph r_5 eNil=j2 (x9j call hs u) 0 1:=by kernel_rfl
noncomputable abbrev x1a2:=VX x1p 15 r_7
noncomputable def xpi:=xv0 x1p
theorem xj6:x1a2 call hs u xpi r_7 eNil=j2 (x9k call hs u) 0 1:=by kernel_rfl
noncomputable abbrev xzm:=VX x3v 21 r_5
noncomputable def xeg:=xv0 x3v
noncomputable def xb1:=nRs 2 xeg
noncomputable def xeh:=nL xb1
noncomputable def xpj:=nR xb1
noncomputable def xei:=nR xeh
noncomputable def xej:=nR xei
noncomputable def xpk:=nR xej
theorem xpl:xzm call hs u xpj r_5 eNil=j1 (x2h call hs u) 5:=by kernel_rfl
theorem xpm{rec0:AV->AV->AV->AV->AV->Mem->Nat->O2}:xzm call hs u xpk (j5 rec0 2 5 8 9 10) (setE 0 (j1 (x2h call hs u) 5) eNil)=j5 (x66 call hs u rec0) 2 5 8 9 10:=by kernel_rfl
theorem xpn:xzm call hs u xej (j1 (x2h call hs u) 5) (setE 0 (j1 (x2h call hs u) 5) eNil)=j5 (x2i call hs u NN) 2 5 8 9 10:=lp (Ln:=fun n=>j5 (x2i call hs u n) 2 5 8 9 10) fun n=>tr xpm
theorem xpo:xzm call hs u xei (j1 (x2h call hs u) 5) eNil=j5 (x2i call hs u NN) 2 5 8 9 10:=bk xpn
theorem xpp:xzm call hs u xeh (j1 (x2h call hs u) 5) eNil=j3 (x67 call hs u) 1 2 5:=tr (sqN 1 xpo)
theorem xpq:xzm call hs u xb1 r_5 eNil=j3 (x67 call hs u) 1 2 5:=sq2 xpl xpp
theorem xj7:xzm call hs u xeg r_5 eNil=j2 (x9l call hs u) 0 1:=tr (sqN 2 xpq)
noncomputable abbrev xwu:=VX x3w 73 r_1
noncomputable def xek:=xv0 x3w
noncomputable def xb2:=nRs 3 xek
noncomputable def xel:=nL xb2
noncomputable def xpr:=nR xb2
noncomputable def xem:=nR xel
noncomputable def xen:=nR xem
noncomputable def xeo:=nR xen
noncomputable def xb3:=nR xeo
noncomputable def xep:=nL xb3
noncomputable def xps:=nR xb3
noncomputable def xeq:=nR xep
noncomputable def xer:=nRs 4 xeq
noncomputable def xes:=nR xer
noncomputable def xpt:=nR xes
theorem xpu:xwu call hs u xpr r_1 eNil=j0 (xo call hs u):=by kernel_rfl
theorem xpv{rec0:AV->AV->Mem->Nat->O2}:xwu call hs u xps (j2 rec0 1 6) (setE 0 (j0 (xo call hs u)) eNil)=j2 (xr call hs u rec0) 1 6:=by kernel_rfl
theorem xpw{rec0:AV->AV->Mem->Nat->O2}{rec1:AV->AV->AV->AV->Mem->Nat->O2}:xwu call hs u xpt (j4 rec1 1 6 7 8) (setE 2 (j2 (xr call hs u rec0) 1 6) (setE 1 (j2 (xr call hs u rec0) 1 6) (setE 0 (j0 (xo call hs u)) eNil)))=j4 (x68 call hs u rec0 rec1) 1 6 7 8:=by kernel_rfl
theorem xpx{rec0:AV->AV->Mem->Nat->O2}:xwu call hs u xes (j2 (xr call hs u rec0) 1 6) (setE 2 (j2 (xr call hs u rec0) 1 6) (setE 1 (j2 (xr call hs u rec0) 1 6) (setE 0 (j0 (xo call hs u)) eNil)))=j4 (x1g call hs u rec0 NN) 1 6 7 8:=lp (Ln:=fun n=>j4 (x1g call hs u rec0 n) 1 6 7 8) fun n=>tr xpw
theorem xpy{rec0:AV->AV->Mem->Nat->O2}:xwu call hs u xer (j2 (xr call hs u rec0) 1 6) (setE 1 (j2 (xr call hs u rec0) 1 6) (setE 0 (j0 (xo call hs u)) eNil))=j4 (x1g call hs u rec0 NN) 1 6 7 8:=bk xpx
theorem xpz{rec0:AV->AV->Mem->Nat->O2}:xwu call hs u xeq (j2 (xr call hs u rec0) 1 6) (setE 1 (j2 (xr call hs u rec0) 1 6) (setE 0 (j0 (xo call hs u)) eNil))=j2 (x4l call hs u rec0) 1 6:=tr (sqN 4 xpy)
theorem xq0{rec0:AV->AV->Mem->Nat->O2}:xwu call hs u xep (j2 (xr call hs u rec0) 1 6) (setE 0 (j0 (xo call hs u)) eNil)=j2 (x4l call hs u rec0) 1 6:=bk xpz
theorem xq1{rec0:AV->AV->Mem->Nat->O2}:xwu call hs u xb3 (j2 rec0 1 6) (setE 0 (j0 (xo call hs u)) eNil)=j2 (x4l call hs u rec0) 1 6:=sq2 xpv xq0
theorem xq2{rec0:AV->AV->Mem->Nat->O2}:xwu call hs u xeo (j2 rec0 1 6) (setE 0 (j0 (xo call hs u)) eNil)=j2 (x69 call hs u rec0) 1 6:=tr (sqN 1 xq1)
theorem xq3:xwu call hs u xen (j0 (xo call hs u)) (setE 0 (j0 (xo call hs u)) eNil)=j2 (x14 call hs u NN) 1 6:=lp (Ln:=fun n=>j2 (x14 call hs u n) 1 6) fun n=>tr xq2
theorem xq4:xwu call hs u xem (j0 (xo call hs u)) eNil=j2 (x14 call hs u NN) 1 6:=bk xq3
theorem xq5:xwu call hs u xel (j0 (xo call hs u)) eNil=j1 (x6a call hs u) 1:=tr (sqN 1 xq4)
theorem xq6:xwu call hs u xb2 r_1 eNil=j1 (x6a call hs u) 1:=sq2 xpu xq5
theorem xj8:xwu call hs u xek r_1 eNil=j1 (x9m call hs u) 0:=tr (sqN 3 xq6)
noncomputable abbrev xw1:=VX x18 68 r_5
noncomputable def xet:=xv0 x18
noncomputable def xb4:=nRs 2 xet
noncomputable def xeu:=nL xb4
noncomputable def xb5:=nR xb4
noncomputable def xev:=nL xb5
noncomputable def xq7:=nR xb5
noncomputable def xew:=nR xev
noncomputable def xex:=nR xew
noncomputable def xey:=nR xex
noncomputable def xb6:=nR xey
noncomputable def xez:=nL xb6
noncomputable def xq8:=nR xb6
noncomputable def xf0:=nR xez
noncomputable def xf1:=nRs 3 xf0
noncomputable def xf2:=nR xf1
noncomputable def xf3:=nR xf2
noncomputable def xb7:=nR xf3
noncomputable def xq9:=nL xb7
noncomputable def xqa:=nR xb7
noncomputable def xf4:=nR xeu
noncomputable def xf5:=nR xf4
noncomputable def xqb:=nR xf5
theorem xqc:xw1 call hs u xq7 r_5 eNil=j1 (xh call hs u) 5:=by kernel_rfl
theorem xqd{rec0:AV->AV->AV->AV->Mem->Nat->O2}:xw1 call hs u xq8 (j4 rec0 1 2 5 7) (setE 2 (j1 (xh call hs u) 5) eNil)=j4 (xe call hs u rec0) 1 2 5 7:=by kernel_rfl
theorem xqe{rec0:AV->AV->AV->AV->Mem->Nat->O2}{rec1:AV->AV->AV->AV->AV->AV->AV->Mem->Nat->O2}:xw1 call hs u xqa (j7 rec1 1 2 5 7 9 10 11) (setE 4 (j4 (xe call hs u rec0) 1 2 5 7) (setE 3 (j4 (xe call hs u rec0) 1 2 5 7) (setE 2 (j1 (xh call hs u) 5) eNil)))=j7 (x4m call hs u rec0 rec1) 1 2 5 7 9 10 11:=by kernel_rfl
theorem xqf{rec0:AV->AV->AV->AV->Mem->Nat->O2}{rec1:AV->AV->AV->AV->AV->AV->AV->Mem->Nat->O2}:xw1 call hs u xq9 (j7 (x4m call hs u rec0 rec1) 1 2 5 7 9 10 11) (setE 4 (j4 (xe call hs u rec0) 1 2 5 7) (setE 3 (j4 (xe call hs u rec0) 1 2 5 7) (setE 2 (j1 (xh call hs u) 5) eNil)))=j7 (x6b call hs u rec0 rec1) 1 2 5 7 9 10 11:=by kernel_rfl
theorem xqg{rec0:AV->AV->AV->AV->Mem->Nat->O2}{rec1:AV->AV->AV->AV->AV->AV->AV->Mem->Nat->O2}:xw1 call hs u xb7 (j7 rec1 1 2 5 7 9 10 11) (setE 4 (j4 (xe call hs u rec0) 1 2 5 7) (setE 3 (j4 (xe call hs u rec0) 1 2 5 7) (setE 2 (j1 (xh call hs u) 5) eNil)))=j7 (x6b call hs u rec0 rec1) 1 2 5 7 9 10 11:=sq2 xqe xqf
theorem xqh{rec0:AV->AV->AV->AV->Mem->Nat->O2}{rec1:AV->AV->AV->AV->AV->AV->AV->Mem->Nat->O2}:xw1 call hs u xf3 (j7 rec1 1 2 5 7 9 10 11) (setE 4 (j4 (xe call hs u rec0) 1 2 5 7) (setE 3 (j4 (xe call hs u rec0) 1 2 5 7) (setE 2 (j1 (xh call hs u) 5) eNil)))=j7 (x6c call hs u rec0 rec1) 1 2 5 7 9 10 11:=tr (sqN 1 xqg)
theorem xqi{rec0:AV->AV->AV->AV->Mem->Nat->O2}:xw1 call hs u xf2 (j4 (xe call hs u rec0) 1 2 5 7) (setE 4 (j4 (xe call hs u rec0) 1 2 5 7) (setE 3 (j4 (xe call hs u rec0) 1 2 5 7) (setE 2 (j1 (xh call hs u) 5) eNil)))=j7 (x1h call hs u rec0 NN) 1 2 5 7 9 10 11:=lp (Ln:=fun n=>j7 (x1h call hs u rec0 n) 1 2 5 7 9 10 11) fun n=>tr xqh
theorem xqj{rec0:AV->AV->AV->AV->Mem->Nat->O2}:xw1 call hs u xf1 (j4 (xe call hs u rec0) 1 2 5 7) (setE 3 (j4 (xe call hs u rec0) 1 2 5 7) (setE 2 (j1 (xh call hs u) 5) eNil))=j7 (x1h call hs u rec0 NN) 1 2 5 7 9 10 11:=bk xqi
theorem xqk{rec0:AV->AV->AV->AV->Mem->Nat->O2}:xw1 call hs u xf0 (j4 (xe call hs u rec0) 1 2 5 7) (setE 3 (j4 (xe call hs u rec0) 1 2 5 7) (setE 2 (j1 (xh call hs u) 5) eNil))=j4 (x4n call hs u rec0) 1 2 5 7:=tr (sqN 3 xqj)
theorem xql{rec0:AV->AV->AV->AV->Mem->Nat->O2}:xw1 call hs u xez (j4 (xe call hs u rec0) 1 2 5 7) (setE 2 (j1 (xh call hs u) 5) eNil)=j4 (x4n call hs u rec0) 1 2 5 7:=bk xqk
theorem xqm{rec0:AV->AV->AV->AV->Mem->Nat->O2}:xw1 call hs u xb6 (j4 rec0 1 2 5 7) (setE 2 (j1 (xh call hs u) 5) eNil)=j4 (x4n call hs u rec0) 1 2 5 7:=sq2 xqd xql
theorem xqn{rec0:AV->AV->AV->AV->Mem->Nat->O2}:xw1 call hs u xey (j4 rec0 1 2 5 7) (setE 2 (j1 (xh call hs u) 5) eNil)=j4 (x6d call hs u rec0) 1 2 5 7:=tr (sqN 1 xqm)
theorem xqo:xw1 call hs u xex (j1 (xh call hs u) 5) (setE 2 (j1 (xh call hs u) 5) eNil)=j4 (x1i call hs u NN) 1 2 5 7:=lp (Ln:=fun n=>j4 (x1i call hs u n) 1 2 5 7) fun n=>tr xqn
theorem xqp:xw1 call hs u xew (j1 (xh call hs u) 5) eNil=j4 (x1i call hs u NN) 1 2 5 7:=bk xqo
theorem xqq:xw1 call hs u xev (j1 (xh call hs u) 5) eNil=j3 (x1j call hs u) 1 2 5:=tr (sqN 1 xqp)
theorem xqr:xw1 call hs u xb5 r_5 eNil=j3 (x1j call hs u) 1 2 5:=sq2 xqc xqq
theorem xqs{rec2:AV->AV->AV->AV->Mem->Nat->O2}:xw1 call hs u xqb (j4 rec2 1 2 5 6) (setE 0 (j3 (x1j call hs u) 1 2 5) eNil)=j4 (x6e call hs u rec2) 1 2 5 6:=by kernel_rfl
theorem xqt:xw1 call hs u xf5 (j3 (x1j call hs u) 1 2 5) (setE 0 (j3 (x1j call hs u) 1 2 5) eNil)=j4 (x2j call hs u NN) 1 2 5 6:=lp (Ln:=fun n=>j4 (x2j call hs u n) 1 2 5 6) fun n=>tr xqs
theorem xqu:xw1 call hs u xf4 (j3 (x1j call hs u) 1 2 5) eNil=j4 (x2j call hs u NN) 1 2 5 6:=bk xqt
theorem xqv:xw1 call hs u xeu (j3 (x1j call hs u) 1 2 5) eNil=j3 (x6f call hs u) 1 2 5:=tr (sqN 1 xqu)
theorem xqw:xw1 call hs u xb4 r_5 eNil=j3 (x6f call hs u) 1 2 5:=sq2 xqr xqv
theorem xj9:xw1 call hs u xet r_5 eNil=j2 (x9n call hs u) 0 1:=tr (sqN 2 xqw)
noncomputable abbrev x1a3:=VX x3e 7 r_2
noncomputable def xqx:=xv0 x3e
theorem xja:x1a3 call hs u xqx r_2 eNil=j1 (x9o call hs u) 0:=by kernel_rfl
noncomputable abbrev x1a4:=VX x3x 25 r_3
noncomputable def xqy:=xv0 x3x
theorem xjb:x1a4 call hs u xqy r_3 eNil=j2 (x9p call hs u) 0 1:=by kernel_rfl
noncomputable abbrev x1a5:=VX x3f 24 r_3
noncomputable def xqz:=xv0 x3f
theorem xjc:x1a5 call hs u xqz r_3 eNil=j2 (x9q call hs u) 0 1:=by kernel_rfl
noncomputable abbrev x1a6:=VX x3y 5 r_2
noncomputable def xr0:=xv0 x3y
theorem xjd:x1a6 call hs u xr0 r_2 eNil=j1 (x9r call hs u) 0:=by kernel_rfl
noncomputable abbrev x1a7:=VX x3z 6 r_5
noncomputable def xr1:=xv0 x3z
theorem xje:x1a7 call hs u xr1 r_5 eNil=j2 (x9s call hs u) 0 1:=by kernel_rfl
noncomputable abbrev x1a8:=VX x3g 9 r_5
noncomputable def xr2:=xv0 x3g
theorem xjf:x1a8 call hs u xr2 r_5 eNil=j2 (x9t call hs u) 0 1:=by kernel_rfl
noncomputable abbrev x1a9:=VX x1q 31 r_0
noncomputable def xr3:=xv0 x1q
theorem xjg:x1a9 call hs u xr3 r_0 eNil=j3 (x9u call hs u) 0 1 2:=by kernel_rfl
noncomputable abbrev xzn:=VX x1r 34 r_0
noncomputable def xf6:=xv0 x1r
noncomputable def xb8:=nR xf6
noncomputable def xf7:=nL xb8
noncomputable def xr4:=nR xb8
noncomputable def xf8:=nR xf7
noncomputable def xf9:=nR xf8
noncomputable def xr5:=nR xf9
theorem xr6:xzn call hs u xr4 r_0 eNil=j0 (x2k call hs u):=by kernel_rfl
theorem xr7{rec0:AV->AV->AV->AV->Mem->Nat->O2}:xzn call hs u xr5 (j4 rec0 1 2 3 7) (setE 0 (j0 (x2k call hs u)) eNil)=j4 (x6g call hs u rec0) 1 2 3 7:=by kernel_rfl
theorem xr8:xzn call hs u xf9 (j0 (x2k call hs u)) (setE 0 (j0 (x2k call hs u)) eNil)=j4 (x2l call hs u NN) 1 2 3 7:=lp (Ln:=fun n=>j4 (x2l call hs u n) 1 2 3 7) fun n=>tr xr7
theorem xr9:xzn call hs u xf8 (j0 (x2k call hs u)) eNil=j4 (x2l call hs u NN) 1 2 3 7:=bk xr8
theorem xra:xzn call hs u xf7 (j0 (x2k call hs u)) eNil=j3 (x6h call hs u) 1 2 3:=tr (sqN 1 xr9)
theorem xrb:xzn call hs u xb8 r_0 eNil=j3 (x6h call hs u) 1 2 3:=sq2 xr6 xra
theorem xjh:xzn call hs u xf6 r_0 eNil=j3 (x9v call hs u) 0 1 2:=tr (sqN 1 xrb)
noncomputable abbrev xvj:=VX x40 96 r_8
noncomputable def xfa:=xv0 x40
noncomputable def xb9:=nRs 4 xfa
noncomputable def xfb:=nL xb9
noncomputable def xfc:=nR xb9
noncomputable def xba:=nR xfc
noncomputable def xfd:=nL xba
noncomputable def xrc:=nR xba
noncomputable def xfe:=nR xfd
noncomputable def xff:=nR xfe
noncomputable def xrd:=nR xff
noncomputable def xfg:=nR xfb
noncomputable def xfh:=nR xfg
noncomputable def xfi:=nR xfh
noncomputable def xbb:=nRs 2 xfi
noncomputable def xfj:=nL xbb
noncomputable def xre:=nR xbb
noncomputable def xfk:=nR xfj
noncomputable def xfl:=nR xfk
noncomputable def xfm:=nR xfl
noncomputable def xfn:=nR xfm
noncomputable def xbc:=nR xfn
noncomputable def xfo:=nL xbc
noncomputable def xrf:=nR xbc
noncomputable def xfp:=nR xfo
noncomputable def xfq:=nR xfp
noncomputable def xfr:=nR xfq
noncomputable def xfs:=nR xfr
noncomputable def xbd:=nR xfs
noncomputable def xrg:=nL xbd
noncomputable def xrh:=nR xbd
theorem xri:xvj call hs u xrc r_8 eNil=j1 (x2m call hs u) 16:=by kernel_rfl
theorem xrj{rec0:AV->AV->AV->AV->AV->Mem->Nat->O2}:xvj call hs u xrd (j5 rec0 2 4 9 16 17) (setE 6 (j1 (x2m call hs u) 16) eNil)=j5 (x6i call hs u rec0) 2 4 9 16 17:=by kernel_rfl
theorem xrk:xvj call hs u xff (j1 (x2m call hs u) 16) (setE 6 (j1 (x2m call hs u) 16) eNil)=j5 (x2n call hs u NN) 2 4 9 16 17:=lp (Ln:=fun n=>j5 (x2n call hs u n) 2 4 9 16 17) fun n=>tr xrj
theorem xrl:xvj call hs u xfe (j1 (x2m call hs u) 16) eNil=j5 (x2n call hs u NN) 2 4 9 16 17:=bk xrk
theorem xrm:xvj call hs u xfd (j1 (x2m call hs u) 16) eNil=j5 (x6j call hs u) 2 3 4 9 16:=tr (sqN 1 xrl)
theorem xrn:xvj call hs u xba r_8 eNil=j5 (x6j call hs u) 2 3 4 9 16:=sq2 xri xrm
theorem xro:xvj call hs u xfc r_8 eNil=j4 (x7 call hs u) 2 3 4 9:=tr (sqN 1 xrn)
theorem xrp{rec1:AV->AV->AV->AV->AV->AV->AV->AV->Mem->Nat->O2}:xvj call hs u xre (j8 rec1 1 2 3 4 9 10 31 32) (setE 0 (j4 (x7 call hs u) 2 3 4 9) eNil)=j8 (x2 call hs u rec1) 1 2 3 4 9 10 31 32:=by kernel_rfl
theorem xrq{rec1:AV->AV->AV->AV->AV->AV->AV->AV->Mem->Nat->O2}{rec2:AV->AV->AV->AV->AV->AV->AV->AV->AV->Mem->Nat->O2}:xvj call hs u xrf (j9 rec2 1 2 3 4 9 10 11 31 32) (setE 2 (j8 (x2 call hs u rec1) 1 2 3 4 9 10 31 32) (setE 1 (j8 (x2 call hs u rec1) 1 2 3 4 9 10 31 32) (setE 0 (j4 (x7 call hs u) 2 3 4 9) eNil)))=j9 (xf call hs u rec1 rec2) 1 2 3 4 9 10 11 31 32:=by kernel_rfl
theorem xrr{rec1:AV->AV->AV->AV->AV->AV->AV->AV->Mem->Nat->O2}{rec2:AV->AV->AV->AV->AV->AV->AV->AV->AV->Mem->Nat->O2}{rec3:AV->AV->AV->AV->AV->AV->AV->AV->AV->AV->Mem->Nat->O2}:xvj call hs u xrh (j10 rec3 1 2 3 4 9 10 11 12 31 32) (setE 4 (j9 (xf call hs u rec1 rec2) 1 2 3 4 9 10 11 31 32) (setE 3 (j9 (xf call hs u rec1 rec2) 1 2 3 4 9 10 11 31 32) (setE 2 (j8 (x2 call hs u rec1) 1 2 3 4 9 10 31 32) (setE 1 (j8 (x2 call hs u rec1) 1 2 3 4 9 10 31 32) (setE 0 (j4 (x7 call hs u) 2 3 4 9) eNil)))))=j10 (x3k call hs u rec1 rec2 rec3) 1 2 3 4 9 10 11 12 31 32:=by kernel_rfl
theorem xrs{rec1:AV->AV->AV->AV->AV->AV->AV->AV->Mem->Nat->O2}{rec2:AV->AV->AV->AV->AV->AV->AV->AV->AV->Mem->Nat->O2}{rec3:AV->AV->AV->AV->AV->AV->AV->AV->AV->AV->Mem->Nat->O2}:xvj call hs u xrg (j10 (x3k call hs u rec1 rec2 rec3) 1 2 3 4 9 10 11 12 31 32) (setE 4 (j9 (xf call hs u rec1 rec2) 1 2 3 4 9 10 11 31 32) (setE 3 (j9 (xf call hs u rec1 rec2) 1 2 3 4 9 10 11 31 32) (setE 2 (j8 (x2 call hs u rec1) 1 2 3 4 9 10 31 32) (setE 1 (j8 (x2 call hs u rec1) 1 2 3 4 9 10 31 32) (setE 0 (j4 (x7 call hs u) 2 3 4 9) eNil)))))=j10 (x6k call hs u rec1 rec2 rec3) 1 2 3 4 9 10 11 12 31 32:=by kernel_rfl
theorem xrt{rec1:AV->AV->AV->AV->AV->AV->AV->AV->Mem->Nat->O2}{rec2:AV->AV->AV->AV->AV->AV->AV->AV->AV->Mem->Nat->O2}{rec3:AV->AV->AV->AV->AV->AV->AV->AV->AV->AV->Mem->Nat->O2}:xvj call hs u xbd (j10 rec3 1 2 3 4 9 10 11 12 31 32) (setE 4 (j9 (xf call hs u rec1 rec2) 1 2 3 4 9 10 11 31 32) (setE 3 (j9 (xf call hs u rec1 rec2) 1 2 3 4 9 10 11 31 32) (setE 2 (j8 (x2 call hs u rec1) 1 2 3 4 9 10 31 32) (setE 1 (j8 (x2 call hs u rec1) 1 2 3 4 9 10 31 32) (setE 0 (j4 (x7 call hs u) 2 3 4 9) eNil)))))=j10 (x6k call hs u rec1 rec2 rec3) 1 2 3 4 9 10 11 12 31 32:=sq2 xrr xrs
theorem xru{rec1:AV->AV->AV->AV->AV->AV->AV->AV->Mem->Nat->O2}{rec2:AV->AV->AV->AV->AV->AV->AV->AV->AV->Mem->Nat->O2}{rec3:AV->AV->AV->AV->AV->AV->AV->AV->AV->AV->Mem->Nat->O2}:xvj call hs u xfs (j10 rec3 1 2 3 4 9 10 11 12 31 32) (setE 4 (j9 (xf call hs u rec1 rec2) 1 2 3 4 9 10 11 31 32) (setE 3 (j9 (xf call hs u rec1 rec2) 1 2 3 4 9 10 11 31 32) (setE 2 (j8 (x2 call hs u rec1) 1 2 3 4 9 10 31 32) (setE 1 (j8 (x2 call hs u rec1) 1 2 3 4 9 10 31 32) (setE 0 (j4 (x7 call hs u) 2 3 4 9) eNil)))))=j10 (x6l call hs u rec1 rec2 rec3) 1 2 3 4 9 10 11 12 31 32:=tr (sqN 1 xrt)
theorem xrv{rec1:AV->AV->AV->AV->AV->AV->AV->AV->Mem->Nat->O2}{rec2:AV->AV->AV->AV->AV->AV->AV->AV->AV->Mem->Nat->O2}:xvj call hs u xfr (j9 (xf call hs u rec1 rec2) 1 2 3 4 9 10 11 31 32) (setE 4 (j9 (xf call hs u rec1 rec2) 1 2 3 4 9 10 11 31 32) (setE 3 (j9 (xf call hs u rec1 rec2) 1 2 3 4 9 10 11 31 32) (setE 2 (j8 (x2 call hs u rec1) 1 2 3 4 9 10 31 32) (setE 1 (j8 (x2 call hs u rec1) 1 2 3 4 9 10 31 32) (setE 0 (j4 (x7 call hs u) 2 3 4 9) eNil)))))=j10 (x15 call hs u rec1 rec2 NN) 1 2 3 4 9 10 11 12 31 32:=lp (Ln:=fun n=>j10 (x15 call hs u rec1 rec2 n) 1 2 3 4 9 10 11 12 31 32) fun n=>tr xru
theorem xrw{rec1:AV->AV->AV->AV->AV->AV->AV->AV->Mem->Nat->O2}{rec2:AV->AV->AV->AV->AV->AV->AV->AV->AV->Mem->Nat->O2}:xvj call hs u xfq (j9 (xf call hs u rec1 rec2) 1 2 3 4 9 10 11 31 32) (setE 3 (j9 (xf call hs u rec1 rec2) 1 2 3 4 9 10 11 31 32) (setE 2 (j8 (x2 call hs u rec1) 1 2 3 4 9 10 31 32) (setE 1 (j8 (x2 call hs u rec1) 1 2 3 4 9 10 31 32) (setE 0 (j4 (x7 call hs u) 2 3 4 9) eNil))))=j10 (x15 call hs u rec1 rec2 NN) 1 2 3 4 9 10 11 12 31 32:=bk xrv
theorem xrx{rec1:AV->AV->AV->AV->AV->AV->AV->AV->Mem->Nat->O2}{rec2:AV->AV->AV->AV->AV->AV->AV->AV->AV->Mem->Nat->O2}:xvj call hs u xfp (j9 (xf call hs u rec1 rec2) 1 2 3 4 9 10 11 31 32) (setE 3 (j9 (xf call hs u rec1 rec2) 1 2 3 4 9 10 11 31 32) (setE 2 (j8 (x2 call hs u rec1) 1 2 3 4 9 10 31 32) (setE 1 (j8 (x2 call hs u rec1) 1 2 3 4 9 10 31 32) (setE 0 (j4 (x7 call hs u) 2 3 4 9) eNil))))=j9 (x4o call hs u rec1 rec2) 1 2 3 4 9 10 11 31 32:=tr (sqN 1 xrw)
theorem xry{rec1:AV->AV->AV->AV->AV->AV->AV->AV->Mem->Nat->O2}{rec2:AV->AV->AV->AV->AV->AV->AV->AV->AV->Mem->Nat->O2}:xvj call hs u xfo (j9 (xf call hs u rec1 rec2) 1 2 3 4 9 10 11 31 32) (setE 2 (j8 (x2 call hs u rec1) 1 2 3 4 9 10 31 32) (setE 1 (j8 (x2 call hs u rec1) 1 2 3 4 9 10 31 32) (setE 0 (j4 (x7 call hs u) 2 3 4 9) eNil)))=j9 (x4o call hs u rec1 rec2) 1 2 3 4 9 10 11 31 32:=bk xrx
theorem xrz{rec1:AV->AV->AV->AV->AV->AV->AV->AV->Mem->Nat->O2}{rec2:AV->AV->AV->AV->AV->AV->AV->AV->AV->Mem->Nat->O2}:xvj call hs u xbc (j9 rec2 1 2 3 4 9 10 11 31 32) (setE 2 (j8 (x2 call hs u rec1) 1 2 3 4 9 10 31 32) (setE 1 (j8 (x2 call hs u rec1) 1 2 3 4 9 10 31 32) (setE 0 (j4 (x7 call hs u) 2 3 4 9) eNil)))=j9 (x4o call hs u rec1 rec2) 1 2 3 4 9 10 11 31 32:=sq2 xrq xry
theorem xs0{rec1:AV->AV->AV->AV->AV->AV->AV->AV->Mem->Nat->O2}{rec2:AV->AV->AV->AV->AV->AV->AV->AV->AV->Mem->Nat->O2}:xvj call hs u xfn (j9 rec2 1 2 3 4 9 10 11 31 32) (setE 2 (j8 (x2 call hs u rec1) 1 2 3 4 9 10 31 32) (setE 1 (j8 (x2 call hs u rec1) 1 2 3 4 9 10 31 32) (setE 0 (j4 (x7 call hs u) 2 3 4 9) eNil)))=j9 (x6m call hs u rec1 rec2) 1 2 3 4 9 10 11 31 32:=tr (sqN 1 xrz)
theorem xs1{rec1:AV->AV->AV->AV->AV->AV->AV->AV->Mem->Nat->O2}:xvj call hs u xfm (j8 (x2 call hs u rec1) 1 2 3 4 9 10 31 32) (setE 2 (j8 (x2 call hs u rec1) 1 2 3 4 9 10 31 32) (setE 1 (j8 (x2 call hs u rec1) 1 2 3 4 9 10 31 32) (setE 0 (j4 (x7 call hs u) 2 3 4 9) eNil)))=j9 (x2o call hs u rec1 NN) 1 2 3 4 9 10 11 31 32:=lp (Ln:=fun n=>j9 (x2o call hs u rec1 n) 1 2 3 4 9 10 11 31 32) fun n=>tr xs0
theorem xs2{rec1:AV->AV->AV->AV->AV->AV->AV->AV->Mem->Nat->O2}:xvj call hs u xfl (j8 (x2 call hs u rec1) 1 2 3 4 9 10 31 32) (setE 1 (j8 (x2 call hs u rec1) 1 2 3 4 9 10 31 32) (setE 0 (j4 (x7 call hs u) 2 3 4 9) eNil))=j9 (x2o call hs u rec1 NN) 1 2 3 4 9 10 11 31 32:=bk xs1
theorem xs3{rec1:AV->AV->AV->AV->AV->AV->AV->AV->Mem->Nat->O2}:xvj call hs u xfk (j8 (x2 call hs u rec1) 1 2 3 4 9 10 31 32) (setE 1 (j8 (x2 call hs u rec1) 1 2 3 4 9 10 31 32) (setE 0 (j4 (x7 call hs u) 2 3 4 9) eNil))=j8 (x4p call hs u rec1) 1 2 3 4 9 10 31 32:=tr (sqN 1 xs2)
theorem xs4{rec1:AV->AV->AV->AV->AV->AV->AV->AV->Mem->Nat->O2}:xvj call hs u xfj (j8 (x2 call hs u rec1) 1 2 3 4 9 10 31 32) (setE 0 (j4 (x7 call hs u) 2 3 4 9) eNil)=j8 (x4p call hs u rec1) 1 2 3 4 9 10 31 32:=bk xs3
theorem xs5{rec1:AV->AV->AV->AV->AV->AV->AV->AV->Mem->Nat->O2}:xvj call hs u xbb (j8 rec1 1 2 3 4 9 10 31 32) (setE 0 (j4 (x7 call hs u) 2 3 4 9) eNil)=j8 (x4p call hs u rec1) 1 2 3 4 9 10 31 32:=sq2 xrp xs4
theorem xs6{rec1:AV->AV->AV->AV->AV->AV->AV->AV->Mem->Nat->O2}:xvj call hs u xfi (j8 rec1 1 2 3 4 9 10 31 32) (setE 0 (j4 (x7 call hs u) 2 3 4 9) eNil)=j8 (x6n call hs u rec1) 1 2 3 4 9 10 31 32:=tr (sqN 2 xs5)
theorem xs7:xvj call hs u xfh (j4 (x7 call hs u) 2 3 4 9) (setE 0 (j4 (x7 call hs u) 2 3 4 9) eNil)=j8 (x1k call hs u NN) 1 2 3 4 9 10 31 32:=lp (Ln:=fun n=>j8 (x1k call hs u n) 1 2 3 4 9 10 31 32) fun n=>tr xs6
theorem xs8:xvj call hs u xfg (j4 (x7 call hs u) 2 3 4 9) eNil=j8 (x1k call hs u NN) 1 2 3 4 9 10 31 32:=bk xs7
theorem xs9:xvj call hs u xfb (j4 (x7 call hs u) 2 3 4 9) eNil=j6 (x6o call hs u) 1 2 3 4 9 10:=tr (sqN 1 xs8)
theorem xsa:xvj call hs u xb9 r_8 eNil=j6 (x6o call hs u) 1 2 3 4 9 10:=sq2 xro xs9
theorem xji:xvj call hs u xfa r_8 eNil=j4 (x9w call hs u) 0 1 2 3:=tr (sqN 4 xsa)
noncomputable abbrev x1aa:=VX x41 8 r_0
noncomputable def xsb:=xv0 x41
theorem xjj:x1aa call hs u xsb r_0 eNil=j3 (x9x call hs u) 0 1 2:=by kernel_rfl
noncomputable abbrev xws:=VX x42 49 r_2
noncomputable def xft:=xv0 x42
noncomputable def xbe:=nRs 2 xft
noncomputable def xfu:=nL xbe
noncomputable def xsc:=nR xbe
noncomputable def xfv:=nR xfu
noncomputable def xfw:=nR xfv
noncomputable def xfx:=nR xfw
noncomputable def xbf:=nRs 2 xfx
noncomputable def xfy:=nL xbf
noncomputable def xsd:=nR xbf
noncomputable def xfz:=nR xfy
noncomputable def xg0:=nR xfz
noncomputable def xbg:=nR xg0
noncomputable def xse:=nL xbg
noncomputable def xsf:=nR xbg
theorem xsg:xws call hs u xsc r_2 eNil=j0 (xl call hs u):=by kernel_rfl
theorem xsh{rec0:AV->AV->AV->Mem->Nat->O2}:xws call hs u xsd (j3 rec0 13 14 15) (setE 0 (j0 (xl call hs u)) eNil)=j3 (xi call hs u rec0) 13 14 15:=by kernel_rfl
theorem xsi{rec0:AV->AV->AV->Mem->Nat->O2}:xws call hs u xsf (j3 (xi call hs u rec0) 13 14 15) (setE 2 (j3 (xi call hs u rec0) 13 14 15) (setE 1 (j3 (xi call hs u rec0) 13 14 15) (setE 0 (j0 (xl call hs u)) eNil)))=j6 (x4r call hs u rec0) 3 4 13 14 15 20:=by kernel_rfl
theorem xsj{rec0:AV->AV->AV->Mem->Nat->O2}:xws call hs u xse (j6 (x4r call hs u rec0) 3 4 13 14 15 20) (setE 2 (j3 (xi call hs u rec0) 13 14 15) (setE 1 (j3 (xi call hs u rec0) 13 14 15) (setE 0 (j0 (xl call hs u)) eNil)))=j5 (x4s call hs u rec0) 3 4 13 14 15:=by kernel_rfl
theorem xsk{rec0:AV->AV->AV->Mem->Nat->O2}:xws call hs u xbg (j3 (xi call hs u rec0) 13 14 15) (setE 2 (j3 (xi call hs u rec0) 13 14 15) (setE 1 (j3 (xi call hs u rec0) 13 14 15) (setE 0 (j0 (xl call hs u)) eNil)))=j5 (x4s call hs u rec0) 3 4 13 14 15:=sq2 xsi xsj
theorem xsl{rec0:AV->AV->AV->Mem->Nat->O2}:xws call hs u xg0 (j3 (xi call hs u rec0) 13 14 15) (setE 1 (j3 (xi call hs u rec0) 13 14 15) (setE 0 (j0 (xl call hs u)) eNil))=j5 (x4s call hs u rec0) 3 4 13 14 15:=bk xsk
theorem xsm{rec0:AV->AV->AV->Mem->Nat->O2}:xws call hs u xfz (j3 (xi call hs u rec0) 13 14 15) (setE 1 (j3 (xi call hs u rec0) 13 14 15) (setE 0 (j0 (xl call hs u)) eNil))=j3 (x4t call hs u rec0) 13 14 15:=tr (sqN 1 xsl)
theorem xsn{rec0:AV->AV->AV->Mem->Nat->O2}:xws call hs u xfy (j3 (xi call hs u rec0) 13 14 15) (setE 0 (j0 (xl call hs u)) eNil)=j3 (x4t call hs u rec0) 13 14 15:=bk xsm
theorem xso{rec0:AV->AV->AV->Mem->Nat->O2}:xws call hs u xbf (j3 rec0 13 14 15) (setE 0 (j0 (xl call hs u)) eNil)=j3 (x4t call hs u rec0) 13 14 15:=sq2 xsh xsn
theorem xsp{rec0:AV->AV->AV->Mem->Nat->O2}:xws call hs u xfx (j3 rec0 13 14 15) (setE 0 (j0 (xl call hs u)) eNil)=j3 (x6p call hs u rec0) 13 14 15:=tr (sqN 2 xso)
theorem xsq:xws call hs u xfw (j0 (xl call hs u)) (setE 0 (j0 (xl call hs u)) eNil)=j3 (x1l call hs u NN) 13 14 15:=lp (Ln:=fun n=>j3 (x1l call hs u n) 13 14 15) fun n=>tr xsp
theorem xsr:xws call hs u xfv (j0 (xl call hs u)) eNil=j3 (x1l call hs u NN) 13 14 15:=bk xsq
theorem xss:xws call hs u xfu (j0 (xl call hs u)) eNil=j1 (x6q call hs u) 0:=tr (sqN 1 xsr)
theorem xst:xws call hs u xbe r_2 eNil=j1 (x6q call hs u) 0:=sq2 xsg xss
theorem xjk:xws call hs u xft r_2 eNil=j1 (x9y call hs u) 0:=tr (sqN 2 xst)
noncomputable abbrev x1ab:=VX x43 9 r_5
noncomputable def xsu:=xv0 x43
theorem xjl:x1ab call hs u xsu r_5 eNil=j2 (x9z call hs u) 0 1:=by kernel_rfl
noncomputable abbrev x1ac:=VX xj 9 r_7
noncomputable def xsv:=xv0 xj
theorem xjm:x1ac call hs u xsv r_7 eNil=j2 (xa0 call hs u) 0 1:=by kernel_rfl
noncomputable abbrev xzo:=VX x44 66 r_1
noncomputable def xg1:=xv0 x44
noncomputable def xbh:=nRs 4 xg1
noncomputable def xg2:=nL xbh
noncomputable def xsw:=nR xbh
noncomputable def xg3:=nR xg2
noncomputable def xg4:=nR xg3
noncomputable def xsx:=nR xg4
theorem xsy:xzo call hs u xsw r_1 eNil=j0 (x2p call hs u):=by kernel_rfl
theorem xsz{rec0:AV->AV->AV->AV->AV->Mem->Nat->O2}:xzo call hs u xsx (j5 rec0 1 6 26 27 28) (setE 0 (j0 (x2p call hs u)) eNil)=j5 (x6r call hs u rec0) 1 6 26 27 28:=by kernel_rfl
theorem xt0:xzo call hs u xg4 (j0 (x2p call hs u)) (setE 0 (j0 (x2p call hs u)) eNil)=j5 (x1m call hs u NN) 1 6 26 27 28:=lp (Ln:=fun n=>j5 (x1m call hs u n) 1 6 26 27 28) fun n=>tr xsz
theorem xt1:xzo call hs u xg3 (j0 (x2p call hs u)) eNil=j5 (x1m call hs u NN) 1 6 26 27 28:=bk xt0
theorem xt2:xzo call hs u xg2 (j0 (x2p call hs u)) eNil=j2 (x6s call hs u) 1 6:=tr (sqN 1 xt1)
theorem xt3:xzo call hs u xbh r_1 eNil=j2 (x6s call hs u) 1 6:=sq2 xsy xt2
theorem xjn:xzo call hs u xg1 r_1 eNil=j1 (xa2 call hs u) 0:=tr (sqN 4 xt3)
noncomputable abbrev xzp:=VX x45 19 r_5
noncomputable def xg5:=xv0 x45
noncomputable def xbi:=nR xg5
noncomputable def xg6:=nL xbi
noncomputable def xt4:=nR xbi
noncomputable def xg7:=nR xg6
noncomputable def xg8:=nR xg7
noncomputable def xt5:=nR xg8
theorem xt6:xzp call hs u xt4 r_5 eNil=j0 (x2q call hs u):=by kernel_rfl
theorem xt7{rec0:AV->AV->AV->AV->Mem->Nat->O2}:xzp call hs u xt5 (j4 rec0 0 1 7 8) (setE 0 (j0 (x2q call hs u)) eNil)=j4 (x6t call hs u rec0) 0 1 7 8:=by kernel_rfl
theorem xt8:xzp call hs u xg8 (j0 (x2q call hs u)) (setE 0 (j0 (x2q call hs u)) eNil)=j4 (x2r call hs u NN) 0 1 7 8:=lp (Ln:=fun n=>j4 (x2r call hs u n) 0 1 7 8) fun n=>tr xt7
theorem xt9:xzp call hs u xg7 (j0 (x2q call hs u)) eNil=j4 (x2r call hs u NN) 0 1 7 8:=bk xt8
theorem xta:xzp call hs u xg6 (j0 (x2q call hs u)) eNil=j2 (x6u call hs u) 0 1:=tr (sqN 1 xt9)
theorem xtb:xzp call hs u xbi r_5 eNil=j2 (x6u call hs u) 0 1:=sq2 xt6 xta
theorem xjo:xzp call hs u xg5 r_5 eNil=j2 (xa3 call hs u) 0 1:=tr (sqN 1 xtb)
noncomputable abbrev x1ad:=VX x46 41 r_5
noncomputable def xtc:=xv0 x46
theorem xjp:x1ad call hs u xtc r_5 eNil=j2 (xa4 call hs u) 0 1:=by kernel_rfl
noncomputable abbrev x10b:=VX x1s 13 r_5
noncomputable abbrev x17g:=VX (R:=Mem) x1s 13 fNil
noncomputable def xg9:=xv0 x1s
noncomputable def xbj:=nR xg9
noncomputable def xga:=nL xbj
noncomputable def xtd:=nR xbj
noncomputable def xgb:=nR xga
noncomputable def x7a:=nR xgb
noncomputable def xte:=nL x7a
noncomputable def xtf:=nR x7a
theorem xtg:x10b call hs u xtd r_5 eNil=j1 (x3l call hs u) 2:=by kernel_rfl
theorem xth:x17g call hs u xtf (fun s=>some s.m) eNil=j2 (x6v call hs u) 2 5:=by kernel_rfl
theorem xti:x17g call hs u xte (j2 (x6v call hs u) 2 5) eNil=j2 (x6w call hs u) 2 7:=by kernel_rfl
theorem xtj:x10b call hs u x7a (j1 (x3l call hs u) 2) (setE 0 (j1 (x3l call hs u) 2) eNil)=j2 (x6x call hs u) 2 6:=tr (rg (C:=x7a) (c:={f:=x1s,u:=u,nt:=13,hs:=hs}) (f:=(.tmp 6)) (ps:=#[7]) (fun u=>xth) (fun u=>xti))
theorem xtk:x10b call hs u xgb (j1 (x3l call hs u) 2) eNil=j2 (x6x call hs u) 2 6:=bk xtj
theorem xtl:x10b call hs u xga (j1 (x3l call hs u) 2) eNil=j2 (x6y call hs u) 1 2:=tr (sqN 1 xtk)
theorem xtm:x10b call hs u xbj r_5 eNil=j2 (x6y call hs u) 1 2:=sq2 xtg xtl
theorem xjq:x10b call hs u xg9 r_5 eNil=j2 (xa5 call hs u) 0 1:=tr (sqN 1 xtm)
noncomputable abbrev x12a:=VX x11 26 r_9
noncomputable def xgc:=xv0 x11
noncomputable def xgd:=nR xgc
noncomputable def xge:=nR xgd
noncomputable def xtn:=nR xge
theorem xto{rec0:AV->AV->AV->AV->AV->Mem->Nat->O2}:x12a call hs u xtn (j5 rec0 0 1 2 8 9) (setE 0 r_9 eNil)=j5 (x6z call hs u rec0) 0 1 2 8 9:=by kernel_rfl
theorem xtp:x12a call hs u xge r_9 (setE 0 r_9 eNil)=j5 (x2s call hs u NN) 0 1 2 8 9:=lp (Ln:=fun n=>j5 (x2s call hs u n) 0 1 2 8 9) fun n=>tr xto
theorem xtq:x12a call hs u xgd r_9 eNil=j5 (x2s call hs u NN) 0 1 2 8 9:=bk xtp
theorem xjr:x12a call hs u xgc r_9 eNil=j3 (xa6 call hs u) 0 1 2:=tr (sqN 1 xtq)
noncomputable abbrev xzq:=VX x47 19 r_5
noncomputable def xgf:=xv0 x47
noncomputable def xbk:=nR xgf
noncomputable def xgg:=nL xbk
noncomputable def xtr:=nR xbk
noncomputable def xgh:=nR xgg
noncomputable def xgi:=nR xgh
noncomputable def xts:=nR xgi
theorem xtt:xzq call hs u xtr r_5 eNil=j0 (x2t call hs u):=by kernel_rfl
theorem xtu{rec0:AV->AV->AV->AV->Mem->Nat->O2}:xzq call hs u xts (j4 rec0 0 1 7 8) (setE 0 (j0 (x2t call hs u)) eNil)=j4 (x70 call hs u rec0) 0 1 7 8:=by kernel_rfl
theorem xtv:xzq call hs u xgi (j0 (x2t call hs u)) (setE 0 (j0 (x2t call hs u)) eNil)=j4 (x2u call hs u NN) 0 1 7 8:=lp (Ln:=fun n=>j4 (x2u call hs u n) 0 1 7 8) fun n=>tr xtu
theorem xtw:xzq call hs u xgh (j0 (x2t call hs u)) eNil=j4 (x2u call hs u NN) 0 1 7 8:=bk xtv
theorem xtx:xzq call hs u xgg (j0 (x2t call hs u)) eNil=j2 (x71 call hs u) 0 1:=tr (sqN 1 xtw)
theorem xty:xzq call hs u xbk r_5 eNil=j2 (x71 call hs u) 0 1:=sq2 xtt xtx
theorem xjs:xzq call hs u xgf r_5 eNil=j2 (xa7 call hs u) 0 1:=tr (sqN 1 xty)
noncomputable abbrev x10c:=VX x12 42 r_10
noncomputable abbrev x1ae(lid:Id):=VX (R:=Mem) x12 42 (fun s=>sLpX lid .ret s.m)
noncomputable abbrev x1af:=VX (R:=Mem) x12 42 fNil
noncomputable def xgj:=xv0 x12
noncomputable def xbl:=nRs 2 xgj
noncomputable def xgk:=nL xbl
noncomputable def xtz:=nR xbl
noncomputable def xgl:=nR xgk
noncomputable def x7b:=nR xgl
noncomputable def xu0:=nL x7b
noncomputable def xu1:=nR x7b
theorem xu2:x10c call hs u xtz r_10 eNil=j2 (x2v call hs u) 10 11:=by kernel_rfl
theorem xu3{lid:Id}:x1ae lid call hs u xu1 (fun s=>sLpN lid s.m) (fun i s=>sLpX lid (.exit i) s.m)=j9 (x72 call hs u lid) 5 6 7 8 9 10 11 12 13:=by kernel_rfl
theorem xu4{lid:Id}:x1af call hs u xu0 (fun s=>(sLpN lid s.m).bind fun _=>(j9 (x72 call hs u lid) 5 6 7 8 9 10 11 12 13) s) eNil=j9 (x73 call hs u lid) 5 6 7 8 9 10 11 23 24:=by kernel_rfl
theorem xu5:x10c call hs u x7b (j2 (x2v call hs u) 10 11) (setE 0 (j2 (x2v call hs u) 10 11) eNil)=j8 (x74 call hs u) 5 6 7 8 9 10 11 22:=tr (rg2 (C:=x7b) (c:={f:=x12,u:=u,nt:=42,hs:=hs}) (f:=(.tmp 22)) (ps:=#[23,24]) (fun l u=>xu3) (fun l u=>xu4))
theorem xu6:x10c call hs u xgl (j2 (x2v call hs u) 10 11) eNil=j8 (x74 call hs u) 5 6 7 8 9 10 11 22:=bk xu5
theorem xu7:x10c call hs u xgk (j2 (x2v call hs u) 10 11) eNil=j7 (x75 call hs u) 5 6 7 8 9 10 11:=tr (sqN 1 xu6)
theorem xu8:x10c call hs u xbl r_10 eNil=j7 (x75 call hs u) 5 6 7 8 9 10 11:=sq2 xu2 xu7
theorem xjt:x10c call hs u xgj r_10 eNil=j5 (xa8 call hs u) 0 1 2 3 4:=tr (sqN 2 xu8)
noncomputable abbrev xxj:=VX x1t 43 r_9
noncomputable def xgm:=xv0 x1t
noncomputable def xgn:=nR xgm
noncomputable def xgo:=nR xgn
noncomputable def xgp:=nR xgo
noncomputable def xbm:=nRs 2 xgp
noncomputable def xgq:=nL xbm
noncomputable def xu9:=nR xbm
noncomputable def xgr:=nR xgq
noncomputable def xgs:=nRs 2 xgr
noncomputable def xgt:=nR xgs
noncomputable def xua:=nR xgt
theorem xub{rec0:AV->AV->AV->AV->AV->AV->Mem->Nat->O2}:xxj call hs u xu9 (j6 rec0 0 2 3 12 13 14) (setE 0 r_9 eNil)=j6 (xt call hs u rec0) 0 2 3 12 13 14:=by kernel_rfl
theorem xuc{rec0:AV->AV->AV->AV->AV->AV->Mem->Nat->O2}{rec1:AV->AV->AV->AV->AV->AV->AV->AV->AV->Mem->Nat->O2}:xxj call hs u xua (j9 rec1 0 2 3 6 12 13 14 18 19) (setE 2 (j6 (xt call hs u rec0) 0 2 3 12 13 14) (setE 1 (j6 (xt call hs u rec0) 0 2 3 12 13 14) (setE 0 r_9 eNil)))=j9 (x76 call hs u rec0 rec1) 0 2 3 6 12 13 14 18 19:=by kernel_rfl
theorem xud{rec0:AV->AV->AV->AV->AV->AV->Mem->Nat->O2}:xxj call hs u xgt (j6 (xt call hs u rec0) 0 2 3 12 13 14) (setE 2 (j6 (xt call hs u rec0) 0 2 3 12 13 14) (setE 1 (j6 (xt call hs u rec0) 0 2 3 12 13 14) (setE 0 r_9 eNil)))=j9 (x1n call hs u rec0 NN) 0 2 3 6 12 13 14 18 19:=lp (Ln:=fun n=>j9 (x1n call hs u rec0 n) 0 2 3 6 12 13 14 18 19) fun n=>tr xuc
theorem xue{rec0:AV->AV->AV->AV->AV->AV->Mem->Nat->O2}:xxj call hs u xgs (j6 (xt call hs u rec0) 0 2 3 12 13 14) (setE 1 (j6 (xt call hs u rec0) 0 2 3 12 13 14) (setE 0 r_9 eNil))=j9 (x1n call hs u rec0 NN) 0 2 3 6 12 13 14 18 19:=bk xud
theorem xuf{rec0:AV->AV->AV->AV->AV->AV->Mem->Nat->O2}:xxj call hs u xgr (j6 (xt call hs u rec0) 0 2 3 12 13 14) (setE 1 (j6 (xt call hs u rec0) 0 2 3 12 13 14) (setE 0 r_9 eNil))=j6 (x4w call hs u rec0) 0 2 3 12 13 14:=tr (sqN 2 xue)
theorem xug{rec0:AV->AV->AV->AV->AV->AV->Mem->Nat->O2}:xxj call hs u xgq (j6 (xt call hs u rec0) 0 2 3 12 13 14) (setE 0 r_9 eNil)=j6 (x4w call hs u rec0) 0 2 3 12 13 14:=bk xuf
theorem xuh{rec0:AV->AV->AV->AV->AV->AV->Mem->Nat->O2}:xxj call hs u xbm (j6 rec0 0 2 3 12 13 14) (setE 0 r_9 eNil)=j6 (x4w call hs u rec0) 0 2 3 12 13 14:=sq2 xub xug
theorem xui{rec0:AV->AV->AV->AV->AV->AV->Mem->Nat->O2}:xxj call hs u xgp (j6 rec0 0 2 3 12 13 14) (setE 0 r_9 eNil)=j6 (x77 call hs u rec0) 0 2 3 12 13 14:=tr (sqN 2 xuh)
theorem xuj:xxj call hs u xgo r_9 (setE 0 r_9 eNil)=j6 (x16 call hs u NN) 0 2 3 12 13 14:=lp (Ln:=fun n=>j6 (x16 call hs u n) 0 2 3 12 13 14) fun n=>tr xui
theorem xuk:xxj call hs u xgn r_9 eNil=j6 (x16 call hs u NN) 0 2 3 12 13 14:=bk xuj
theorem xju:xxj call hs u xgm r_9 eNil=j4 (xa9 call hs u) 0 1 2 3:=tr (sqN 1 xuk)
noncomputable abbrev xzr:=VX x48 19 r_5
noncomputable def xgu:=xv0 x48
noncomputable def xbn:=nR xgu
noncomputable def xgv:=nL xbn
noncomputable def xul:=nR xbn
noncomputable def xgw:=nR xgv
noncomputable def xgx:=nR xgw
noncomputable def xum:=nR xgx
theorem xun:xzr call hs u xul r_5 eNil=j0 (x2w call hs u):=by kernel_rfl
theorem xuo{rec0:AV->AV->AV->AV->Mem->Nat->O2}:xzr call hs u xum (j4 rec0 0 1 7 8) (setE 0 (j0 (x2w call hs u)) eNil)=j4 (x78 call hs u rec0) 0 1 7 8:=by kernel_rfl
theorem xup:xzr call hs u xgx (j0 (x2w call hs u)) (setE 0 (j0 (x2w call hs u)) eNil)=j4 (x2x call hs u NN) 0 1 7 8:=lp (Ln:=fun n=>j4 (x2x call hs u n) 0 1 7 8) fun n=>tr xuo
theorem xuq:xzr call hs u xgw (j0 (x2w call hs u)) eNil=j4 (x2x call hs u NN) 0 1 7 8:=bk xup
theorem xur:xzr call hs u xgv (j0 (x2w call hs u)) eNil=j2 (x79 call hs u) 0 1:=tr (sqN 1 xuq)
theorem xus:xzr call hs u xbn r_5 eNil=j2 (x79 call hs u) 0 1:=sq2 xun xur
theorem xjv:xzr call hs u xgu r_5 eNil=j2 (xaa call hs u) 0 1:=tr (sqN 1 xus)
end Go.Ix
