import Derived.Test.YtpeakdjfagbpcaaGreatFxText0
import Derived.Test.YtpeakdjfagbpcaaGreatFxEnt
import Derived.Test.YtpeakdjfagbpcaaGreatFxRules
import Derived.Test.YtpeakdjfagbpcaaGreatFxProj
import Derived.ProofKit
set_option linter.unusedVariables false
namespace Go.Ix
open Go.Proofs
variable{call:xwx}{hs:FHs}{u:Nat}
noncomputable abbrev xyx:=VX x4e 122 r_0
noncomputable def xcp:=xx5 x4e
noncomputable def xay:=nRs 9 xcp
noncomputable def xcq:=nL xay
noncomputable def xlg:=nR xay
noncomputable def xcr:=nR xcq
noncomputable def xcs:=nR xcr
noncomputable def xct:=nR xcs
noncomputable def xaz:=nR xct
noncomputable def xcu:=nL xaz
noncomputable def xlh:=nR xaz
noncomputable def xcv:=nR xcu
noncomputable def xcw:=nRs 2 xcv
noncomputable def xcx:=nR xcw
noncomputable def xli:=nR xcx
theorem xlj:xyx call hs u xlg r_0 eNil=j0 (xg call hs u):=by kernel_rfl
theorem xlk{rec0:AV->AV->AV->Mem->Nat->O2}:xyx call hs u xlh (j3 rec0 1 9 11) (setE 0 (j0 (xg call hs u)) eNil)=j3 (xm call hs u rec0) 1 9 11:=by kernel_rfl
theorem xll{rec0:AV->AV->AV->Mem->Nat->O2}{rec1:AV->AV->AV->AV->Mem->Nat->O2}:xyx call hs u xli (j4 rec1 1 9 11 12) (setE 2 (j3 (xm call hs u rec0) 1 9 11) (setE 1 (j3 (xm call hs u rec0) 1 9 11) (setE 0 (j0 (xg call hs u)) eNil)))=j4 (x57 call hs u rec0 rec1) 1 9 11 12:=by kernel_rfl
theorem xlm{rec0:AV->AV->AV->Mem->Nat->O2}:xyx call hs u xcx (j3 (xm call hs u rec0) 1 9 11) (setE 2 (j3 (xm call hs u rec0) 1 9 11) (setE 1 (j3 (xm call hs u rec0) 1 9 11) (setE 0 (j0 (xg call hs u)) eNil)))=j4 (x1v call hs u rec0 NN) 1 9 11 12:=lp (Ln:=fun n=>j4 (x1v call hs u rec0 n) 1 9 11 12) fun n=>tr xll
theorem xln{rec0:AV->AV->AV->Mem->Nat->O2}:xyx call hs u xcw (j3 (xm call hs u rec0) 1 9 11) (setE 1 (j3 (xm call hs u rec0) 1 9 11) (setE 0 (j0 (xg call hs u)) eNil))=j4 (x1v call hs u rec0 NN) 1 9 11 12:=bk xlm
theorem xlo{rec0:AV->AV->AV->Mem->Nat->O2}:xyx call hs u xcv (j3 (xm call hs u rec0) 1 9 11) (setE 1 (j3 (xm call hs u rec0) 1 9 11) (setE 0 (j0 (xg call hs u)) eNil))=j3 (x4g call hs u rec0) 1 9 11:=tr (sqN 2 xln)
theorem xlp{rec0:AV->AV->AV->Mem->Nat->O2}:xyx call hs u xcu (j3 (xm call hs u rec0) 1 9 11) (setE 0 (j0 (xg call hs u)) eNil)=j3 (x4g call hs u rec0) 1 9 11:=bk xlo
theorem xlq{rec0:AV->AV->AV->Mem->Nat->O2}:xyx call hs u xaz (j3 rec0 1 9 11) (setE 0 (j0 (xg call hs u)) eNil)=j3 (x4g call hs u rec0) 1 9 11:=sq2 xlk xlp
theorem xlr{rec0:AV->AV->AV->Mem->Nat->O2}:xyx call hs u xct (j3 rec0 1 9 11) (setE 0 (j0 (xg call hs u)) eNil)=j3 (x58 call hs u rec0) 1 9 11:=tr (sqN 1 xlq)
theorem xls:xyx call hs u xcs (j0 (xg call hs u)) (setE 0 (j0 (xg call hs u)) eNil)=j3 (x16 call hs u NN) 1 9 11:=lp (Ln:=fun n=>j3 (x16 call hs u n) 1 9 11) fun n=>tr xlr
theorem xlt:xyx call hs u xcr (j0 (xg call hs u)) eNil=j3 (x16 call hs u NN) 1 9 11:=bk xls
theorem xlu:xyx call hs u xcq (j0 (xg call hs u)) eNil=j2 (x59 call hs u) 1 9:=tr (sqN 1 xlt)
theorem xlv:xyx call hs u xay r_0 eNil=j2 (x59 call hs u) 1 9:=sq2 xlj xlu
theorem xjq:xyx call hs u xcp r_0 eNil=j1 (x91 call hs u) 0:=tr (sqN 9 xlv)
noncomputable abbrev x1bq:=VX xv 15 r_1
noncomputable def xlw:=xx5 xv
theorem xjr:x1bq call hs u xlw r_1 eNil=j3 (x93 call hs u) 0 1 2:=by kernel_rfl
noncomputable abbrev x11j:=VX x3j 26 r_2
noncomputable def xcy:=xx5 x3j
noncomputable def xb0:=nRs 2 xcy
noncomputable def xcz:=nL xb0
noncomputable def xlx:=nR xb0
noncomputable def xd0:=nR xcz
noncomputable def xd1:=nR xd0
noncomputable def xly:=nR xd1
theorem xlz:x11j call hs u xlx r_2 eNil=j0 (x1w call hs u):=by kernel_rfl
theorem xm0{rec0:AV->AV->AV->Mem->Nat->O2}:x11j call hs u xly (j3 rec0 0 1 5) (setE 0 (j0 (x1w call hs u)) eNil)=j3 (x5a call hs u rec0) 0 1 5:=by kernel_rfl
theorem xm1:x11j call hs u xd1 (j0 (x1w call hs u)) (setE 0 (j0 (x1w call hs u)) eNil)=j3 (x1x call hs u NN) 0 1 5:=lp (Ln:=fun n=>j3 (x1x call hs u n) 0 1 5) fun n=>tr xm0
theorem xm2:x11j call hs u xd0 (j0 (x1w call hs u)) eNil=j3 (x1x call hs u NN) 0 1 5:=bk xm1
theorem xm3:x11j call hs u xcz (j0 (x1w call hs u)) eNil=j2 (x5b call hs u) 0 1:=tr (sqN 1 xm2)
theorem xm4:x11j call hs u xb0 r_2 eNil=j2 (x5b call hs u) 0 1:=sq2 xlz xm3
theorem xjs:x11j call hs u xcy r_2 eNil=j2 (x94 call hs u) 0 1:=tr (sqN 2 xm4)
noncomputable abbrev xyh:=VX x2t 50 r_3
noncomputable def xd2:=xx5 x2t
noncomputable def xb1:=nRs 2 xd2
noncomputable def xd3:=nL xb1
noncomputable def xm5:=nR xb1
noncomputable def xd4:=nR xd3
noncomputable def xd5:=nR xd4
noncomputable def xd6:=nR xd5
noncomputable def xb2:=nR xd6
noncomputable def xd7:=nL xb2
noncomputable def xm6:=nR xb2
noncomputable def xd8:=nR xd7
noncomputable def xb3:=nRs 2 xd8
noncomputable def xd9:=nL xb3
noncomputable def xm7:=nR xb3
noncomputable def xda:=nR xd9
noncomputable def xdb:=nR xda
noncomputable def xm8:=nR xdb
theorem xm9:xyh call hs u xm5 r_3 eNil=j0 (xa call hs u):=by kernel_rfl
theorem xma{rec0:AV->AV->Mem->Nat->O2}:xyh call hs u xm6 (j2 rec0 0 4) (setE 0 (j0 (xa call hs u)) eNil)=j2 (xj call hs u rec0) 0 4:=by kernel_rfl
theorem xmb{rec0:AV->AV->Mem->Nat->O2}:xyh call hs u xm7 (j2 (xj call hs u rec0) 0 4) (setE 1 (j2 (xj call hs u rec0) 0 4) (setE 0 (j0 (xa call hs u)) eNil))=j3 (x17 call hs u rec0) 0 4 5:=by kernel_rfl
theorem xmc{rec0:AV->AV->Mem->Nat->O2}{rec1:AV->AV->AV->AV->Mem->Nat->O2}:xyh call hs u xm8 (j4 rec1 0 4 5 6) (setE 2 (j3 (x17 call hs u rec0) 0 4 5) (setE 1 (j2 (xj call hs u rec0) 0 4) (setE 0 (j0 (xa call hs u)) eNil)))=j4 (x5c call hs u rec0 rec1) 0 4 5 6:=by kernel_rfl
theorem xmd{rec0:AV->AV->Mem->Nat->O2}:xyh call hs u xdb (j3 (x17 call hs u rec0) 0 4 5) (setE 2 (j3 (x17 call hs u rec0) 0 4 5) (setE 1 (j2 (xj call hs u rec0) 0 4) (setE 0 (j0 (xa call hs u)) eNil)))=j4 (x1y call hs u rec0 NN) 0 4 5 6:=lp (Ln:=fun n=>j4 (x1y call hs u rec0 n) 0 4 5 6) fun n=>tr xmc
theorem xme{rec0:AV->AV->Mem->Nat->O2}:xyh call hs u xda (j3 (x17 call hs u rec0) 0 4 5) (setE 1 (j2 (xj call hs u rec0) 0 4) (setE 0 (j0 (xa call hs u)) eNil))=j4 (x1y call hs u rec0 NN) 0 4 5 6:=bk xmd
theorem xmf{rec0:AV->AV->Mem->Nat->O2}:xyh call hs u xd9 (j3 (x17 call hs u rec0) 0 4 5) (setE 1 (j2 (xj call hs u rec0) 0 4) (setE 0 (j0 (xa call hs u)) eNil))=j3 (x5d call hs u rec0) 0 4 5:=tr (sqN 1 xme)
theorem xmg{rec0:AV->AV->Mem->Nat->O2}:xyh call hs u xb3 (j2 (xj call hs u rec0) 0 4) (setE 1 (j2 (xj call hs u rec0) 0 4) (setE 0 (j0 (xa call hs u)) eNil))=j3 (x5d call hs u rec0) 0 4 5:=sq2 xmb xmf
theorem xmh{rec0:AV->AV->Mem->Nat->O2}:xyh call hs u xd8 (j2 (xj call hs u rec0) 0 4) (setE 1 (j2 (xj call hs u rec0) 0 4) (setE 0 (j0 (xa call hs u)) eNil))=j2 (x4h call hs u rec0) 0 4:=tr (sqN 2 xmg)
theorem xmi{rec0:AV->AV->Mem->Nat->O2}:xyh call hs u xd7 (j2 (xj call hs u rec0) 0 4) (setE 0 (j0 (xa call hs u)) eNil)=j2 (x4h call hs u rec0) 0 4:=bk xmh
theorem xmj{rec0:AV->AV->Mem->Nat->O2}:xyh call hs u xb2 (j2 rec0 0 4) (setE 0 (j0 (xa call hs u)) eNil)=j2 (x4h call hs u rec0) 0 4:=sq2 xma xmi
theorem xmk{rec0:AV->AV->Mem->Nat->O2}:xyh call hs u xd6 (j2 rec0 0 4) (setE 0 (j0 (xa call hs u)) eNil)=j2 (x5e call hs u rec0) 0 4:=tr (sqN 1 xmj)
theorem xml:xyh call hs u xd5 (j0 (xa call hs u)) (setE 0 (j0 (xa call hs u)) eNil)=j2 (x10 call hs u NN) 0 4:=lp (Ln:=fun n=>j2 (x10 call hs u n) 0 4) fun n=>tr xmk
theorem xmm:xyh call hs u xd4 (j0 (xa call hs u)) eNil=j2 (x10 call hs u NN) 0 4:=bk xml
theorem xmn:xyh call hs u xd3 (j0 (xa call hs u)) eNil=j1 (x5f call hs u) 0:=tr (sqN 1 xmm)
theorem xmo:xyh call hs u xb1 r_3 eNil=j1 (x5f call hs u) 0:=sq2 xm9 xmn
theorem xjt:xyh call hs u xd2 r_3 eNil=j1 (x95 call hs u) 0:=tr (sqN 2 xmo)
noncomputable abbrev x11k:=VX x3k 53 r_0
noncomputable def xdc:=xx5 x3k
noncomputable def xb4:=nRs 2 xdc
noncomputable def xdd:=nL xb4
noncomputable def xmp:=nR xb4
noncomputable def xde:=nR xdd
noncomputable def xdf:=nR xde
noncomputable def xmq:=nR xdf
theorem xmr:x11k call hs u xmp r_0 eNil=j0 (x20 call hs u):=by kernel_rfl
theorem xms{rec0:AV->AV->Mem->Nat->O2}:x11k call hs u xmq (j2 rec0 1 3) (setE 0 (j0 (x20 call hs u)) eNil)=j2 (x5g call hs u rec0) 1 3:=by kernel_rfl
theorem xmt:x11k call hs u xdf (j0 (x20 call hs u)) (setE 0 (j0 (x20 call hs u)) eNil)=j2 (x21 call hs u NN) 1 3:=lp (Ln:=fun n=>j2 (x21 call hs u n) 1 3) fun n=>tr xms
theorem xmu:x11k call hs u xde (j0 (x20 call hs u)) eNil=j2 (x21 call hs u NN) 1 3:=bk xmt
theorem xmv:x11k call hs u xdd (j0 (x20 call hs u)) eNil=j1 (x4i call hs u) 1:=tr (sqN 1 xmu)
theorem xmw:x11k call hs u xb4 r_0 eNil=j1 (x4i call hs u) 1:=sq2 xmr xmv
theorem xju:x11k call hs u xdc r_0 eNil=j1 (x96 call hs u) 0:=tr (sqN 2 xmw)
noncomputable abbrev x11l:=VX x2u 64 r_4
noncomputable def xdg:=xx5 x2u
noncomputable def xb5:=nRs 3 xdg
noncomputable def xdh:=nL xb5
noncomputable def xmx:=nR xb5
noncomputable def xdi:=nR xdh
noncomputable def xdj:=nR xdi
noncomputable def xmy:=nR xdj
theorem xmz:x11l call hs u xmx r_4 eNil=j3 (x22 call hs u) 1 2 7:=by kernel_rfl
theorem xn0{rec0:AV->AV->AV->AV->AV->AV->Mem->Nat->O2}:x11l call hs u xmy (j6 rec0 1 2 7 19 20 21) (setE 0 (j3 (x22 call hs u) 1 2 7) eNil)=j6 (x5h call hs u rec0) 1 2 7 19 20 21:=by kernel_rfl
theorem xn1:x11l call hs u xdj (j3 (x22 call hs u) 1 2 7) (setE 0 (j3 (x22 call hs u) 1 2 7) eNil)=j6 (x18 call hs u NN) 1 2 7 19 20 21:=lp (Ln:=fun n=>j6 (x18 call hs u n) 1 2 7 19 20 21) fun n=>tr xn0
theorem xn2:x11l call hs u xdi (j3 (x22 call hs u) 1 2 7) eNil=j6 (x18 call hs u NN) 1 2 7 19 20 21:=bk xn1
theorem xn3:x11l call hs u xdh (j3 (x22 call hs u) 1 2 7) eNil=j3 (x5i call hs u) 1 2 7:=tr (sqN 1 xn2)
theorem xn4:x11l call hs u xb5 r_4 eNil=j3 (x5i call hs u) 1 2 7:=sq2 xmz xn3
theorem xjv:x11l call hs u xdg r_4 eNil=j2 (x97 call hs u) 0 1:=tr (sqN 3 xn4)
noncomputable abbrev x1br:=VX x1m 12 r_5
noncomputable def xn5:=xx5 x1m
theorem xjw:x1br call hs u xn5 r_5 eNil=j1 (x98 call hs u) 0:=by kernel_rfl
noncomputable abbrev x1bs:=VX x3l 6 r_0
noncomputable def xn6:=xx5 x3l
theorem xjx:x1bs call hs u xn6 r_0 eNil=j1 (x5j call hs u) 0:=by kernel_rfl
noncomputable abbrev x1bt:=VX x3m 11 r_0
noncomputable def xn7:=xx5 x3m
theorem xjy:x1bt call hs u xn7 r_0 eNil=j1 (x9a call hs u) 0:=by kernel_rfl
noncomputable abbrev x11m:=VX x1n 18 r_2
noncomputable def xdk:=xx5 x1n
noncomputable def xb6:=nR xdk
noncomputable def xdl:=nL xb6
noncomputable def xn8:=nR xb6
noncomputable def xdm:=nR xdl
noncomputable def xdn:=nR xdm
noncomputable def xn9:=nR xdn
theorem xna:x11m call hs u xn8 r_2 eNil=j0 (x23 call hs u):=by kernel_rfl
theorem xnb{rec0:AV->AV->AV->Mem->Nat->O2}:x11m call hs u xn9 (j3 rec0 0 1 5) (setE 0 (j0 (x23 call hs u)) eNil)=j3 (x5k call hs u rec0) 0 1 5:=by kernel_rfl
theorem xnc:x11m call hs u xdn (j0 (x23 call hs u)) (setE 0 (j0 (x23 call hs u)) eNil)=j3 (x24 call hs u NN) 0 1 5:=lp (Ln:=fun n=>j3 (x24 call hs u n) 0 1 5) fun n=>tr xnb
theorem xnd:x11m call hs u xdm (j0 (x23 call hs u)) eNil=j3 (x24 call hs u NN) 0 1 5:=bk xnc
theorem xne:x11m call hs u xdl (j0 (x23 call hs u)) eNil=j2 (x9b call hs u) 0 1:=tr (sqN 1 xnd)
theorem xnf:x11m call hs u xb6 r_2 eNil=j2 (x9b call hs u) 0 1:=sq2 xna xne
theorem xjz:x11m call hs u xdk r_2 eNil=j2 (xcj call hs u) 0 1:=tr (sqN 1 xnf)
noncomputable abbrev xyy:=VX x3n 59 r_2
noncomputable def xdo:=xx5 x3n
noncomputable def xb7:=nRs 4 xdo
noncomputable def xdp:=nL xb7
noncomputable def xng:=nR xb7
noncomputable def xdq:=nR xdp
noncomputable def xdr:=nR xdq
noncomputable def xds:=nR xdr
noncomputable def xb8:=nR xds
noncomputable def xdt:=nL xb8
noncomputable def xnh:=nR xb8
noncomputable def xdu:=nR xdt
noncomputable def xb9:=nRs 4 xdu
noncomputable def xni:=nL xb9
noncomputable def xnj:=nR xb9
theorem xnk:xyy call hs u xng r_2 eNil=j2 (xh call hs u) 5 6:=by kernel_rfl
theorem xnl{rec0:AV->AV->AV->AV->AV->Mem->Nat->O2}:xyy call hs u xnh (j5 rec0 1 2 5 6 7) (setE 0 (j2 (xh call hs u) 5 6) eNil)=j5 (xq call hs u rec0) 1 2 5 6 7:=by kernel_rfl
theorem xnm{rec0:AV->AV->AV->AV->AV->Mem->Nat->O2}:xyy call hs u xnj (j5 (xq call hs u rec0) 1 2 5 6 7) (setE 1 (j5 (xq call hs u rec0) 1 2 5 6 7) (setE 0 (j2 (xh call hs u) 5 6) eNil))=j5 (x4j call hs u rec0) 1 2 5 7 10:=by kernel_rfl
theorem xnn{rec0:AV->AV->AV->AV->AV->Mem->Nat->O2}:xyy call hs u xni (j5 (x4j call hs u rec0) 1 2 5 7 10) (setE 1 (j5 (xq call hs u rec0) 1 2 5 6 7) (setE 0 (j2 (xh call hs u) 5 6) eNil))=j7 (x4k call hs u rec0) 1 2 5 6 7 9 10:=by kernel_rfl
theorem xno{rec0:AV->AV->AV->AV->AV->Mem->Nat->O2}:xyy call hs u xb9 (j5 (xq call hs u rec0) 1 2 5 6 7) (setE 1 (j5 (xq call hs u rec0) 1 2 5 6 7) (setE 0 (j2 (xh call hs u) 5 6) eNil))=j7 (x4k call hs u rec0) 1 2 5 6 7 9 10:=sq2 xnm xnn
theorem xnp{rec0:AV->AV->AV->AV->AV->Mem->Nat->O2}:xyy call hs u xdu (j5 (xq call hs u rec0) 1 2 5 6 7) (setE 1 (j5 (xq call hs u rec0) 1 2 5 6 7) (setE 0 (j2 (xh call hs u) 5 6) eNil))=j5 (x4l call hs u rec0) 1 2 5 6 7:=tr (sqN 4 xno)
theorem xnq{rec0:AV->AV->AV->AV->AV->Mem->Nat->O2}:xyy call hs u xdt (j5 (xq call hs u rec0) 1 2 5 6 7) (setE 0 (j2 (xh call hs u) 5 6) eNil)=j5 (x4l call hs u rec0) 1 2 5 6 7:=bk xnp
theorem xnr{rec0:AV->AV->AV->AV->AV->Mem->Nat->O2}:xyy call hs u xb8 (j5 rec0 1 2 5 6 7) (setE 0 (j2 (xh call hs u) 5 6) eNil)=j5 (x4l call hs u rec0) 1 2 5 6 7:=sq2 xnl xnq
theorem xns{rec0:AV->AV->AV->AV->AV->Mem->Nat->O2}:xyy call hs u xds (j5 rec0 1 2 5 6 7) (setE 0 (j2 (xh call hs u) 5 6) eNil)=j5 (x5l call hs u rec0) 1 2 5 6 7:=tr (sqN 1 xnr)
theorem xnt:xyy call hs u xdr (j2 (xh call hs u) 5 6) (setE 0 (j2 (xh call hs u) 5 6) eNil)=j5 (x1b call hs u NN) 1 2 5 6 7:=lp (Ln:=fun n=>j5 (x1b call hs u n) 1 2 5 6 7) fun n=>tr xns
theorem xnu:xyy call hs u xdq (j2 (xh call hs u) 5 6) eNil=j5 (x1b call hs u NN) 1 2 5 6 7:=bk xnt
theorem xnv:xyy call hs u xdp (j2 (xh call hs u) 5 6) eNil=j4 (x5m call hs u) 1 2 5 6:=tr (sqN 1 xnu)
theorem xnw:xyy call hs u xb7 r_2 eNil=j4 (x5m call hs u) 1 2 5 6:=sq2 xnk xnv
theorem xk0:xyy call hs u xdo r_2 eNil=j2 (x9c call hs u) 0 1:=tr (sqN 4 xnw)
noncomputable abbrev x1bu:=VX x2v 20 r_6
noncomputable def xnx:=xx5 x2v
theorem xk1:x1bu call hs u xnx r_6 eNil=j1 (x9d call hs u) 0:=by kernel_rfl
noncomputable abbrev xxm:=VX x2w 98 r_3
noncomputable def xdv:=xx5 x2w
noncomputable def xba:=nRs 4 xdv
noncomputable def xdw:=nL xba
noncomputable def xdx:=nR xba
noncomputable def xbb:=nR xdx
noncomputable def xdy:=nL xbb
noncomputable def xny:=nR xbb
noncomputable def xdz:=nR xdy
noncomputable def xe0:=nR xdz
noncomputable def xe1:=nR xe0
noncomputable def xbc:=nR xe1
noncomputable def xnz:=nL xbc
noncomputable def xo0:=nR xbc
noncomputable def xe2:=nR xdw
noncomputable def xe3:=nR xe2
noncomputable def xe4:=nR xe3
noncomputable def xbd:=nRs 2 xe4
noncomputable def xe5:=nL xbd
noncomputable def xo1:=nR xbd
noncomputable def xe6:=nR xe5
noncomputable def xbe:=nR xe6
noncomputable def xe7:=nL xbe
noncomputable def xo2:=nR xbe
noncomputable def xe8:=nR xe7
noncomputable def xe9:=nR xe8
noncomputable def xea:=nR xe9
noncomputable def xbf:=nR xea
noncomputable def xo3:=nL xbf
noncomputable def xo4:=nR xbf
theorem xo5:xxm call hs u xny r_3 eNil=j2 (xr call hs u) 5 10:=by kernel_rfl
theorem xo6{rec0:AV->AV->AV->AV->AV->Mem->Nat->O2}:xxm call hs u xo0 (j5 rec0 1 4 5 10 11) (setE 4 (j2 (xr call hs u) 5 10) eNil)=j5 (x49 call hs u rec0) 1 4 5 10 11:=by kernel_rfl
theorem xo7{rec0:AV->AV->AV->AV->AV->Mem->Nat->O2}:xxm call hs u xnz (j5 (x49 call hs u rec0) 1 4 5 10 11) (setE 4 (j2 (xr call hs u) 5 10) eNil)=j5 (x5n call hs u rec0) 1 4 5 10 11:=by kernel_rfl
theorem xo8{rec0:AV->AV->AV->AV->AV->Mem->Nat->O2}:xxm call hs u xbc (j5 rec0 1 4 5 10 11) (setE 4 (j2 (xr call hs u) 5 10) eNil)=j5 (x5n call hs u rec0) 1 4 5 10 11:=sq2 xo6 xo7
theorem xo9{rec0:AV->AV->AV->AV->AV->Mem->Nat->O2}:xxm call hs u xe1 (j5 rec0 1 4 5 10 11) (setE 4 (j2 (xr call hs u) 5 10) eNil)=j5 (x5o call hs u rec0) 1 4 5 10 11:=tr (sqN 1 xo8)
theorem xoa:xxm call hs u xe0 (j2 (xr call hs u) 5 10) (setE 4 (j2 (xr call hs u) 5 10) eNil)=j5 (x25 call hs u NN) 1 4 5 10 11:=lp (Ln:=fun n=>j5 (x25 call hs u n) 1 4 5 10 11) fun n=>tr xo9
theorem xob:xxm call hs u xdz (j2 (xr call hs u) 5 10) eNil=j5 (x25 call hs u NN) 1 4 5 10 11:=bk xoa
theorem xoc:xxm call hs u xdy (j2 (xr call hs u) 5 10) eNil=j4 (x5p call hs u) 1 4 5 10:=tr (sqN 1 xob)
theorem xod:xxm call hs u xbb r_3 eNil=j4 (x5p call hs u) 1 4 5 10:=sq2 xo5 xoc
theorem xoe:xxm call hs u xdx r_3 eNil=j3 (x7 call hs u) 1 4 5:=tr (sqN 1 xod)
theorem xof{rec1:AV->AV->AV->AV->AV->AV->Mem->Nat->O2}:xxm call hs u xo1 (j6 rec1 1 4 5 6 18 19) (setE 0 (j3 (x7 call hs u) 1 4 5) eNil)=j6 (x8 call hs u rec1) 1 4 5 6 18 19:=by kernel_rfl
theorem xog{rec1:AV->AV->AV->AV->AV->AV->Mem->Nat->O2}:xxm call hs u xo2 (j6 (x8 call hs u rec1) 1 4 5 6 18 19) (setE 1 (j6 (x8 call hs u rec1) 1 4 5 6 18 19) (setE 0 (j3 (x7 call hs u) 1 4 5) eNil))=j7 (xp call hs u rec1) 1 4 5 6 7 18 19:=by kernel_rfl
theorem xoh{rec1:AV->AV->AV->AV->AV->AV->Mem->Nat->O2}{rec2:AV->AV->AV->AV->AV->AV->AV->AV->Mem->Nat->O2}:xxm call hs u xo4 (j8 rec2 1 4 5 6 7 8 18 19) (setE 2 (j7 (xp call hs u rec1) 1 4 5 6 7 18 19) (setE 1 (j6 (x8 call hs u rec1) 1 4 5 6 18 19) (setE 0 (j3 (x7 call hs u) 1 4 5) eNil)))=j8 (x26 call hs u rec1 rec2) 1 4 5 6 7 8 18 19:=by kernel_rfl
theorem xoi{rec1:AV->AV->AV->AV->AV->AV->Mem->Nat->O2}{rec2:AV->AV->AV->AV->AV->AV->AV->AV->Mem->Nat->O2}:xxm call hs u xo3 (j8 (x26 call hs u rec1 rec2) 1 4 5 6 7 8 18 19) (setE 2 (j7 (xp call hs u rec1) 1 4 5 6 7 18 19) (setE 1 (j6 (x8 call hs u rec1) 1 4 5 6 18 19) (setE 0 (j3 (x7 call hs u) 1 4 5) eNil)))=j8 (x5q call hs u rec1 rec2) 1 4 5 6 7 8 18 19:=by kernel_rfl
theorem xoj{rec1:AV->AV->AV->AV->AV->AV->Mem->Nat->O2}{rec2:AV->AV->AV->AV->AV->AV->AV->AV->Mem->Nat->O2}:xxm call hs u xbf (j8 rec2 1 4 5 6 7 8 18 19) (setE 2 (j7 (xp call hs u rec1) 1 4 5 6 7 18 19) (setE 1 (j6 (x8 call hs u rec1) 1 4 5 6 18 19) (setE 0 (j3 (x7 call hs u) 1 4 5) eNil)))=j8 (x5q call hs u rec1 rec2) 1 4 5 6 7 8 18 19:=sq2 xoh xoi
theorem xok{rec1:AV->AV->AV->AV->AV->AV->Mem->Nat->O2}{rec2:AV->AV->AV->AV->AV->AV->AV->AV->Mem->Nat->O2}:xxm call hs u xea (j8 rec2 1 4 5 6 7 8 18 19) (setE 2 (j7 (xp call hs u rec1) 1 4 5 6 7 18 19) (setE 1 (j6 (x8 call hs u rec1) 1 4 5 6 18 19) (setE 0 (j3 (x7 call hs u) 1 4 5) eNil)))=j8 (x5r call hs u rec1 rec2) 1 4 5 6 7 8 18 19:=tr (sqN 1 xoj)
theorem xol{rec1:AV->AV->AV->AV->AV->AV->Mem->Nat->O2}:xxm call hs u xe9 (j7 (xp call hs u rec1) 1 4 5 6 7 18 19) (setE 2 (j7 (xp call hs u rec1) 1 4 5 6 7 18 19) (setE 1 (j6 (x8 call hs u rec1) 1 4 5 6 18 19) (setE 0 (j3 (x7 call hs u) 1 4 5) eNil)))=j8 (x1c call hs u rec1 NN) 1 4 5 6 7 8 18 19:=lp (Ln:=fun n=>j8 (x1c call hs u rec1 n) 1 4 5 6 7 8 18 19) fun n=>tr xok
theorem xom{rec1:AV->AV->AV->AV->AV->AV->Mem->Nat->O2}:xxm call hs u xe8 (j7 (xp call hs u rec1) 1 4 5 6 7 18 19) (setE 1 (j6 (x8 call hs u rec1) 1 4 5 6 18 19) (setE 0 (j3 (x7 call hs u) 1 4 5) eNil))=j8 (x1c call hs u rec1 NN) 1 4 5 6 7 8 18 19:=bk xol
theorem xon{rec1:AV->AV->AV->AV->AV->AV->Mem->Nat->O2}:xxm call hs u xe7 (j7 (xp call hs u rec1) 1 4 5 6 7 18 19) (setE 1 (j6 (x8 call hs u rec1) 1 4 5 6 18 19) (setE 0 (j3 (x7 call hs u) 1 4 5) eNil))=j7 (x5s call hs u rec1) 1 4 5 6 7 18 19:=tr (sqN 1 xom)
theorem xoo{rec1:AV->AV->AV->AV->AV->AV->Mem->Nat->O2}:xxm call hs u xbe (j6 (x8 call hs u rec1) 1 4 5 6 18 19) (setE 1 (j6 (x8 call hs u rec1) 1 4 5 6 18 19) (setE 0 (j3 (x7 call hs u) 1 4 5) eNil))=j7 (x5s call hs u rec1) 1 4 5 6 7 18 19:=sq2 xog xon
theorem xop{rec1:AV->AV->AV->AV->AV->AV->Mem->Nat->O2}:xxm call hs u xe6 (j6 (x8 call hs u rec1) 1 4 5 6 18 19) (setE 1 (j6 (x8 call hs u rec1) 1 4 5 6 18 19) (setE 0 (j3 (x7 call hs u) 1 4 5) eNil))=j6 (x4m call hs u rec1) 1 4 5 6 18 19:=tr (sqN 1 xoo)
theorem xoq{rec1:AV->AV->AV->AV->AV->AV->Mem->Nat->O2}:xxm call hs u xe5 (j6 (x8 call hs u rec1) 1 4 5 6 18 19) (setE 0 (j3 (x7 call hs u) 1 4 5) eNil)=j6 (x4m call hs u rec1) 1 4 5 6 18 19:=bk xop
theorem xor{rec1:AV->AV->AV->AV->AV->AV->Mem->Nat->O2}:xxm call hs u xbd (j6 rec1 1 4 5 6 18 19) (setE 0 (j3 (x7 call hs u) 1 4 5) eNil)=j6 (x4m call hs u rec1) 1 4 5 6 18 19:=sq2 xof xoq
theorem xos{rec1:AV->AV->AV->AV->AV->AV->Mem->Nat->O2}:xxm call hs u xe4 (j6 rec1 1 4 5 6 18 19) (setE 0 (j3 (x7 call hs u) 1 4 5) eNil)=j6 (x5t call hs u rec1) 1 4 5 6 18 19:=tr (sqN 2 xor)
theorem xot:xxm call hs u xe3 (j3 (x7 call hs u) 1 4 5) (setE 0 (j3 (x7 call hs u) 1 4 5) eNil)=j6 (x11 call hs u NN) 1 4 5 6 18 19:=lp (Ln:=fun n=>j6 (x11 call hs u n) 1 4 5 6 18 19) fun n=>tr xos
theorem xou:xxm call hs u xe2 (j3 (x7 call hs u) 1 4 5) eNil=j6 (x11 call hs u NN) 1 4 5 6 18 19:=bk xot
theorem xov:xxm call hs u xdw (j3 (x7 call hs u) 1 4 5) eNil=j4 (x5u call hs u) 1 4 5 6:=tr (sqN 1 xou)
theorem xow:xxm call hs u xba r_3 eNil=j4 (x5u call hs u) 1 4 5 6:=sq2 xoe xov
theorem xk2:xxm call hs u xdv r_3 eNil=j1 (x9e call hs u) 0:=tr (sqN 4 xow)
noncomputable abbrev x1bv:=VX x2x 22 r_4
noncomputable def xox:=xx5 x2x
theorem xk3:x1bv call hs u xox r_4 eNil=j2 (x9f call hs u) 0 1:=by kernel_rfl
noncomputable abbrev x1bw:=VX xw 40 r_2
noncomputable def xoy:=xx5 xw
theorem xk4:x1bw call hs u xoy r_2 eNil=j2 (x9g call hs u) 0 1:=by kernel_rfl
noncomputable abbrev x1bx:=VX x2y 7 r_0
noncomputable def xoz:=xx5 x2y
theorem xk5:x1bx call hs u xoz r_0 eNil=j1 (x9h call hs u) 0:=by kernel_rfl
noncomputable abbrev x1by:=VX xx 15 r_1
noncomputable def xp0:=xx5 xx
theorem xk6:x1by call hs u xp0 r_1 eNil=j3 (x9i call hs u) 0 1 2:=by kernel_rfl
noncomputable abbrev x11n:=VX x2z 42 r_3
noncomputable def xeb:=xx5 x2z
noncomputable def xbg:=nRs 2 xeb
noncomputable def xec:=nL xbg
noncomputable def xp1:=nR xbg
noncomputable def xed:=nR xec
noncomputable def xee:=nR xed
noncomputable def xp2:=nR xee
theorem xp3:x11n call hs u xp1 r_3 eNil=j0 (x27 call hs u):=by kernel_rfl
theorem xp4{rec0:AV->AV->AV->AV->Mem->Nat->O2}:x11n call hs u xp2 (j4 rec0 0 9 10 11) (setE 0 (j0 (x27 call hs u)) eNil)=j4 (x5v call hs u rec0) 0 9 10 11:=by kernel_rfl
theorem xp5:x11n call hs u xee (j0 (x27 call hs u)) (setE 0 (j0 (x27 call hs u)) eNil)=j4 (x1d call hs u NN) 0 9 10 11:=lp (Ln:=fun n=>j4 (x1d call hs u n) 0 9 10 11) fun n=>tr xp4
theorem xp6:x11n call hs u xed (j0 (x27 call hs u)) eNil=j4 (x1d call hs u NN) 0 9 10 11:=bk xp5
theorem xp7:x11n call hs u xec (j0 (x27 call hs u)) eNil=j1 (x5w call hs u) 0:=tr (sqN 1 xp6)
theorem xp8:x11n call hs u xbg r_3 eNil=j1 (x5w call hs u) 0:=sq2 xp3 xp7
theorem xk7:x11n call hs u xeb r_3 eNil=j1 (x9j call hs u) 0:=tr (sqN 2 xp8)
noncomputable abbrev x1bz:=VX x3o 10 r_2
noncomputable def xp9:=xx5 x3o
theorem xk8:x1bz call hs u xp9 r_2 eNil=j2 (x9k call hs u) 0 1:=by kernel_rfl
noncomputable abbrev x11o:=VX x3p 55 r_0
noncomputable def xef:=xx5 x3p
noncomputable def xbh:=nRs 2 xef
noncomputable def xeg:=nL xbh
noncomputable def xpa:=nR xbh
noncomputable def xeh:=nR xeg
noncomputable def xei:=nR xeh
noncomputable def xpb:=nR xei
theorem xpc:x11o call hs u xpa r_0 eNil=j0 (x28 call hs u):=by kernel_rfl
theorem xpd{rec0:AV->AV->Mem->Nat->O2}:x11o call hs u xpb (j2 rec0 0 3) (setE 0 (j0 (x28 call hs u)) eNil)=j2 (x5x call hs u rec0) 0 3:=by kernel_rfl
theorem xpe:x11o call hs u xei (j0 (x28 call hs u)) (setE 0 (j0 (x28 call hs u)) eNil)=j2 (x1e call hs u NN) 0 3:=lp (Ln:=fun n=>j2 (x1e call hs u n) 0 3) fun n=>tr xpd
theorem xpf:x11o call hs u xeh (j0 (x28 call hs u)) eNil=j2 (x1e call hs u NN) 0 3:=bk xpe
theorem xpg:x11o call hs u xeg (j0 (x28 call hs u)) eNil=j1 (x5y call hs u) 0:=tr (sqN 1 xpf)
theorem xph:x11o call hs u xbh r_0 eNil=j1 (x5y call hs u) 0:=sq2 xpc xpg
theorem xk9:x11o call hs u xef r_0 eNil=j1 (x9l call hs u) 0:=tr (sqN 2 xph)
noncomputable abbrev x1c0:=VX x30 11 r_0
noncomputable def xpi:=xx5 x30
theorem xka:x1c0 call hs u xpi r_0 eNil=j1 (x9m call hs u) 0:=by kernel_rfl
noncomputable abbrev x11p:=VX x1o 15 r_0
noncomputable def xej:=xx5 x1o
noncomputable def xbi:=nRs 2 xej
noncomputable def xek:=nL xbi
noncomputable def xpj:=nR xbi
noncomputable def xel:=nR xek
noncomputable def xem:=nR xel
noncomputable def xpk:=nR xem
theorem xpl:x11p call hs u xpj r_0 eNil=j1 (x29 call hs u) 3:=by kernel_rfl
theorem xpm{rec0:AV->AV->AV->Mem->Nat->O2}:x11p call hs u xpk (j3 rec0 3 5 6) (setE 0 (j1 (x29 call hs u) 3) eNil)=j3 (x5z call hs u rec0) 3 5 6:=by kernel_rfl
theorem xpn:x11p call hs u xem (j1 (x29 call hs u) 3) (setE 0 (j1 (x29 call hs u) 3) eNil)=j3 (x2a call hs u NN) 3 5 6:=lp (Ln:=fun n=>j3 (x2a call hs u n) 3 5 6) fun n=>tr xpm
theorem xpo:x11p call hs u xel (j1 (x29 call hs u) 3) eNil=j3 (x2a call hs u NN) 3 5 6:=bk xpn
theorem xpp:x11p call hs u xek (j1 (x29 call hs u) 3) eNil=j2 (x60 call hs u) 0 3:=tr (sqN 1 xpo)
theorem xpq:x11p call hs u xbi r_0 eNil=j2 (x60 call hs u) 0 3:=sq2 xpl xpp
theorem xkb:x11p call hs u xej r_0 eNil=j1 (x9n call hs u) 0:=tr (sqN 2 xpq)
noncomputable abbrev x103:=VX x1p 44 r_2
noncomputable def xen:=xx5 x1p
noncomputable def xbj:=nRs 2 xen
noncomputable def xeo:=nL xbj
noncomputable def xpr:=nR xbj
noncomputable def xep:=nR xeo
noncomputable def xeq:=nR xep
noncomputable def xer:=nR xeq
noncomputable def xbk:=nRs 2 xer
noncomputable def xps:=nL xbk
noncomputable def xpt:=nR xbk
theorem xpu:x103 call hs u xpr r_2 eNil=j2 (xt call hs u) 5 6:=by kernel_rfl
theorem xpv{rec0:AV->AV->AV->AV->AV->AV->Mem->Nat->O2}:x103 call hs u xpt (j6 rec0 0 5 6 19 20 21) (setE 0 (j2 (xt call hs u) 5 6) eNil)=j6 (x4o call hs u rec0) 0 5 6 19 20 21:=by kernel_rfl
theorem xpw{rec0:AV->AV->AV->AV->AV->AV->Mem->Nat->O2}:x103 call hs u xps (j6 (x4o call hs u rec0) 0 5 6 19 20 21) (setE 0 (j2 (xt call hs u) 5 6) eNil)=j6 (x61 call hs u rec0) 0 5 6 19 20 21:=by kernel_rfl
theorem xpx{rec0:AV->AV->AV->AV->AV->AV->Mem->Nat->O2}:x103 call hs u xbk (j6 rec0 0 5 6 19 20 21) (setE 0 (j2 (xt call hs u) 5 6) eNil)=j6 (x61 call hs u rec0) 0 5 6 19 20 21:=sq2 xpv xpw
theorem xpy{rec0:AV->AV->AV->AV->AV->AV->Mem->Nat->O2}:x103 call hs u xer (j6 rec0 0 5 6 19 20 21) (setE 0 (j2 (xt call hs u) 5 6) eNil)=j6 (x62 call hs u rec0) 0 5 6 19 20 21:=tr (sqN 2 xpx)
theorem xpz:x103 call hs u xeq (j2 (xt call hs u) 5 6) (setE 0 (j2 (xt call hs u) 5 6) eNil)=j6 (x2b call hs u NN) 0 5 6 19 20 21:=lp (Ln:=fun n=>j6 (x2b call hs u n) 0 5 6 19 20 21) fun n=>tr xpy
theorem xq0:x103 call hs u xep (j2 (xt call hs u) 5 6) eNil=j6 (x2b call hs u NN) 0 5 6 19 20 21:=bk xpz
theorem xq1:x103 call hs u xeo (j2 (xt call hs u) 5 6) eNil=j3 (x63 call hs u) 0 5 6:=tr (sqN 1 xq0)
theorem xq2:x103 call hs u xbj r_2 eNil=j3 (x63 call hs u) 0 5 6:=sq2 xpu xq1
theorem xkc:x103 call hs u xen r_2 eNil=j2 (x9p call hs u) 0 1:=tr (sqN 2 xq2)
noncomputable abbrev x1c1:=VX x31 9 r_2
noncomputable def xq3:=xx5 x31
theorem xkd:x1c1 call hs u xq3 r_2 eNil=j2 (x9q call hs u) 0 1:=by kernel_rfl
noncomputable abbrev x1c2:=VX x1q 15 r_7
noncomputable def xq4:=xx5 x1q
theorem xke:x1c2 call hs u xq4 r_7 eNil=j2 (x9r call hs u) 0 1:=by kernel_rfl
noncomputable abbrev x11q:=VX x32 21 r_2
noncomputable def xes:=xx5 x32
noncomputable def xbl:=nRs 2 xes
noncomputable def xet:=nL xbl
noncomputable def xq5:=nR xbl
noncomputable def xeu:=nR xet
noncomputable def xev:=nR xeu
noncomputable def xq6:=nR xev
theorem xq7:x11q call hs u xq5 r_2 eNil=j1 (x2c call hs u) 5:=by kernel_rfl
theorem xq8{rec0:AV->AV->AV->AV->AV->Mem->Nat->O2}:x11q call hs u xq6 (j5 rec0 2 5 8 9 10) (setE 0 (j1 (x2c call hs u) 5) eNil)=j5 (x64 call hs u rec0) 2 5 8 9 10:=by kernel_rfl
theorem xq9:x11q call hs u xev (j1 (x2c call hs u) 5) (setE 0 (j1 (x2c call hs u) 5) eNil)=j5 (x2d call hs u NN) 2 5 8 9 10:=lp (Ln:=fun n=>j5 (x2d call hs u n) 2 5 8 9 10) fun n=>tr xq8
theorem xqa:x11q call hs u xeu (j1 (x2c call hs u) 5) eNil=j5 (x2d call hs u NN) 2 5 8 9 10:=bk xq9
theorem xqb:x11q call hs u xet (j1 (x2c call hs u) 5) eNil=j3 (x65 call hs u) 1 2 5:=tr (sqN 1 xqa)
theorem xqc:x11q call hs u xbl r_2 eNil=j3 (x65 call hs u) 1 2 5:=sq2 xq7 xqb
theorem xkf:x11q call hs u xes r_2 eNil=j2 (x9s call hs u) 0 1:=tr (sqN 2 xqc)
noncomputable abbrev xyz:=VX x3q 73 r_3
noncomputable def xew:=xx5 x3q
noncomputable def xbm:=nRs 3 xew
noncomputable def xex:=nL xbm
noncomputable def xqd:=nR xbm
noncomputable def xey:=nR xex
noncomputable def xez:=nR xey
noncomputable def xf0:=nR xez
noncomputable def xbn:=nR xf0
noncomputable def xf1:=nL xbn
noncomputable def xqe:=nR xbn
noncomputable def xf2:=nR xf1
noncomputable def xf3:=nRs 4 xf2
noncomputable def xf4:=nR xf3
noncomputable def xqf:=nR xf4
theorem xqg:xyz call hs u xqd r_3 eNil=j0 (xi call hs u):=by kernel_rfl
theorem xqh{rec0:AV->AV->Mem->Nat->O2}:xyz call hs u xqe (j2 rec0 1 6) (setE 0 (j0 (xi call hs u)) eNil)=j2 (xn call hs u rec0) 1 6:=by kernel_rfl
theorem xqi{rec0:AV->AV->Mem->Nat->O2}{rec1:AV->AV->AV->AV->Mem->Nat->O2}:xyz call hs u xqf (j4 rec1 1 6 7 8) (setE 2 (j2 (xn call hs u rec0) 1 6) (setE 1 (j2 (xn call hs u rec0) 1 6) (setE 0 (j0 (xi call hs u)) eNil)))=j4 (x66 call hs u rec0 rec1) 1 6 7 8:=by kernel_rfl
theorem xqj{rec0:AV->AV->Mem->Nat->O2}:xyz call hs u xf4 (j2 (xn call hs u rec0) 1 6) (setE 2 (j2 (xn call hs u rec0) 1 6) (setE 1 (j2 (xn call hs u rec0) 1 6) (setE 0 (j0 (xi call hs u)) eNil)))=j4 (x1f call hs u rec0 NN) 1 6 7 8:=lp (Ln:=fun n=>j4 (x1f call hs u rec0 n) 1 6 7 8) fun n=>tr xqi
theorem xqk{rec0:AV->AV->Mem->Nat->O2}:xyz call hs u xf3 (j2 (xn call hs u rec0) 1 6) (setE 1 (j2 (xn call hs u rec0) 1 6) (setE 0 (j0 (xi call hs u)) eNil))=j4 (x1f call hs u rec0 NN) 1 6 7 8:=bk xqj
theorem xql{rec0:AV->AV->Mem->Nat->O2}:xyz call hs u xf2 (j2 (xn call hs u rec0) 1 6) (setE 1 (j2 (xn call hs u rec0) 1 6) (setE 0 (j0 (xi call hs u)) eNil))=j2 (x4p call hs u rec0) 1 6:=tr (sqN 4 xqk)
theorem xqm{rec0:AV->AV->Mem->Nat->O2}:xyz call hs u xf1 (j2 (xn call hs u rec0) 1 6) (setE 0 (j0 (xi call hs u)) eNil)=j2 (x4p call hs u rec0) 1 6:=bk xql
theorem xqn{rec0:AV->AV->Mem->Nat->O2}:xyz call hs u xbn (j2 rec0 1 6) (setE 0 (j0 (xi call hs u)) eNil)=j2 (x4p call hs u rec0) 1 6:=sq2 xqh xqm
theorem xqo{rec0:AV->AV->Mem->Nat->O2}:xyz call hs u xf0 (j2 rec0 1 6) (setE 0 (j0 (xi call hs u)) eNil)=j2 (x67 call hs u rec0) 1 6:=tr (sqN 1 xqn)
theorem xqp:xyz call hs u xez (j0 (xi call hs u)) (setE 0 (j0 (xi call hs u)) eNil)=j2 (x12 call hs u NN) 1 6:=lp (Ln:=fun n=>j2 (x12 call hs u n) 1 6) fun n=>tr xqo
theorem xqq:xyz call hs u xey (j0 (xi call hs u)) eNil=j2 (x12 call hs u NN) 1 6:=bk xqp
theorem xqr:xyz call hs u xex (j0 (xi call hs u)) eNil=j1 (x68 call hs u) 1:=tr (sqN 1 xqq)
theorem xqs:xyz call hs u xbm r_3 eNil=j1 (x68 call hs u) 1:=sq2 xqg xqr
theorem xkg:xyz call hs u xew r_3 eNil=j1 (x9t call hs u) 0:=tr (sqN 3 xqs)
noncomputable abbrev xy3:=VX x3r 68 r_2
noncomputable def xf5:=xx5 x3r
noncomputable def xbo:=nRs 2 xf5
noncomputable def xf6:=nL xbo
noncomputable def xbp:=nR xbo
noncomputable def xf7:=nL xbp
noncomputable def xqt:=nR xbp
noncomputable def xf8:=nR xf7
noncomputable def xf9:=nR xf8
noncomputable def xfa:=nR xf9
noncomputable def xbq:=nR xfa
noncomputable def xfb:=nL xbq
noncomputable def xqu:=nR xbq
noncomputable def xfc:=nR xfb
noncomputable def xfd:=nRs 3 xfc
noncomputable def xfe:=nR xfd
noncomputable def xff:=nR xfe
noncomputable def xbr:=nR xff
noncomputable def xqv:=nL xbr
noncomputable def xqw:=nR xbr
noncomputable def xfg:=nR xf6
noncomputable def xfh:=nR xfg
noncomputable def xqx:=nR xfh
theorem xqy:xy3 call hs u xqt r_2 eNil=j1 (xb call hs u) 5:=by kernel_rfl
theorem xqz{rec0:AV->AV->AV->AV->Mem->Nat->O2}:xy3 call hs u xqu (j4 rec0 1 2 5 7) (setE 2 (j1 (xb call hs u) 5) eNil)=j4 (x9 call hs u rec0) 1 2 5 7:=by kernel_rfl
theorem xr0{rec0:AV->AV->AV->AV->Mem->Nat->O2}{rec1:AV->AV->AV->AV->AV->AV->AV->Mem->Nat->O2}:xy3 call hs u xqw (j7 rec1 1 2 5 7 9 10 11) (setE 4 (j4 (x9 call hs u rec0) 1 2 5 7) (setE 3 (j4 (x9 call hs u rec0) 1 2 5 7) (setE 2 (j1 (xb call hs u) 5) eNil)))=j7 (x4q call hs u rec0 rec1) 1 2 5 7 9 10 11:=by kernel_rfl
theorem xr1{rec0:AV->AV->AV->AV->Mem->Nat->O2}{rec1:AV->AV->AV->AV->AV->AV->AV->Mem->Nat->O2}:xy3 call hs u xqv (j7 (x4q call hs u rec0 rec1) 1 2 5 7 9 10 11) (setE 4 (j4 (x9 call hs u rec0) 1 2 5 7) (setE 3 (j4 (x9 call hs u rec0) 1 2 5 7) (setE 2 (j1 (xb call hs u) 5) eNil)))=j7 (x69 call hs u rec0 rec1) 1 2 5 7 9 10 11:=by kernel_rfl
theorem xr2{rec0:AV->AV->AV->AV->Mem->Nat->O2}{rec1:AV->AV->AV->AV->AV->AV->AV->Mem->Nat->O2}:xy3 call hs u xbr (j7 rec1 1 2 5 7 9 10 11) (setE 4 (j4 (x9 call hs u rec0) 1 2 5 7) (setE 3 (j4 (x9 call hs u rec0) 1 2 5 7) (setE 2 (j1 (xb call hs u) 5) eNil)))=j7 (x69 call hs u rec0 rec1) 1 2 5 7 9 10 11:=sq2 xr0 xr1
theorem xr3{rec0:AV->AV->AV->AV->Mem->Nat->O2}{rec1:AV->AV->AV->AV->AV->AV->AV->Mem->Nat->O2}:xy3 call hs u xff (j7 rec1 1 2 5 7 9 10 11) (setE 4 (j4 (x9 call hs u rec0) 1 2 5 7) (setE 3 (j4 (x9 call hs u rec0) 1 2 5 7) (setE 2 (j1 (xb call hs u) 5) eNil)))=j7 (x6a call hs u rec0 rec1) 1 2 5 7 9 10 11:=tr (sqN 1 xr2)
theorem xr4{rec0:AV->AV->AV->AV->Mem->Nat->O2}:xy3 call hs u xfe (j4 (x9 call hs u rec0) 1 2 5 7) (setE 4 (j4 (x9 call hs u rec0) 1 2 5 7) (setE 3 (j4 (x9 call hs u rec0) 1 2 5 7) (setE 2 (j1 (xb call hs u) 5) eNil)))=j7 (x1g call hs u rec0 NN) 1 2 5 7 9 10 11:=lp (Ln:=fun n=>j7 (x1g call hs u rec0 n) 1 2 5 7 9 10 11) fun n=>tr xr3
theorem xr5{rec0:AV->AV->AV->AV->Mem->Nat->O2}:xy3 call hs u xfd (j4 (x9 call hs u rec0) 1 2 5 7) (setE 3 (j4 (x9 call hs u rec0) 1 2 5 7) (setE 2 (j1 (xb call hs u) 5) eNil))=j7 (x1g call hs u rec0 NN) 1 2 5 7 9 10 11:=bk xr4
theorem xr6{rec0:AV->AV->AV->AV->Mem->Nat->O2}:xy3 call hs u xfc (j4 (x9 call hs u rec0) 1 2 5 7) (setE 3 (j4 (x9 call hs u rec0) 1 2 5 7) (setE 2 (j1 (xb call hs u) 5) eNil))=j4 (x4r call hs u rec0) 1 2 5 7:=tr (sqN 3 xr5)
theorem xr7{rec0:AV->AV->AV->AV->Mem->Nat->O2}:xy3 call hs u xfb (j4 (x9 call hs u rec0) 1 2 5 7) (setE 2 (j1 (xb call hs u) 5) eNil)=j4 (x4r call hs u rec0) 1 2 5 7:=bk xr6
theorem xr8{rec0:AV->AV->AV->AV->Mem->Nat->O2}:xy3 call hs u xbq (j4 rec0 1 2 5 7) (setE 2 (j1 (xb call hs u) 5) eNil)=j4 (x4r call hs u rec0) 1 2 5 7:=sq2 xqz xr7
theorem xr9{rec0:AV->AV->AV->AV->Mem->Nat->O2}:xy3 call hs u xfa (j4 rec0 1 2 5 7) (setE 2 (j1 (xb call hs u) 5) eNil)=j4 (x6b call hs u rec0) 1 2 5 7:=tr (sqN 1 xr8)
theorem xra:xy3 call hs u xf9 (j1 (xb call hs u) 5) (setE 2 (j1 (xb call hs u) 5) eNil)=j4 (x1h call hs u NN) 1 2 5 7:=lp (Ln:=fun n=>j4 (x1h call hs u n) 1 2 5 7) fun n=>tr xr9
theorem xrb:xy3 call hs u xf8 (j1 (xb call hs u) 5) eNil=j4 (x1h call hs u NN) 1 2 5 7:=bk xra
theorem xrc:xy3 call hs u xf7 (j1 (xb call hs u) 5) eNil=j3 (x1i call hs u) 1 2 5:=tr (sqN 1 xrb)
theorem xrd:xy3 call hs u xbp r_2 eNil=j3 (x1i call hs u) 1 2 5:=sq2 xqy xrc
theorem xre{rec2:AV->AV->AV->AV->Mem->Nat->O2}:xy3 call hs u xqx (j4 rec2 1 2 5 6) (setE 0 (j3 (x1i call hs u) 1 2 5) eNil)=j4 (x6c call hs u rec2) 1 2 5 6:=by kernel_rfl
theorem xrf:xy3 call hs u xfh (j3 (x1i call hs u) 1 2 5) (setE 0 (j3 (x1i call hs u) 1 2 5) eNil)=j4 (x2e call hs u NN) 1 2 5 6:=lp (Ln:=fun n=>j4 (x2e call hs u n) 1 2 5 6) fun n=>tr xre
theorem xrg:xy3 call hs u xfg (j3 (x1i call hs u) 1 2 5) eNil=j4 (x2e call hs u NN) 1 2 5 6:=bk xrf
theorem xrh:xy3 call hs u xf6 (j3 (x1i call hs u) 1 2 5) eNil=j3 (x6d call hs u) 1 2 5:=tr (sqN 1 xrg)
theorem xri:xy3 call hs u xbo r_2 eNil=j3 (x6d call hs u) 1 2 5:=sq2 xrd xrh
theorem xkh:xy3 call hs u xf5 r_2 eNil=j2 (x9u call hs u) 0 1:=tr (sqN 2 xri)
noncomputable abbrev x1c3:=VX x33 7 r_0
noncomputable def xrj:=xx5 x33
theorem xki:x1c3 call hs u xrj r_0 eNil=j1 (x9v call hs u) 0:=by kernel_rfl
noncomputable abbrev x1c4:=VX x3s 25 r_4
noncomputable def xrk:=xx5 x3s
theorem xkj:x1c4 call hs u xrk r_4 eNil=j2 (x9w call hs u) 0 1:=by kernel_rfl
noncomputable abbrev x1c5:=VX x3t 24 r_4
noncomputable def xrl:=xx5 x3t
theorem xkk:x1c5 call hs u xrl r_4 eNil=j2 (x9x call hs u) 0 1:=by kernel_rfl
noncomputable abbrev xyo:=VX x34 51 r_0
noncomputable def xfi:=xx5 x34
noncomputable def xbs:=nRs 2 xfi
noncomputable def xfj:=nL xbs
noncomputable def xfk:=nR xbs
noncomputable def xbt:=nRs 2 xfk
noncomputable def xfl:=nL xbt
noncomputable def xrm:=nR xbt
noncomputable def xfm:=nR xfl
noncomputable def xfn:=nR xfm
noncomputable def xfo:=nR xfn
noncomputable def xbu:=nRs 2 xfo
noncomputable def xrn:=nL xbu
noncomputable def xro:=nR xbu
noncomputable def xfp:=nR xfj
noncomputable def xfq:=nR xfp
noncomputable def xrp:=nR xfq
theorem xrq:xyo call hs u xrm r_0 eNil=j1 (xu call hs u) 4:=by kernel_rfl
theorem xrr{rec0:AV->AV->AV->AV->AV->AV->Mem->Nat->O2}:xyo call hs u xro (j6 rec0 1 4 6 29 30 31) (setE 2 (j1 (xu call hs u) 4) eNil)=j6 (x4a call hs u rec0) 1 4 6 29 30 31:=by kernel_rfl
theorem xrs{rec0:AV->AV->AV->AV->AV->AV->Mem->Nat->O2}:xyo call hs u xrn (j6 (x4a call hs u rec0) 1 4 6 29 30 31) (setE 2 (j1 (xu call hs u) 4) eNil)=j6 (x6e call hs u rec0) 1 4 6 29 30 31:=by kernel_rfl
theorem xrt{rec0:AV->AV->AV->AV->AV->AV->Mem->Nat->O2}:xyo call hs u xbu (j6 rec0 1 4 6 29 30 31) (setE 2 (j1 (xu call hs u) 4) eNil)=j6 (x6e call hs u rec0) 1 4 6 29 30 31:=sq2 xrr xrs
theorem xru{rec0:AV->AV->AV->AV->AV->AV->Mem->Nat->O2}:xyo call hs u xfo (j6 rec0 1 4 6 29 30 31) (setE 2 (j1 (xu call hs u) 4) eNil)=j6 (x6f call hs u rec0) 1 4 6 29 30 31:=tr (sqN 2 xrt)
theorem xrv:xyo call hs u xfn (j1 (xu call hs u) 4) (setE 2 (j1 (xu call hs u) 4) eNil)=j6 (x2f call hs u NN) 1 4 6 29 30 31:=lp (Ln:=fun n=>j6 (x2f call hs u n) 1 4 6 29 30 31) fun n=>tr xru
theorem xrw:xyo call hs u xfm (j1 (xu call hs u) 4) eNil=j6 (x2f call hs u NN) 1 4 6 29 30 31:=bk xrv
theorem xrx:xyo call hs u xfl (j1 (xu call hs u) 4) eNil=j4 (x6g call hs u) 1 3 4 6:=tr (sqN 1 xrw)
theorem xry:xyo call hs u xbt r_0 eNil=j4 (x6g call hs u) 1 3 4 6:=sq2 xrq xrx
theorem xrz:xyo call hs u xfk r_0 eNil=j3 (x2g call hs u) 1 3 4:=tr (sqN 2 xry)
theorem xs0{rec1:AV->AV->AV->AV->AV->Mem->Nat->O2}:xyo call hs u xrp (j5 rec1 1 3 4 12 13) (setE 0 (j3 (x2g call hs u) 1 3 4) eNil)=j5 (x6h call hs u rec1) 1 3 4 12 13:=by kernel_rfl
theorem xs1:xyo call hs u xfq (j3 (x2g call hs u) 1 3 4) (setE 0 (j3 (x2g call hs u) 1 3 4) eNil)=j5 (x2h call hs u NN) 1 3 4 12 13:=lp (Ln:=fun n=>j5 (x2h call hs u n) 1 3 4 12 13) fun n=>tr xs0
theorem xs2:xyo call hs u xfp (j3 (x2g call hs u) 1 3 4) eNil=j5 (x2h call hs u NN) 1 3 4 12 13:=bk xs1
theorem xs3:xyo call hs u xfj (j3 (x2g call hs u) 1 3 4) eNil=j3 (x6i call hs u) 1 3 4:=tr (sqN 1 xs2)
theorem xs4:xyo call hs u xbs r_0 eNil=j3 (x6i call hs u) 1 3 4:=sq2 xrz xs3
theorem xkl:xyo call hs u xfi r_0 eNil=j1 (x9y call hs u) 0:=tr (sqN 2 xs4)
noncomputable abbrev x1c6:=VX x3u 5 r_0
noncomputable def xs5:=xx5 x3u
theorem xkm:x1c6 call hs u xs5 r_0 eNil=j1 (x9z call hs u) 0:=by kernel_rfl
noncomputable abbrev x1c7:=VX x3v 6 r_2
noncomputable def xs6:=xx5 x3v
theorem xkn:x1c7 call hs u xs6 r_2 eNil=j2 (xa0 call hs u) 0 1:=by kernel_rfl
noncomputable abbrev x1c8:=VX x3w 9 r_2
noncomputable def xs7:=xx5 x3w
theorem xko:x1c8 call hs u xs7 r_2 eNil=j2 (xa1 call hs u) 0 1:=by kernel_rfl
noncomputable abbrev x1c9:=VX x35 31 r_1
noncomputable def xs8:=xx5 x35
theorem xkp:x1c9 call hs u xs8 r_1 eNil=j3 (xa2 call hs u) 0 1 2:=by kernel_rfl
noncomputable abbrev x1ca:=VX x3x 8 r_1
noncomputable def xs9:=xx5 x3x
theorem xkq:x1ca call hs u xs9 r_1 eNil=j3 (xa3 call hs u) 0 1 2:=by kernel_rfl
noncomputable abbrev xyt:=VX x3y 49 r_0
noncomputable def xfr:=xx5 x3y
noncomputable def xbv:=nRs 2 xfr
noncomputable def xfs:=nL xbv
noncomputable def xsa:=nR xbv
noncomputable def xft:=nR xfs
noncomputable def xfu:=nR xft
noncomputable def xfv:=nR xfu
noncomputable def xbw:=nRs 2 xfv
noncomputable def xfw:=nL xbw
noncomputable def xsb:=nR xbw
noncomputable def xfx:=nR xfw
noncomputable def xfy:=nR xfx
noncomputable def xbx:=nR xfy
noncomputable def xsc:=nL xbx
noncomputable def xsd:=nR xbx
theorem xse:xyt call hs u xsa r_0 eNil=j0 (xf call hs u):=by kernel_rfl
theorem xsf{rec0:AV->AV->AV->Mem->Nat->O2}:xyt call hs u xsb (j3 rec0 13 14 15) (setE 0 (j0 (xf call hs u)) eNil)=j3 (xd call hs u rec0) 13 14 15:=by kernel_rfl
theorem xsg{rec0:AV->AV->AV->Mem->Nat->O2}:xyt call hs u xsd (j3 (xd call hs u rec0) 13 14 15) (setE 2 (j3 (xd call hs u rec0) 13 14 15) (setE 1 (j3 (xd call hs u rec0) 13 14 15) (setE 0 (j0 (xf call hs u)) eNil)))=j6 (x4s call hs u rec0) 3 4 13 14 15 20:=by kernel_rfl
theorem xsh{rec0:AV->AV->AV->Mem->Nat->O2}:xyt call hs u xsc (j6 (x4s call hs u rec0) 3 4 13 14 15 20) (setE 2 (j3 (xd call hs u rec0) 13 14 15) (setE 1 (j3 (xd call hs u rec0) 13 14 15) (setE 0 (j0 (xf call hs u)) eNil)))=j5 (x4t call hs u rec0) 3 4 13 14 15:=by kernel_rfl
theorem xsi{rec0:AV->AV->AV->Mem->Nat->O2}:xyt call hs u xbx (j3 (xd call hs u rec0) 13 14 15) (setE 2 (j3 (xd call hs u rec0) 13 14 15) (setE 1 (j3 (xd call hs u rec0) 13 14 15) (setE 0 (j0 (xf call hs u)) eNil)))=j5 (x4t call hs u rec0) 3 4 13 14 15:=sq2 xsg xsh
theorem xsj{rec0:AV->AV->AV->Mem->Nat->O2}:xyt call hs u xfy (j3 (xd call hs u rec0) 13 14 15) (setE 1 (j3 (xd call hs u rec0) 13 14 15) (setE 0 (j0 (xf call hs u)) eNil))=j5 (x4t call hs u rec0) 3 4 13 14 15:=bk xsi
theorem xsk{rec0:AV->AV->AV->Mem->Nat->O2}:xyt call hs u xfx (j3 (xd call hs u rec0) 13 14 15) (setE 1 (j3 (xd call hs u rec0) 13 14 15) (setE 0 (j0 (xf call hs u)) eNil))=j3 (x4u call hs u rec0) 13 14 15:=tr (sqN 1 xsj)
theorem xsl{rec0:AV->AV->AV->Mem->Nat->O2}:xyt call hs u xfw (j3 (xd call hs u rec0) 13 14 15) (setE 0 (j0 (xf call hs u)) eNil)=j3 (x4u call hs u rec0) 13 14 15:=bk xsk
theorem xsm{rec0:AV->AV->AV->Mem->Nat->O2}:xyt call hs u xbw (j3 rec0 13 14 15) (setE 0 (j0 (xf call hs u)) eNil)=j3 (x4u call hs u rec0) 13 14 15:=sq2 xsf xsl
theorem xsn{rec0:AV->AV->AV->Mem->Nat->O2}:xyt call hs u xfv (j3 rec0 13 14 15) (setE 0 (j0 (xf call hs u)) eNil)=j3 (x6j call hs u rec0) 13 14 15:=tr (sqN 2 xsm)
theorem xso:xyt call hs u xfu (j0 (xf call hs u)) (setE 0 (j0 (xf call hs u)) eNil)=j3 (x1j call hs u NN) 13 14 15:=lp (Ln:=fun n=>j3 (x1j call hs u n) 13 14 15) fun n=>tr xsn
theorem xsp:xyt call hs u xft (j0 (xf call hs u)) eNil=j3 (x1j call hs u NN) 13 14 15:=bk xso
theorem xsq:xyt call hs u xfs (j0 (xf call hs u)) eNil=j1 (x6k call hs u) 0:=tr (sqN 1 xsp)
theorem xsr:xyt call hs u xbv r_0 eNil=j1 (x6k call hs u) 0:=sq2 xse xsq
theorem xkr:xyt call hs u xfr r_0 eNil=j1 (xa4 call hs u) 0:=tr (sqN 2 xsr)
noncomputable abbrev x1cb:=VX x3z 9 r_2
noncomputable def xss:=xx5 x3z
theorem xks:x1cb call hs u xss r_2 eNil=j2 (xa5 call hs u) 0 1:=by kernel_rfl
noncomputable abbrev x1cc:=VX xe 9 r_7
noncomputable def xst:=xx5 xe
theorem xkt:x1cc call hs u xst r_7 eNil=j2 (xa6 call hs u) 0 1:=by kernel_rfl
noncomputable abbrev x11r:=VX x40 66 r_3
noncomputable def xfz:=xx5 x40
noncomputable def xby:=nRs 4 xfz
noncomputable def xg0:=nL xby
noncomputable def xsu:=nR xby
noncomputable def xg1:=nR xg0
noncomputable def xg2:=nR xg1
noncomputable def xsv:=nR xg2
theorem xsw:x11r call hs u xsu r_3 eNil=j0 (x2i call hs u):=by kernel_rfl
theorem xsx{rec0:AV->AV->AV->AV->AV->Mem->Nat->O2}:x11r call hs u xsv (j5 rec0 1 6 26 27 28) (setE 0 (j0 (x2i call hs u)) eNil)=j5 (x6l call hs u rec0) 1 6 26 27 28:=by kernel_rfl
theorem xsy:x11r call hs u xg2 (j0 (x2i call hs u)) (setE 0 (j0 (x2i call hs u)) eNil)=j5 (x1k call hs u NN) 1 6 26 27 28:=lp (Ln:=fun n=>j5 (x1k call hs u n) 1 6 26 27 28) fun n=>tr xsx
theorem xsz:x11r call hs u xg1 (j0 (x2i call hs u)) eNil=j5 (x1k call hs u NN) 1 6 26 27 28:=bk xsy
theorem xt0:x11r call hs u xg0 (j0 (x2i call hs u)) eNil=j2 (x6m call hs u) 1 6:=tr (sqN 1 xsz)
theorem xt1:x11r call hs u xby r_3 eNil=j2 (x6m call hs u) 1 6:=sq2 xsw xt0
theorem xku:x11r call hs u xfz r_3 eNil=j1 (xa8 call hs u) 0:=tr (sqN 4 xt1)
noncomputable abbrev x11s:=VX x41 19 r_2
noncomputable def xg3:=xx5 x41
noncomputable def xbz:=nR xg3
noncomputable def xg4:=nL xbz
noncomputable def xt2:=nR xbz
noncomputable def xg5:=nR xg4
noncomputable def xg6:=nR xg5
noncomputable def xt3:=nR xg6
theorem xt4:x11s call hs u xt2 r_2 eNil=j0 (x2j call hs u):=by kernel_rfl
theorem xt5{rec0:AV->AV->AV->AV->Mem->Nat->O2}:x11s call hs u xt3 (j4 rec0 0 1 7 8) (setE 0 (j0 (x2j call hs u)) eNil)=j4 (x6n call hs u rec0) 0 1 7 8:=by kernel_rfl
theorem xt6:x11s call hs u xg6 (j0 (x2j call hs u)) (setE 0 (j0 (x2j call hs u)) eNil)=j4 (x2k call hs u NN) 0 1 7 8:=lp (Ln:=fun n=>j4 (x2k call hs u n) 0 1 7 8) fun n=>tr xt5
theorem xt7:x11s call hs u xg5 (j0 (x2j call hs u)) eNil=j4 (x2k call hs u NN) 0 1 7 8:=bk xt6
theorem xt8:x11s call hs u xg4 (j0 (x2j call hs u)) eNil=j2 (x6o call hs u) 0 1:=tr (sqN 1 xt7)
theorem xt9:x11s call hs u xbz r_2 eNil=j2 (x6o call hs u) 0 1:=sq2 xt4 xt8
theorem xkv:x11s call hs u xg3 r_2 eNil=j2 (xa9 call hs u) 0 1:=tr (sqN 1 xt9)
noncomputable abbrev x1cd:=VX x1r 41 r_2
noncomputable def xta:=xx5 x1r
theorem xkw:x1cd call hs u xta r_2 eNil=j2 (xaa call hs u) 0 1:=by kernel_rfl
noncomputable abbrev x1ce:=VX x42 9 r_8
noncomputable def xtb:=xx5 x42
theorem xkx:x1ce call hs u xtb r_8 eNil=j2 (xab call hs u) 0 1:=by kernel_rfl
noncomputable abbrev x1cf:=VX x36 13 r_9
noncomputable def xtc:=xx5 x36
theorem xky:x1cf call hs u xtc r_9 eNil=j3 (xac call hs u) 0 1 2:=by kernel_rfl
noncomputable abbrev x1cg:=VX x43 11 r_8
noncomputable def xtd:=xx5 x43
theorem xkz:x1cg call hs u xtd r_8 eNil=j1 (xad call hs u) 0:=by kernel_rfl
noncomputable abbrev x12f:=VX x1s 13 r_2
noncomputable abbrev x19e:=VX (R:=Mem) x1s 13 fNil
noncomputable def xg7:=xx5 x1s
noncomputable def xc0:=nR xg7
noncomputable def xg8:=nL xc0
noncomputable def xte:=nR xc0
noncomputable def xg9:=nR xg8
noncomputable def x7c:=nR xg9
noncomputable def xtf:=nL x7c
noncomputable def xtg:=nR x7c
theorem xth:x12f call hs u xte r_2 eNil=j1 (x3c call hs u) 2:=by kernel_rfl
theorem xti:x19e call hs u xtg (fun s=>some s.m) eNil=j2 (x6p call hs u) 2 5:=by kernel_rfl
theorem xtj:x19e call hs u xtf (j2 (x6p call hs u) 2 5) eNil=j2 (x6r call hs u) 2 7:=by kernel_rfl
theorem xtk:x12f call hs u x7c (j1 (x3c call hs u) 2) (setE 0 (j1 (x3c call hs u) 2) eNil)=j2 (x6s call hs u) 2 6:=tr (rg (C:=x7c) (c:={f:=x1s,u:=u,nt:=13,hs:=hs}) (f:=(.tmp 6)) (ps:=#[7]) (fun u=>xti) (fun u=>xtj))
theorem xtl:x12f call hs u xg9 (j1 (x3c call hs u) 2) eNil=j2 (x6s call hs u) 2 6:=bk xtk
theorem xtm:x12f call hs u xg8 (j1 (x3c call hs u) 2) eNil=j2 (x6t call hs u) 1 2:=tr (sqN 1 xtl)
theorem xtn:x12f call hs u xc0 r_2 eNil=j2 (x6t call hs u) 1 2:=sq2 xth xtm
theorem xl0:x12f call hs u xg7 r_2 eNil=j2 (xaf call hs u) 0 1:=tr (sqN 1 xtn)
noncomputable abbrev x14h:=VX xy 26 r_8
noncomputable def xga:=xx5 xy
noncomputable def xgb:=nR xga
noncomputable def xgc:=nR xgb
noncomputable def xto:=nR xgc
theorem xtp{rec0:AV->AV->AV->AV->AV->Mem->Nat->O2}:x14h call hs u xto (j5 rec0 0 1 2 8 9) (setE 0 r_8 eNil)=j5 (x6u call hs u rec0) 0 1 2 8 9:=by kernel_rfl
theorem xtq:x14h call hs u xgc r_8 (setE 0 r_8 eNil)=j5 (x2l call hs u NN) 0 1 2 8 9:=lp (Ln:=fun n=>j5 (x2l call hs u n) 0 1 2 8 9) fun n=>tr xtp
theorem xtr:x14h call hs u xgb r_8 eNil=j5 (x2l call hs u NN) 0 1 2 8 9:=bk xtq
theorem xl1:x14h call hs u xga r_8 eNil=j3 (xag call hs u) 0 1 2:=tr (sqN 1 xtr)
noncomputable abbrev x11t:=VX x44 19 r_2
noncomputable def xgd:=xx5 x44
noncomputable def xc1:=nR xgd
noncomputable def xge:=nL xc1
noncomputable def xts:=nR xc1
noncomputable def xgf:=nR xge
noncomputable def xgg:=nR xgf
noncomputable def xtt:=nR xgg
theorem xtu:x11t call hs u xts r_2 eNil=j0 (x2m call hs u):=by kernel_rfl
theorem xtv{rec0:AV->AV->AV->AV->Mem->Nat->O2}:x11t call hs u xtt (j4 rec0 0 1 7 8) (setE 0 (j0 (x2m call hs u)) eNil)=j4 (x6v call hs u rec0) 0 1 7 8:=by kernel_rfl
theorem xtw:x11t call hs u xgg (j0 (x2m call hs u)) (setE 0 (j0 (x2m call hs u)) eNil)=j4 (x2n call hs u NN) 0 1 7 8:=lp (Ln:=fun n=>j4 (x2n call hs u n) 0 1 7 8) fun n=>tr xtv
theorem xtx:x11t call hs u xgf (j0 (x2m call hs u)) eNil=j4 (x2n call hs u NN) 0 1 7 8:=bk xtw
theorem xty:x11t call hs u xge (j0 (x2m call hs u)) eNil=j2 (x6w call hs u) 0 1:=tr (sqN 1 xtx)
theorem xtz:x11t call hs u xc1 r_2 eNil=j2 (x6w call hs u) 0 1:=sq2 xtu xty
theorem xl2:x11t call hs u xgd r_2 eNil=j2 (xah call hs u) 0 1:=tr (sqN 1 xtz)
noncomputable abbrev x12g:=VX xz 42 r_10
noncomputable abbrev x1ch(lid:Id):=VX (R:=Mem) xz 42 (fun s=>sLpX lid .ret s.m)
noncomputable abbrev x1ci:=VX (R:=Mem) xz 42 fNil
noncomputable def xgh:=xx5 xz
noncomputable def xc2:=nRs 2 xgh
noncomputable def xgi:=nL xc2
noncomputable def xu0:=nR xc2
noncomputable def xgj:=nR xgi
noncomputable def x7d:=nR xgj
noncomputable def xu1:=nL x7d
noncomputable def xu2:=nR x7d
theorem xu3:x12g call hs u xu0 r_10 eNil=j2 (x2o call hs u) 10 11:=by kernel_rfl
theorem xu4{lid:Id}:x1ch lid call hs u xu2 (fun s=>sLpN lid s.m) (fun i s=>sLpX lid (.exit i) s.m)=j9 (x6x call hs u lid) 5 6 7 8 9 10 11 12 13:=by kernel_rfl
theorem xu5{lid:Id}:x1ci call hs u xu1 (fun s=>(sLpN lid s.m).bind fun _=>(j9 (x6x call hs u lid) 5 6 7 8 9 10 11 12 13) s) eNil=j9 (x6y call hs u lid) 5 6 7 8 9 10 11 23 24:=by kernel_rfl
theorem xu6:x12g call hs u x7d (j2 (x2o call hs u) 10 11) (setE 0 (j2 (x2o call hs u) 10 11) eNil)=j8 (x6z call hs u) 5 6 7 8 9 10 11 22:=tr (rg2 (C:=x7d) (c:={f:=xz,u:=u,nt:=42,hs:=hs}) (f:=(.tmp 22)) (ps:=#[23,24]) (fun l u=>xu4) (fun l u=>xu5))
theorem xu7:x12g call hs u xgj (j2 (x2o call hs u) 10 11) eNil=j8 (x6z call hs u) 5 6 7 8 9 10 11 22:=bk xu6
theorem xu8:x12g call hs u xgi (j2 (x2o call hs u) 10 11) eNil=j7 (x70 call hs u) 5 6 7 8 9 10 11:=tr (sqN 1 xu7)
theorem xu9:x12g call hs u xc2 r_10 eNil=j7 (x70 call hs u) 5 6 7 8 9 10 11:=sq2 xu3 xu8
theorem xl3:x12g call hs u xgh r_10 eNil=j5 (xai call hs u) 0 1 2 3 4:=tr (sqN 2 xu9)
noncomputable abbrev xzn:=VX x1t 43 r_8
noncomputable def xgk:=xx5 x1t
noncomputable def xgl:=nR xgk
noncomputable def xgm:=nR xgl
noncomputable def xgn:=nR xgm
noncomputable def xc3:=nRs 2 xgn
noncomputable def xgo:=nL xc3
noncomputable def xua:=nR xc3
noncomputable def xgp:=nR xgo
noncomputable def xgq:=nRs 2 xgp
noncomputable def xgr:=nR xgq
noncomputable def xub:=nR xgr
theorem xuc{rec0:AV->AV->AV->AV->AV->AV->Mem->Nat->O2}:xzn call hs u xua (j6 rec0 0 2 3 12 13 14) (setE 0 r_8 eNil)=j6 (xo call hs u rec0) 0 2 3 12 13 14:=by kernel_rfl
theorem xud{rec0:AV->AV->AV->AV->AV->AV->Mem->Nat->O2}{rec1:AV->AV->AV->AV->AV->AV->AV->AV->AV->Mem->Nat->O2}:xzn call hs u xub (j9 rec1 0 2 3 6 12 13 14 18 19) (setE 2 (j6 (xo call hs u rec0) 0 2 3 12 13 14) (setE 1 (j6 (xo call hs u rec0) 0 2 3 12 13 14) (setE 0 r_8 eNil)))=j9 (x71 call hs u rec0 rec1) 0 2 3 6 12 13 14 18 19:=by kernel_rfl
theorem xue{rec0:AV->AV->AV->AV->AV->AV->Mem->Nat->O2}:xzn call hs u xgr (j6 (xo call hs u rec0) 0 2 3 12 13 14) (setE 2 (j6 (xo call hs u rec0) 0 2 3 12 13 14) (setE 1 (j6 (xo call hs u rec0) 0 2 3 12 13 14) (setE 0 r_8 eNil)))=j9 (x1l call hs u rec0 NN) 0 2 3 6 12 13 14 18 19:=lp (Ln:=fun n=>j9 (x1l call hs u rec0 n) 0 2 3 6 12 13 14 18 19) fun n=>tr xud
theorem xuf{rec0:AV->AV->AV->AV->AV->AV->Mem->Nat->O2}:xzn call hs u xgq (j6 (xo call hs u rec0) 0 2 3 12 13 14) (setE 1 (j6 (xo call hs u rec0) 0 2 3 12 13 14) (setE 0 r_8 eNil))=j9 (x1l call hs u rec0 NN) 0 2 3 6 12 13 14 18 19:=bk xue
theorem xug{rec0:AV->AV->AV->AV->AV->AV->Mem->Nat->O2}:xzn call hs u xgp (j6 (xo call hs u rec0) 0 2 3 12 13 14) (setE 1 (j6 (xo call hs u rec0) 0 2 3 12 13 14) (setE 0 r_8 eNil))=j6 (x4x call hs u rec0) 0 2 3 12 13 14:=tr (sqN 2 xuf)
theorem xuh{rec0:AV->AV->AV->AV->AV->AV->Mem->Nat->O2}:xzn call hs u xgo (j6 (xo call hs u rec0) 0 2 3 12 13 14) (setE 0 r_8 eNil)=j6 (x4x call hs u rec0) 0 2 3 12 13 14:=bk xug
theorem xui{rec0:AV->AV->AV->AV->AV->AV->Mem->Nat->O2}:xzn call hs u xc3 (j6 rec0 0 2 3 12 13 14) (setE 0 r_8 eNil)=j6 (x4x call hs u rec0) 0 2 3 12 13 14:=sq2 xuc xuh
theorem xuj{rec0:AV->AV->AV->AV->AV->AV->Mem->Nat->O2}:xzn call hs u xgn (j6 rec0 0 2 3 12 13 14) (setE 0 r_8 eNil)=j6 (x72 call hs u rec0) 0 2 3 12 13 14:=tr (sqN 2 xui)
theorem xuk:xzn call hs u xgm r_8 (setE 0 r_8 eNil)=j6 (x13 call hs u NN) 0 2 3 12 13 14:=lp (Ln:=fun n=>j6 (x13 call hs u n) 0 2 3 12 13 14) fun n=>tr xuj
theorem xul:xzn call hs u xgl r_8 eNil=j6 (x13 call hs u NN) 0 2 3 12 13 14:=bk xuk
theorem xl4:xzn call hs u xgk r_8 eNil=j4 (xaj call hs u) 0 1 2 3:=tr (sqN 1 xul)
noncomputable abbrev x11u:=VX x45 19 r_2
noncomputable def xgs:=xx5 x45
noncomputable def xc4:=nR xgs
noncomputable def xgt:=nL xc4
noncomputable def xum:=nR xc4
noncomputable def xgu:=nR xgt
noncomputable def xgv:=nR xgu
noncomputable def xun:=nR xgv
theorem xuo:x11u call hs u xum r_2 eNil=j0 (x2p call hs u):=by kernel_rfl
theorem xup{rec0:AV->AV->AV->AV->Mem->Nat->O2}:x11u call hs u xun (j4 rec0 0 1 7 8) (setE 0 (j0 (x2p call hs u)) eNil)=j4 (x73 call hs u rec0) 0 1 7 8:=by kernel_rfl
theorem xuq:x11u call hs u xgv (j0 (x2p call hs u)) (setE 0 (j0 (x2p call hs u)) eNil)=j4 (x2q call hs u NN) 0 1 7 8:=lp (Ln:=fun n=>j4 (x2q call hs u n) 0 1 7 8) fun n=>tr xup
theorem xur:x11u call hs u xgu (j0 (x2p call hs u)) eNil=j4 (x2q call hs u NN) 0 1 7 8:=bk xuq
theorem xus:x11u call hs u xgt (j0 (x2p call hs u)) eNil=j2 (x74 call hs u) 0 1:=tr (sqN 1 xur)
theorem xut:x11u call hs u xc4 r_2 eNil=j2 (x74 call hs u) 0 1:=sq2 xuo xus
theorem xl5:x11u call hs u xgs r_2 eNil=j2 (xak call hs u) 0 1:=tr (sqN 1 xut)
noncomputable abbrev xye:=VX x4f 63 r_8
noncomputable def xgw:=xx5 x4f
noncomputable def xc5:=nRs 2 xgw
noncomputable def xgx:=nL xc5
noncomputable def xgy:=nR xc5
noncomputable def xgz:=nR xgy
noncomputable def xh0:=nR xgz
noncomputable def xh1:=nR xh0
noncomputable def xh2:=nR xh1
noncomputable def xh3:=nR xh2
noncomputable def xc6:=nR xh3
noncomputable def xh4:=nL xc6
noncomputable def xc7:=nR xc6
noncomputable def xuu:=nL xc7
noncomputable def xuv:=nR xc7
noncomputable def xh5:=nR xh4
noncomputable def xuw:=nR xh5
noncomputable def xh6:=nR xgx
noncomputable def xux:=nR xh6
theorem xuy{rec0:AV->AV->AV->AV->Mem->Nat->O2}:xye call hs u xuv (j4 rec0 0 1 2 6) (setE 3 (j4 rec0 0 1 2 6) (setE 2 r_8 eNil))=j4 (x75 call hs u rec0) 0 1 2 6:=by kernel_rfl
theorem xuz{rec0:AV->AV->AV->AV->Mem->Nat->O2}:xye call hs u xuu (j4 (x75 call hs u rec0) 0 1 2 6) (setE 3 (j4 rec0 0 1 2 6) (setE 2 r_8 eNil))=j5 (x3d call hs u rec0) 0 1 2 6 7:=by kernel_rfl
theorem xv0{rec0:AV->AV->AV->AV->Mem->Nat->O2}:xye call hs u xc7 (j4 rec0 0 1 2 6) (setE 3 (j4 rec0 0 1 2 6) (setE 2 r_8 eNil))=j5 (x3d call hs u rec0) 0 1 2 6 7:=sq2 xuy xuz
theorem xv1{rec0:AV->AV->AV->AV->Mem->Nat->O2}{rec1:AV->AV->AV->AV->AV->AV->Mem->Nat->O2}:xye call hs u xuw (j6 rec1 0 1 2 6 7 8) (setE 4 (j5 (x3d call hs u rec0) 0 1 2 6 7) (setE 3 (j4 rec0 0 1 2 6) (setE 2 r_8 eNil)))=j6 (xcm call hs u rec0 rec1) 0 1 2 6 7 8:=by kernel_rfl
theorem xv2{rec0:AV->AV->AV->AV->Mem->Nat->O2}:xye call hs u xh5 (j5 (x3d call hs u rec0) 0 1 2 6 7) (setE 4 (j5 (x3d call hs u rec0) 0 1 2 6 7) (setE 3 (j4 rec0 0 1 2 6) (setE 2 r_8 eNil)))=j6 (x4b call hs u rec0 NN) 0 1 2 6 7 8:=lp (Ln:=fun n=>j6 (x4b call hs u rec0 n) 0 1 2 6 7 8) fun n=>tr xv1
theorem xv3{rec0:AV->AV->AV->AV->Mem->Nat->O2}:xye call hs u xh4 (j5 (x3d call hs u rec0) 0 1 2 6 7) (setE 3 (j4 rec0 0 1 2 6) (setE 2 r_8 eNil))=j6 (x4b call hs u rec0 NN) 0 1 2 6 7 8:=bk xv2
theorem xv4{rec0:AV->AV->AV->AV->Mem->Nat->O2}:xye call hs u xc6 (j4 rec0 0 1 2 6) (setE 3 (j4 rec0 0 1 2 6) (setE 2 r_8 eNil))=j6 (x4b call hs u rec0 NN) 0 1 2 6 7 8:=sq2 xv0 xv3
theorem xv5{rec0:AV->AV->AV->AV->Mem->Nat->O2}:xye call hs u xh3 (j4 rec0 0 1 2 6) (setE 3 (j4 rec0 0 1 2 6) (setE 2 r_8 eNil))=j4 (xal call hs u rec0) 0 1 2 6:=tr (sqN 1 xv4)
theorem xv6{rec0:AV->AV->AV->AV->Mem->Nat->O2}:xye call hs u xh2 (j4 rec0 0 1 2 6) (setE 2 r_8 eNil)=j4 (xal call hs u rec0) 0 1 2 6:=bk xv5
theorem xv7{rec0:AV->AV->AV->AV->Mem->Nat->O2}:xye call hs u xh1 (j4 rec0 0 1 2 6) (setE 2 r_8 eNil)=j4 (xam call hs u rec0) 0 1 2 6:=tr (sqN 1 xv6)
theorem xv8:xye call hs u xh0 r_8 (setE 2 r_8 eNil)=j4 (x4c call hs u NN) 0 1 2 6:=lp (Ln:=fun n=>j4 (x4c call hs u n) 0 1 2 6) fun n=>tr xv7
theorem xv9:xye call hs u xgz r_8 eNil=j4 (x4c call hs u NN) 0 1 2 6:=bk xv8
theorem xva:xye call hs u xgy r_8 eNil=j5 (x3e call hs u) 0 1 2 6 7:=tr (sqN 1 xv9)
theorem xvb{rec2:AV->AV->AV->AV->AV->AV->Mem->Nat->O2}:xye call hs u xux (j6 rec2 0 1 2 6 7 8) (setE 0 (j5 (x3e call hs u) 0 1 2 6 7) eNil)=j6 (xan call hs u rec2) 0 1 2 6 7 8:=by kernel_rfl
theorem xvc:xye call hs u xh6 (j5 (x3e call hs u) 0 1 2 6 7) (setE 0 (j5 (x3e call hs u) 0 1 2 6 7) eNil)=j6 (x3f call hs u NN) 0 1 2 6 7 8:=lp (Ln:=fun n=>j6 (x3f call hs u n) 0 1 2 6 7 8) fun n=>tr xvb
theorem xvd:xye call hs u xgx (j5 (x3e call hs u) 0 1 2 6 7) eNil=j6 (x3f call hs u NN) 0 1 2 6 7 8:=bk xvc
theorem xve:xye call hs u xc5 r_8 eNil=j6 (x3f call hs u NN) 0 1 2 6 7 8:=sq2 xva xvd
theorem xl6:xye call hs u xgw r_8 eNil=j3 (xao call hs u) 0 1 2:=tr (sqN 2 xve)
noncomputable abbrev xz1:=VX x37 134 r_8
noncomputable def xh7:=xx5 x37
noncomputable def xh8:=nRs 2 xh7
noncomputable def xh9:=nR xh8
noncomputable def xha:=nR xh9
noncomputable def xhb:=nR xha
noncomputable def xc8:=nRs 3 xhb
noncomputable def xvf:=nL xc8
noncomputable def xhc:=nR xc8
noncomputable def xc9:=nR xhc
noncomputable def xvg:=nL xc9
noncomputable def xca:=nR xc9
noncomputable def xvh:=nL xca
noncomputable def xvi:=nR xca
theorem xvj{rec0:AV->AV->AV->AV->AV->AV->Mem->Nat->O2}:xz1 call hs u xvi (j6 rec0 0 1 2 3 8 9) (setE 1 (j6 rec0 0 1 2 3 8 9) (setE 0 r_8 eNil))=j8 (x76 call hs u rec0) 0 1 2 3 8 9 10 11:=by kernel_rfl
theorem xvk{rec0:AV->AV->AV->AV->AV->AV->Mem->Nat->O2}:xz1 call hs u xvh (j8 (x76 call hs u rec0) 0 1 2 3 8 9 10 11) (setE 1 (j6 rec0 0 1 2 3 8 9) (setE 0 r_8 eNil))=j9 (x4y call hs u rec0) 0 1 2 3 8 9 10 11 12:=by kernel_rfl
theorem xvl{rec0:AV->AV->AV->AV->AV->AV->Mem->Nat->O2}:xz1 call hs u xca (j6 rec0 0 1 2 3 8 9) (setE 1 (j6 rec0 0 1 2 3 8 9) (setE 0 r_8 eNil))=j9 (x4y call hs u rec0) 0 1 2 3 8 9 10 11 12:=sq2 xvj xvk
theorem xvm{rec0:AV->AV->AV->AV->AV->AV->Mem->Nat->O2}:xz1 call hs u xvg (j9 (x4y call hs u rec0) 0 1 2 3 8 9 10 11 12) (setE 1 (j6 rec0 0 1 2 3 8 9) (setE 0 r_8 eNil))=j9 (xap call hs u rec0) 0 1 2 3 8 9 10 11 12:=by kernel_rfl
theorem xvn{rec0:AV->AV->AV->AV->AV->AV->Mem->Nat->O2}:xz1 call hs u xc9 (j6 rec0 0 1 2 3 8 9) (setE 1 (j6 rec0 0 1 2 3 8 9) (setE 0 r_8 eNil))=j9 (xap call hs u rec0) 0 1 2 3 8 9 10 11 12:=sq2 xvl xvm
theorem xvo{rec0:AV->AV->AV->AV->AV->AV->Mem->Nat->O2}:xz1 call hs u xhc (j6 rec0 0 1 2 3 8 9) (setE 1 (j6 rec0 0 1 2 3 8 9) (setE 0 r_8 eNil))=j7 (x77 call hs u rec0) 0 1 2 3 8 9 10:=tr (sqN 1 xvn)
theorem xvp{rec0:AV->AV->AV->AV->AV->AV->Mem->Nat->O2}:xz1 call hs u xvf (j7 (x77 call hs u rec0) 0 1 2 3 8 9 10) (setE 1 (j6 rec0 0 1 2 3 8 9) (setE 0 r_8 eNil))=j7 (xaq call hs u rec0) 0 1 2 3 8 9 10:=by kernel_rfl
theorem xvq{rec0:AV->AV->AV->AV->AV->AV->Mem->Nat->O2}:xz1 call hs u xc8 (j6 rec0 0 1 2 3 8 9) (setE 1 (j6 rec0 0 1 2 3 8 9) (setE 0 r_8 eNil))=j7 (xaq call hs u rec0) 0 1 2 3 8 9 10:=sq2 xvo xvp
theorem xvr{rec0:AV->AV->AV->AV->AV->AV->Mem->Nat->O2}:xz1 call hs u xhb (j6 rec0 0 1 2 3 8 9) (setE 1 (j6 rec0 0 1 2 3 8 9) (setE 0 r_8 eNil))=j6 (x78 call hs u rec0) 0 1 2 3 8 9:=tr (sqN 3 xvq)
theorem xvs{rec0:AV->AV->AV->AV->AV->AV->Mem->Nat->O2}:xz1 call hs u xha (j6 rec0 0 1 2 3 8 9) (setE 0 r_8 eNil)=j6 (x78 call hs u rec0) 0 1 2 3 8 9:=bk xvr
theorem xvt:xz1 call hs u xh9 r_8 (setE 0 r_8 eNil)=j6 (x4d call hs u NN) 0 1 2 3 8 9:=lp (Ln:=fun n=>j6 (x4d call hs u n) 0 1 2 3 8 9) fun n=>tr xvs
theorem xvu:xz1 call hs u xh8 r_8 eNil=j6 (x4d call hs u NN) 0 1 2 3 8 9:=bk xvt
theorem xl7:xz1 call hs u xh7 r_8 eNil=j4 (xar call hs u) 0 1 2 3:=tr (sqN 2 xvu)
noncomputable abbrev x1cj:=VX x46 8 r_0
noncomputable def xvv:=xx5 x46
theorem xl8:x1cj call hs u xvv r_0 eNil=j1 (xas call hs u) 0:=by kernel_rfl
noncomputable abbrev xzo:=VX x38 53 r_8
noncomputable def xhd:=xx5 x38
noncomputable def xhe:=nR xhd
noncomputable def xhf:=nR xhe
noncomputable def xhg:=nR xhf
noncomputable def xcb:=nR xhg
noncomputable def xhh:=nL xcb
noncomputable def xvw:=nR xcb
noncomputable def xhi:=nR xhh
noncomputable def xhj:=nR xhi
noncomputable def xhk:=nR xhj
noncomputable def xvx:=nR xhk
theorem xvy{rec0:AV->AV->AV->AV->AV->Mem->Nat->O2}:xzo call hs u xvw (j5 rec0 0 1 2 3 8) (setE 0 r_8 eNil)=j5 (xk call hs u rec0) 0 1 2 3 8:=by kernel_rfl
theorem xvz{rec0:AV->AV->AV->AV->AV->Mem->Nat->O2}{rec1:AV->AV->AV->AV->AV->AV->Mem->Nat->O2}:xzo call hs u xvx (j6 rec1 0 1 2 3 8 9) (setE 2 (j5 (xk call hs u rec0) 0 1 2 3 8) (setE 1 (j5 (xk call hs u rec0) 0 1 2 3 8) (setE 0 r_8 eNil)))=j6 (x79 call hs u rec0 rec1) 0 1 2 3 8 9:=by kernel_rfl
theorem xw0{rec0:AV->AV->AV->AV->AV->Mem->Nat->O2}:xzo call hs u xhk (j5 (xk call hs u rec0) 0 1 2 3 8) (setE 2 (j5 (xk call hs u rec0) 0 1 2 3 8) (setE 1 (j5 (xk call hs u rec0) 0 1 2 3 8) (setE 0 r_8 eNil)))=j6 (x2r call hs u rec0 NN) 0 1 2 3 8 9:=lp (Ln:=fun n=>j6 (x2r call hs u rec0 n) 0 1 2 3 8 9) fun n=>tr xvz
theorem xw1{rec0:AV->AV->AV->AV->AV->Mem->Nat->O2}:xzo call hs u xhj (j5 (xk call hs u rec0) 0 1 2 3 8) (setE 1 (j5 (xk call hs u rec0) 0 1 2 3 8) (setE 0 r_8 eNil))=j6 (x2r call hs u rec0 NN) 0 1 2 3 8 9:=bk xw0
theorem xw2{rec0:AV->AV->AV->AV->AV->Mem->Nat->O2}:xzo call hs u xhi (j5 (xk call hs u rec0) 0 1 2 3 8) (setE 1 (j5 (xk call hs u rec0) 0 1 2 3 8) (setE 0 r_8 eNil))=j5 (x4z call hs u rec0) 0 1 2 3 8:=tr (sqN 1 xw1)
theorem xw3{rec0:AV->AV->AV->AV->AV->Mem->Nat->O2}:xzo call hs u xhh (j5 (xk call hs u rec0) 0 1 2 3 8) (setE 0 r_8 eNil)=j5 (x4z call hs u rec0) 0 1 2 3 8:=bk xw2
theorem xw4{rec0:AV->AV->AV->AV->AV->Mem->Nat->O2}:xzo call hs u xcb (j5 rec0 0 1 2 3 8) (setE 0 r_8 eNil)=j5 (x4z call hs u rec0) 0 1 2 3 8:=sq2 xvy xw3
theorem xw5{rec0:AV->AV->AV->AV->AV->Mem->Nat->O2}:xzo call hs u xhg (j5 rec0 0 1 2 3 8) (setE 0 r_8 eNil)=j5 (x50 call hs u rec0) 0 1 2 3 8:=tr (sqN 1 xw4)
theorem xw6:xzo call hs u xhf r_8 (setE 0 r_8 eNil)=j5 (x14 call hs u NN) 0 1 2 3 8:=lp (Ln:=fun n=>j5 (x14 call hs u n) 0 1 2 3 8) fun n=>tr xw5
theorem xw7:xzo call hs u xhe r_8 eNil=j5 (x14 call hs u NN) 0 1 2 3 8:=bk xw6
theorem xl9:xzo call hs u xhd r_8 eNil=j4 (xat call hs u) 0 1 2 3:=tr (sqN 1 xw7)
noncomputable abbrev xzp:=VX x47 49 r_8
noncomputable def xhl:=xx5 x47
noncomputable def xhm:=nR xhl
noncomputable def xhn:=nR xhm
noncomputable def xho:=nR xhn
noncomputable def xcc:=nR xho
noncomputable def xhp:=nL xcc
noncomputable def xw8:=nR xcc
noncomputable def xhq:=nR xhp
noncomputable def xhr:=nR xhq
noncomputable def xhs:=nR xhr
noncomputable def xw9:=nR xhs
theorem xwa{rec0:AV->AV->AV->AV->Mem->Nat->O2}:xzp call hs u xw8 (j4 rec0 0 1 2 6) (setE 0 r_8 eNil)=j4 (xl call hs u rec0) 0 1 2 6:=by kernel_rfl
theorem xwb{rec0:AV->AV->AV->AV->Mem->Nat->O2}{rec1:AV->AV->AV->AV->AV->Mem->Nat->O2}:xzp call hs u xw9 (j5 rec1 0 1 2 6 7) (setE 2 (j4 (xl call hs u rec0) 0 1 2 6) (setE 1 (j4 (xl call hs u rec0) 0 1 2 6) (setE 0 r_8 eNil)))=j5 (x7a call hs u rec0 rec1) 0 1 2 6 7:=by kernel_rfl
theorem xwc{rec0:AV->AV->AV->AV->Mem->Nat->O2}:xzp call hs u xhs (j4 (xl call hs u rec0) 0 1 2 6) (setE 2 (j4 (xl call hs u rec0) 0 1 2 6) (setE 1 (j4 (xl call hs u rec0) 0 1 2 6) (setE 0 r_8 eNil)))=j5 (x2s call hs u rec0 NN) 0 1 2 6 7:=lp (Ln:=fun n=>j5 (x2s call hs u rec0 n) 0 1 2 6 7) fun n=>tr xwb
theorem xwd{rec0:AV->AV->AV->AV->Mem->Nat->O2}:xzp call hs u xhr (j4 (xl call hs u rec0) 0 1 2 6) (setE 1 (j4 (xl call hs u rec0) 0 1 2 6) (setE 0 r_8 eNil))=j5 (x2s call hs u rec0 NN) 0 1 2 6 7:=bk xwc
theorem xwe{rec0:AV->AV->AV->AV->Mem->Nat->O2}:xzp call hs u xhq (j4 (xl call hs u rec0) 0 1 2 6) (setE 1 (j4 (xl call hs u rec0) 0 1 2 6) (setE 0 r_8 eNil))=j4 (x51 call hs u rec0) 0 1 2 6:=tr (sqN 1 xwd)
theorem xwf{rec0:AV->AV->AV->AV->Mem->Nat->O2}:xzp call hs u xhp (j4 (xl call hs u rec0) 0 1 2 6) (setE 0 r_8 eNil)=j4 (x51 call hs u rec0) 0 1 2 6:=bk xwe
theorem xwg{rec0:AV->AV->AV->AV->Mem->Nat->O2}:xzp call hs u xcc (j4 rec0 0 1 2 6) (setE 0 r_8 eNil)=j4 (x51 call hs u rec0) 0 1 2 6:=sq2 xwa xwf
theorem xwh{rec0:AV->AV->AV->AV->Mem->Nat->O2}:xzp call hs u xho (j4 rec0 0 1 2 6) (setE 0 r_8 eNil)=j4 (x52 call hs u rec0) 0 1 2 6:=tr (sqN 1 xwg)
theorem xwi:xzp call hs u xhn r_8 (setE 0 r_8 eNil)=j4 (x15 call hs u NN) 0 1 2 6:=lp (Ln:=fun n=>j4 (x15 call hs u n) 0 1 2 6) fun n=>tr xwh
theorem xwj:xzp call hs u xhm r_8 eNil=j4 (x15 call hs u NN) 0 1 2 6:=bk xwi
theorem xla:xzp call hs u xhl r_8 eNil=j3 (xau call hs u) 0 1 2:=tr (sqN 1 xwj)
noncomputable abbrev x1ck:=VX x39 17 r_2
noncomputable def xwk:=xx5 x39
theorem xlb:x1ck call hs u xwk r_2 eNil=j2 (xav call hs u) 0 1:=by kernel_rfl
noncomputable abbrev x10t:=VX x48 25 r_0
noncomputable def xht:=xx5 x48
noncomputable def xcd:=nR xht
noncomputable def xwl:=nL xcd
noncomputable def xce:=nR xcd
noncomputable def xwm:=nL xce
noncomputable def xcf:=nR xce
noncomputable def xwn:=nL xcf
noncomputable def xwo:=nR xcf
theorem xwp:x10t call hs u xwo r_0 eNil=j2 (x7b call hs u) 0 2:=by kernel_rfl
theorem xwq:x10t call hs u xwn (j2 (x7b call hs u) 0 2) eNil=j2 (x53 call hs u) 0 2:=by kernel_rfl
theorem xwr:x10t call hs u xcf r_0 eNil=j2 (x53 call hs u) 0 2:=sq2 xwp xwq
theorem xws:x10t call hs u xwm (j2 (x53 call hs u) 0 2) eNil=j2 (x54 call hs u) 0 2:=by kernel_rfl
theorem xwt:x10t call hs u xce r_0 eNil=j2 (x54 call hs u) 0 2:=sq2 xwr xws
theorem xwu:x10t call hs u xwl (j2 (x54 call hs u) 0 2) eNil=j2 (xaw call hs u) 0 2:=by kernel_rfl
theorem xwv:x10t call hs u xcd r_0 eNil=j2 (xaw call hs u) 0 2:=sq2 xwt xwu
theorem xlc:x10t call hs u xht r_0 eNil=j1 (xcn call hs u) 0:=tr (sqN 1 xwv)
noncomputable abbrev x1cl:=VX x3a 6 r_0
noncomputable def xww:=xx5 x3a
theorem xld:x1cl call hs u xww r_0 eNil=j1 (xax call hs u) 0:=by kernel_rfl
end Go.Ix
