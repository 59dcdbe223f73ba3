import Derived.Test.YtljibmnhhdiakaaFxText0
import Derived.Test.YtljibmnhhdiakaaFxText1
import Derived.Test.YtljibmnhhdiakaaFxEnt
import Derived.Test.YtljibmnhhdiakaaFxRules
import Derived.Test.YtljibmnhhdiakaaFxProj
import Derived.ProofKit
set_option linter.unusedVariables false
namespace Go.Ix
open Go.Proofs
variable (call:x1p9) (hs:FHs) (u:Nat)
noncomputable abbrev xei:Fs→O2:=x1pe Try.prog [.tmp 2]
noncomputable abbrev x1vd:=XK call { f:=xbd,u:=u,nt:=108,hs:=hs } xei
noncomputable def xp5:=x1pg xbd
noncomputable def xjg:=nRs 9 xp5
noncomputable def xp6:=nL xjg
noncomputable def x15t:=nR xjg
noncomputable def xp7:=nR xp6
noncomputable def xp8:=nR xp7
noncomputable def x15u:=nR xp8
theorem x15v:x1vd call hs u x15t xei eNil=(j0 (x64 call hs u)):=by kernel_rfl
theorem x15w (rec0:AV→AV→AV→Mem→Nat→O2):x1vd call hs u x15u (j3 rec0 3 12 13) (setE 0 (j0 (x64 call hs u)) eNil)=(j3 (xlw call hs u rec0) 3 12 13):=by kernel_rfl
theorem x15x:x1vd call hs u xp8 (j0 (x64 call hs u)) (setE 0 (j0 (x64 call hs u)) eNil)=(j3 (x6t call hs u NN) 3 12 13):=lp (Ln:=fun n=>j3 (x6t call hs u n) 3 12 13) (by kernel_rfl) rfl fun n=>(x15w call hs u (x6t call hs u n)).trans (by kernel_rfl)
theorem x15y:x1vd call hs u xp7 (j0 (x64 call hs u)) eNil=(j3 (x6t call hs u NN) 3 12 13):=bk (by kernel_rfl) (x15x call hs u)
theorem x15z:x1vd call hs u xp6 (j0 (x64 call hs u)) eNil=(j2 (xgo call hs u) 3 12):=(sqN 1 (by kernel_rfl) (x15y call hs u)).trans (by kernel_rfl)
theorem x160:x1vd call hs u xjg xei eNil=(j2 (xgo call hs u) 3 12):=sq2 (by kernel_rfl) (x15v call hs u) (x15z call hs u)
theorem x161:x1vd call hs u xp5 xei eNil=(j1 (xlx call hs u) 0):=(sqN 9 (by kernel_rfl) (x160 call hs u)).trans (by kernel_rfl)
theorem xzp:FL xbd xfi:=le1 (fn:=Try.f3) (by kernel_rfl) (by kernel_rfl) (by kernel_rfl) (by kernel_rfl) (fun call hs t0 m=>(congrFun (x161 call hs m.next) _).trans (by kernel_rfl)) (fun _ _ _ _ _ h=>by unfold xfi at h;split at h<;>first | exact ⟨_,rfl⟩ | cases h)
noncomputable abbrev xp9:Fs→O2:=x1pe Try.prog [.tmp 2]
noncomputable abbrev x27b:=XK call { f:=xbe,u:=u,nt:=38,hs:=hs } xp9
noncomputable def x162:=x1pg xbe
theorem x163:x27b call hs u x162 xp9 eNil=(j1 (xly call hs u) 0):=by kernel_rfl
theorem xzq:FL xbe xfj:=le1 (fn:=Try.f4) (by kernel_rfl) (by kernel_rfl) (by kernel_rfl) (by kernel_rfl) (fun call hs t0 m=>(congrFun (x163 call hs m.next) _).trans (by kernel_rfl)) (fun _ _ _ _ _ h=>by unfold xfj at h;split at h<;>first | exact ⟨_,rfl⟩ | cases h)
noncomputable abbrev x7y:Fs→O2:=x1pe Try.prog [.tmp 6]
noncomputable abbrev x1tp:=XK call { f:=xbf,u:=u,nt:=95,hs:=hs } x7y
noncomputable def xpa:=x1pg xbf
noncomputable def xjh:=nRs 6 xpa
noncomputable def x164:=nL xjh
noncomputable def xpb:=nR xjh
noncomputable def xji:=nRs 3 xpb
noncomputable def xpc:=nL xji
noncomputable def x165:=nR xji
noncomputable def xpd:=nR xpc
noncomputable def xpe:=nR xpd
noncomputable def x166:=nR xpe
theorem x167:x1tp call hs u x165 x7y eNil=(j3 (x65 call hs u) 3 7 11):=by kernel_rfl
theorem x168 (rec0:AV→AV→AV→AV→AV→AV→Mem→Nat→O2):x1tp call hs u x166 (j6 rec0 1 2 3 7 11 12) (setE 0 (j3 (x65 call hs u) 3 7 11) eNil)=(j6 (xlz call hs u rec0) 1 2 3 7 11 12):=by kernel_rfl
theorem x169:x1tp call hs u xpe (j3 (x65 call hs u) 3 7 11) (setE 0 (j3 (x65 call hs u) 3 7 11) eNil)=(j6 (x6u call hs u NN) 1 2 3 7 11 12):=lp (Ln:=fun n=>j6 (x6u call hs u n) 1 2 3 7 11 12) (by kernel_rfl) rfl fun n=>(x168 call hs u (x6u call hs u n)).trans (by kernel_rfl)
theorem x16a:x1tp call hs u xpd (j3 (x65 call hs u) 3 7 11) eNil=(j6 (x6u call hs u NN) 1 2 3 7 11 12):=bk (by kernel_rfl) (x169 call hs u)
theorem x16b:x1tp call hs u xpc (j3 (x65 call hs u) 3 7 11) eNil=(j5 (xgp call hs u) 1 2 3 7 11):=(sqN 1 (by kernel_rfl) (x16a call hs u)).trans (by kernel_rfl)
theorem x16c:x1tp call hs u xji x7y eNil=(j5 (xgp call hs u) 1 2 3 7 11):=sq2 (by kernel_rfl) (x167 call hs u) (x16b call hs u)
theorem x16d:x1tp call hs u xpb x7y eNil=(j7 (xbo call hs u) 1 2 3 7 8 9 10):=(sqN 3 (by kernel_rfl) (x16c call hs u)).trans (by kernel_rfl)
theorem x16e:x1tp call hs u x164 (j7 (xbo call hs u) 1 2 3 7 8 9 10) eNil=(j7 (xgq call hs u) 1 2 3 7 8 9 10):=by kernel_rfl
theorem x16f:x1tp call hs u xjh x7y eNil=(j7 (xgq call hs u) 1 2 3 7 8 9 10):=sq2 (by kernel_rfl) (x16d call hs u) (x16e call hs u)
theorem x16g:x1tp call hs u xpa x7y eNil=(j3 (xm0 call hs u) 0 1 2):=(sqN 6 (by kernel_rfl) (x16f call hs u)).trans (by kernel_rfl)
theorem xzr:FL xbf xfk:=le3 (fn:=Try.f6) (by kernel_rfl) (by kernel_rfl) (by kernel_rfl) (by kernel_rfl) (fun call hs t0 t1 t2 m=>(congrFun (x16g call hs m.next) _).trans (by kernel_rfl)) (fun _ _ _ _ _ h=>by unfold xfk at h;split at h<;>first | exact ⟨_,_,_,rfl⟩ | cases h)
noncomputable abbrev xej:Fs→O2:=x1pe Try.prog [.tmp 2]
noncomputable abbrev x1ve:=XK call { f:=x6k,u:=u,nt:=139,hs:=hs } xej
noncomputable def xpf:=x1pg x6k
noncomputable def xjj:=nRs 11 xpf
noncomputable def xpg:=nL xjj
noncomputable def x16h:=nR xjj
noncomputable def xph:=nR xpg
noncomputable def xpi:=nR xph
noncomputable def x16i:=nR xpi
theorem x16j:x1ve call hs u x16h xej eNil=(j0 (x4z call hs u)):=by kernel_rfl
theorem x16k (rec0:AV→AV→AV→AV→Mem→Nat→O2):x1ve call hs u x16i (j4 rec0 1 3 15 16) (setE 0 (j0 (x4z call hs u)) eNil)=(j4 (xbp call hs u rec0) 1 3 15 16):=by kernel_rfl
theorem x16l:x1ve call hs u xpi (j0 (x4z call hs u)) (setE 0 (j0 (x4z call hs u)) eNil)=(j4 (x36 call hs u NN) 1 3 15 16):=lp (Ln:=fun n=>j4 (x36 call hs u n) 1 3 15 16) (by kernel_rfl) rfl fun n=>(x16k call hs u (x36 call hs u n)).trans (by kernel_rfl)
theorem x16m:x1ve call hs u xph (j0 (x4z call hs u)) eNil=(j4 (x36 call hs u NN) 1 3 15 16):=bk (by kernel_rfl) (x16l call hs u)
theorem x16n:x1ve call hs u xpg (j0 (x4z call hs u)) eNil=(j3 (xbq call hs u) 1 3 15):=(sqN 1 (by kernel_rfl) (x16m call hs u)).trans (by kernel_rfl)
theorem x16o:x1ve call hs u xjj xej eNil=(j3 (xbq call hs u) 1 3 15):=sq2 (by kernel_rfl) (x16j call hs u) (x16n call hs u)
theorem x16p:x1ve call hs u xpf xej eNil=(j1 (xgr call hs u) 0):=(sqN 11 (by kernel_rfl) (x16o call hs u)).trans (by kernel_rfl)
theorem xzs:FL x6k x8e:=le1 (fn:=Try.f8) (by kernel_rfl) (by kernel_rfl) (by kernel_rfl) (by kernel_rfl) (fun call hs t0 m=>(congrFun (x16p call hs m.next) _).trans (by kernel_rfl)) (fun _ _ _ _ _ h=>by unfold x8e at h;split at h<;>first | exact ⟨_,rfl⟩ | cases h)
noncomputable abbrev xek:Fs→O2:=x1pe Try.prog [.tmp 4]
noncomputable abbrev x1yu:=XK call { f:=xbg,u:=u,nt:=45,hs:=hs } xek
noncomputable def xpj:=x1pg xbg
noncomputable def xjk:=nRs 6 xpj
noncomputable def x16q:=nL xjk
noncomputable def x16r:=nR xjk
theorem x16s:x1yu call hs u x16r xek eNil=(j4 (xbr call hs u) 5 6 7 8):=by kernel_rfl
theorem x16t:x1yu call hs u x16q (j4 (xbr call hs u) 5 6 7 8) eNil=(j6 (xgs call hs u) 1 2 5 6 7 8):=by kernel_rfl
theorem x16u:x1yu call hs u xjk xek eNil=(j6 (xgs call hs u) 1 2 5 6 7 8):=sq2 (by kernel_rfl) (x16s call hs u) (x16t call hs u)
theorem x16v:x1yu call hs u xpj xek eNil=(j2 (xm1 call hs u) 0 1):=(sqN 6 (by kernel_rfl) (x16u call hs u)).trans (by kernel_rfl)
theorem xzt:FL xbg xfl:=le2 (fn:=Try.f9) (by kernel_rfl) (by kernel_rfl) (by kernel_rfl) (by kernel_rfl) (fun call hs t0 t1 m=>(congrFun (x16v call hs m.next) _).trans (by kernel_rfl)) (fun _ _ _ _ _ h=>by unfold xfl at h;split at h<;>first | exact ⟨_,_,rfl⟩ | cases h)
noncomputable abbrev xpk:Fs→O2:=x1pe Try.prog [.tmp 6]
noncomputable abbrev x27c:=XK call { f:=xbh,u:=u,nt:=100,hs:=hs } xpk
noncomputable def x16w:=x1pg xbh
theorem x16x:x27c call hs u x16w xpk eNil=(j3 (xm2 call hs u) 0 1 2):=by kernel_rfl
theorem xzu:FL xbh xfm:=le3 (fn:=Try.f10) (by kernel_rfl) (by kernel_rfl) (by kernel_rfl) (by kernel_rfl) (fun call hs t0 t1 t2 m=>(congrFun (x16x call hs m.next) _).trans (by kernel_rfl)) (fun _ _ _ _ _ h=>by unfold xfm at h;split at h<;>first | exact ⟨_,_,_,rfl⟩ | cases h)
noncomputable abbrev xel:Fs→O2:=x1pe Try.prog [.tmp 4]
noncomputable abbrev x1yv:=XK call { f:=xbi,u:=u,nt:=56,hs:=hs } xel
noncomputable def xpl:=x1pg xbi
noncomputable def xjl:=nRs 6 xpl
noncomputable def x16y:=nL xjl
noncomputable def x16z:=nR xjl
theorem x170:x1yv call hs u x16z xel eNil=(j4 (xbs call hs u) 5 6 7 8):=by kernel_rfl
theorem x171:x1yv call hs u x16y (j4 (xbs call hs u) 5 6 7 8) eNil=(j6 (xgt call hs u) 1 2 5 6 7 8):=by kernel_rfl
theorem x172:x1yv call hs u xjl xel eNil=(j6 (xgt call hs u) 1 2 5 6 7 8):=sq2 (by kernel_rfl) (x170 call hs u) (x171 call hs u)
theorem x173:x1yv call hs u xpl xel eNil=(j2 (xm3 call hs u) 0 1):=(sqN 6 (by kernel_rfl) (x172 call hs u)).trans (by kernel_rfl)
theorem xzv:FL xbi xfn:=le2 (fn:=Try.f11) (by kernel_rfl) (by kernel_rfl) (by kernel_rfl) (by kernel_rfl) (fun call hs t0 t1 m=>(congrFun (x173 call hs m.next) _).trans (by kernel_rfl)) (fun _ _ _ _ _ h=>by unfold xfn at h;split at h<;>first | exact ⟨_,_,rfl⟩ | cases h)
noncomputable abbrev xpm:Fs→O2:=x1pe Try.prog [.tmp 0]
noncomputable abbrev x27d:=XK call { f:=x15,u:=u,nt:=79,hs:=hs } xpm
noncomputable def x174:=x1pg x15
theorem x175:x27d call hs u x174 xpm eNil=(j0 (xm4 call hs u)):=by kernel_rfl
theorem xzw:FL x15 xfo:=le0 (fn:=Try.f15) (by kernel_rfl) (by kernel_rfl) (by kernel_rfl) (by kernel_rfl) (fun call hs m=>(congrFun (x175 call hs m.next) _).trans (by kernel_rfl)) (fun _ _ _ _ _ h=>by unfold xfo at h;split at h<;>first | exact rfl | cases h)
noncomputable abbrev xem:Fs→O2:=x1pe Try.prog [.tmp 2]
noncomputable abbrev x1vf:=XK call { f:=x47,u:=u,nt:=56,hs:=hs } xem
noncomputable def xpn:=x1pg x47
noncomputable def xjm:=nRs 3 xpn
noncomputable def xpo:=nL xjm
noncomputable def x176:=nR xjm
noncomputable def xpp:=nR xpo
noncomputable def xpq:=nR xpp
noncomputable def x177:=nR xpq
theorem x178:x1vf call hs u x176 xem eNil=(j0 (x67 call hs u)):=by kernel_rfl
theorem x179 (rec0:AV→AV→Mem→Nat→O2):x1vf call hs u x177 (j2 rec0 1 3) (setE 0 (j0 (x67 call hs u)) eNil)=(j2 (xm5 call hs u rec0) 1 3):=by kernel_rfl
theorem x17a:x1vf call hs u xpq (j0 (x67 call hs u)) (setE 0 (j0 (x67 call hs u)) eNil)=(j2 (x6v call hs u NN) 1 3):=lp (Ln:=fun n=>j2 (x6v call hs u n) 1 3) (by kernel_rfl) rfl fun n=>(x179 call hs u (x6v call hs u n)).trans (by kernel_rfl)
theorem x17b:x1vf call hs u xpp (j0 (x67 call hs u)) eNil=(j2 (x6v call hs u NN) 1 3):=bk (by kernel_rfl) (x17a call hs u)
theorem x17c:x1vf call hs u xpo (j0 (x67 call hs u)) eNil=(j1 (xgv call hs u) 1):=(sqN 1 (by kernel_rfl) (x17b call hs u)).trans (by kernel_rfl)
theorem x17d:x1vf call hs u xjm xem eNil=(j1 (xgv call hs u) 1):=sq2 (by kernel_rfl) (x178 call hs u) (x17c call hs u)
theorem x17e:x1vf call hs u xpn xem eNil=(j1 (xm6 call hs u) 0):=(sqN 3 (by kernel_rfl) (x17d call hs u)).trans (by kernel_rfl)
theorem xzx:FL x47 xfp:=le1 (fn:=Try.f16) (by kernel_rfl) (by kernel_rfl) (by kernel_rfl) (by kernel_rfl) (fun call hs t0 m=>(congrFun (x17e call hs m.next) _).trans (by kernel_rfl)) (fun _ _ _ _ _ h=>by unfold xfp at h;split at h<;>first | exact ⟨_,rfl⟩ | cases h)
noncomputable abbrev xpr:Fs→O2:=x1pe Try.prog [.tmp 2,.tmp 3,.tmp 4,.tmp 5]
noncomputable abbrev x27e:=XK call { f:=x5p,u:=u,nt:=33,hs:=hs } xpr
noncomputable def x17f:=x1pg x5p
theorem x17g:x27e call hs u x17f xpr eNil=(j1 (xm7 call hs u) 0):=by kernel_rfl
theorem xzy:FL x5p xfq:=le1 (fn:=Try.f17) (by kernel_rfl) (by kernel_rfl) (by kernel_rfl) (by kernel_rfl) (fun call hs t0 m=>(congrFun (x17g call hs m.next) _).trans (by kernel_rfl)) (fun _ _ _ _ _ h=>by unfold xfq at h;split at h<;>first | exact ⟨_,rfl⟩ | cases h)
noncomputable abbrev xps:Fs→O2:=x1pe Try.prog [.cell 2 x7x]
noncomputable abbrev x27f:=XK call { f:=x1d,u:=u,nt:=10,hs:=hs } xps
noncomputable def x17h:=x1pg x1d
theorem x17i:x27f call hs u x17h xps eNil=(j1 (xm8 call hs u) 0):=by kernel_rfl
theorem xzz:FL x1d xfr:=le1 (fn:=Try.f18) (by kernel_rfl) (by kernel_rfl) (by kernel_rfl) (by kernel_rfl) (fun call hs t0 m=>(congrFun (x17i call hs m.next) _).trans (by kernel_rfl)) (fun _ _ _ _ _ h=>by unfold xfr at h;split at h<;>first | exact ⟨_,rfl⟩ | cases h)
noncomputable abbrev xpt:Fs→O2:=x1pe Try.prog [.tmp 2]
noncomputable abbrev x27g:=XK call { f:=x2y,u:=u,nt:=11,hs:=hs } xpt
noncomputable def x17j:=x1pg x2y
theorem x17k:x27g call hs u x17j xpt eNil=(j1 (xm9 call hs u) 0):=by kernel_rfl
theorem x100:FL x2y xfs:=le1 (fn:=Try.f19) (by kernel_rfl) (by kernel_rfl) (by kernel_rfl) (by kernel_rfl) (fun call hs t0 m=>(congrFun (x17k call hs m.next) _).trans (by kernel_rfl)) (fun _ _ _ _ _ h=>by unfold xfs at h;split at h<;>first | exact ⟨_,rfl⟩ | cases h)
noncomputable abbrev xen:Fs→O2:=x1pe Try.prog [.tmp 4,.tmp 5]
noncomputable abbrev x1vg:=XK call { f:=x6l,u:=u,nt:=27,hs:=hs } xen
noncomputable def xpu:=x1pg x6l
noncomputable def xjn:=nRs 2 xpu
noncomputable def xpv:=nL xjn
noncomputable def x17l:=nR xjn
noncomputable def xpw:=nR xpv
noncomputable def xpx:=nR xpw
noncomputable def x17m:=nR xpx
theorem x17n:x1vg call hs u x17l xen eNil=(j2 (x68 call hs u) 1 2):=by kernel_rfl
theorem x17o (rec0:AV→AV→AV→Mem→Nat→O2):x1vg call hs u x17m (j3 rec0 1 2 6) (setE 0 (j2 (x68 call hs u) 1 2) eNil)=(j3 (xma call hs u rec0) 1 2 6):=by kernel_rfl
theorem x17p:x1vg call hs u xpx (j2 (x68 call hs u) 1 2) (setE 0 (j2 (x68 call hs u) 1 2) eNil)=(j3 (x6w call hs u NN) 1 2 6):=lp (Ln:=fun n=>j3 (x6w call hs u n) 1 2 6) (by kernel_rfl) rfl fun n=>(x17o call hs u (x6w call hs u n)).trans (by kernel_rfl)
theorem x17q:x1vg call hs u xpw (j2 (x68 call hs u) 1 2) eNil=(j3 (x6w call hs u NN) 1 2 6):=bk (by kernel_rfl) (x17p call hs u)
theorem x17r:x1vg call hs u xpv (j2 (x68 call hs u) 1 2) eNil=(j2 (xgw call hs u) 1 2):=(sqN 1 (by kernel_rfl) (x17q call hs u)).trans (by kernel_rfl)
theorem x17s:x1vg call hs u xjn xen eNil=(j2 (xgw call hs u) 1 2):=sq2 (by kernel_rfl) (x17n call hs u) (x17r call hs u)
theorem x17t:x1vg call hs u xpu xen eNil=(j2 (xmb call hs u) 0 1):=(sqN 2 (by kernel_rfl) (x17s call hs u)).trans (by kernel_rfl)
theorem x101:FL x6l xft:=le2 (fn:=Try.f20) (by kernel_rfl) (by kernel_rfl) (by kernel_rfl) (by kernel_rfl) (fun call hs t0 t1 m=>(congrFun (x17t call hs m.next) _).trans (by kernel_rfl)) (fun _ _ _ _ _ h=>by unfold xft at h;split at h<;>first | exact ⟨_,_,rfl⟩ | cases h)
noncomputable abbrev xb5:Fs→O2:=x1pe Try.prog [.tmp 4,.tmp 5]
noncomputable abbrev x1sx:=XK call { f:=x2z,u:=u,nt:=91,hs:=hs } xb5
noncomputable def xpy:=x1pg x2z
noncomputable def xjo:=nRs 4 xpy
noncomputable def xpz:=nL xjo
noncomputable def xjp:=nR xjo
noncomputable def xq0:=nL xjp
noncomputable def x17u:=nR xjp
noncomputable def xq1:=nR xq0
noncomputable def xq2:=nR xq1
noncomputable def x17v:=nR xq2
noncomputable def xq3:=nR xpz
noncomputable def xq4:=nR xq3
noncomputable def x17w:=nR xq4
theorem x17x:x1sx call hs u x17u xb5 eNil=(j1 (x50 call hs u) 7):=by kernel_rfl
theorem x17y (rec0:AV→AV→AV→AV→Mem→Nat→O2):x1sx call hs u x17v (j4 rec0 2 6 7 10) (setE 2 (j1 (x50 call hs u) 7) eNil)=(j4 (xbt call hs u rec0) 2 6 7 10):=by kernel_rfl
theorem x17z:x1sx call hs u xq2 (j1 (x50 call hs u) 7) (setE 2 (j1 (x50 call hs u) 7) eNil)=(j4 (x37 call hs u NN) 2 6 7 10):=lp (Ln:=fun n=>j4 (x37 call hs u n) 2 6 7 10) (by kernel_rfl) rfl fun n=>(x17y call hs u (x37 call hs u n)).trans (by kernel_rfl)
theorem x180:x1sx call hs u xq1 (j1 (x50 call hs u) 7) eNil=(j4 (x37 call hs u NN) 2 6 7 10):=bk (by kernel_rfl) (x17z call hs u)
theorem x181:x1sx call hs u xq0 (j1 (x50 call hs u) 7) eNil=(j3 (x38 call hs u) 2 6 7):=(sqN 1 (by kernel_rfl) (x180 call hs u)).trans (by kernel_rfl)
theorem x182:x1sx call hs u xjp xb5 eNil=(j3 (x38 call hs u) 2 6 7):=sq2 (by kernel_rfl) (x17x call hs u) (x181 call hs u)
theorem x183 (rec1:AV→AV→AV→AV→AV→Mem→Nat→O2):x1sx call hs u x17w (j5 rec1 1 2 6 7 8) (setE 0 (j3 (x38 call hs u) 2 6 7) eNil)=(j5 (xbu call hs u rec1) 1 2 6 7 8):=by kernel_rfl
theorem x184:x1sx call hs u xq4 (j3 (x38 call hs u) 2 6 7) (setE 0 (j3 (x38 call hs u) 2 6 7) eNil)=(j5 (x39 call hs u NN) 1 2 6 7 8):=lp (Ln:=fun n=>j5 (x39 call hs u n) 1 2 6 7 8) (by kernel_rfl) rfl fun n=>(x183 call hs u (x39 call hs u n)).trans (by kernel_rfl)
theorem x185:x1sx call hs u xq3 (j3 (x38 call hs u) 2 6 7) eNil=(j5 (x39 call hs u NN) 1 2 6 7 8):=bk (by kernel_rfl) (x184 call hs u)
theorem x186:x1sx call hs u xpz (j3 (x38 call hs u) 2 6 7) eNil=(j4 (xbv call hs u) 1 2 6 7):=(sqN 1 (by kernel_rfl) (x185 call hs u)).trans (by kernel_rfl)
theorem x187:x1sx call hs u xjo xb5 eNil=(j4 (xbv call hs u) 1 2 6 7):=sq2 (by kernel_rfl) (x182 call hs u) (x186 call hs u)
theorem x188:x1sx call hs u xpy xb5 eNil=(j2 (xgx call hs u) 0 1):=(sqN 4 (by kernel_rfl) (x187 call hs u)).trans (by kernel_rfl)
theorem x102:FL x2z x8f:=le2 (fn:=Try.f21) (by kernel_rfl) (by kernel_rfl) (by kernel_rfl) (by kernel_rfl) (fun call hs t0 t1 m=>(congrFun (x188 call hs m.next) _).trans (by kernel_rfl)) (fun _ _ _ _ _ h=>by unfold x8f at h;split at h<;>first | exact ⟨_,_,rfl⟩ | cases h)
noncomputable abbrev xq5:Fs→O2:=x1pe Try.prog [.tmp 2]
noncomputable abbrev x27h:=XK call { f:=x48,u:=u,nt:=7,hs:=hs } xq5
noncomputable def x189:=x1pg x48
theorem x18a:x27h call hs u x189 xq5 eNil=(j1 (xgy call hs u) 0):=by kernel_rfl
theorem x103:FL x48 x8g:=le1 (fn:=Try.f22) (by kernel_rfl) (by kernel_rfl) (by kernel_rfl) (by kernel_rfl) (fun call hs t0 m=>(congrFun (x18a call hs m.next) _).trans (by kernel_rfl)) (fun _ _ _ _ _ h=>by unfold x8g at h;split at h<;>first | exact ⟨_,rfl⟩ | cases h)
noncomputable abbrev xb6:Fs→O2:=x1pe Try.prog [.tmp 2]
noncomputable abbrev x1qx:=XK call { f:=x49,u:=u,nt:=82,hs:=hs } xb6
noncomputable def xq6:=x1pg x49
noncomputable def xjq:=nRs 2 xq6
noncomputable def xq7:=nL xjq
noncomputable def xjr:=nR xjq
noncomputable def xq8:=nL xjr
noncomputable def x18b:=nR xjr
noncomputable def xq9:=nR xq8
noncomputable def xqa:=nR xq9
noncomputable def xqb:=nR xqa
noncomputable def xjs:=nR xqb
noncomputable def xqc:=nL xjs
noncomputable def x18c:=nR xjs
noncomputable def xqd:=nR xqc
noncomputable def xjt:=nR xqd
noncomputable def xqe:=nL xjt
noncomputable def x18d:=nR xjt
noncomputable def xqf:=nR xqe
noncomputable def xqg:=nR xqf
noncomputable def xqh:=nR xqg
noncomputable def xju:=nR xqh
noncomputable def x18e:=nL xju
noncomputable def x18f:=nR xju
noncomputable def xqi:=nR xq7
noncomputable def xqj:=nR xqi
noncomputable def x18g:=nR xqj
theorem x18h:x1qx call hs u x18b xb6 eNil=(j1 (x9 call hs u) 3):=by kernel_rfl
theorem x18i (rec0:AV→AV→AV→Mem→Nat→O2):x1qx call hs u x18c (j3 rec0 1 3 5) (setE 2 (j1 (x9 call hs u) 3) eNil)=(j3 (xk call hs u rec0) 1 3 5):=by kernel_rfl
theorem x18j (rec0:AV→AV→AV→Mem→Nat→O2):x1qx call hs u x18d (j3 (xk call hs u rec0) 1 3 5) (setE 3 (j3 (xk call hs u rec0) 1 3 5) (setE 2 (j1 (x9 call hs u) 3) eNil))=(j4 (x17 call hs u rec0) 1 3 5 6):=by kernel_rfl
theorem x18k (rec0:AV→AV→AV→Mem→Nat→O2) (rec1:AV→AV→AV→AV→AV→Mem→Nat→O2):x1qx call hs u x18f (j5 rec1 1 3 5 6 7) (setE 4 (j4 (x17 call hs u rec0) 1 3 5 6) (setE 3 (j3 (xk call hs u rec0) 1 3 5) (setE 2 (j1 (x9 call hs u) 3) eNil)))=(j5 (x69 call hs u rec0 rec1) 1 3 5 6 7):=by kernel_rfl
theorem x18l (rec0:AV→AV→AV→Mem→Nat→O2) (rec1:AV→AV→AV→AV→AV→Mem→Nat→O2):x1qx call hs u x18e (j5 (x69 call hs u rec0 rec1) 1 3 5 6 7) (setE 4 (j4 (x17 call hs u rec0) 1 3 5 6) (setE 3 (j3 (xk call hs u rec0) 1 3 5) (setE 2 (j1 (x9 call hs u) 3) eNil)))=(j5 (x6x call hs u rec0 rec1) 1 3 5 6 7):=by kernel_rfl
theorem x18m (rec0:AV→AV→AV→Mem→Nat→O2) (rec1:AV→AV→AV→AV→AV→Mem→Nat→O2):x1qx call hs u xju (j5 rec1 1 3 5 6 7) (setE 4 (j4 (x17 call hs u rec0) 1 3 5 6) (setE 3 (j3 (xk call hs u rec0) 1 3 5) (setE 2 (j1 (x9 call hs u) 3) eNil)))=(j5 (x6x call hs u rec0 rec1) 1 3 5 6 7):=sq2 (by kernel_rfl) (x18k call hs u rec0 rec1) (x18l call hs u rec0 rec1)
theorem x18n (rec0:AV→AV→AV→Mem→Nat→O2) (rec1:AV→AV→AV→AV→AV→Mem→Nat→O2):x1qx call hs u xqh (j5 rec1 1 3 5 6 7) (setE 4 (j4 (x17 call hs u rec0) 1 3 5 6) (setE 3 (j3 (xk call hs u rec0) 1 3 5) (setE 2 (j1 (x9 call hs u) 3) eNil)))=(j5 (x6y call hs u rec0 rec1) 1 3 5 6 7):=(sqN 1 (by kernel_rfl) (x18m call hs u rec0 rec1)).trans (by kernel_rfl)
theorem x18o (rec0:AV→AV→AV→Mem→Nat→O2):x1qx call hs u xqg (j4 (x17 call hs u rec0) 1 3 5 6) (setE 4 (j4 (x17 call hs u rec0) 1 3 5 6) (setE 3 (j3 (xk call hs u rec0) 1 3 5) (setE 2 (j1 (x9 call hs u) 3) eNil)))=(j5 (x1v call hs u rec0 NN) 1 3 5 6 7):=lp (Ln:=fun n=>j5 (x1v call hs u rec0 n) 1 3 5 6 7) (by kernel_rfl) rfl fun n=>(x18n call hs u rec0 (x1v call hs u rec0 n)).trans (by kernel_rfl)
theorem x18p (rec0:AV→AV→AV→Mem→Nat→O2):x1qx call hs u xqf (j4 (x17 call hs u rec0) 1 3 5 6) (setE 3 (j3 (xk call hs u rec0) 1 3 5) (setE 2 (j1 (x9 call hs u) 3) eNil))=(j5 (x1v call hs u rec0 NN) 1 3 5 6 7):=bk (by kernel_rfl) (x18o call hs u rec0)
theorem x18q (rec0:AV→AV→AV→Mem→Nat→O2):x1qx call hs u xqe (j4 (x17 call hs u rec0) 1 3 5 6) (setE 3 (j3 (xk call hs u rec0) 1 3 5) (setE 2 (j1 (x9 call hs u) 3) eNil))=(j4 (xbw call hs u rec0) 1 3 5 6):=(sqN 1 (by kernel_rfl) (x18p call hs u rec0)).trans (by kernel_rfl)
theorem x18r (rec0:AV→AV→AV→Mem→Nat→O2):x1qx call hs u xjt (j3 (xk call hs u rec0) 1 3 5) (setE 3 (j3 (xk call hs u rec0) 1 3 5) (setE 2 (j1 (x9 call hs u) 3) eNil))=(j4 (xbw call hs u rec0) 1 3 5 6):=sq2 (by kernel_rfl) (x18j call hs u rec0) (x18q call hs u rec0)
theorem x18s (rec0:AV→AV→AV→Mem→Nat→O2):x1qx call hs u xqd (j3 (xk call hs u rec0) 1 3 5) (setE 3 (j3 (xk call hs u rec0) 1 3 5) (setE 2 (j1 (x9 call hs u) 3) eNil))=(j3 (xa7 call hs u rec0) 1 3 5):=(sqN 1 (by kernel_rfl) (x18r call hs u rec0)).trans (by kernel_rfl)
theorem x18t (rec0:AV→AV→AV→Mem→Nat→O2):x1qx call hs u xqc (j3 (xk call hs u rec0) 1 3 5) (setE 2 (j1 (x9 call hs u) 3) eNil)=(j3 (xa7 call hs u rec0) 1 3 5):=bk (by kernel_rfl) (x18s call hs u rec0)
theorem x18u (rec0:AV→AV→AV→Mem→Nat→O2):x1qx call hs u xjs (j3 rec0 1 3 5) (setE 2 (j1 (x9 call hs u) 3) eNil)=(j3 (xa7 call hs u rec0) 1 3 5):=sq2 (by kernel_rfl) (x18i call hs u rec0) (x18t call hs u rec0)
theorem x18v (rec0:AV→AV→AV→Mem→Nat→O2):x1qx call hs u xqb (j3 rec0 1 3 5) (setE 2 (j1 (x9 call hs u) 3) eNil)=(j3 (xbx call hs u rec0) 1 3 5):=(sqN 1 (by kernel_rfl) (x18u call hs u rec0)).trans (by kernel_rfl)
theorem x18w:x1qx call hs u xqa (j1 (x9 call hs u) 3) (setE 2 (j1 (x9 call hs u) 3) eNil)=(j3 (x1f call hs u NN) 1 3 5):=lp (Ln:=fun n=>j3 (x1f call hs u n) 1 3 5) (by kernel_rfl) rfl fun n=>(x18v call hs u (x1f call hs u n)).trans (by kernel_rfl)
theorem x18x:x1qx call hs u xq9 (j1 (x9 call hs u) 3) eNil=(j3 (x1f call hs u NN) 1 3 5):=bk (by kernel_rfl) (x18w call hs u)
theorem x18y:x1qx call hs u xq8 (j1 (x9 call hs u) 3) eNil=(j2 (x2h call hs u) 1 3):=(sqN 1 (by kernel_rfl) (x18x call hs u)).trans (by kernel_rfl)
theorem x18z:x1qx call hs u xjr xb6 eNil=(j2 (x2h call hs u) 1 3):=sq2 (by kernel_rfl) (x18h call hs u) (x18y call hs u)
theorem x190 (rec2:AV→AV→AV→Mem→Nat→O2):x1qx call hs u x18g (j3 rec2 1 3 4) (setE 0 (j2 (x2h call hs u) 1 3) eNil)=(j3 (xby call hs u rec2) 1 3 4):=by kernel_rfl
theorem x191:x1qx call hs u xqj (j2 (x2h call hs u) 1 3) (setE 0 (j2 (x2h call hs u) 1 3) eNil)=(j3 (x3a call hs u NN) 1 3 4):=lp (Ln:=fun n=>j3 (x3a call hs u n) 1 3 4) (by kernel_rfl) rfl fun n=>(x190 call hs u (x3a call hs u n)).trans (by kernel_rfl)
theorem x192:x1qx call hs u xqi (j2 (x2h call hs u) 1 3) eNil=(j3 (x3a call hs u NN) 1 3 4):=bk (by kernel_rfl) (x191 call hs u)
theorem x193:x1qx call hs u xq7 (j2 (x2h call hs u) 1 3) eNil=(j2 (xbz call hs u) 1 3):=(sqN 1 (by kernel_rfl) (x192 call hs u)).trans (by kernel_rfl)
theorem x194:x1qx call hs u xjq xb6 eNil=(j2 (xbz call hs u) 1 3):=sq2 (by kernel_rfl) (x18z call hs u) (x193 call hs u)
theorem x195:x1qx call hs u xq6 xb6 eNil=(j1 (xgz call hs u) 0):=(sqN 2 (by kernel_rfl) (x194 call hs u)).trans (by kernel_rfl)
theorem x104:FL x49 x8h:=le1 (fn:=Try.f23) (by kernel_rfl) (by kernel_rfl) (by kernel_rfl) (by kernel_rfl) (fun call hs t0 m=>(congrFun (x195 call hs m.next) _).trans (by kernel_rfl)) (fun _ _ _ _ _ h=>by unfold x8h at h;split at h<;>first | exact ⟨_,rfl⟩ | cases h)
noncomputable abbrev xeo:Fs→O2:=x1pe Try.prog [.tmp 4]
noncomputable abbrev x1vh:=XK call { f:=x4a,u:=u,nt:=18,hs:=hs } xeo
noncomputable def xqk:=x1pg x4a
noncomputable def xjv:=nR xqk
noncomputable def xql:=nL xjv
noncomputable def x196:=nR xjv
noncomputable def xqm:=nR xql
noncomputable def xqn:=nR xqm
noncomputable def x197:=nR xqn
theorem x198:x1vh call hs u x196 xeo eNil=(j0 (x51 call hs u)):=by kernel_rfl
theorem x199 (rec0:AV→AV→AV→Mem→Nat→O2):x1vh call hs u x197 (j3 rec0 0 1 5) (setE 0 (j0 (x51 call hs u)) eNil)=(j3 (xc0 call hs u rec0) 0 1 5):=by kernel_rfl
theorem x19a:x1vh call hs u xqn (j0 (x51 call hs u)) (setE 0 (j0 (x51 call hs u)) eNil)=(j3 (x3b call hs u NN) 0 1 5):=lp (Ln:=fun n=>j3 (x3b call hs u n) 0 1 5) (by kernel_rfl) rfl fun n=>(x199 call hs u (x3b call hs u n)).trans (by kernel_rfl)
theorem x19b:x1vh call hs u xqm (j0 (x51 call hs u)) eNil=(j3 (x3b call hs u NN) 0 1 5):=bk (by kernel_rfl) (x19a call hs u)
theorem x19c:x1vh call hs u xql (j0 (x51 call hs u)) eNil=(j2 (xh0 call hs u) 0 1):=(sqN 1 (by kernel_rfl) (x19b call hs u)).trans (by kernel_rfl)
theorem x19d:x1vh call hs u xjv xeo eNil=(j2 (xh0 call hs u) 0 1):=sq2 (by kernel_rfl) (x198 call hs u) (x19c call hs u)
theorem x19e:x1vh call hs u xqk xeo eNil=(j2 (xmc call hs u) 0 1):=(sqN 1 (by kernel_rfl) (x19d call hs u)).trans (by kernel_rfl)
theorem x105:FL x4a xbj:=le2 (fn:=Try.f24) (by kernel_rfl) (by kernel_rfl) (by kernel_rfl) (by kernel_rfl) (fun call hs t0 t1 m=>(congrFun (x19e call hs m.next) _).trans (by kernel_rfl)) (fun _ _ _ _ _ h=>by unfold xbj at h;split at h<;>first | exact ⟨_,_,rfl⟩ | cases h)
noncomputable abbrev xb7:Fs→O2:=x1pe Try.prog [.tmp 2]
noncomputable abbrev x1sy:=XK call { f:=x4b,u:=u,nt:=56,hs:=hs } xb7
noncomputable def xqo:=x1pg x4b
noncomputable def xjw:=nRs 4 xqo
noncomputable def xqp:=nL xjw
noncomputable def xjx:=nR xjw
noncomputable def xqq:=nL xjx
noncomputable def x19f:=nR xjx
noncomputable def xqr:=nR xqq
noncomputable def xqs:=nR xqr
noncomputable def x19g:=nR xqs
noncomputable def xqt:=nR xqp
noncomputable def xqu:=nR xqt
noncomputable def x19h:=nR xqu
theorem x19i:x1sy call hs u x19f xb7 eNil=(j0 (x52 call hs u)):=by kernel_rfl
theorem x19j (rec0:AV→AV→Mem→Nat→O2):x1sy call hs u x19g (j2 rec0 1 4) (setE 2 (j0 (x52 call hs u)) eNil)=(j2 (xc1 call hs u rec0) 1 4):=by kernel_rfl
theorem x19k:x1sy call hs u xqs (j0 (x52 call hs u)) (setE 2 (j0 (x52 call hs u)) eNil)=(j2 (x3c call hs u NN) 1 4):=lp (Ln:=fun n=>j2 (x3c call hs u n) 1 4) (by kernel_rfl) rfl fun n=>(x19j call hs u (x3c call hs u n)).trans (by kernel_rfl)
theorem x19l:x1sy call hs u xqr (j0 (x52 call hs u)) eNil=(j2 (x3c call hs u NN) 1 4):=bk (by kernel_rfl) (x19k call hs u)
theorem x19m:x1sy call hs u xqq (j0 (x52 call hs u)) eNil=(j1 (x3d call hs u) 1):=(sqN 1 (by kernel_rfl) (x19l call hs u)).trans (by kernel_rfl)
theorem x19n:x1sy call hs u xjx xb7 eNil=(j1 (x3d call hs u) 1):=sq2 (by kernel_rfl) (x19i call hs u) (x19m call hs u)
theorem x19o (rec1:AV→AV→Mem→Nat→O2):x1sy call hs u x19h (j2 rec1 1 3) (setE 0 (j1 (x3d call hs u) 1) eNil)=(j2 (xc2 call hs u rec1) 1 3):=by kernel_rfl
theorem x19p:x1sy call hs u xqu (j1 (x3d call hs u) 1) (setE 0 (j1 (x3d call hs u) 1) eNil)=(j2 (x3e call hs u NN) 1 3):=lp (Ln:=fun n=>j2 (x3e call hs u n) 1 3) (by kernel_rfl) rfl fun n=>(x19o call hs u (x3e call hs u n)).trans (by kernel_rfl)
theorem x19q:x1sy call hs u xqt (j1 (x3d call hs u) 1) eNil=(j2 (x3e call hs u NN) 1 3):=bk (by kernel_rfl) (x19p call hs u)
theorem x19r:x1sy call hs u xqp (j1 (x3d call hs u) 1) eNil=(j1 (xc3 call hs u) 1):=(sqN 1 (by kernel_rfl) (x19q call hs u)).trans (by kernel_rfl)
theorem x19s:x1sy call hs u xjw xb7 eNil=(j1 (xc3 call hs u) 1):=sq2 (by kernel_rfl) (x19n call hs u) (x19r call hs u)
theorem x19t:x1sy call hs u xqo xb7 eNil=(j1 (xh1 call hs u) 0):=(sqN 4 (by kernel_rfl) (x19s call hs u)).trans (by kernel_rfl)
theorem x106:FL x4b x8i:=le1 (fn:=Try.f25) (by kernel_rfl) (by kernel_rfl) (by kernel_rfl) (by kernel_rfl) (fun call hs t0 m=>(congrFun (x19t call hs m.next) _).trans (by kernel_rfl)) (fun _ _ _ _ _ h=>by unfold x8i at h;split at h<;>first | exact ⟨_,rfl⟩ | cases h)
noncomputable abbrev xqv:Fs→O2:=x1pe Try.prog [.cell 2 x7x,.tmp 3]
noncomputable abbrev x27i:=XK call { f:=x8j,u:=u,nt:=13,hs:=hs } xqv
noncomputable def x19u:=x1pg x8j
theorem x19v:x27i call hs u x19u xqv eNil=(j1 (xmd call hs u) 0):=by kernel_rfl
theorem x107:FL x8j xfu:=le1 (fn:=Try.f26) (by kernel_rfl) (by kernel_rfl) (by kernel_rfl) (by kernel_rfl) (fun call hs t0 m=>(congrFun (x19v call hs m.next) _).trans (by kernel_rfl)) (fun _ _ _ _ _ h=>by unfold xfu at h;split at h<;>first | exact ⟨_,rfl⟩ | cases h)
noncomputable abbrev xqw:Fs→O2:=x1pe Try.prog [.cell 2 xj0]
noncomputable abbrev x27j:=XK call { f:=x2b,u:=u,nt:=13,hs:=hs } xqw
noncomputable def x19w:=x1pg x2b
theorem x19x:x27j call hs u x19w xqw eNil=(j1 (xh2 call hs u) 0):=by kernel_rfl
theorem x108:FL x2b x8k:=le1 (fn:=Try.f27) (by kernel_rfl) (by kernel_rfl) (by kernel_rfl) (by kernel_rfl) (fun call hs t0 m=>(congrFun (x19x call hs m.next) _).trans (by kernel_rfl)) (fun _ _ _ _ _ h=>by unfold x8k at h;split at h<;>first | exact ⟨_,rfl⟩ | cases h)
noncomputable abbrev xb8:Fs→O2:=x1pe Try.prog [.tmp 2]
noncomputable abbrev x1sz:=XK call { f:=x30,u:=u,nt:=83,hs:=hs } xb8
noncomputable def xqx:=x1pg x30
noncomputable def xjy:=nRs 6 xqx
noncomputable def xqy:=nL xjy
noncomputable def xjz:=nR xjy
noncomputable def xqz:=nL xjz
noncomputable def x19y:=nR xjz
noncomputable def xr0:=nR xqz
noncomputable def xr1:=nR xr0
noncomputable def x19z:=nR xr1
noncomputable def xr2:=nR xqy
noncomputable def xr3:=nR xr2
noncomputable def x1a0:=nR xr3
theorem x1a1:x1sz call hs u x19y xb8 eNil=(j0 (x53 call hs u)):=by kernel_rfl
theorem x1a2 (rec0:AV→AV→Mem→Nat→O2):x1sz call hs u x19z (j2 rec0 1 7) (setE 2 (j0 (x53 call hs u)) eNil)=(j2 (xc4 call hs u rec0) 1 7):=by kernel_rfl
theorem x1a3:x1sz call hs u xr1 (j0 (x53 call hs u)) (setE 2 (j0 (x53 call hs u)) eNil)=(j2 (x3f call hs u NN) 1 7):=lp (Ln:=fun n=>j2 (x3f call hs u n) 1 7) (by kernel_rfl) rfl fun n=>(x1a2 call hs u (x3f call hs u n)).trans (by kernel_rfl)
theorem x1a4:x1sz call hs u xr0 (j0 (x53 call hs u)) eNil=(j2 (x3f call hs u NN) 1 7):=bk (by kernel_rfl) (x1a3 call hs u)
theorem x1a5:x1sz call hs u xqz (j0 (x53 call hs u)) eNil=(j1 (x3g call hs u) 1):=(sqN 1 (by kernel_rfl) (x1a4 call hs u)).trans (by kernel_rfl)
theorem x1a6:x1sz call hs u xjz xb8 eNil=(j1 (x3g call hs u) 1):=sq2 (by kernel_rfl) (x1a1 call hs u) (x1a5 call hs u)
theorem x1a7 (rec1:AV→AV→Mem→Nat→O2):x1sz call hs u x1a0 (j2 rec1 1 6) (setE 0 (j1 (x3g call hs u) 1) eNil)=(j2 (xc5 call hs u rec1) 1 6):=by kernel_rfl
theorem x1a8:x1sz call hs u xr3 (j1 (x3g call hs u) 1) (setE 0 (j1 (x3g call hs u) 1) eNil)=(j2 (x3h call hs u NN) 1 6):=lp (Ln:=fun n=>j2 (x3h call hs u n) 1 6) (by kernel_rfl) rfl fun n=>(x1a7 call hs u (x3h call hs u n)).trans (by kernel_rfl)
theorem x1a9:x1sz call hs u xr2 (j1 (x3g call hs u) 1) eNil=(j2 (x3h call hs u NN) 1 6):=bk (by kernel_rfl) (x1a8 call hs u)
theorem x1aa:x1sz call hs u xqy (j1 (x3g call hs u) 1) eNil=(j1 (xc6 call hs u) 1):=(sqN 1 (by kernel_rfl) (x1a9 call hs u)).trans (by kernel_rfl)
theorem x1ab:x1sz call hs u xjy xb8 eNil=(j1 (xc6 call hs u) 1):=sq2 (by kernel_rfl) (x1a6 call hs u) (x1aa call hs u)
theorem x1ac:x1sz call hs u xqx xb8 eNil=(j1 (xh3 call hs u) 0):=(sqN 6 (by kernel_rfl) (x1ab call hs u)).trans (by kernel_rfl)
theorem x109:FL x30 x8l:=le1 (fn:=Try.f28) (by kernel_rfl) (by kernel_rfl) (by kernel_rfl) (by kernel_rfl) (fun call hs t0 m=>(congrFun (x1ac call hs m.next) _).trans (by kernel_rfl)) (fun _ _ _ _ _ h=>by unfold x8l at h;split at h<;>first | exact ⟨_,rfl⟩ | cases h)
noncomputable abbrev xep:Fs→O2:=x1pe Try.prog [.tmp 2]
noncomputable abbrev x1vi:=XK call { f:=x1s,u:=u,nt:=67,hs:=hs } xep
noncomputable def xr4:=x1pg x1s
noncomputable def xk0:=nRs 6 xr4
noncomputable def xr5:=nL xk0
noncomputable def x1ad:=nR xk0
noncomputable def xr6:=nR xr5
noncomputable def xr7:=nR xr6
noncomputable def x1ae:=nR xr7
theorem x1af:x1vi call hs u x1ad xep eNil=(j0 (x54 call hs u)):=by kernel_rfl
theorem x1ag (rec0:AV→AV→AV→Mem→Nat→O2):x1vi call hs u x1ae (j3 rec0 57 58 59) (setE 0 (j0 (x54 call hs u)) eNil)=(j3 (xc7 call hs u rec0) 57 58 59):=by kernel_rfl
theorem x1ah:x1vi call hs u xr7 (j0 (x54 call hs u)) (setE 0 (j0 (x54 call hs u)) eNil)=(j3 (x3i call hs u NN) 57 58 59):=lp (Ln:=fun n=>j3 (x3i call hs u n) 57 58 59) (by kernel_rfl) rfl fun n=>(x1ag call hs u (x3i call hs u n)).trans (by kernel_rfl)
theorem x1ai:x1vi call hs u xr6 (j0 (x54 call hs u)) eNil=(j3 (x3i call hs u NN) 57 58 59):=bk (by kernel_rfl) (x1ah call hs u)
theorem x1aj:x1vi call hs u xr5 (j0 (x54 call hs u)) eNil=(j1 (xc8 call hs u) 1):=(sqN 1 (by kernel_rfl) (x1ai call hs u)).trans (by kernel_rfl)
theorem x1ak:x1vi call hs u xk0 xep eNil=(j1 (xc8 call hs u) 1):=sq2 (by kernel_rfl) (x1af call hs u) (x1aj call hs u)
theorem x1al:x1vi call hs u xr4 xep eNil=(j1 (xh4 call hs u) 0):=(sqN 6 (by kernel_rfl) (x1ak call hs u)).trans (by kernel_rfl)
theorem x10a:FL x1s x8m:=le1 (fn:=Try.f29) (by kernel_rfl) (by kernel_rfl) (by kernel_rfl) (by kernel_rfl) (fun call hs t0 m=>(congrFun (x1al call hs m.next) _).trans (by kernel_rfl)) (fun _ _ _ _ _ h=>by unfold x8m at h;split at h<;>first | exact ⟨_,rfl⟩ | cases h)
noncomputable abbrev xeq:Fs→O2:=x1pe Try.prog [.tmp 4]
noncomputable abbrev x1vj:=XK call { f:=x6m,u:=u,nt:=38,hs:=hs } xeq
noncomputable def xr8:=x1pg x6m
noncomputable def xk1:=nRs 2 xr8
noncomputable def xr9:=nL xk1
noncomputable def x1am:=nR xk1
noncomputable def xra:=nR xr9
noncomputable def xrb:=nR xra
noncomputable def x1an:=nR xrb
theorem x1ao:x1vj call hs u x1am xeq eNil=(j0 (x6a call hs u)):=by kernel_rfl
theorem x1ap (rec0:AV→AV→AV→Mem→Nat→O2):x1vj call hs u x1an (j3 rec0 2 3 5) (setE 0 (j0 (x6a call hs u)) eNil)=(j3 (xme call hs u rec0) 2 3 5):=by kernel_rfl
theorem x1aq:x1vj call hs u xrb (j0 (x6a call hs u)) (setE 0 (j0 (x6a call hs u)) eNil)=(j3 (x70 call hs u NN) 2 3 5):=lp (Ln:=fun n=>j3 (x70 call hs u n) 2 3 5) (by kernel_rfl) rfl fun n=>(x1ap call hs u (x70 call hs u n)).trans (by kernel_rfl)
theorem x1ar:x1vj call hs u xra (j0 (x6a call hs u)) eNil=(j3 (x70 call hs u NN) 2 3 5):=bk (by kernel_rfl) (x1aq call hs u)
theorem x1as:x1vj call hs u xr9 (j0 (x6a call hs u)) eNil=(j2 (xh5 call hs u) 2 3):=(sqN 1 (by kernel_rfl) (x1ar call hs u)).trans (by kernel_rfl)
theorem x1at:x1vj call hs u xk1 xeq eNil=(j2 (xh5 call hs u) 2 3):=sq2 (by kernel_rfl) (x1ao call hs u) (x1as call hs u)
theorem x1au:x1vj call hs u xr8 xeq eNil=(j2 (xmf call hs u) 0 1):=(sqN 2 (by kernel_rfl) (x1at call hs u)).trans (by kernel_rfl)
theorem x10b:FL x6m xfv:=le2 (fn:=Try.f30) (by kernel_rfl) (by kernel_rfl) (by kernel_rfl) (by kernel_rfl) (fun call hs t0 t1 m=>(congrFun (x1au call hs m.next) _).trans (by kernel_rfl)) (fun _ _ _ _ _ h=>by unfold xfv at h;split at h<;>first | exact ⟨_,_,rfl⟩ | cases h)
noncomputable abbrev xb9:Fs→O2:=x1pe Try.prog [.cell 2 x7x]
noncomputable abbrev x1qb:=XK call { f:=x31,u:=u,nt:=119,hs:=hs } xb9
noncomputable def xrc:=x1pg x31
noncomputable def xk2:=nRs 3 xrc
noncomputable def xrd:=nL xk2
noncomputable def xk3:=nR xk2
noncomputable def xre:=nL xk3
noncomputable def x1av:=nR xk3
noncomputable def xrf:=nR xre
noncomputable def xrg:=nR xrf
noncomputable def xrh:=nR xrg
noncomputable def xk4:=nR xrh
noncomputable def xri:=nL xk4
noncomputable def x1aw:=nR xk4
noncomputable def xrj:=nR xri
noncomputable def xrk:=nR xrj
noncomputable def xrl:=nR xrk
noncomputable def xrm:=nR xrl
noncomputable def xk5:=nR xrm
noncomputable def x1ax:=nL xk5
noncomputable def x1ay:=nR xk5
noncomputable def xrn:=nR xrd
noncomputable def xro:=nR xrn
noncomputable def xrp:=nR xro
noncomputable def xk6:=nR xrp
noncomputable def xrq:=nL xk6
noncomputable def x1az:=nR xk6
noncomputable def xrr:=nR xrq
noncomputable def xrs:=nR xrr
noncomputable def xrt:=nR xrs
noncomputable def xru:=nR xrt
noncomputable def xk7:=nR xru
noncomputable def x1b0:=nL xk7
noncomputable def x1b1:=nR xk7
theorem x1b2:x1qb call hs u x1av xb9 eNil=(j2 (xg call hs u) 2 4):=by kernel_rfl
theorem x1b3 (rec0:AV→AV→AV→AV→AV→Mem→Nat→O2):x1qb call hs u x1aw (j5 rec0 1 2 3 4 9) (setE 4 (j2 (xg call hs u) 2 4) eNil)=(j5 (xh call hs u rec0) 1 2 3 4 9):=by kernel_rfl
theorem x1b4 (rec0:AV→AV→AV→AV→AV→Mem→Nat→O2) (rec1:AV→AV→AV→AV→AV→AV→Mem→Nat→O2):x1qb call hs u x1ay (j6 rec1 1 2 3 4 9 10) (setE 6 (j5 (xh call hs u rec0) 1 2 3 4 9) (setE 5 (j5 (xh call hs u rec0) 1 2 3 4 9) (setE 4 (j2 (xg call hs u) 2 4) eNil)))=(j6 (x71 call hs u rec0 rec1) 1 2 3 4 9 10):=by kernel_rfl
theorem x1b5 (rec0:AV→AV→AV→AV→AV→Mem→Nat→O2) (rec1:AV→AV→AV→AV→AV→AV→Mem→Nat→O2):x1qb call hs u x1ax (j6 (x71 call hs u rec0 rec1) 1 2 3 4 9 10) (setE 6 (j5 (xh call hs u rec0) 1 2 3 4 9) (setE 5 (j5 (xh call hs u rec0) 1 2 3 4 9) (setE 4 (j2 (xg call hs u) 2 4) eNil)))=(j6 (xa8 call hs u rec0 rec1) 1 2 3 4 9 10):=by kernel_rfl
theorem x1b6 (rec0:AV→AV→AV→AV→AV→Mem→Nat→O2) (rec1:AV→AV→AV→AV→AV→AV→Mem→Nat→O2):x1qb call hs u xk5 (j6 rec1 1 2 3 4 9 10) (setE 6 (j5 (xh call hs u rec0) 1 2 3 4 9) (setE 5 (j5 (xh call hs u rec0) 1 2 3 4 9) (setE 4 (j2 (xg call hs u) 2 4) eNil)))=(j6 (xa8 call hs u rec0 rec1) 1 2 3 4 9 10):=sq2 (by kernel_rfl) (x1b4 call hs u rec0 rec1) (x1b5 call hs u rec0 rec1)
theorem x1b7 (rec0:AV→AV→AV→AV→AV→Mem→Nat→O2) (rec1:AV→AV→AV→AV→AV→AV→Mem→Nat→O2):x1qb call hs u xrm (j6 rec1 1 2 3 4 9 10) (setE 6 (j5 (xh call hs u rec0) 1 2 3 4 9) (setE 5 (j5 (xh call hs u rec0) 1 2 3 4 9) (setE 4 (j2 (xg call hs u) 2 4) eNil)))=(j6 (xa9 call hs u rec0 rec1) 1 2 3 4 9 10):=(sqN 1 (by kernel_rfl) (x1b6 call hs u rec0 rec1)).trans (by kernel_rfl)
theorem x1b8 (rec0:AV→AV→AV→AV→AV→Mem→Nat→O2):x1qb call hs u xrl (j5 (xh call hs u rec0) 1 2 3 4 9) (setE 6 (j5 (xh call hs u rec0) 1 2 3 4 9) (setE 5 (j5 (xh call hs u rec0) 1 2 3 4 9) (setE 4 (j2 (xg call hs u) 2 4) eNil)))=(j6 (x11 call hs u rec0 NN) 1 2 3 4 9 10):=lp (Ln:=fun n=>j6 (x11 call hs u rec0 n) 1 2 3 4 9 10) (by kernel_rfl) rfl fun n=>(x1b7 call hs u rec0 (x11 call hs u rec0 n)).trans (by kernel_rfl)
theorem x1b9 (rec0:AV→AV→AV→AV→AV→Mem→Nat→O2):x1qb call hs u xrk (j5 (xh call hs u rec0) 1 2 3 4 9) (setE 5 (j5 (xh call hs u rec0) 1 2 3 4 9) (setE 4 (j2 (xg call hs u) 2 4) eNil))=(j6 (x11 call hs u rec0 NN) 1 2 3 4 9 10):=bk (by kernel_rfl) (x1b8 call hs u rec0)
theorem x1ba (rec0:AV→AV→AV→AV→AV→Mem→Nat→O2):x1qb call hs u xrj (j5 (xh call hs u rec0) 1 2 3 4 9) (setE 5 (j5 (xh call hs u rec0) 1 2 3 4 9) (setE 4 (j2 (xg call hs u) 2 4) eNil))=(j5 (xaa call hs u rec0) 1 2 3 4 9):=(sqN 1 (by kernel_rfl) (x1b9 call hs u rec0)).trans (by kernel_rfl)
theorem x1bb (rec0:AV→AV→AV→AV→AV→Mem→Nat→O2):x1qb call hs u xri (j5 (xh call hs u rec0) 1 2 3 4 9) (setE 4 (j2 (xg call hs u) 2 4) eNil)=(j5 (xaa call hs u rec0) 1 2 3 4 9):=bk (by kernel_rfl) (x1ba call hs u rec0)
theorem x1bc (rec0:AV→AV→AV→AV→AV→Mem→Nat→O2):x1qb call hs u xk4 (j5 rec0 1 2 3 4 9) (setE 4 (j2 (xg call hs u) 2 4) eNil)=(j5 (xaa call hs u rec0) 1 2 3 4 9):=sq2 (by kernel_rfl) (x1b3 call hs u rec0) (x1bb call hs u rec0)
theorem x1bd (rec0:AV→AV→AV→AV→AV→Mem→Nat→O2):x1qb call hs u xrh (j5 rec0 1 2 3 4 9) (setE 4 (j2 (xg call hs u) 2 4) eNil)=(j5 (xca call hs u rec0) 1 2 3 4 9):=(sqN 1 (by kernel_rfl) (x1bc call hs u rec0)).trans (by kernel_rfl)
theorem x1be:x1qb call hs u xrg (j2 (xg call hs u) 2 4) (setE 4 (j2 (xg call hs u) 2 4) eNil)=(j5 (x2i call hs u NN) 1 2 3 4 9):=lp (Ln:=fun n=>j5 (x2i call hs u n) 1 2 3 4 9) (by kernel_rfl) rfl fun n=>(x1bd call hs u (x2i call hs u n)).trans (by kernel_rfl)
theorem x1bf:x1qb call hs u xrf (j2 (xg call hs u) 2 4) eNil=(j5 (x2i call hs u NN) 1 2 3 4 9):=bk (by kernel_rfl) (x1be call hs u)
theorem x1bg:x1qb call hs u xre (j2 (xg call hs u) 2 4) eNil=(j4 (xc call hs u) 1 2 3 4):=(sqN 1 (by kernel_rfl) (x1bf call hs u)).trans (by kernel_rfl)
theorem x1bh:x1qb call hs u xk3 xb9 eNil=(j4 (xc call hs u) 1 2 3 4):=sq2 (by kernel_rfl) (x1b2 call hs u) (x1bg call hs u)
theorem x1bi (rec2:AV→AV→AV→AV→AV→Mem→Nat→O2):x1qb call hs u x1az (j5 rec2 1 2 3 4 5) (setE 0 (j4 (xc call hs u) 1 2 3 4) eNil)=(j5 (xi call hs u rec2) 1 2 3 4 5):=by kernel_rfl
theorem x1bj (rec2:AV→AV→AV→AV→AV→Mem→Nat→O2) (rec3:AV→AV→AV→AV→AV→AV→Mem→Nat→O2):x1qb call hs u x1b1 (j6 rec3 1 2 3 4 5 6) (setE 2 (j5 (xi call hs u rec2) 1 2 3 4 5) (setE 1 (j5 (xi call hs u rec2) 1 2 3 4 5) (setE 0 (j4 (xc call hs u) 1 2 3 4) eNil)))=(j6 (x72 call hs u rec2 rec3) 1 2 3 4 5 6):=by kernel_rfl
theorem x1bk (rec2:AV→AV→AV→AV→AV→Mem→Nat→O2) (rec3:AV→AV→AV→AV→AV→AV→Mem→Nat→O2):x1qb call hs u x1b0 (j6 (x72 call hs u rec2 rec3) 1 2 3 4 5 6) (setE 2 (j5 (xi call hs u rec2) 1 2 3 4 5) (setE 1 (j5 (xi call hs u rec2) 1 2 3 4 5) (setE 0 (j4 (xc call hs u) 1 2 3 4) eNil)))=(j6 (xab call hs u rec2 rec3) 1 2 3 4 5 6):=by kernel_rfl
theorem x1bl (rec2:AV→AV→AV→AV→AV→Mem→Nat→O2) (rec3:AV→AV→AV→AV→AV→AV→Mem→Nat→O2):x1qb call hs u xk7 (j6 rec3 1 2 3 4 5 6) (setE 2 (j5 (xi call hs u rec2) 1 2 3 4 5) (setE 1 (j5 (xi call hs u rec2) 1 2 3 4 5) (setE 0 (j4 (xc call hs u) 1 2 3 4) eNil)))=(j6 (xab call hs u rec2 rec3) 1 2 3 4 5 6):=sq2 (by kernel_rfl) (x1bj call hs u rec2 rec3) (x1bk call hs u rec2 rec3)
theorem x1bm (rec2:AV→AV→AV→AV→AV→Mem→Nat→O2) (rec3:AV→AV→AV→AV→AV→AV→Mem→Nat→O2):x1qb call hs u xru (j6 rec3 1 2 3 4 5 6) (setE 2 (j5 (xi call hs u rec2) 1 2 3 4 5) (setE 1 (j5 (xi call hs u rec2) 1 2 3 4 5) (setE 0 (j4 (xc call hs u) 1 2 3 4) eNil)))=(j6 (xac call hs u rec2 rec3) 1 2 3 4 5 6):=(sqN 1 (by kernel_rfl) (x1bl call hs u rec2 rec3)).trans (by kernel_rfl)
theorem x1bn (rec2:AV→AV→AV→AV→AV→Mem→Nat→O2):x1qb call hs u xrt (j5 (xi call hs u rec2) 1 2 3 4 5) (setE 2 (j5 (xi call hs u rec2) 1 2 3 4 5) (setE 1 (j5 (xi call hs u rec2) 1 2 3 4 5) (setE 0 (j4 (xc call hs u) 1 2 3 4) eNil)))=(j6 (x12 call hs u rec2 NN) 1 2 3 4 5 6):=lp (Ln:=fun n=>j6 (x12 call hs u rec2 n) 1 2 3 4 5 6) (by kernel_rfl) rfl fun n=>(x1bm call hs u rec2 (x12 call hs u rec2 n)).trans (by kernel_rfl)
theorem x1bo (rec2:AV→AV→AV→AV→AV→Mem→Nat→O2):x1qb call hs u xrs (j5 (xi call hs u rec2) 1 2 3 4 5) (setE 1 (j5 (xi call hs u rec2) 1 2 3 4 5) (setE 0 (j4 (xc call hs u) 1 2 3 4) eNil))=(j6 (x12 call hs u rec2 NN) 1 2 3 4 5 6):=bk (by kernel_rfl) (x1bn call hs u rec2)
theorem x1bp (rec2:AV→AV→AV→AV→AV→Mem→Nat→O2):x1qb call hs u xrr (j5 (xi call hs u rec2) 1 2 3 4 5) (setE 1 (j5 (xi call hs u rec2) 1 2 3 4 5) (setE 0 (j4 (xc call hs u) 1 2 3 4) eNil))=(j5 (xad call hs u rec2) 1 2 3 4 5):=(sqN 1 (by kernel_rfl) (x1bo call hs u rec2)).trans (by kernel_rfl)
theorem x1bq (rec2:AV→AV→AV→AV→AV→Mem→Nat→O2):x1qb call hs u xrq (j5 (xi call hs u rec2) 1 2 3 4 5) (setE 0 (j4 (xc call hs u) 1 2 3 4) eNil)=(j5 (xad call hs u rec2) 1 2 3 4 5):=bk (by kernel_rfl) (x1bp call hs u rec2)
theorem x1br (rec2:AV→AV→AV→AV→AV→Mem→Nat→O2):x1qb call hs u xk6 (j5 rec2 1 2 3 4 5) (setE 0 (j4 (xc call hs u) 1 2 3 4) eNil)=(j5 (xad call hs u rec2) 1 2 3 4 5):=sq2 (by kernel_rfl) (x1bi call hs u rec2) (x1bq call hs u rec2)
theorem x1bs (rec2:AV→AV→AV→AV→AV→Mem→Nat→O2):x1qb call hs u xrp (j5 rec2 1 2 3 4 5) (setE 0 (j4 (xc call hs u) 1 2 3 4) eNil)=(j5 (xcb call hs u rec2) 1 2 3 4 5):=(sqN 1 (by kernel_rfl) (x1br call hs u rec2)).trans (by kernel_rfl)
theorem x1bt:x1qb call hs u xro (j4 (xc call hs u) 1 2 3 4) (setE 0 (j4 (xc call hs u) 1 2 3 4) eNil)=(j5 (x2j call hs u NN) 1 2 3 4 5):=lp (Ln:=fun n=>j5 (x2j call hs u n) 1 2 3 4 5) (by kernel_rfl) rfl fun n=>(x1bs call hs u (x2j call hs u n)).trans (by kernel_rfl)
theorem x1bu:x1qb call hs u xrn (j4 (xc call hs u) 1 2 3 4) eNil=(j5 (x2j call hs u NN) 1 2 3 4 5):=bk (by kernel_rfl) (x1bt call hs u)
theorem x1bv:x1qb call hs u xrd (j4 (xc call hs u) 1 2 3 4) eNil=(j4 (xcc call hs u) 1 2 3 4):=(sqN 1 (by kernel_rfl) (x1bu call hs u)).trans (by kernel_rfl)
theorem x1bw:x1qb call hs u xk2 xb9 eNil=(j4 (xcc call hs u) 1 2 3 4):=sq2 (by kernel_rfl) (x1bh call hs u) (x1bv call hs u)
theorem x1bx:x1qb call hs u xrc xb9 eNil=(j1 (xh6 call hs u) 0):=(sqN 3 (by kernel_rfl) (x1bw call hs u)).trans (by kernel_rfl)
theorem x10c:FL x31 x8n:=le1 (fn:=Try.f31) (by kernel_rfl) (by kernel_rfl) (by kernel_rfl) (by kernel_rfl) (fun call hs t0 m=>(congrFun (x1bx call hs m.next) _).trans (by kernel_rfl)) (fun _ _ _ _ _ h=>by unfold x8n at h;split at h<;>first | exact ⟨_,rfl⟩ | cases h)
noncomputable abbrev xrv:Fs→O2:=x1pe Try.prog [.cell 6 xgu,.tmp 7]
noncomputable abbrev x27k:=XK call { f:=x8o,u:=u,nt:=66,hs:=hs } xrv
noncomputable def x1by:=x1pg x8o
theorem x1bz:x27k call hs u x1by xrv eNil=(j3 (xmg call hs u) 0 1 2):=by kernel_rfl
theorem x10d:FL x8o xfw:=le3 (fn:=Try.f32) (by kernel_rfl) (by kernel_rfl) (by kernel_rfl) (by kernel_rfl) (fun call hs t0 t1 t2 m=>(congrFun (x1bz call hs m.next) _).trans (by kernel_rfl)) (fun _ _ _ _ _ h=>by unfold xfw at h;split at h<;>first | exact ⟨_,_,_,rfl⟩ | cases h)
noncomputable abbrev xer:Fs→O2:=x1pe Try.prog [.tmp 4]
noncomputable abbrev x1vk:=XK call { f:=x2c,u:=u,nt:=26,hs:=hs } xer
noncomputable def xrw:=x1pg x2c
noncomputable def xk8:=nRs 2 xrw
noncomputable def xrx:=nL xk8
noncomputable def x1c0:=nR xk8
noncomputable def xry:=nR xrx
noncomputable def xrz:=nR xry
noncomputable def x1c1:=nR xrz
theorem x1c2:x1vk call hs u x1c0 xer eNil=(j0 (x55 call hs u)):=by kernel_rfl
theorem x1c3 (rec0:AV→AV→AV→Mem→Nat→O2):x1vk call hs u x1c1 (j3 rec0 0 1 5) (setE 0 (j0 (x55 call hs u)) eNil)=(j3 (xcd call hs u rec0) 0 1 5):=by kernel_rfl
theorem x1c4:x1vk call hs u xrz (j0 (x55 call hs u)) (setE 0 (j0 (x55 call hs u)) eNil)=(j3 (x3j call hs u NN) 0 1 5):=lp (Ln:=fun n=>j3 (x3j call hs u n) 0 1 5) (by kernel_rfl) rfl fun n=>(x1c3 call hs u (x3j call hs u n)).trans (by kernel_rfl)
theorem x1c5:x1vk call hs u xry (j0 (x55 call hs u)) eNil=(j3 (x3j call hs u NN) 0 1 5):=bk (by kernel_rfl) (x1c4 call hs u)
theorem x1c6:x1vk call hs u xrx (j0 (x55 call hs u)) eNil=(j2 (xce call hs u) 0 1):=(sqN 1 (by kernel_rfl) (x1c5 call hs u)).trans (by kernel_rfl)
theorem x1c7:x1vk call hs u xk8 xer eNil=(j2 (xce call hs u) 0 1):=sq2 (by kernel_rfl) (x1c2 call hs u) (x1c6 call hs u)
theorem x1c8:x1vk call hs u xrw xer eNil=(j2 (xh7 call hs u) 0 1):=(sqN 2 (by kernel_rfl) (x1c7 call hs u)).trans (by kernel_rfl)
theorem x10e:FL x2c x8p:=le2 (fn:=Try.f34) (by kernel_rfl) (by kernel_rfl) (by kernel_rfl) (by kernel_rfl) (fun call hs t0 t1 m=>(congrFun (x1c8 call hs m.next) _).trans (by kernel_rfl)) (fun _ _ _ _ _ h=>by unfold x8p at h;split at h<;>first | exact ⟨_,_,rfl⟩ | cases h)
noncomputable abbrev xs0:Fs→O2:=x1pe Try.prog [.tmp 6]
noncomputable abbrev x27l:=XK call { f:=xb,u:=u,nt:=15,hs:=hs } xs0
noncomputable def x1c9:=x1pg xb
theorem x1ca:x27l call hs u x1c9 xs0 eNil=(j3 (xh8 call hs u) 0 1 2):=by kernel_rfl
theorem x10f:FL xb x8q:=le3 (fn:=Try.f36) (by kernel_rfl) (by kernel_rfl) (by kernel_rfl) (by kernel_rfl) (fun call hs t0 t1 t2 m=>(congrFun (x1ca call hs m.next) _).trans (by kernel_rfl)) (fun _ _ _ _ _ h=>by unfold x8q at h;split at h<;>first | exact ⟨_,_,_,rfl⟩ | cases h)
noncomputable abbrev x7z:Fs→O2:=x1pe Try.prog [.tmp 2]
noncomputable abbrev x1yw:=XK call { f:=x4c,u:=u,nt:=20,hs:=hs } x7z
noncomputable def xs1:=x1pg x4c
noncomputable def xs2:=nRs 2 xs1
noncomputable def xs3:=nR xs2
noncomputable def x1cb:=nR xs3
theorem x1cc (rec0:AV→AV→Mem→Nat→O2):x1yw call hs u x1cb (j2 rec0 1 3) (setE 0 x7z eNil)=(j2 (x56 call hs u rec0) 1 3):=by kernel_rfl
theorem x1cd:x1yw call hs u xs3 x7z (setE 0 x7z eNil)=(j2 (x13 call hs u NN) 1 3):=lp (Ln:=fun n=>j2 (x13 call hs u n) 1 3) (by kernel_rfl) rfl fun n=>(x1cc call hs u (x13 call hs u n)).trans (by kernel_rfl)
theorem x1ce:x1yw call hs u xs2 x7z eNil=(j2 (x13 call hs u NN) 1 3):=bk (by kernel_rfl) (x1cd call hs u)
theorem x1cf:x1yw call hs u xs1 x7z eNil=(j1 (xh9 call hs u) 0):=(sqN 2 (by kernel_rfl) (x1ce call hs u)).trans (by kernel_rfl)
theorem x10g:FL x4c x8r:=le1 (fn:=Try.f38) (by kernel_rfl) (by kernel_rfl) (by kernel_rfl) (by kernel_rfl) (fun call hs t0 m=>(congrFun (x1cf call hs m.next) _).trans (by kernel_rfl)) (fun _ _ _ _ _ h=>by unfold x8r at h;split at h<;>first | exact ⟨_,rfl⟩ | cases h)
noncomputable abbrev xs4:Fs→O2:=x1pe Try.prog [.tmp 4,.tmp 5]
noncomputable abbrev x27m:=XK call { f:=x5q,u:=u,nt:=29,hs:=hs } xs4
noncomputable def x1cg:=x1pg x5q
theorem x1ch:x27m call hs u x1cg xs4 eNil=(j2 (xmh call hs u) 0 1):=by kernel_rfl
theorem x10h:FL x5q xfx:=le2 (fn:=Try.f39) (by kernel_rfl) (by kernel_rfl) (by kernel_rfl) (by kernel_rfl) (fun call hs t0 t1 m=>(congrFun (x1ch call hs m.next) _).trans (by kernel_rfl)) (fun _ _ _ _ _ h=>by unfold xfx at h;split at h<;>first | exact ⟨_,_,rfl⟩ | cases h)
noncomputable abbrev xs5:Fs→O2:=x1pe Try.prog [.tmp 2]
noncomputable abbrev x27n:=XK call { f:=xf,u:=u,nt:=6,hs:=hs } xs5
noncomputable def x1ci:=x1pg xf
theorem x1cj:x27n call hs u x1ci xs5 eNil=(j1 (xae call hs u) 0):=by kernel_rfl
theorem x10i:FL xf x5r:=le1 (fn:=Try.f40) (by kernel_rfl) (by kernel_rfl) (by kernel_rfl) (by kernel_rfl) (fun call hs t0 m=>(congrFun (x1cj call hs m.next) _).trans (by kernel_rfl)) (fun _ _ _ _ _ h=>by unfold x5r at h;split at h<;>first | exact ⟨_,rfl⟩ | cases h)
noncomputable abbrev xs6:Fs→O2:=x1pe Try.prog [.tmp 2]
noncomputable abbrev x27o:=XK call { f:=x8s,u:=u,nt:=10,hs:=hs } xs6
noncomputable def x1ck:=x1pg x8s
theorem x1cl:x27o call hs u x1ck xs6 eNil=(j1 (xmi call hs u) 0):=by kernel_rfl
theorem x10j:FL x8s xfy:=le1 (fn:=Try.f41) (by kernel_rfl) (by kernel_rfl) (by kernel_rfl) (by kernel_rfl) (fun call hs t0 m=>(congrFun (x1cl call hs m.next) _).trans (by kernel_rfl)) (fun _ _ _ _ _ h=>by unfold xfy at h;split at h<;>first | exact ⟨_,rfl⟩ | cases h)
noncomputable abbrev xes:Fs→O2:=x1pe Try.prog [.cell 2 xiz,.tmp 3,.tmp 4,.tmp 5]
noncomputable abbrev x1tq:=XK call { f:=x32,u:=u,nt:=72,hs:=hs } xes
noncomputable def xs7:=x1pg x32
noncomputable def xk9:=nRs 5 xs7
noncomputable def xs8:=nL xk9
noncomputable def x1cm:=nR xk9
noncomputable def xs9:=nR xs8
noncomputable def xsa:=nR xs9
noncomputable def xsb:=nR xsa
noncomputable def xka:=nRs 2 xsb
noncomputable def x1cn:=nL xka
noncomputable def x1co:=nR xka
theorem x1cp:x1tq call hs u x1cm xes eNil=(j4 (x1g call hs u) 2 7 8 9):=by kernel_rfl
theorem x1cq (rec0:AV→AV→AV→AV→AV→AV→AV→Mem→Nat→O2):x1tq call hs u x1co (j7 rec0 2 7 8 9 37 38 39) (setE 0 (j4 (x1g call hs u) 2 7 8 9) eNil)=(j7 (x73 call hs u rec0) 2 7 8 9 37 38 39):=by kernel_rfl
theorem x1cr (rec0:AV→AV→AV→AV→AV→AV→AV→Mem→Nat→O2):x1tq call hs u x1cn (j7 (x73 call hs u rec0) 2 7 8 9 37 38 39) (setE 0 (j4 (x1g call hs u) 2 7 8 9) eNil)=(j7 (xaf call hs u rec0) 2 7 8 9 37 38 39):=by kernel_rfl
theorem x1cs (rec0:AV→AV→AV→AV→AV→AV→AV→Mem→Nat→O2):x1tq call hs u xka (j7 rec0 2 7 8 9 37 38 39) (setE 0 (j4 (x1g call hs u) 2 7 8 9) eNil)=(j7 (xaf call hs u rec0) 2 7 8 9 37 38 39):=sq2 (by kernel_rfl) (x1cq call hs u rec0) (x1cr call hs u rec0)
theorem x1ct (rec0:AV→AV→AV→AV→AV→AV→AV→Mem→Nat→O2):x1tq call hs u xsb (j7 rec0 2 7 8 9 37 38 39) (setE 0 (j4 (x1g call hs u) 2 7 8 9) eNil)=(j7 (xag call hs u rec0) 2 7 8 9 37 38 39):=(sqN 2 (by kernel_rfl) (x1cs call hs u rec0)).trans (by kernel_rfl)
theorem x1cu:x1tq call hs u xsa (j4 (x1g call hs u) 2 7 8 9) (setE 0 (j4 (x1g call hs u) 2 7 8 9) eNil)=(j7 (x1w call hs u NN) 2 7 8 9 37 38 39):=lp (Ln:=fun n=>j7 (x1w call hs u n) 2 7 8 9 37 38 39) (by kernel_rfl) rfl fun n=>(x1ct call hs u (x1w call hs u n)).trans (by kernel_rfl)
theorem x1cv:x1tq call hs u xs9 (j4 (x1g call hs u) 2 7 8 9) eNil=(j7 (x1w call hs u NN) 2 7 8 9 37 38 39):=bk (by kernel_rfl) (x1cu call hs u)
theorem x1cw:x1tq call hs u xs8 (j4 (x1g call hs u) 2 7 8 9) eNil=(j4 (xcf call hs u) 2 7 8 9):=(sqN 1 (by kernel_rfl) (x1cv call hs u)).trans (by kernel_rfl)
theorem x1cx:x1tq call hs u xk9 xes eNil=(j4 (xcf call hs u) 2 7 8 9):=sq2 (by kernel_rfl) (x1cp call hs u) (x1cw call hs u)
theorem x1cy:x1tq call hs u xs7 xes eNil=(j1 (xah call hs u) 0):=(sqN 5 (by kernel_rfl) (x1cx call hs u)).trans (by kernel_rfl)
theorem x10k:FL x32 x8t:=le1 (fn:=Try.f42) (by kernel_rfl) (by kernel_rfl) (by kernel_rfl) (by kernel_rfl) (fun call hs t0 m=>(congrFun (x1cy call hs m.next) _).trans (by kernel_rfl)) (fun _ _ _ _ _ h=>by unfold x8t at h;split at h<;>first | exact ⟨_,rfl⟩ | cases h)
noncomputable abbrev xsc:Fs→O2:=x1pe Try.prog [.tmp 4]
noncomputable abbrev x27p:=XK call { f:=x5s,u:=u,nt:=24,hs:=hs } xsc
noncomputable def x1cz:=x1pg x5s
theorem x1d0:x27p call hs u x1cz xsc eNil=(j2 (xha call hs u) 0 1):=by kernel_rfl
theorem x10l:FL x5s x8u:=le2 (fn:=Try.f43) (by kernel_rfl) (by kernel_rfl) (by kernel_rfl) (by kernel_rfl) (fun call hs t0 t1 m=>(congrFun (x1d0 call hs m.next) _).trans (by kernel_rfl)) (fun _ _ _ _ _ h=>by unfold x8u at h;split at h<;>first | exact ⟨_,_,rfl⟩ | cases h)
noncomputable abbrev xsd:Fs→O2:=x1pe Try.prog [.tmp 4,.tmp 5]
noncomputable abbrev x27q:=XK call { f:=x4d,u:=u,nt:=21,hs:=hs } xsd
noncomputable def x1d1:=x1pg x4d
theorem x1d2:x27q call hs u x1d1 xsd eNil=(j2 (xhb call hs u) 0 1):=by kernel_rfl
theorem x10m:FL x4d x8v:=le2 (fn:=Try.f44) (by kernel_rfl) (by kernel_rfl) (by kernel_rfl) (by kernel_rfl) (fun call hs t0 t1 m=>(congrFun (x1d2 call hs m.next) _).trans (by kernel_rfl)) (fun _ _ _ _ _ h=>by unfold x8v at h;split at h<;>first | exact ⟨_,_,rfl⟩ | cases h)
noncomputable abbrev xse:Fs→O2:=x1pe Try.prog [.tmp 4,.tmp 5]
noncomputable abbrev x27r:=XK call { f:=x5t,u:=u,nt:=19,hs:=hs } xse
noncomputable def x1d3:=x1pg x5t
theorem x1d4:x27r call hs u x1d3 xse eNil=(j2 (xhc call hs u) 0 1):=by kernel_rfl
theorem x10n:FL x5t x8w:=le2 (fn:=Try.f45) (by kernel_rfl) (by kernel_rfl) (by kernel_rfl) (by kernel_rfl) (fun call hs t0 t1 m=>(congrFun (x1d4 call hs m.next) _).trans (by kernel_rfl)) (fun _ _ _ _ _ h=>by unfold x8w at h;split at h<;>first | exact ⟨_,_,rfl⟩ | cases h)
noncomputable abbrev xsf:Fs→O2:=x1pe Try.prog [.tmp 4,.tmp 5]
noncomputable abbrev x27s:=XK call { f:=x5u,u:=u,nt:=21,hs:=hs } xsf
noncomputable def x1d5:=x1pg x5u
theorem x1d6:x27s call hs u x1d5 xsf eNil=(j2 (xmj call hs u) 0 1):=by kernel_rfl
theorem x10o:FL x5u xfz:=le2 (fn:=Try.f46) (by kernel_rfl) (by kernel_rfl) (by kernel_rfl) (by kernel_rfl) (fun call hs t0 t1 m=>(congrFun (x1d6 call hs m.next) _).trans (by kernel_rfl)) (fun _ _ _ _ _ h=>by unfold xfz at h;split at h<;>first | exact ⟨_,_,rfl⟩ | cases h)
noncomputable abbrev xet:Fs→O2:=x1pe Try.prog [.tmp 4,.tmp 5]
noncomputable abbrev x1se:=XK call { f:=x8x,u:=u,nt:=101,hs:=hs } xet
noncomputable def xsg:=x1pg x8x
noncomputable def xkb:=nRs 4 xsg
noncomputable def xsh:=nL xkb
noncomputable def x1d7:=nR xkb
noncomputable def xsi:=nR xsh
noncomputable def xsj:=nR xsi
noncomputable def xsk:=nR xsj
noncomputable def xkc:=nRs 2 xsk
noncomputable def xsl:=nL xkc
noncomputable def x1d8:=nR xkc
noncomputable def xsm:=nR xsl
noncomputable def xkd:=nRs 3 xsm
noncomputable def x1d9:=nL xkd
noncomputable def x1da:=nR xkd
theorem x1db:x1se call hs u x1d7 xet eNil=(j1 (x14 call hs u) 7):=by kernel_rfl
theorem x1dc (rec0:AV→AV→AV→AV→AV→AV→Mem→Nat→O2):x1se call hs u x1d8 (j6 rec0 1 2 7 21 22 23) (setE 0 (j1 (x14 call hs u) 7) eNil)=(j6 (x1x call hs u rec0) 1 2 7 21 22 23):=by kernel_rfl
theorem x1dd (rec0:AV→AV→AV→AV→AV→AV→Mem→Nat→O2):x1se call hs u x1da (j6 (x1x call hs u rec0) 1 2 7 21 22 23) (setE 1 (j6 (x1x call hs u rec0) 1 2 7 21 22 23) (setE 0 (j1 (x14 call hs u) 7) eNil))=(j10 (xcg call hs u rec0) 1 2 7 8 10 11 12 21 22 23):=by kernel_rfl
theorem x1de (rec0:AV→AV→AV→AV→AV→AV→Mem→Nat→O2):x1se call hs u x1d9 (j10 (xcg call hs u rec0) 1 2 7 8 10 11 12 21 22 23) (setE 1 (j6 (x1x call hs u rec0) 1 2 7 21 22 23) (setE 0 (j1 (x14 call hs u) 7) eNil))=(j10 (xhd call hs u rec0) 1 2 7 8 10 11 12 21 22 23):=by kernel_rfl
theorem x1df (rec0:AV→AV→AV→AV→AV→AV→Mem→Nat→O2):x1se call hs u xkd (j6 (x1x call hs u rec0) 1 2 7 21 22 23) (setE 1 (j6 (x1x call hs u rec0) 1 2 7 21 22 23) (setE 0 (j1 (x14 call hs u) 7) eNil))=(j10 (xhd call hs u rec0) 1 2 7 8 10 11 12 21 22 23):=sq2 (by kernel_rfl) (x1dd call hs u rec0) (x1de call hs u rec0)
theorem x1dg (rec0:AV→AV→AV→AV→AV→AV→Mem→Nat→O2):x1se call hs u xsm (j6 (x1x call hs u rec0) 1 2 7 21 22 23) (setE 1 (j6 (x1x call hs u rec0) 1 2 7 21 22 23) (setE 0 (j1 (x14 call hs u) 7) eNil))=(j6 (xch call hs u rec0) 1 2 7 21 22 23):=(sqN 3 (by kernel_rfl) (x1df call hs u rec0)).trans (by kernel_rfl)
theorem x1dh (rec0:AV→AV→AV→AV→AV→AV→Mem→Nat→O2):x1se call hs u xsl (j6 (x1x call hs u rec0) 1 2 7 21 22 23) (setE 0 (j1 (x14 call hs u) 7) eNil)=(j6 (xch call hs u rec0) 1 2 7 21 22 23):=bk (by kernel_rfl) (x1dg call hs u rec0)
theorem x1di (rec0:AV→AV→AV→AV→AV→AV→Mem→Nat→O2):x1se call hs u xkc (j6 rec0 1 2 7 21 22 23) (setE 0 (j1 (x14 call hs u) 7) eNil)=(j6 (xch call hs u rec0) 1 2 7 21 22 23):=sq2 (by kernel_rfl) (x1dc call hs u rec0) (x1dh call hs u rec0)
theorem x1dj (rec0:AV→AV→AV→AV→AV→AV→Mem→Nat→O2):x1se call hs u xsk (j6 rec0 1 2 7 21 22 23) (setE 0 (j1 (x14 call hs u) 7) eNil)=(j6 (xmk call hs u rec0) 1 2 7 21 22 23):=(sqN 2 (by kernel_rfl) (x1di call hs u rec0)).trans (by kernel_rfl)
theorem x1dk:x1se call hs u xsj (j1 (x14 call hs u) 7) (setE 0 (j1 (x14 call hs u) 7) eNil)=(j6 (x74 call hs u NN) 1 2 7 21 22 23):=lp (Ln:=fun n=>j6 (x74 call hs u n) 1 2 7 21 22 23) (by kernel_rfl) rfl fun n=>(x1dj call hs u (x74 call hs u n)).trans (by kernel_rfl)
theorem x1dl:x1se call hs u xsi (j1 (x14 call hs u) 7) eNil=(j6 (x74 call hs u NN) 1 2 7 21 22 23):=bk (by kernel_rfl) (x1dk call hs u)
theorem x1dm:x1se call hs u xsh (j1 (x14 call hs u) 7) eNil=(j3 (xhe call hs u) 1 2 7):=(sqN 1 (by kernel_rfl) (x1dl call hs u)).trans (by kernel_rfl)
theorem x1dn:x1se call hs u xkb xet eNil=(j3 (xhe call hs u) 1 2 7):=sq2 (by kernel_rfl) (x1db call hs u) (x1dm call hs u)
theorem x1do:x1se call hs u xsg xet eNil=(j2 (xml call hs u) 0 1):=(sqN 4 (by kernel_rfl) (x1dn call hs u)).trans (by kernel_rfl)
theorem x10p:FL x8x xg0:=le2 (fn:=Try.f47) (by kernel_rfl) (by kernel_rfl) (by kernel_rfl) (by kernel_rfl) (fun call hs t0 t1 m=>(congrFun (x1do call hs m.next) _).trans (by kernel_rfl)) (fun _ _ _ _ _ h=>by unfold xg0 at h;split at h<;>first | exact ⟨_,_,rfl⟩ | cases h)
noncomputable abbrev xsn:Fs→O2:=x1pe Try.prog [.cell 2 xiz]
noncomputable abbrev x27t:=XK call { f:=x4e,u:=u,nt:=11,hs:=hs } xsn
noncomputable def x1dp:=x1pg x4e
theorem x1dq:x27t call hs u x1dp xsn eNil=(j1 (xhf call hs u) 0):=by kernel_rfl
theorem x10q:FL x4e x8y:=le1 (fn:=Try.f48) (by kernel_rfl) (by kernel_rfl) (by kernel_rfl) (by kernel_rfl) (fun call hs t0 m=>(congrFun (x1dq call hs m.next) _).trans (by kernel_rfl)) (fun _ _ _ _ _ h=>by unfold x8y at h;split at h<;>first | exact ⟨_,rfl⟩ | cases h)
noncomputable abbrev xso:Fs→O2:=x1pe Try.prog [.tmp 2]
noncomputable abbrev x27u:=XK call { f:=x8z,u:=u,nt:=18,hs:=hs } xso
noncomputable def x1dr:=x1pg x8z
theorem x1ds:x27u call hs u x1dr xso eNil=(j1 (xmm call hs u) 0):=by kernel_rfl
theorem x10r:FL x8z xg1:=le1 (fn:=Try.f49) (by kernel_rfl) (by kernel_rfl) (by kernel_rfl) (by kernel_rfl) (fun call hs t0 m=>(congrFun (x1ds call hs m.next) _).trans (by kernel_rfl)) (fun _ _ _ _ _ h=>by unfold xg1 at h;split at h<;>first | exact ⟨_,rfl⟩ | cases h)
noncomputable abbrev xeu:Fs→O2:=x1pe Try.prog [.tmp 4,.tmp 5]
noncomputable abbrev x1tr:=XK call { f:=x90,u:=u,nt:=77,hs:=hs } xeu
noncomputable def xsp:=x1pg x90
noncomputable def xke:=nRs 3 xsp
noncomputable def xsq:=nL xke
noncomputable def x1dt:=nR xke
noncomputable def xsr:=nR xsq
noncomputable def xss:=nR xsr
noncomputable def xst:=nR xss
noncomputable def xkf:=nR xst
noncomputable def x1du:=nL xkf
noncomputable def x1dv:=nR xkf
theorem x1dw:x1tr call hs u x1dt xeu eNil=(j1 (x2k call hs u) 6):=by kernel_rfl
theorem x1dx (rec0:AV→AV→AV→AV→Mem→Nat→O2):x1tr call hs u x1dv (j4 rec0 1 2 6 7) (setE 0 (j1 (x2k call hs u) 6) eNil)=(j4 (xci call hs u rec0) 1 2 6 7):=by kernel_rfl
theorem x1dy (rec0:AV→AV→AV→AV→Mem→Nat→O2):x1tr call hs u x1du (j4 (xci call hs u rec0) 1 2 6 7) (setE 0 (j1 (x2k call hs u) 6) eNil)=(j4 (xhg call hs u rec0) 1 2 6 7):=by kernel_rfl
theorem x1dz (rec0:AV→AV→AV→AV→Mem→Nat→O2):x1tr call hs u xkf (j4 rec0 1 2 6 7) (setE 0 (j1 (x2k call hs u) 6) eNil)=(j4 (xhg call hs u rec0) 1 2 6 7):=sq2 (by kernel_rfl) (x1dx call hs u rec0) (x1dy call hs u rec0)
theorem x1e0 (rec0:AV→AV→AV→AV→Mem→Nat→O2):x1tr call hs u xst (j4 rec0 1 2 6 7) (setE 0 (j1 (x2k call hs u) 6) eNil)=(j4 (xmn call hs u rec0) 1 2 6 7):=(sqN 1 (by kernel_rfl) (x1dz call hs u rec0)).trans (by kernel_rfl)
theorem x1e1:x1tr call hs u xss (j1 (x2k call hs u) 6) (setE 0 (j1 (x2k call hs u) 6) eNil)=(j4 (x75 call hs u NN) 1 2 6 7):=lp (Ln:=fun n=>j4 (x75 call hs u n) 1 2 6 7) (by kernel_rfl) rfl fun n=>(x1e0 call hs u (x75 call hs u n)).trans (by kernel_rfl)
theorem x1e2:x1tr call hs u xsr (j1 (x2k call hs u) 6) eNil=(j4 (x75 call hs u NN) 1 2 6 7):=bk (by kernel_rfl) (x1e1 call hs u)
theorem x1e3:x1tr call hs u xsq (j1 (x2k call hs u) 6) eNil=(j3 (xhh call hs u) 1 2 6):=(sqN 1 (by kernel_rfl) (x1e2 call hs u)).trans (by kernel_rfl)
theorem x1e4:x1tr call hs u xke xeu eNil=(j3 (xhh call hs u) 1 2 6):=sq2 (by kernel_rfl) (x1dw call hs u) (x1e3 call hs u)
theorem x1e5:x1tr call hs u xsp xeu eNil=(j2 (xmo call hs u) 0 1):=(sqN 3 (by kernel_rfl) (x1e4 call hs u)).trans (by kernel_rfl)
theorem x10s:FL x90 xg2:=le2 (fn:=Try.f50) (by kernel_rfl) (by kernel_rfl) (by kernel_rfl) (by kernel_rfl) (fun call hs t0 t1 m=>(congrFun (x1e5 call hs m.next) _).trans (by kernel_rfl)) (fun _ _ _ _ _ h=>by unfold xg2 at h;split at h<;>first | exact ⟨_,_,rfl⟩ | cases h)
noncomputable abbrev xev:Fs→O2:=x1pe Try.prog [.tmp 4,.tmp 5]
noncomputable abbrev x1ts:=XK call { f:=x5v,u:=u,nt:=78,hs:=hs } xev
noncomputable def xsu:=x1pg x5v
noncomputable def xkg:=nRs 3 xsu
noncomputable def xsv:=nL xkg
noncomputable def x1e6:=nR xkg
noncomputable def xsw:=nR xsv
noncomputable def xsx:=nR xsw
noncomputable def xsy:=nR xsx
noncomputable def xkh:=nR xsy
noncomputable def x1e7:=nL xkh
noncomputable def x1e8:=nR xkh
theorem x1e9:x1ts call hs u x1e6 xev eNil=(j1 (x1y call hs u) 6):=by kernel_rfl
theorem x1ea (rec0:AV→AV→AV→AV→Mem→Nat→O2):x1ts call hs u x1e8 (j4 rec0 2 3 6 7) (setE 0 (j1 (x1y call hs u) 6) eNil)=(j4 (x76 call hs u rec0) 2 3 6 7):=by kernel_rfl
theorem x1eb (rec0:AV→AV→AV→AV→Mem→Nat→O2):x1ts call hs u x1e7 (j4 (x76 call hs u rec0) 2 3 6 7) (setE 0 (j1 (x1y call hs u) 6) eNil)=(j4 (xcj call hs u rec0) 2 3 6 7):=by kernel_rfl
theorem x1ec (rec0:AV→AV→AV→AV→Mem→Nat→O2):x1ts call hs u xkh (j4 rec0 2 3 6 7) (setE 0 (j1 (x1y call hs u) 6) eNil)=(j4 (xcj call hs u rec0) 2 3 6 7):=sq2 (by kernel_rfl) (x1ea call hs u rec0) (x1eb call hs u rec0)
theorem x1ed (rec0:AV→AV→AV→AV→Mem→Nat→O2):x1ts call hs u xsy (j4 rec0 2 3 6 7) (setE 0 (j1 (x1y call hs u) 6) eNil)=(j4 (xcl call hs u rec0) 2 3 6 7):=(sqN 1 (by kernel_rfl) (x1ec call hs u rec0)).trans (by kernel_rfl)
theorem x1ee:x1ts call hs u xsx (j1 (x1y call hs u) 6) (setE 0 (j1 (x1y call hs u) 6) eNil)=(j4 (x3k call hs u NN) 2 3 6 7):=lp (Ln:=fun n=>j4 (x3k call hs u n) 2 3 6 7) (by kernel_rfl) rfl fun n=>(x1ed call hs u (x3k call hs u n)).trans (by kernel_rfl)
theorem x1ef:x1ts call hs u xsw (j1 (x1y call hs u) 6) eNil=(j4 (x3k call hs u NN) 2 3 6 7):=bk (by kernel_rfl) (x1ee call hs u)
theorem x1eg:x1ts call hs u xsv (j1 (x1y call hs u) 6) eNil=(j3 (xcm call hs u) 2 3 6):=(sqN 1 (by kernel_rfl) (x1ef call hs u)).trans (by kernel_rfl)
theorem x1eh:x1ts call hs u xkg xev eNil=(j3 (xcm call hs u) 2 3 6):=sq2 (by kernel_rfl) (x1e9 call hs u) (x1eg call hs u)
theorem x1ei:x1ts call hs u xsu xev eNil=(j2 (xcn call hs u) 0 1):=(sqN 3 (by kernel_rfl) (x1eh call hs u)).trans (by kernel_rfl)
theorem x10t:FL x5v x6n:=le2 (fn:=Try.f54) (by kernel_rfl) (by kernel_rfl) (by kernel_rfl) (by kernel_rfl) (fun call hs t0 t1 m=>(congrFun (x1ei call hs m.next) _).trans (by kernel_rfl)) (fun _ _ _ _ _ h=>by unfold x6n at h;split at h<;>first | exact ⟨_,_,rfl⟩ | cases h)
noncomputable abbrev xew:Fs→O2:=x1pe Try.prog [.tmp 4]
noncomputable abbrev x1vl:=XK call { f:=x4f,u:=u,nt:=32,hs:=hs } xew
noncomputable def xsz:=x1pg x4f
noncomputable def xki:=nRs 2 xsz
noncomputable def xt0:=nL xki
noncomputable def x1ej:=nR xki
noncomputable def xt1:=nR xt0
noncomputable def xt2:=nR xt1
noncomputable def x1ek:=nR xt2
theorem x1el:x1vl call hs u x1ej xew eNil=(j1 (x57 call hs u) 5):=by kernel_rfl
theorem x1em (rec0:AV→AV→AV→AV→Mem→Nat→O2):x1vl call hs u x1ek (j4 rec0 1 2 5 6) (setE 0 (j1 (x57 call hs u) 5) eNil)=(j4 (xco call hs u rec0) 1 2 5 6):=by kernel_rfl
theorem x1en:x1vl call hs u xt2 (j1 (x57 call hs u) 5) (setE 0 (j1 (x57 call hs u) 5) eNil)=(j4 (x3l call hs u NN) 1 2 5 6):=lp (Ln:=fun n=>j4 (x3l call hs u n) 1 2 5 6) (by kernel_rfl) rfl fun n=>(x1em call hs u (x3l call hs u n)).trans (by kernel_rfl)
theorem x1eo:x1vl call hs u xt1 (j1 (x57 call hs u) 5) eNil=(j4 (x3l call hs u NN) 1 2 5 6):=bk (by kernel_rfl) (x1en call hs u)
theorem x1ep:x1vl call hs u xt0 (j1 (x57 call hs u) 5) eNil=(j3 (xcp call hs u) 1 2 5):=(sqN 1 (by kernel_rfl) (x1eo call hs u)).trans (by kernel_rfl)
theorem x1eq:x1vl call hs u xki xew eNil=(j3 (xcp call hs u) 1 2 5):=sq2 (by kernel_rfl) (x1el call hs u) (x1ep call hs u)
theorem x1er:x1vl call hs u xsz xew eNil=(j2 (xhi call hs u) 0 1):=(sqN 2 (by kernel_rfl) (x1eq call hs u)).trans (by kernel_rfl)
theorem x10u:FL x4f x91:=le2 (fn:=Try.f55) (by kernel_rfl) (by kernel_rfl) (by kernel_rfl) (by kernel_rfl) (fun call hs t0 t1 m=>(congrFun (x1er call hs m.next) _).trans (by kernel_rfl)) (fun _ _ _ _ _ h=>by unfold x91 at h;split at h<;>first | exact ⟨_,_,rfl⟩ | cases h)
noncomputable abbrev xt3:Fs→O2:=x1pe Try.prog [.tmp 2,.tmp 3]
noncomputable abbrev x27v:=XK call { f:=x92,u:=u,nt:=20,hs:=hs } xt3
noncomputable def x1es:=x1pg x92
theorem x1et:x27v call hs u x1es xt3 eNil=(j1 (xmp call hs u) 0):=by kernel_rfl
theorem x10v:FL x92 xg3:=le1 (fn:=Try.f58) (by kernel_rfl) (by kernel_rfl) (by kernel_rfl) (by kernel_rfl) (fun call hs t0 m=>(congrFun (x1et call hs m.next) _).trans (by kernel_rfl)) (fun _ _ _ _ _ h=>by unfold xg3 at h;split at h<;>first | exact ⟨_,rfl⟩ | cases h)
noncomputable abbrev xt4:Fs→O2:=x1pe Try.prog [.cell 2 x7x]
noncomputable abbrev x27w:=XK call { f:=x6o,u:=u,nt:=9,hs:=hs } xt4
noncomputable def x1eu:=x1pg x6o
theorem x1ev:x27w call hs u x1eu xt4 eNil=(j1 (xmq call hs u) 0):=by kernel_rfl
theorem x10w:FL x6o xg4:=le1 (fn:=Try.f60) (by kernel_rfl) (by kernel_rfl) (by kernel_rfl) (by kernel_rfl) (fun call hs t0 m=>(congrFun (x1ev call hs m.next) _).trans (by kernel_rfl)) (fun _ _ _ _ _ h=>by unfold xg4 at h;split at h<;>first | exact ⟨_,rfl⟩ | cases h)
noncomputable abbrev xex:Fs→O2:=x1pe Try.prog [.cell 2 xj0]
noncomputable abbrev x1yx:=XK call { f:=x6p,u:=u,nt:=20,hs:=hs } xex
noncomputable def xt5:=x1pg x6p
noncomputable def xkj:=nRs 2 xt5
noncomputable def x1ew:=nL xkj
noncomputable def x1ex:=nR xkj
theorem x1ey:x1yx call hs u x1ex xex eNil=(j2 (xcq call hs u) 2 3):=by kernel_rfl
theorem x1ez:x1yx call hs u x1ew (j2 (xcq call hs u) 2 3) eNil=(j3 (xhj call hs u) 0 2 3):=by kernel_rfl
theorem x1f0:x1yx call hs u xkj xex eNil=(j3 (xhj call hs u) 0 2 3):=sq2 (by kernel_rfl) (x1ey call hs u) (x1ez call hs u)
theorem x1f1:x1yx call hs u xt5 xex eNil=(j1 (xmr call hs u) 0):=(sqN 2 (by kernel_rfl) (x1f0 call hs u)).trans (by kernel_rfl)
theorem x10x:FL x6p xg5:=le1 (fn:=Try.f61) (by kernel_rfl) (by kernel_rfl) (by kernel_rfl) (by kernel_rfl) (fun call hs t0 m=>(congrFun (x1f1 call hs m.next) _).trans (by kernel_rfl)) (fun _ _ _ _ _ h=>by unfold xg5 at h;split at h<;>first | exact ⟨_,rfl⟩ | cases h)
noncomputable abbrev xt6:Fs→O2:=x1pe Try.prog [.tmp 2]
noncomputable abbrev x27x:=XK call { f:=x2d,u:=u,nt:=7,hs:=hs } xt6
noncomputable def x1f2:=x1pg x2d
theorem x1f3:x27x call hs u x1f2 xt6 eNil=(j1 (xhk call hs u) 0):=by kernel_rfl
theorem x10y:FL x2d x93:=le1 (fn:=Try.f62) (by kernel_rfl) (by kernel_rfl) (by kernel_rfl) (by kernel_rfl) (fun call hs t0 m=>(congrFun (x1f3 call hs m.next) _).trans (by kernel_rfl)) (fun _ _ _ _ _ h=>by unfold x93 at h;split at h<;>first | exact ⟨_,rfl⟩ | cases h)
noncomputable abbrev xt7:Fs→O2:=x1pe Try.prog [.cell 2 xnk,.tmp 3]
noncomputable abbrev x27y:=XK call { f:=x4g,u:=u,nt:=14,hs:=hs } xt7
noncomputable def x1f4:=x1pg x4g
theorem x1f5:x27y call hs u x1f4 xt7 eNil=(j1 (xms call hs u) 0):=by kernel_rfl
theorem x10z:FL x4g xg6:=le1 (fn:=Try.f63) (by kernel_rfl) (by kernel_rfl) (by kernel_rfl) (by kernel_rfl) (fun call hs t0 m=>(congrFun (x1f5 call hs m.next) _).trans (by kernel_rfl)) (fun _ _ _ _ _ h=>by unfold xg6 at h;split at h<;>first | exact ⟨_,rfl⟩ | cases h)
noncomputable abbrev x80:Fs→O2:=x1pe Try.prog [.tmp 2]
noncomputable abbrev x1rf:=XK call { f:=x1t,u:=u,nt:=64,hs:=hs } x80
noncomputable def xt8:=x1pg x1t
noncomputable def xkk:=nRs 2 xt8
noncomputable def xt9:=nL xkk
noncomputable def xta:=nR xkk
noncomputable def xkl:=nRs 2 xta
noncomputable def xtb:=nL xkl
noncomputable def x1f6:=nR xkl
noncomputable def xtc:=nR xtb
noncomputable def xtd:=nR xtc
noncomputable def xte:=nR xtd
noncomputable def xkm:=nRs 2 xte
noncomputable def xtf:=nL xkm
noncomputable def x1f7:=nR xkm
noncomputable def xtg:=nR xtf
noncomputable def xkn:=nR xtg
noncomputable def x1f8:=nL xkn
noncomputable def x1f9:=nR xkn
noncomputable def xth:=nR xt9
noncomputable def x1fa:=nR xth
theorem x1fb:x1rf call hs u x1f6 x80 eNil=(j1 (xu call hs u) 3):=by kernel_rfl
theorem x1fc (rec0:AV→AV→AV→AV→AV→Mem→Nat→O2):x1rf call hs u x1f7 (j5 rec0 3 6 26 27 28) (setE 2 (j1 (xu call hs u) 3) eNil)=(j5 (x1z call hs u rec0) 3 6 26 27 28):=by kernel_rfl
theorem x1fd (rec0:AV→AV→AV→AV→AV→Mem→Nat→O2):x1rf call hs u x1f9 (j5 (x1z call hs u rec0) 3 6 26 27 28) (setE 3 (j5 (x1z call hs u rec0) 3 6 26 27 28) (setE 2 (j1 (xu call hs u) 3) eNil))=(j7 (x58 call hs u rec0) 3 6 7 8 26 27 28):=by kernel_rfl
theorem x1fe (rec0:AV→AV→AV→AV→AV→Mem→Nat→O2):x1rf call hs u x1f8 (j7 (x58 call hs u rec0) 3 6 7 8 26 27 28) (setE 3 (j5 (x1z call hs u rec0) 3 6 26 27 28) (setE 2 (j1 (xu call hs u) 3) eNil))=(j7 (xcr call hs u rec0) 3 6 7 8 26 27 28):=by kernel_rfl
theorem x1ff (rec0:AV→AV→AV→AV→AV→Mem→Nat→O2):x1rf call hs u xkn (j5 (x1z call hs u rec0) 3 6 26 27 28) (setE 3 (j5 (x1z call hs u rec0) 3 6 26 27 28) (setE 2 (j1 (xu call hs u) 3) eNil))=(j7 (xcr call hs u rec0) 3 6 7 8 26 27 28):=sq2 (by kernel_rfl) (x1fd call hs u rec0) (x1fe call hs u rec0)
theorem x1fg (rec0:AV→AV→AV→AV→AV→Mem→Nat→O2):x1rf call hs u xtg (j5 (x1z call hs u rec0) 3 6 26 27 28) (setE 3 (j5 (x1z call hs u rec0) 3 6 26 27 28) (setE 2 (j1 (xu call hs u) 3) eNil))=(j5 (xai call hs u rec0) 3 6 26 27 28):=(sqN 1 (by kernel_rfl) (x1ff call hs u rec0)).trans (by kernel_rfl)
theorem x1fh (rec0:AV→AV→AV→AV→AV→Mem→Nat→O2):x1rf call hs u xtf (j5 (x1z call hs u rec0) 3 6 26 27 28) (setE 2 (j1 (xu call hs u) 3) eNil)=(j5 (xai call hs u rec0) 3 6 26 27 28):=bk (by kernel_rfl) (x1fg call hs u rec0)
theorem x1fi (rec0:AV→AV→AV→AV→AV→Mem→Nat→O2):x1rf call hs u xkm (j5 rec0 3 6 26 27 28) (setE 2 (j1 (xu call hs u) 3) eNil)=(j5 (xai call hs u rec0) 3 6 26 27 28):=sq2 (by kernel_rfl) (x1fc call hs u rec0) (x1fh call hs u rec0)
theorem x1fj (rec0:AV→AV→AV→AV→AV→Mem→Nat→O2):x1rf call hs u xte (j5 rec0 3 6 26 27 28) (setE 2 (j1 (xu call hs u) 3) eNil)=(j5 (xcs call hs u rec0) 3 6 26 27 28):=(sqN 2 (by kernel_rfl) (x1fi call hs u rec0)).trans (by kernel_rfl)
theorem x1fk:x1rf call hs u xtd (j1 (xu call hs u) 3) (setE 2 (j1 (xu call hs u) 3) eNil)=(j5 (x19 call hs u NN) 3 6 26 27 28):=lp (Ln:=fun n=>j5 (x19 call hs u n) 3 6 26 27 28) (by kernel_rfl) rfl fun n=>(x1fj call hs u (x19 call hs u n)).trans (by kernel_rfl)
theorem x1fl:x1rf call hs u xtc (j1 (xu call hs u) 3) eNil=(j5 (x19 call hs u NN) 3 6 26 27 28):=bk (by kernel_rfl) (x1fk call hs u)
theorem x1fm:x1rf call hs u xtb (j1 (xu call hs u) 3) eNil=(j3 (xct call hs u) 3 5 6):=(sqN 1 (by kernel_rfl) (x1fl call hs u)).trans (by kernel_rfl)
theorem x1fn:x1rf call hs u xkl x80 eNil=(j3 (xct call hs u) 3 5 6):=sq2 (by kernel_rfl) (x1fb call hs u) (x1fm call hs u)
theorem x1fo:x1rf call hs u xta x80 eNil=(j2 (x3m call hs u) 1 3):=(sqN 2 (by kernel_rfl) (x1fn call hs u)).trans (by kernel_rfl)
theorem x1fp (rec1:AV→AV→Mem→Nat→O2):x1rf call hs u x1fa (j2 rec1 1 3) (setE 0 (j2 (x3m call hs u) 1 3) eNil)=(j2 (xhl call hs u rec1) 1 3):=by kernel_rfl
theorem x1fq:x1rf call hs u xth (j2 (x3m call hs u) 1 3) (setE 0 (j2 (x3m call hs u) 1 3) eNil)=(j2 (x1h call hs u NN) 1 3):=lp (Ln:=fun n=>j2 (x1h call hs u n) 1 3) (by kernel_rfl) rfl fun n=>(x1fp call hs u (x1h call hs u n)).trans (by kernel_rfl)
theorem x1fr:x1rf call hs u xt9 (j2 (x3m call hs u) 1 3) eNil=(j2 (x1h call hs u NN) 1 3):=bk (by kernel_rfl) (x1fq call hs u)
theorem x1fs:x1rf call hs u xkk x80 eNil=(j2 (x1h call hs u NN) 1 3):=sq2 (by kernel_rfl) (x1fo call hs u) (x1fr call hs u)
theorem x1ft:x1rf call hs u xt8 x80 eNil=(j1 (xcu call hs u) 0):=(sqN 2 (by kernel_rfl) (x1fs call hs u)).trans (by kernel_rfl)
theorem x110:FL x1t xbk:=le1 (fn:=Try.f64) (by kernel_rfl) (by kernel_rfl) (by kernel_rfl) (by kernel_rfl) (fun call hs t0 m=>(congrFun (x1ft call hs m.next) _).trans (by kernel_rfl)) (fun _ _ _ _ _ h=>by unfold xbk at h;split at h<;>first | exact ⟨_,rfl⟩ | cases h)
noncomputable abbrev xey:Fs→O2:=x1pe Try.prog [.tmp 4]
noncomputable abbrev x1vm:=XK call { f:=x2e,u:=u,nt:=27,hs:=hs } xey
noncomputable def xti:=x1pg x2e
noncomputable def xko:=nRs 2 xti
noncomputable def xtj:=nL xko
noncomputable def x1fu:=nR xko
noncomputable def xtk:=nR xtj
noncomputable def xtl:=nR xtk
noncomputable def x1fv:=nR xtl
theorem x1fw:x1vm call hs u x1fu xey eNil=(j1 (x5a call hs u) 5):=by kernel_rfl
theorem x1fx (rec0:AV→AV→AV→AV→AV→Mem→Nat→O2):x1vm call hs u x1fv (j5 rec0 1 5 10 11 12) (setE 0 (j1 (x5a call hs u) 5) eNil)=(j5 (xcv call hs u rec0) 1 5 10 11 12):=by kernel_rfl
theorem x1fy:x1vm call hs u xtl (j1 (x5a call hs u) 5) (setE 0 (j1 (x5a call hs u) 5) eNil)=(j5 (x3n call hs u NN) 1 5 10 11 12):=lp (Ln:=fun n=>j5 (x3n call hs u n) 1 5 10 11 12) (by kernel_rfl) rfl fun n=>(x1fx call hs u (x3n call hs u n)).trans (by kernel_rfl)
theorem x1fz:x1vm call hs u xtk (j1 (x5a call hs u) 5) eNil=(j5 (x3n call hs u NN) 1 5 10 11 12):=bk (by kernel_rfl) (x1fy call hs u)
theorem x1g0:x1vm call hs u xtj (j1 (x5a call hs u) 5) eNil=(j3 (xcw call hs u) 1 2 5):=(sqN 1 (by kernel_rfl) (x1fz call hs u)).trans (by kernel_rfl)
theorem x1g1:x1vm call hs u xko xey eNil=(j3 (xcw call hs u) 1 2 5):=sq2 (by kernel_rfl) (x1fw call hs u) (x1g0 call hs u)
theorem x1g2:x1vm call hs u xti xey eNil=(j2 (xhm call hs u) 0 1):=(sqN 2 (by kernel_rfl) (x1g1 call hs u)).trans (by kernel_rfl)
theorem x111:FL x2e x94:=le2 (fn:=Try.f65) (by kernel_rfl) (by kernel_rfl) (by kernel_rfl) (by kernel_rfl) (fun call hs t0 t1 m=>(congrFun (x1g2 call hs m.next) _).trans (by kernel_rfl)) (fun _ _ _ _ _ h=>by unfold x94 at h;split at h<;>first | exact ⟨_,_,rfl⟩ | cases h)
noncomputable abbrev xez:Fs→O2:=x1pe Try.prog [.tmp 2,.tmp 3]
noncomputable abbrev x1vn:=XK call { f:=x95,u:=u,nt:=60,hs:=hs } xez
noncomputable def xtm:=x1pg x95
noncomputable def xkp:=nRs 3 xtm
noncomputable def xtn:=nL xkp
noncomputable def x1g3:=nR xkp
noncomputable def xto:=nR xtn
noncomputable def xtp:=nR xto
noncomputable def x1g4:=nR xtp
theorem x1g5:x1vn call hs u x1g3 xez eNil=(j0 (x6b call hs u)):=by kernel_rfl
theorem x1g6 (rec0:AV→AV→Mem→Nat→O2):x1vn call hs u x1g4 (j2 rec0 1 4) (setE 0 (j0 (x6b call hs u)) eNil)=(j2 (xmt call hs u rec0) 1 4):=by kernel_rfl
theorem x1g7:x1vn call hs u xtp (j0 (x6b call hs u)) (setE 0 (j0 (x6b call hs u)) eNil)=(j2 (x77 call hs u NN) 1 4):=lp (Ln:=fun n=>j2 (x77 call hs u n) 1 4) (by kernel_rfl) rfl fun n=>(x1g6 call hs u (x77 call hs u n)).trans (by kernel_rfl)
theorem x1g8:x1vn call hs u xto (j0 (x6b call hs u)) eNil=(j2 (x77 call hs u NN) 1 4):=bk (by kernel_rfl) (x1g7 call hs u)
theorem x1g9:x1vn call hs u xtn (j0 (x6b call hs u)) eNil=(j1 (xhn call hs u) 1):=(sqN 1 (by kernel_rfl) (x1g8 call hs u)).trans (by kernel_rfl)
theorem x1ga:x1vn call hs u xkp xez eNil=(j1 (xhn call hs u) 1):=sq2 (by kernel_rfl) (x1g5 call hs u) (x1g9 call hs u)
theorem x1gb:x1vn call hs u xtm xez eNil=(j1 (xmu call hs u) 0):=(sqN 3 (by kernel_rfl) (x1ga call hs u)).trans (by kernel_rfl)
theorem x112:FL x95 xg7:=le1 (fn:=Try.f66) (by kernel_rfl) (by kernel_rfl) (by kernel_rfl) (by kernel_rfl) (fun call hs t0 m=>(congrFun (x1gb call hs m.next) _).trans (by kernel_rfl)) (fun _ _ _ _ _ h=>by unfold xg7 at h;split at h<;>first | exact ⟨_,rfl⟩ | cases h)
noncomputable abbrev xf0:Fs→O2:=x1pe Try.prog [.tmp 4]
noncomputable abbrev x1vo:=XK call { f:=x5w,u:=u,nt:=27,hs:=hs } xf0
noncomputable def xtq:=x1pg x5w
noncomputable def xkq:=nRs 2 xtq
noncomputable def xtr:=nL xkq
noncomputable def x1gc:=nR xkq
noncomputable def xts:=nR xtr
noncomputable def xtt:=nR xts
noncomputable def x1gd:=nR xtt
theorem x1ge:x1vo call hs u x1gc xf0 eNil=(j1 (x5b call hs u) 5):=by kernel_rfl
theorem x1gf (rec0:AV→AV→AV→AV→Mem→Nat→O2):x1vo call hs u x1gd (j4 rec0 1 2 5 6) (setE 0 (j1 (x5b call hs u) 5) eNil)=(j4 (xcx call hs u rec0) 1 2 5 6):=by kernel_rfl
theorem x1gg:x1vo call hs u xtt (j1 (x5b call hs u) 5) (setE 0 (j1 (x5b call hs u) 5) eNil)=(j4 (x3o call hs u NN) 1 2 5 6):=lp (Ln:=fun n=>j4 (x3o call hs u n) 1 2 5 6) (by kernel_rfl) rfl fun n=>(x1gf call hs u (x3o call hs u n)).trans (by kernel_rfl)
theorem x1gh:x1vo call hs u xts (j1 (x5b call hs u) 5) eNil=(j4 (x3o call hs u NN) 1 2 5 6):=bk (by kernel_rfl) (x1gg call hs u)
theorem x1gi:x1vo call hs u xtr (j1 (x5b call hs u) 5) eNil=(j3 (xcy call hs u) 1 2 5):=(sqN 1 (by kernel_rfl) (x1gh call hs u)).trans (by kernel_rfl)
theorem x1gj:x1vo call hs u xkq xf0 eNil=(j3 (xcy call hs u) 1 2 5):=sq2 (by kernel_rfl) (x1ge call hs u) (x1gi call hs u)
theorem x1gk:x1vo call hs u xtq xf0 eNil=(j2 (xho call hs u) 0 1):=(sqN 2 (by kernel_rfl) (x1gj call hs u)).trans (by kernel_rfl)
theorem x113:FL x5w x96:=le2 (fn:=Try.f67) (by kernel_rfl) (by kernel_rfl) (by kernel_rfl) (by kernel_rfl) (fun call hs t0 t1 m=>(congrFun (x1gk call hs m.next) _).trans (by kernel_rfl)) (fun _ _ _ _ _ h=>by unfold x96 at h;split at h<;>first | exact ⟨_,_,rfl⟩ | cases h)
noncomputable abbrev xf1:Fs→O2:=x1pe Try.prog [.tmp 2]
noncomputable abbrev x1tt:=XK call { f:=x4h,u:=u,nt:=38,hs:=hs } xf1
noncomputable def xtu:=x1pg x4h
noncomputable def xkr:=nRs 3 xtu
noncomputable def xtv:=nL xkr
noncomputable def x1gl:=nR xkr
noncomputable def xtw:=nR xtv
noncomputable def xtx:=nR xtw
noncomputable def xty:=nR xtx
noncomputable def xks:=nR xty
noncomputable def x1gm:=nL xks
noncomputable def x1gn:=nR xks
theorem x1go:x1tt call hs u x1gl xf1 eNil=(j1 (x20 call hs u) 3):=by kernel_rfl
theorem x1gp (rec0:AV→AV→AV→AV→Mem→Nat→O2):x1tt call hs u x1gn (j4 rec0 0 3 4 5) (setE 0 (j1 (x20 call hs u) 3) eNil)=(j4 (x78 call hs u rec0) 0 3 4 5):=by kernel_rfl
theorem x1gq (rec0:AV→AV→AV→AV→Mem→Nat→O2):x1tt call hs u x1gm (j4 (x78 call hs u rec0) 0 3 4 5) (setE 0 (j1 (x20 call hs u) 3) eNil)=(j4 (xaj call hs u rec0) 0 3 4 5):=by kernel_rfl
theorem x1gr (rec0:AV→AV→AV→AV→Mem→Nat→O2):x1tt call hs u xks (j4 rec0 0 3 4 5) (setE 0 (j1 (x20 call hs u) 3) eNil)=(j4 (xaj call hs u rec0) 0 3 4 5):=sq2 (by kernel_rfl) (x1gp call hs u rec0) (x1gq call hs u rec0)
theorem x1gs (rec0:AV→AV→AV→AV→Mem→Nat→O2):x1tt call hs u xty (j4 rec0 0 3 4 5) (setE 0 (j1 (x20 call hs u) 3) eNil)=(j4 (xak call hs u rec0) 0 3 4 5):=(sqN 1 (by kernel_rfl) (x1gr call hs u rec0)).trans (by kernel_rfl)
theorem x1gt:x1tt call hs u xtx (j1 (x20 call hs u) 3) (setE 0 (j1 (x20 call hs u) 3) eNil)=(j4 (x2l call hs u NN) 0 3 4 5):=lp (Ln:=fun n=>j4 (x2l call hs u n) 0 3 4 5) (by kernel_rfl) rfl fun n=>(x1gs call hs u (x2l call hs u n)).trans (by kernel_rfl)
theorem x1gu:x1tt call hs u xtw (j1 (x20 call hs u) 3) eNil=(j4 (x2l call hs u NN) 0 3 4 5):=bk (by kernel_rfl) (x1gt call hs u)
theorem x1gv:x1tt call hs u xtv (j1 (x20 call hs u) 3) eNil=(j3 (xcz call hs u) 0 3 4):=(sqN 1 (by kernel_rfl) (x1gu call hs u)).trans (by kernel_rfl)
theorem x1gw:x1tt call hs u xkr xf1 eNil=(j3 (xcz call hs u) 0 3 4):=sq2 (by kernel_rfl) (x1go call hs u) (x1gv call hs u)
theorem x1gx:x1tt call hs u xtu xf1 eNil=(j1 (xhp call hs u) 0):=(sqN 3 (by kernel_rfl) (x1gw call hs u)).trans (by kernel_rfl)
theorem x114:FL x4h x97:=le1 (fn:=Try.f68) (by kernel_rfl) (by kernel_rfl) (by kernel_rfl) (by kernel_rfl) (fun call hs t0 m=>(congrFun (x1gx call hs m.next) _).trans (by kernel_rfl)) (fun _ _ _ _ _ h=>by unfold x97 at h;split at h<;>first | exact ⟨_,rfl⟩ | cases h)
noncomputable abbrev xf2:Fs→O2:=x1pe Try.prog [.cell 2 x7x]
noncomputable abbrev x1wk:=XK call { f:=x1e,u:=u,nt:=71,hs:=hs } xf2
noncomputable abbrev x24n:=XK (R:=Mem) call { f:=x1e,u:=u,nt:=71,hs:=hs } fNil
noncomputable def xtz:=x1pg x1e
noncomputable def xkt:=nRs 4 xtz
noncomputable def xu0:=nL xkt
noncomputable def x1gy:=nR xkt
noncomputable def xu1:=nR xu0
noncomputable def xf3:=nR xu1
noncomputable def x1gz:=nL xf3
noncomputable def x1h0:=nR xf3
theorem x1h1:x1wk call hs u x1gy xf2 eNil=(j2 (x6c call hs u) 2 4):=by kernel_rfl
theorem x1h2:x24n call hs u x1h0 (fun s=>some s.m) eNil=(j5 (x6d call hs u) 3 4 5 6 7):=by kernel_rfl
theorem x1h3:x24n call hs u x1gz (j5 (x6d call hs u) 3 4 5 6 7) eNil=(j5 (x79 call hs u) 3 4 5 27 28):=by kernel_rfl
theorem x1h4:x1wk call hs u xf3 (j2 (x6c call hs u) 2 4) (setE 0 (j2 (x6c call hs u) 2 4) eNil)=(j5 (xd0 call hs u) 2 3 4 5 26):=(rg (C:=xf3) (c:={ f:=x1e,u:=u,nt:=71,hs:=hs }) (f:=(.tmp 26)) (ps:=#[27,28]) (by kernel_rfl) (fun u=>x1h2 call hs u) (fun u=>x1h3 call hs u)).trans (by kernel_rfl)
theorem x1h5:x1wk call hs u xu1 (j2 (x6c call hs u) 2 4) eNil=(j5 (xd0 call hs u) 2 3 4 5 26):=bk (by kernel_rfl) (x1h4 call hs u)
theorem x1h6:x1wk call hs u xu0 (j2 (x6c call hs u) 2 4) eNil=(j4 (xd1 call hs u) 2 3 4 5):=(sqN 1 (by kernel_rfl) (x1h5 call hs u)).trans (by kernel_rfl)
theorem x1h7:x1wk call hs u xkt xf2 eNil=(j4 (xd1 call hs u) 2 3 4 5):=sq2 (by kernel_rfl) (x1h1 call hs u) (x1h6 call hs u)
theorem x1h8:x1wk call hs u xtz xf2 eNil=(j1 (xhq call hs u) 0):=(sqN 4 (by kernel_rfl) (x1h7 call hs u)).trans (by kernel_rfl)
theorem x115:FL x1e x98:=le1 (fn:=Try.f69) (by kernel_rfl) (by kernel_rfl) (by kernel_rfl) (by kernel_rfl) (fun call hs t0 m=>(congrFun (x1h8 call hs m.next) _).trans (by kernel_rfl)) (fun _ _ _ _ _ h=>by unfold x98 at h;split at h<;>first | exact ⟨_,rfl⟩ | cases h)
noncomputable abbrev xu2:Fs→O2:=x1pe Try.prog [.tmp 6]
noncomputable abbrev x27z:=XK call { f:=x4i,u:=u,nt:=20,hs:=hs } xu2
noncomputable def x1h9:=x1pg x4i
theorem x1ha:x27z call hs u x1h9 xu2 eNil=(j3 (xhr call hs u) 0 1 2):=by kernel_rfl
theorem x116:FL x4i x99:=le3 (fn:=Try.f70) (by kernel_rfl) (by kernel_rfl) (by kernel_rfl) (by kernel_rfl) (fun call hs t0 t1 t2 m=>(congrFun (x1ha call hs m.next) _).trans (by kernel_rfl)) (fun _ _ _ _ _ h=>by unfold x99 at h;split at h<;>first | exact ⟨_,_,_,rfl⟩ | cases h)
noncomputable abbrev xf4:Fs→O2:=x1pe Try.prog [.tmp 2]
noncomputable abbrev x1vp:=XK call { f:=x4j,u:=u,nt:=23,hs:=hs } xf4
noncomputable def xu3:=x1pg x4j
noncomputable def xku:=nR xu3
noncomputable def xu4:=nL xku
noncomputable def x1hb:=nR xku
noncomputable def xu5:=nR xu4
noncomputable def xu6:=nR xu5
noncomputable def x1hc:=nR xu6
theorem x1hd:x1vp call hs u x1hb xf4 eNil=(j0 (x5c call hs u)):=by kernel_rfl
theorem x1he (rec0:AV→AV→Mem→Nat→O2):x1vp call hs u x1hc (j2 rec0 0 3) (setE 0 (j0 (x5c call hs u)) eNil)=(j2 (xd2 call hs u rec0) 0 3):=by kernel_rfl
theorem x1hf:x1vp call hs u xu6 (j0 (x5c call hs u)) (setE 0 (j0 (x5c call hs u)) eNil)=(j2 (x3p call hs u NN) 0 3):=lp (Ln:=fun n=>j2 (x3p call hs u n) 0 3) (by kernel_rfl) rfl fun n=>(x1he call hs u (x3p call hs u n)).trans (by kernel_rfl)
theorem x1hg:x1vp call hs u xu5 (j0 (x5c call hs u)) eNil=(j2 (x3p call hs u NN) 0 3):=bk (by kernel_rfl) (x1hf call hs u)
theorem x1hh:x1vp call hs u xu4 (j0 (x5c call hs u)) eNil=(j1 (xd3 call hs u) 0):=(sqN 1 (by kernel_rfl) (x1hg call hs u)).trans (by kernel_rfl)
theorem x1hi:x1vp call hs u xku xf4 eNil=(j1 (xd3 call hs u) 0):=sq2 (by kernel_rfl) (x1hd call hs u) (x1hh call hs u)
theorem x1hj:x1vp call hs u xu3 xf4 eNil=(j1 (xhs call hs u) 0):=(sqN 1 (by kernel_rfl) (x1hi call hs u)).trans (by kernel_rfl)
theorem x117:FL x4j x9a:=le1 (fn:=Try.f71) (by kernel_rfl) (by kernel_rfl) (by kernel_rfl) (by kernel_rfl) (fun call hs t0 m=>(congrFun (x1hj call hs m.next) _).trans (by kernel_rfl)) (fun _ _ _ _ _ h=>by unfold x9a at h;split at h<;>first | exact ⟨_,rfl⟩ | cases h)
noncomputable abbrev xu7:Fs→O2:=x1pe Try.prog [.tmp 6]
noncomputable abbrev x280:=XK call { f:=x4k,u:=u,nt:=22,hs:=hs } xu7
noncomputable def x1hk:=x1pg x4k
theorem x1hl:x280 call hs u x1hk xu7 eNil=(j3 (xht call hs u) 0 1 2):=by kernel_rfl
theorem x118:FL x4k x9b:=le3 (fn:=Try.f72) (by kernel_rfl) (by kernel_rfl) (by kernel_rfl) (by kernel_rfl) (fun call hs t0 t1 t2 m=>(congrFun (x1hl call hs m.next) _).trans (by kernel_rfl)) (fun _ _ _ _ _ h=>by unfold x9b at h;split at h<;>first | exact ⟨_,_,_,rfl⟩ | cases h)
noncomputable abbrev xu8:Fs→O2:=x1pe Try.prog [.tmp 4]
noncomputable abbrev x281:=XK call { f:=x4l,u:=u,nt:=9,hs:=hs } xu8
noncomputable def x1hm:=x1pg x4l
theorem x1hn:x281 call hs u x1hm xu8 eNil=(j2 (xhu call hs u) 0 1):=by kernel_rfl
theorem x119:FL x4l x9c:=le2 (fn:=Try.f73) (by kernel_rfl) (by kernel_rfl) (by kernel_rfl) (by kernel_rfl) (fun call hs t0 t1 m=>(congrFun (x1hn call hs m.next) _).trans (by kernel_rfl)) (fun _ _ _ _ _ h=>by unfold x9c at h;split at h<;>first | exact ⟨_,_,rfl⟩ | cases h)
noncomputable abbrev xu9:Fs→O2:=x1pe Try.prog [.tmp 2]
noncomputable abbrev x282:=XK call { f:=x33,u:=u,nt:=7,hs:=hs } xu9
noncomputable def x1ho:=x1pg x33
theorem x1hp:x282 call hs u x1ho xu9 eNil=(j1 (xhv call hs u) 0):=by kernel_rfl
theorem x11a:FL x33 x9d:=le1 (fn:=Try.f74) (by kernel_rfl) (by kernel_rfl) (by kernel_rfl) (by kernel_rfl) (fun call hs t0 m=>(congrFun (x1hp call hs m.next) _).trans (by kernel_rfl)) (fun _ _ _ _ _ h=>by unfold x9d at h;split at h<;>first | exact ⟨_,rfl⟩ | cases h)
noncomputable abbrev x81:Fs→O2:=x1pe Try.prog [.tmp 2]
noncomputable abbrev x1rz:=XK call { f:=x34,u:=u,nt:=36,hs:=hs } x81
noncomputable def xua:=x1pg x34
noncomputable def xkv:=nRs 2 xua
noncomputable def xub:=nL xkv
noncomputable def xuc:=nR xkv
noncomputable def xkw:=nR xuc
noncomputable def xud:=nL xkw
noncomputable def x1hq:=nR xkw
noncomputable def xue:=nR xud
noncomputable def xuf:=nR xue
noncomputable def x1hr:=nR xuf
noncomputable def xug:=nR xub
noncomputable def xuh:=nR xug
noncomputable def xui:=nR xuh
noncomputable def xkx:=nRs 2 xui
noncomputable def x1hs:=nL xkx
noncomputable def x1ht:=nR xkx
theorem x1hu:x1rz call hs u x1hq x81 eNil=(j1 (x3q call hs u) 6):=by kernel_rfl
theorem x1hv (rec0:AV→AV→AV→AV→Mem→Nat→O2):x1rz call hs u x1hr (j4 rec0 6 25 26 27) (setE 2 (j1 (x3q call hs u) 6) eNil)=(j4 (xd4 call hs u rec0) 6 25 26 27):=by kernel_rfl
theorem x1hw:x1rz call hs u xuf (j1 (x3q call hs u) 6) (setE 2 (j1 (x3q call hs u) 6) eNil)=(j4 (x5d call hs u NN) 6 25 26 27):=lp (Ln:=fun n=>j4 (x5d call hs u n) 6 25 26 27) (by kernel_rfl) rfl fun n=>(x1hv call hs u (x5d call hs u n)).trans (by kernel_rfl)
theorem x1hx:x1rz call hs u xue (j1 (x3q call hs u) 6) eNil=(j4 (x5d call hs u NN) 6 25 26 27):=bk (by kernel_rfl) (x1hw call hs u)
theorem x1hy:x1rz call hs u xud (j1 (x3q call hs u) 6) eNil=(j2 (xal call hs u) 0 6):=(sqN 1 (by kernel_rfl) (x1hx call hs u)).trans (by kernel_rfl)
theorem x1hz:x1rz call hs u xkw x81 eNil=(j2 (xal call hs u) 0 6):=sq2 (by kernel_rfl) (x1hu call hs u) (x1hy call hs u)
theorem x1i0:x1rz call hs u xuc x81 eNil=(j2 (x1i call hs u) 0 3):=(sqN 1 (by kernel_rfl) (x1hz call hs u)).trans (by kernel_rfl)
theorem x1i1 (rec1:AV→AV→AV→AV→AV→Mem→Nat→O2):x1rz call hs u x1ht (j5 rec1 0 3 9 10 11) (setE 0 (j2 (x1i call hs u) 0 3) eNil)=(j5 (xd6 call hs u rec1) 0 3 9 10 11):=by kernel_rfl
theorem x1i2 (rec1:AV→AV→AV→AV→AV→Mem→Nat→O2):x1rz call hs u x1hs (j5 (xd6 call hs u rec1) 0 3 9 10 11) (setE 0 (j2 (x1i call hs u) 0 3) eNil)=(j5 (xd7 call hs u rec1) 0 3 9 10 11):=by kernel_rfl
theorem x1i3 (rec1:AV→AV→AV→AV→AV→Mem→Nat→O2):x1rz call hs u xkx (j5 rec1 0 3 9 10 11) (setE 0 (j2 (x1i call hs u) 0 3) eNil)=(j5 (xd7 call hs u rec1) 0 3 9 10 11):=sq2 (by kernel_rfl) (x1i1 call hs u rec1) (x1i2 call hs u rec1)
theorem x1i4 (rec1:AV→AV→AV→AV→AV→Mem→Nat→O2):x1rz call hs u xui (j5 rec1 0 3 9 10 11) (setE 0 (j2 (x1i call hs u) 0 3) eNil)=(j5 (xhw call hs u rec1) 0 3 9 10 11):=(sqN 2 (by kernel_rfl) (x1i3 call hs u rec1)).trans (by kernel_rfl)
theorem x1i5:x1rz call hs u xuh (j2 (x1i call hs u) 0 3) (setE 0 (j2 (x1i call hs u) 0 3) eNil)=(j5 (x6f call hs u NN) 0 3 9 10 11):=lp (Ln:=fun n=>j5 (x6f call hs u n) 0 3 9 10 11) (by kernel_rfl) rfl fun n=>(x1i4 call hs u (x6f call hs u n)).trans (by kernel_rfl)
theorem x1i6:x1rz call hs u xug (j2 (x1i call hs u) 0 3) eNil=(j5 (x6f call hs u NN) 0 3 9 10 11):=bk (by kernel_rfl) (x1i5 call hs u)
theorem x1i7:x1rz call hs u xub (j2 (x1i call hs u) 0 3) eNil=(j2 (xd8 call hs u) 0 3):=(sqN 1 (by kernel_rfl) (x1i6 call hs u)).trans (by kernel_rfl)
theorem x1i8:x1rz call hs u xkv x81 eNil=(j2 (xd8 call hs u) 0 3):=sq2 (by kernel_rfl) (x1i0 call hs u) (x1i7 call hs u)
theorem x1i9:x1rz call hs u xua x81 eNil=(j1 (xhx call hs u) 0):=(sqN 2 (by kernel_rfl) (x1i8 call hs u)).trans (by kernel_rfl)
theorem x11b:FL x34 x9e:=le1 (fn:=Try.f75) (by kernel_rfl) (by kernel_rfl) (by kernel_rfl) (by kernel_rfl) (fun call hs t0 m=>(congrFun (x1i9 call hs m.next) _).trans (by kernel_rfl)) (fun _ _ _ _ _ h=>by unfold x9e at h;split at h<;>first | exact ⟨_,rfl⟩ | cases h)
noncomputable abbrev xuj:Fs→O2:=x1pe Try.prog [.tmp 2]
noncomputable abbrev x283:=XK call { f:=x4m,u:=u,nt:=5,hs:=hs } xuj
noncomputable def x1ia:=x1pg x4m
theorem x1ib:x283 call hs u x1ia xuj eNil=(j1 (xhy call hs u) 0):=by kernel_rfl
theorem x11c:FL x4m x9f:=le1 (fn:=Try.f76) (by kernel_rfl) (by kernel_rfl) (by kernel_rfl) (by kernel_rfl) (fun call hs t0 m=>(congrFun (x1ib call hs m.next) _).trans (by kernel_rfl)) (fun _ _ _ _ _ h=>by unfold x9f at h;split at h<;>first | exact ⟨_,rfl⟩ | cases h)
noncomputable abbrev xuk:Fs→O2:=x1pe Try.prog [.cell 8 xc9,.tmp 9]
noncomputable abbrev x284:=XK call { f:=x4n,u:=u,nt:=42,hs:=hs } xuk
noncomputable def x1ic:=x1pg x4n
theorem x1id:x284 call hs u x1ic xuk eNil=(j4 (xhz call hs u) 0 1 2 3):=by kernel_rfl
theorem x11d:FL x4n x9g:=le4 (fn:=Try.f77) (by kernel_rfl) (by kernel_rfl) (by kernel_rfl) (by kernel_rfl) (fun call hs t0 t1 t2 t3 m=>(congrFun (x1id call hs m.next) _).trans (by kernel_rfl)) (fun _ _ _ _ _ h=>by unfold x9g at h;split at h<;>first | exact ⟨_,_,_,_,rfl⟩ | cases h)
noncomputable abbrev xul:Fs→O2:=x1pe Try.prog [.tmp 6]
noncomputable abbrev x285:=XK call { f:=xe,u:=u,nt:=15,hs:=hs } xul
noncomputable def x1ie:=x1pg xe
theorem x1if:x285 call hs u x1ie xul eNil=(j3 (xi0 call hs u) 0 1 2):=by kernel_rfl
theorem xzc:FL xe x84:=le3 (fn:=Try.f78) (by kernel_rfl) (by kernel_rfl) (by kernel_rfl) (by kernel_rfl) (fun call hs t0 t1 t2 m=>(congrFun (x1if call hs m.next) _).trans (by kernel_rfl)) (fun _ _ _ _ _ h=>by unfold x84 at h;split at h<;>first | exact ⟨_,_,_,rfl⟩ | cases h)
noncomputable abbrev xf5:Fs→O2:=x1pe Try.prog [.tmp 2]
noncomputable abbrev x1tu:=XK call { f:=x4o,u:=u,nt:=53,hs:=hs } xf5
noncomputable def xum:=x1pg x4o
noncomputable def xky:=nRs 2 xum
noncomputable def xun:=nL xky
noncomputable def x1ig:=nR xky
noncomputable def xuo:=nR xun
noncomputable def xup:=nR xuo
noncomputable def xuq:=nR xup
noncomputable def xkz:=nRs 2 xuq
noncomputable def x1ih:=nL xkz
noncomputable def x1ii:=nR xkz
theorem x1ij:x1tu call hs u x1ig xf5 eNil=(j2 (x1j call hs u) 1 3):=by kernel_rfl
theorem x1ik (rec0:AV→AV→AV→AV→AV→Mem→Nat→O2):x1tu call hs u x1ii (j5 rec0 1 3 12 13 14) (setE 0 (j2 (x1j call hs u) 1 3) eNil)=(j5 (x7a call hs u rec0) 1 3 12 13 14):=by kernel_rfl
theorem x1il (rec0:AV→AV→AV→AV→AV→Mem→Nat→O2):x1tu call hs u x1ih (j5 (x7a call hs u rec0) 1 3 12 13 14) (setE 0 (j2 (x1j call hs u) 1 3) eNil)=(j5 (xam call hs u rec0) 1 3 12 13 14):=by kernel_rfl
theorem x1im (rec0:AV→AV→AV→AV→AV→Mem→Nat→O2):x1tu call hs u xkz (j5 rec0 1 3 12 13 14) (setE 0 (j2 (x1j call hs u) 1 3) eNil)=(j5 (xam call hs u rec0) 1 3 12 13 14):=sq2 (by kernel_rfl) (x1ik call hs u rec0) (x1il call hs u rec0)
theorem x1in (rec0:AV→AV→AV→AV→AV→Mem→Nat→O2):x1tu call hs u xuq (j5 rec0 1 3 12 13 14) (setE 0 (j2 (x1j call hs u) 1 3) eNil)=(j5 (xan call hs u rec0) 1 3 12 13 14):=(sqN 2 (by kernel_rfl) (x1im call hs u rec0)).trans (by kernel_rfl)
theorem x1io:x1tu call hs u xup (j2 (x1j call hs u) 1 3) (setE 0 (j2 (x1j call hs u) 1 3) eNil)=(j5 (x21 call hs u NN) 1 3 12 13 14):=lp (Ln:=fun n=>j5 (x21 call hs u n) 1 3 12 13 14) (by kernel_rfl) rfl fun n=>(x1in call hs u (x21 call hs u n)).trans (by kernel_rfl)
theorem x1ip:x1tu call hs u xuo (j2 (x1j call hs u) 1 3) eNil=(j5 (x21 call hs u NN) 1 3 12 13 14):=bk (by kernel_rfl) (x1io call hs u)
theorem x1iq:x1tu call hs u xun (j2 (x1j call hs u) 1 3) eNil=(j2 (xd9 call hs u) 1 3):=(sqN 1 (by kernel_rfl) (x1ip call hs u)).trans (by kernel_rfl)
theorem x1ir:x1tu call hs u xky xf5 eNil=(j2 (xd9 call hs u) 1 3):=sq2 (by kernel_rfl) (x1ij call hs u) (x1iq call hs u)
theorem x1is:x1tu call hs u xum xf5 eNil=(j1 (xda call hs u) 0):=(sqN 2 (by kernel_rfl) (x1ir call hs u)).trans (by kernel_rfl)
theorem x11e:FL x4o xbl:=le1 (fn:=Try.f79) (by kernel_rfl) (by kernel_rfl) (by kernel_rfl) (by kernel_rfl) (fun call hs t0 m=>(congrFun (x1is call hs m.next) _).trans (by kernel_rfl)) (fun _ _ _ _ _ h=>by unfold xbl at h;split at h<;>first | exact ⟨_,rfl⟩ | cases h)
noncomputable abbrev xf6:Fs→O2:=x1pe Try.prog [.tmp 4]
noncomputable abbrev x1tv:=XK call { f:=x5x,u:=u,nt:=47,hs:=hs } xf6
noncomputable def xur:=x1pg x5x
noncomputable def xl0:=nRs 2 xur
noncomputable def xus:=nL xl0
noncomputable def x1it:=nR xl0
noncomputable def xut:=nR xus
noncomputable def xuu:=nR xut
noncomputable def xuv:=nR xuu
noncomputable def xl1:=nRs 2 xuv
noncomputable def x1iu:=nL xl1
noncomputable def x1iv:=nR xl1
theorem x1iw:x1tv call hs u x1it xf6 eNil=(j1 (x2m call hs u) 5):=by kernel_rfl
theorem x1ix (rec0:AV→AV→AV→AV→AV→Mem→Nat→O2):x1tv call hs u x1iv (j5 rec0 0 1 5 12 13) (setE 0 (j1 (x2m call hs u) 5) eNil)=(j5 (xdb call hs u rec0) 0 1 5 12 13):=by kernel_rfl
theorem x1iy (rec0:AV→AV→AV→AV→AV→Mem→Nat→O2):x1tv call hs u x1iu (j5 (xdb call hs u rec0) 0 1 5 12 13) (setE 0 (j1 (x2m call hs u) 5) eNil)=(j5 (xi2 call hs u rec0) 0 1 5 12 13):=by kernel_rfl
theorem x1iz (rec0:AV→AV→AV→AV→AV→Mem→Nat→O2):x1tv call hs u xl1 (j5 rec0 0 1 5 12 13) (setE 0 (j1 (x2m call hs u) 5) eNil)=(j5 (xi2 call hs u rec0) 0 1 5 12 13):=sq2 (by kernel_rfl) (x1ix call hs u rec0) (x1iy call hs u rec0)
theorem x1j0 (rec0:AV→AV→AV→AV→AV→Mem→Nat→O2):x1tv call hs u xuv (j5 rec0 0 1 5 12 13) (setE 0 (j1 (x2m call hs u) 5) eNil)=(j5 (xmv call hs u rec0) 0 1 5 12 13):=(sqN 2 (by kernel_rfl) (x1iz call hs u rec0)).trans (by kernel_rfl)
theorem x1j1:x1tv call hs u xuu (j1 (x2m call hs u) 5) (setE 0 (j1 (x2m call hs u) 5) eNil)=(j5 (x7b call hs u NN) 0 1 5 12 13):=lp (Ln:=fun n=>j5 (x7b call hs u n) 0 1 5 12 13) (by kernel_rfl) rfl fun n=>(x1j0 call hs u (x7b call hs u n)).trans (by kernel_rfl)
theorem x1j2:x1tv call hs u xut (j1 (x2m call hs u) 5) eNil=(j5 (x7b call hs u NN) 0 1 5 12 13):=bk (by kernel_rfl) (x1j1 call hs u)
theorem x1j3:x1tv call hs u xus (j1 (x2m call hs u) 5) eNil=(j3 (xi3 call hs u) 0 1 5):=(sqN 1 (by kernel_rfl) (x1j2 call hs u)).trans (by kernel_rfl)
theorem x1j4:x1tv call hs u xl0 xf6 eNil=(j3 (xi3 call hs u) 0 1 5):=sq2 (by kernel_rfl) (x1iw call hs u) (x1j3 call hs u)
theorem x1j5:x1tv call hs u xur xf6 eNil=(j2 (xmw call hs u) 0 1):=(sqN 2 (by kernel_rfl) (x1j4 call hs u)).trans (by kernel_rfl)
theorem x11f:FL x5x xg8:=le2 (fn:=Try.f80) (by kernel_rfl) (by kernel_rfl) (by kernel_rfl) (by kernel_rfl) (fun call hs t0 t1 m=>(congrFun (x1j5 call hs m.next) _).trans (by kernel_rfl)) (fun _ _ _ _ _ h=>by unfold xg8 at h;split at h<;>first | exact ⟨_,_,rfl⟩ | cases h)
noncomputable abbrev xf7:Fs→O2:=x1pe Try.prog [.tmp 2]
noncomputable abbrev x1vq:=XK call { f:=x9h,u:=u,nt:=26,hs:=hs } xf7
noncomputable def xuw:=x1pg x9h
noncomputable def xl2:=nRs 3 xuw
noncomputable def xux:=nL xl2
noncomputable def x1j6:=nR xl2
noncomputable def xuy:=nR xux
noncomputable def xuz:=nR xuy
noncomputable def x1j7:=nR xuz
theorem x1j8:x1vq call hs u x1j6 xf7 eNil=(j2 (x6g call hs u) 1 4):=by kernel_rfl
theorem x1j9 (rec0:AV→AV→AV→AV→AV→Mem→Nat→O2):x1vq call hs u x1j7 (j5 rec0 1 3 4 10 11) (setE 0 (j2 (x6g call hs u) 1 4) eNil)=(j5 (xmx call hs u rec0) 1 3 4 10 11):=by kernel_rfl
theorem x1ja:x1vq call hs u xuz (j2 (x6g call hs u) 1 4) (setE 0 (j2 (x6g call hs u) 1 4) eNil)=(j5 (x7d call hs u NN) 1 3 4 10 11):=lp (Ln:=fun n=>j5 (x7d call hs u n) 1 3 4 10 11) (by kernel_rfl) rfl fun n=>(x1j9 call hs u (x7d call hs u n)).trans (by kernel_rfl)
theorem x1jb:x1vq call hs u xuy (j2 (x6g call hs u) 1 4) eNil=(j5 (x7d call hs u NN) 1 3 4 10 11):=bk (by kernel_rfl) (x1ja call hs u)
theorem x1jc:x1vq call hs u xux (j2 (x6g call hs u) 1 4) eNil=(j3 (xi4 call hs u) 1 3 4):=(sqN 1 (by kernel_rfl) (x1jb call hs u)).trans (by kernel_rfl)
theorem x1jd:x1vq call hs u xl2 xf7 eNil=(j3 (xi4 call hs u) 1 3 4):=sq2 (by kernel_rfl) (x1j8 call hs u) (x1jc call hs u)
theorem x1je:x1vq call hs u xuw xf7 eNil=(j1 (xmy call hs u) 0):=(sqN 3 (by kernel_rfl) (x1jd call hs u)).trans (by kernel_rfl)
theorem x11g:FL x9h xg9:=le1 (fn:=Try.f81) (by kernel_rfl) (by kernel_rfl) (by kernel_rfl) (by kernel_rfl) (fun call hs t0 m=>(congrFun (x1je call hs m.next) _).trans (by kernel_rfl)) (fun _ _ _ _ _ h=>by unfold xg9 at h;split at h<;>first | exact ⟨_,rfl⟩ | cases h)
noncomputable abbrev x27:Fs→O2:=x1pe Try.prog [.tmp 4,.tmp 5]
noncomputable abbrev x1qa:=XK call { f:=x4p,u:=u,nt:=169,hs:=hs } x27
noncomputable def xv0:=x1pg x4p
noncomputable def xl3:=nRs 4 xv0
noncomputable def xv1:=nL xl3
noncomputable def xl4:=nR xl3
noncomputable def xv2:=nL xl4
noncomputable def xv3:=nR xl4
noncomputable def xl5:=nR xv3
noncomputable def xv4:=nL xl5
noncomputable def xv5:=nR xl5
noncomputable def xv6:=nRs 2 xv5
noncomputable def xv7:=nR xv6
noncomputable def x1jf:=nR xv7
noncomputable def xv8:=nR xv4
noncomputable def xv9:=nR xv8
noncomputable def x1jg:=nR xv9
noncomputable def xva:=nR xv2
noncomputable def xvb:=nR xva
noncomputable def x1jh:=nR xvb
noncomputable def xvc:=nR xv1
noncomputable def xvd:=nR xvc
noncomputable def xve:=nR xvd
noncomputable def xl6:=nR xve
noncomputable def xvf:=nL xl6
noncomputable def x1ji:=nR xl6
noncomputable def xvg:=nR xvf
noncomputable def xl7:=nR xvg
noncomputable def xvh:=nL xl7
noncomputable def x1jj:=nR xl7
noncomputable def xvi:=nR xvh
noncomputable def xvj:=nR xvi
noncomputable def xvk:=nR xvj
noncomputable def xl8:=nR xvk
noncomputable def x1jk:=nL xl8
noncomputable def x1jl:=nR xl8
theorem x1jm (rec0:AV→AV→AV→AV→AV→AV→Mem→Nat→O2):x1qa call hs u x1jf (j6 rec0 6 8 9 14 16 17) (setE 8 x27 eNil)=(j6 (xdc call hs u rec0) 6 8 9 14 16 17):=by kernel_rfl
theorem x1jn:x1qa call hs u xv7 x27 (setE 8 x27 eNil)=(j6 (x3r call hs u NN) 6 8 9 14 16 17):=lp (Ln:=fun n=>j6 (x3r call hs u n) 6 8 9 14 16 17) (by kernel_rfl) rfl fun n=>(x1jm call hs u (x3r call hs u n)).trans (by kernel_rfl)
theorem x1jo:x1qa call hs u xv6 x27 eNil=(j6 (x3r call hs u NN) 6 8 9 14 16 17):=bk (by kernel_rfl) (x1jn call hs u)
theorem x1jp:x1qa call hs u xv5 x27 eNil=(j5 (x3s call hs u) 1 6 8 9 14):=(sqN 2 (by kernel_rfl) (x1jo call hs u)).trans (by kernel_rfl)
theorem x1jq (rec1:AV→AV→AV→AV→AV→AV→Mem→Nat→O2):x1qa call hs u x1jg (j6 rec1 1 6 8 9 14 15) (setE 6 (j5 (x3s call hs u) 1 6 8 9 14) eNil)=(j6 (xdd call hs u rec1) 1 6 8 9 14 15):=by kernel_rfl
theorem x1jr:x1qa call hs u xv9 (j5 (x3s call hs u) 1 6 8 9 14) (setE 6 (j5 (x3s call hs u) 1 6 8 9 14) eNil)=(j6 (x3t call hs u NN) 1 6 8 9 14 15):=lp (Ln:=fun n=>j6 (x3t call hs u n) 1 6 8 9 14 15) (by kernel_rfl) rfl fun n=>(x1jq call hs u (x3t call hs u n)).trans (by kernel_rfl)
theorem x1js:x1qa call hs u xv8 (j5 (x3s call hs u) 1 6 8 9 14) eNil=(j6 (x3t call hs u NN) 1 6 8 9 14 15):=bk (by kernel_rfl) (x1jr call hs u)
theorem x1jt:x1qa call hs u xv4 (j5 (x3s call hs u) 1 6 8 9 14) eNil=(j5 (xde call hs u) 1 6 8 9 14):=(sqN 1 (by kernel_rfl) (x1js call hs u)).trans (by kernel_rfl)
theorem x1ju:x1qa call hs u xl5 x27 eNil=(j5 (xde call hs u) 1 6 8 9 14):=sq2 (by kernel_rfl) (x1jp call hs u) (x1jt call hs u)
theorem x1jv:x1qa call hs u xv3 x27 eNil=(j4 (x3u call hs u) 1 6 8 9):=(sqN 1 (by kernel_rfl) (x1ju call hs u)).trans (by kernel_rfl)
theorem x1jw (rec2:AV→AV→AV→AV→AV→AV→Mem→Nat→O2):x1qa call hs u x1jh (j6 rec2 1 2 6 8 9 13) (setE 4 (j4 (x3u call hs u) 1 6 8 9) eNil)=(j6 (xdf call hs u rec2) 1 2 6 8 9 13):=by kernel_rfl
theorem x1jx:x1qa call hs u xvb (j4 (x3u call hs u) 1 6 8 9) (setE 4 (j4 (x3u call hs u) 1 6 8 9) eNil)=(j6 (x3v call hs u NN) 1 2 6 8 9 13):=lp (Ln:=fun n=>j6 (x3v call hs u n) 1 2 6 8 9 13) (by kernel_rfl) rfl fun n=>(x1jw call hs u (x3v call hs u n)).trans (by kernel_rfl)
theorem x1jy:x1qa call hs u xva (j4 (x3u call hs u) 1 6 8 9) eNil=(j6 (x3v call hs u NN) 1 2 6 8 9 13):=bk (by kernel_rfl) (x1jx call hs u)
theorem x1jz:x1qa call hs u xv2 (j4 (x3u call hs u) 1 6 8 9) eNil=(j5 (x8 call hs u) 1 2 6 8 9):=(sqN 1 (by kernel_rfl) (x1jy call hs u)).trans (by kernel_rfl)
theorem x1k0:x1qa call hs u xl4 x27 eNil=(j5 (x8 call hs u) 1 2 6 8 9):=sq2 (by kernel_rfl) (x1jv call hs u) (x1jz call hs u)
theorem x1k1 (rec3:AV→AV→AV→AV→AV→AV→AV→Mem→Nat→O2):x1qa call hs u x1ji (j7 rec3 1 2 6 7 8 9 10) (setE 0 (j5 (x8 call hs u) 1 2 6 8 9) eNil)=(j7 (xl call hs u rec3) 1 2 6 7 8 9 10):=by kernel_rfl
theorem x1k2 (rec3:AV→AV→AV→AV→AV→AV→AV→Mem→Nat→O2):x1qa call hs u x1jj (j7 (xl call hs u rec3) 1 2 6 7 8 9 10) (setE 1 (j7 (xl call hs u rec3) 1 2 6 7 8 9 10) (setE 0 (j5 (x8 call hs u) 1 2 6 8 9) eNil))=(j7 (x1a call hs u rec3) 1 2 6 7 8 9 10):=by kernel_rfl
theorem x1k3 (rec3:AV→AV→AV→AV→AV→AV→AV→Mem→Nat→O2) (rec4:AV→AV→AV→AV→AV→AV→AV→AV→Mem→Nat→O2):x1qa call hs u x1jl (j8 rec4 1 2 6 7 8 9 10 11) (setE 2 (j7 (x1a call hs u rec3) 1 2 6 7 8 9 10) (setE 1 (j7 (xl call hs u rec3) 1 2 6 7 8 9 10) (setE 0 (j5 (x8 call hs u) 1 2 6 8 9) eNil)))=(j8 (x7e call hs u rec3 rec4) 1 2 6 7 8 9 10 11):=by kernel_rfl
theorem x1k4 (rec3:AV→AV→AV→AV→AV→AV→AV→Mem→Nat→O2) (rec4:AV→AV→AV→AV→AV→AV→AV→AV→Mem→Nat→O2):x1qa call hs u x1jk (j8 (x7e call hs u rec3 rec4) 1 2 6 7 8 9 10 11) (setE 2 (j7 (x1a call hs u rec3) 1 2 6 7 8 9 10) (setE 1 (j7 (xl call hs u rec3) 1 2 6 7 8 9 10) (setE 0 (j5 (x8 call hs u) 1 2 6 8 9) eNil)))=(j8 (xao call hs u rec3 rec4) 1 2 6 7 8 9 10 11):=by kernel_rfl
theorem x1k5 (rec3:AV→AV→AV→AV→AV→AV→AV→Mem→Nat→O2) (rec4:AV→AV→AV→AV→AV→AV→AV→AV→Mem→Nat→O2):x1qa call hs u xl8 (j8 rec4 1 2 6 7 8 9 10 11) (setE 2 (j7 (x1a call hs u rec3) 1 2 6 7 8 9 10) (setE 1 (j7 (xl call hs u rec3) 1 2 6 7 8 9 10) (setE 0 (j5 (x8 call hs u) 1 2 6 8 9) eNil)))=(j8 (xao call hs u rec3 rec4) 1 2 6 7 8 9 10 11):=sq2 (by kernel_rfl) (x1k3 call hs u rec3 rec4) (x1k4 call hs u rec3 rec4)
theorem x1k6 (rec3:AV→AV→AV→AV→AV→AV→AV→Mem→Nat→O2) (rec4:AV→AV→AV→AV→AV→AV→AV→AV→Mem→Nat→O2):x1qa call hs u xvk (j8 rec4 1 2 6 7 8 9 10 11) (setE 2 (j7 (x1a call hs u rec3) 1 2 6 7 8 9 10) (setE 1 (j7 (xl call hs u rec3) 1 2 6 7 8 9 10) (setE 0 (j5 (x8 call hs u) 1 2 6 8 9) eNil)))=(j8 (xap call hs u rec3 rec4) 1 2 6 7 8 9 10 11):=(sqN 1 (by kernel_rfl) (x1k5 call hs u rec3 rec4)).trans (by kernel_rfl)
theorem x1k7 (rec3:AV→AV→AV→AV→AV→AV→AV→Mem→Nat→O2):x1qa call hs u xvj (j7 (x1a call hs u rec3) 1 2 6 7 8 9 10) (setE 2 (j7 (x1a call hs u rec3) 1 2 6 7 8 9 10) (setE 1 (j7 (xl call hs u rec3) 1 2 6 7 8 9 10) (setE 0 (j5 (x8 call hs u) 1 2 6 8 9) eNil)))=(j8 (x2n call hs u rec3 NN) 1 2 6 7 8 9 10 11):=lp (Ln:=fun n=>j8 (x2n call hs u rec3 n) 1 2 6 7 8 9 10 11) (by kernel_rfl) rfl fun n=>(x1k6 call hs u rec3 (x2n call hs u rec3 n)).trans (by kernel_rfl)
theorem x1k8 (rec3:AV→AV→AV→AV→AV→AV→AV→Mem→Nat→O2):x1qa call hs u xvi (j7 (x1a call hs u rec3) 1 2 6 7 8 9 10) (setE 1 (j7 (xl call hs u rec3) 1 2 6 7 8 9 10) (setE 0 (j5 (x8 call hs u) 1 2 6 8 9) eNil))=(j8 (x2n call hs u rec3 NN) 1 2 6 7 8 9 10 11):=bk (by kernel_rfl) (x1k7 call hs u rec3)
theorem x1k9 (rec3:AV→AV→AV→AV→AV→AV→AV→Mem→Nat→O2):x1qa call hs u xvh (j7 (x1a call hs u rec3) 1 2 6 7 8 9 10) (setE 1 (j7 (xl call hs u rec3) 1 2 6 7 8 9 10) (setE 0 (j5 (x8 call hs u) 1 2 6 8 9) eNil))=(j7 (xdg call hs u rec3) 1 2 6 7 8 9 10):=(sqN 1 (by kernel_rfl) (x1k8 call hs u rec3)).trans (by kernel_rfl)
theorem x1ka (rec3:AV→AV→AV→AV→AV→AV→AV→Mem→Nat→O2):x1qa call hs u xl7 (j7 (xl call hs u rec3) 1 2 6 7 8 9 10) (setE 1 (j7 (xl call hs u rec3) 1 2 6 7 8 9 10) (setE 0 (j5 (x8 call hs u) 1 2 6 8 9) eNil))=(j7 (xdg call hs u rec3) 1 2 6 7 8 9 10):=sq2 (by kernel_rfl) (x1k2 call hs u rec3) (x1k9 call hs u rec3)
theorem x1kb (rec3:AV→AV→AV→AV→AV→AV→AV→Mem→Nat→O2):x1qa call hs u xvg (j7 (xl call hs u rec3) 1 2 6 7 8 9 10) (setE 1 (j7 (xl call hs u rec3) 1 2 6 7 8 9 10) (setE 0 (j5 (x8 call hs u) 1 2 6 8 9) eNil))=(j6 (xaq call hs u rec3) 1 2 6 7 8 10):=(sqN 1 (by kernel_rfl) (x1ka call hs u rec3)).trans (by kernel_rfl)
theorem x1kc (rec3:AV→AV→AV→AV→AV→AV→AV→Mem→Nat→O2):x1qa call hs u xvf (j7 (xl call hs u rec3) 1 2 6 7 8 9 10) (setE 0 (j5 (x8 call hs u) 1 2 6 8 9) eNil)=(j6 (xaq call hs u rec3) 1 2 6 7 8 10):=bk (by kernel_rfl) (x1kb call hs u rec3)
theorem x1kd (rec3:AV→AV→AV→AV→AV→AV→AV→Mem→Nat→O2):x1qa call hs u xl6 (j7 rec3 1 2 6 7 8 9 10) (setE 0 (j5 (x8 call hs u) 1 2 6 8 9) eNil)=(j6 (xaq call hs u rec3) 1 2 6 7 8 10):=sq2 (by kernel_rfl) (x1k1 call hs u rec3) (x1kc call hs u rec3)
theorem x1ke (rec3:AV→AV→AV→AV→AV→AV→AV→Mem→Nat→O2):x1qa call hs u xve (j7 rec3 1 2 6 7 8 9 10) (setE 0 (j5 (x8 call hs u) 1 2 6 8 9) eNil)=(j7 (xar call hs u rec3) 1 2 6 7 8 9 10):=(sqN 1 (by kernel_rfl) (x1kd call hs u rec3)).trans (by kernel_rfl)
theorem x1kf:x1qa call hs u xvd (j5 (x8 call hs u) 1 2 6 8 9) (setE 0 (j5 (x8 call hs u) 1 2 6 8 9) eNil)=(j7 (xv call hs u NN) 1 2 6 7 8 9 10):=lp (Ln:=fun n=>j7 (xv call hs u n) 1 2 6 7 8 9 10) (by kernel_rfl) rfl fun n=>(x1ke call hs u (xv call hs u n)).trans (by kernel_rfl)
theorem x1kg:x1qa call hs u xvc (j5 (x8 call hs u) 1 2 6 8 9) eNil=(j7 (xv call hs u NN) 1 2 6 7 8 9 10):=bk (by kernel_rfl) (x1kf call hs u)
theorem x1kh:x1qa call hs u xv1 (j5 (x8 call hs u) 1 2 6 8 9) eNil=(j6 (xdh call hs u) 1 2 6 7 8 9):=(sqN 1 (by kernel_rfl) (x1kg call hs u)).trans (by kernel_rfl)
theorem x1ki:x1qa call hs u xl3 x27 eNil=(j6 (xdh call hs u) 1 2 6 7 8 9):=sq2 (by kernel_rfl) (x1k0 call hs u) (x1kh call hs u)
theorem x1kj:x1qa call hs u xv0 x27 eNil=(j2 (xi5 call hs u) 0 1):=(sqN 4 (by kernel_rfl) (x1ki call hs u)).trans (by kernel_rfl)
theorem x11h:FL x4p x9i:=le2 (fn:=Try.f83) (by kernel_rfl) (by kernel_rfl) (by kernel_rfl) (by kernel_rfl) (fun call hs t0 t1 m=>(congrFun (x1kj call hs m.next) _).trans (by kernel_rfl)) (fun _ _ _ _ _ h=>by unfold x9i at h;split at h<;>first | exact ⟨_,_,rfl⟩ | cases h)
noncomputable abbrev xvl:Fs→O2:=x1pe Try.prog [.tmp 4]
noncomputable abbrev x286:=XK call { f:=x2f,u:=u,nt:=9,hs:=hs } xvl
noncomputable def x1kk:=x1pg x2f
theorem x1kl:x286 call hs u x1kk xvl eNil=(j2 (xdi call hs u) 0 1):=by kernel_rfl
theorem x11i:FL x2f x6q:=le2 (fn:=Try.f84) (by kernel_rfl) (by kernel_rfl) (by kernel_rfl) (by kernel_rfl) (fun call hs t0 t1 m=>(congrFun (x1kl call hs m.next) _).trans (by kernel_rfl)) (fun _ _ _ _ _ h=>by unfold x6q at h;split at h<;>first | exact ⟨_,_,rfl⟩ | cases h)
noncomputable abbrev xvm:Fs→O2:=x1pe Try.prog [.tmp 2]
noncomputable abbrev x287:=XK call { f:=x9j,u:=u,nt:=6,hs:=hs } xvm
noncomputable def x1km:=x1pg x9j
theorem x1kn:x287 call hs u x1km xvm eNil=(j1 (xn0 call hs u) 0):=by kernel_rfl
theorem x11j:FL x9j xga:=le1 (fn:=Try.f85) (by kernel_rfl) (by kernel_rfl) (by kernel_rfl) (by kernel_rfl) (fun call hs t0 m=>(congrFun (x1kn call hs m.next) _).trans (by kernel_rfl)) (fun _ _ _ _ _ h=>by unfold xga at h;split at h<;>first | exact ⟨_,rfl⟩ | cases h)
noncomputable abbrev xvn:Fs→O2:=x1pe Try.prog [.tmp 2]
noncomputable abbrev x288:=XK call { f:=x4q,u:=u,nt:=8,hs:=hs } xvn
noncomputable def x1ko:=x1pg x4q
theorem x1kp:x288 call hs u x1ko xvn eNil=(j1 (xdj call hs u) 0):=by kernel_rfl
theorem x11k:FL x4q xbm:=le1 (fn:=Try.f86) (by kernel_rfl) (by kernel_rfl) (by kernel_rfl) (by kernel_rfl) (fun call hs t0 m=>(congrFun (x1kp call hs m.next) _).trans (by kernel_rfl)) (fun _ _ _ _ _ h=>by unfold xbm at h;split at h<;>first | exact ⟨_,rfl⟩ | cases h)
noncomputable abbrev xvo:Fs→O2:=x1pe Try.prog [.tmp 2]
noncomputable abbrev x289:=XK call { f:=x10,u:=u,nt:=5,hs:=hs } xvo
noncomputable def x1kq:=x1pg x10
theorem x1kr:x289 call hs u x1kq xvo eNil=(j1 (xi6 call hs u) 0):=by kernel_rfl
theorem xzk:FL x10 x8a:=le1 (fn:=Try.f87) (by kernel_rfl) (by kernel_rfl) (by kernel_rfl) (by kernel_rfl) (fun call hs t0 m=>(congrFun (x1kr call hs m.next) _).trans (by kernel_rfl)) (fun _ _ _ _ _ h=>by unfold x8a at h;split at h<;>first | exact ⟨_,rfl⟩ | cases h)
noncomputable abbrev xf8:Fs→O2:=x1pe Try.prog [.tmp 4,.tmp 5]
noncomputable abbrev x1vr:=XK call { f:=x4r,u:=u,nt:=76,hs:=hs } xf8
noncomputable def xvp:=x1pg x4r
noncomputable def xl9:=nRs 3 xvp
noncomputable def xvq:=nL xl9
noncomputable def x1ks:=nR xl9
noncomputable def xvr:=nR xvq
noncomputable def xvs:=nR xvr
noncomputable def x1kt:=nR xvs
theorem x1ku:x1vr call hs u x1ks xf8 eNil=(j2 (x5f call hs u) 6 7):=by kernel_rfl
theorem x1kv (rec0:AV→AV→AV→AV→AV→AV→Mem→Nat→O2):x1vr call hs u x1kt (j6 rec0 1 6 7 23 24 25) (setE 0 (j2 (x5f call hs u) 6 7) eNil)=(j6 (xdk call hs u rec0) 1 6 7 23 24 25):=by kernel_rfl
theorem x1kw:x1vr call hs u xvs (j2 (x5f call hs u) 6 7) (setE 0 (j2 (x5f call hs u) 6 7) eNil)=(j6 (x3w call hs u NN) 1 6 7 23 24 25):=lp (Ln:=fun n=>j6 (x3w call hs u n) 1 6 7 23 24 25) (by kernel_rfl) rfl fun n=>(x1kv call hs u (x3w call hs u n)).trans (by kernel_rfl)
theorem x1kx:x1vr call hs u xvr (j2 (x5f call hs u) 6 7) eNil=(j6 (x3w call hs u NN) 1 6 7 23 24 25):=bk (by kernel_rfl) (x1kw call hs u)
theorem x1ky:x1vr call hs u xvq (j2 (x5f call hs u) 6 7) eNil=(j4 (xdl call hs u) 1 2 6 7):=(sqN 1 (by kernel_rfl) (x1kx call hs u)).trans (by kernel_rfl)
theorem x1kz:x1vr call hs u xl9 xf8 eNil=(j4 (xdl call hs u) 1 2 6 7):=sq2 (by kernel_rfl) (x1ku call hs u) (x1ky call hs u)
theorem x1l0:x1vr call hs u xvp xf8 eNil=(j2 (xi7 call hs u) 0 1):=(sqN 3 (by kernel_rfl) (x1kz call hs u)).trans (by kernel_rfl)
theorem x11l:FL x4r x9k:=le2 (fn:=Try.f88) (by kernel_rfl) (by kernel_rfl) (by kernel_rfl) (by kernel_rfl) (fun call hs t0 t1 m=>(congrFun (x1l0 call hs m.next) _).trans (by kernel_rfl)) (fun _ _ _ _ _ h=>by unfold x9k at h;split at h<;>first | exact ⟨_,_,rfl⟩ | cases h)
noncomputable abbrev xvt:Fs→O2:=x1pe Try.prog [.tmp 4]
noncomputable abbrev x28a:=XK call { f:=x9l,u:=u,nt:=20,hs:=hs } xvt
noncomputable def x1l1:=x1pg x9l
theorem x1l2:x28a call hs u x1l1 xvt eNil=(j2 (xn1 call hs u) 0 1):=by kernel_rfl
theorem x11m:FL x9l xgb:=le2 (fn:=Try.f89) (by kernel_rfl) (by kernel_rfl) (by kernel_rfl) (by kernel_rfl) (fun call hs t0 t1 m=>(congrFun (x1l2 call hs m.next) _).trans (by kernel_rfl)) (fun _ _ _ _ _ h=>by unfold xgb at h;split at h<;>first | exact ⟨_,_,rfl⟩ | cases h)
noncomputable abbrev xvu:Fs→O2:=x1pe Try.prog [.tmp 6]
noncomputable abbrev x28b:=XK call { f:=x9m,u:=u,nt:=38,hs:=hs } xvu
noncomputable def x1l3:=x1pg x9m
theorem x1l4:x28b call hs u x1l3 xvu eNil=(j3 (xn2 call hs u) 0 1 2):=by kernel_rfl
theorem x11n:FL x9m xgc:=le3 (fn:=Try.f90) (by kernel_rfl) (by kernel_rfl) (by kernel_rfl) (by kernel_rfl) (fun call hs t0 t1 t2 m=>(congrFun (x1l4 call hs m.next) _).trans (by kernel_rfl)) (fun _ _ _ _ _ h=>by unfold xgc at h;split at h<;>first | exact ⟨_,_,_,rfl⟩ | cases h)
noncomputable abbrev xf9:Fs→O2:=x1pe Try.prog [.tmp 2]
noncomputable abbrev x1yy:=XK call { f:=x2w,u:=u,nt:=12,hs:=hs } xf9
noncomputable def xvv:=x1pg x2w
noncomputable def xla:=nRs 2 xvv
noncomputable def x1l5:=nL xla
noncomputable def x1l6:=nR xla
theorem x1l7:x1yy call hs u x1l6 xf9 eNil=(j1 (x7f call hs u) 0):=by kernel_rfl
theorem x1l8:x1yy call hs u x1l5 (j1 (x7f call hs u) 0) eNil=(j1 (xdm call hs u) 0):=by kernel_rfl
theorem x1l9:x1yy call hs u xla xf9 eNil=(j1 (xdm call hs u) 0):=sq2 (by kernel_rfl) (x1l7 call hs u) (x1l8 call hs u)
theorem x1la:x1yy call hs u xvv xf9 eNil=(j1 (xi8 call hs u) 0):=(sqN 2 (by kernel_rfl) (x1l9 call hs u)).trans (by kernel_rfl)
theorem xzj:FL x2w x89:=le1 (fn:=Try.f91) (by kernel_rfl) (by kernel_rfl) (by kernel_rfl) (by kernel_rfl) (fun call hs t0 m=>(congrFun (x1la call hs m.next) _).trans (by kernel_rfl)) (fun _ _ _ _ _ h=>by unfold x89 at h;split at h<;>first | exact ⟨_,rfl⟩ | cases h)
noncomputable abbrev xvw:Fs→O2:=x1pe Try.prog [.tmp 6]
noncomputable abbrev x28c:=XK call { f:=x9n,u:=u,nt:=29,hs:=hs } xvw
noncomputable def x1lb:=x1pg x9n
theorem x1lc:x28c call hs u x1lb xvw eNil=(j3 (xn3 call hs u) 0 1 2):=by kernel_rfl
theorem x11o:FL x9n xgd:=le3 (fn:=Try.f92) (by kernel_rfl) (by kernel_rfl) (by kernel_rfl) (by kernel_rfl) (fun call hs t0 t1 t2 m=>(congrFun (x1lc call hs m.next) _).trans (by kernel_rfl)) (fun _ _ _ _ _ h=>by unfold xgd at h;split at h<;>first | exact ⟨_,_,_,rfl⟩ | cases h)
noncomputable abbrev xvx:Fs→O2:=x1pe Try.prog [.tmp 6]
noncomputable abbrev x28d:=XK call { f:=x6r,u:=u,nt:=27,hs:=hs } xvx
noncomputable def x1ld:=x1pg x6r
theorem x1le:x28d call hs u x1ld xvx eNil=(j3 (xn4 call hs u) 0 1 2):=by kernel_rfl
theorem x11p:FL x6r xge:=le3 (fn:=Try.f93) (by kernel_rfl) (by kernel_rfl) (by kernel_rfl) (by kernel_rfl) (fun call hs t0 t1 t2 m=>(congrFun (x1le call hs m.next) _).trans (by kernel_rfl)) (fun _ _ _ _ _ h=>by unfold xge at h;split at h<;>first | exact ⟨_,_,_,rfl⟩ | cases h)
noncomputable abbrev xfa:Fs→O2:=x1pe Try.prog [.tmp 4]
noncomputable abbrev x1tw:=XK call { f:=x9o,u:=u,nt:=29,hs:=hs } xfa
noncomputable def xvy:=x1pg x9o
noncomputable def xlb:=nRs 2 xvy
noncomputable def xvz:=nL xlb
noncomputable def x1lf:=nR xlb
noncomputable def xw0:=nR xvz
noncomputable def xw1:=nR xw0
noncomputable def xw2:=nR xw1
noncomputable def xlc:=nRs 2 xw2
noncomputable def x1lg:=nL xlc
noncomputable def x1lh:=nR xlc
theorem x1li:x1tw call hs u x1lf xfa eNil=(j1 (x2o call hs u) 5):=by kernel_rfl
theorem x1lj (rec0:AV→AV→AV→AV→AV→Mem→Nat→O2):x1tw call hs u x1lh (j5 rec0 1 5 10 11 12) (setE 0 (j1 (x2o call hs u) 5) eNil)=(j5 (xdn call hs u rec0) 1 5 10 11 12):=by kernel_rfl
theorem x1lk (rec0:AV→AV→AV→AV→AV→Mem→Nat→O2):x1tw call hs u x1lg (j5 (xdn call hs u rec0) 1 5 10 11 12) (setE 0 (j1 (x2o call hs u) 5) eNil)=(j5 (xi9 call hs u rec0) 1 5 10 11 12):=by kernel_rfl
theorem x1ll (rec0:AV→AV→AV→AV→AV→Mem→Nat→O2):x1tw call hs u xlc (j5 rec0 1 5 10 11 12) (setE 0 (j1 (x2o call hs u) 5) eNil)=(j5 (xi9 call hs u rec0) 1 5 10 11 12):=sq2 (by kernel_rfl) (x1lj call hs u rec0) (x1lk call hs u rec0)
theorem x1lm (rec0:AV→AV→AV→AV→AV→Mem→Nat→O2):x1tw call hs u xw2 (j5 rec0 1 5 10 11 12) (setE 0 (j1 (x2o call hs u) 5) eNil)=(j5 (xn5 call hs u rec0) 1 5 10 11 12):=(sqN 2 (by kernel_rfl) (x1ll call hs u rec0)).trans (by kernel_rfl)
theorem x1ln:x1tw call hs u xw1 (j1 (x2o call hs u) 5) (setE 0 (j1 (x2o call hs u) 5) eNil)=(j5 (x7g call hs u NN) 1 5 10 11 12):=lp (Ln:=fun n=>j5 (x7g call hs u n) 1 5 10 11 12) (by kernel_rfl) rfl fun n=>(x1lm call hs u (x7g call hs u n)).trans (by kernel_rfl)
theorem x1lo:x1tw call hs u xw0 (j1 (x2o call hs u) 5) eNil=(j5 (x7g call hs u NN) 1 5 10 11 12):=bk (by kernel_rfl) (x1ln call hs u)
theorem x1lp:x1tw call hs u xvz (j1 (x2o call hs u) 5) eNil=(j3 (xia call hs u) 1 2 5):=(sqN 1 (by kernel_rfl) (x1lo call hs u)).trans (by kernel_rfl)
theorem x1lq:x1tw call hs u xlb xfa eNil=(j3 (xia call hs u) 1 2 5):=sq2 (by kernel_rfl) (x1li call hs u) (x1lp call hs u)
theorem x1lr:x1tw call hs u xvy xfa eNil=(j2 (xn6 call hs u) 0 1):=(sqN 2 (by kernel_rfl) (x1lq call hs u)).trans (by kernel_rfl)
theorem x11q:FL x9o xgf:=le2 (fn:=Try.f95) (by kernel_rfl) (by kernel_rfl) (by kernel_rfl) (by kernel_rfl) (fun call hs t0 t1 m=>(congrFun (x1lr call hs m.next) _).trans (by kernel_rfl)) (fun _ _ _ _ _ h=>by unfold xgf at h;split at h<;>first | exact ⟨_,_,rfl⟩ | cases h)
noncomputable abbrev xw3:Fs→O2:=x1pe Try.prog [.tmp 4]
noncomputable abbrev x28e:=XK call { f:=x5n,u:=u,nt:=19,hs:=hs } xw3
noncomputable def x1ls:=x1pg x5n
theorem x1lt:x28e call hs u x1ls xw3 eNil=(j2 (xib call hs u) 0 1):=by kernel_rfl
theorem xzl:FL x5n x8b:=le2 (fn:=Try.f97) (by kernel_rfl) (by kernel_rfl) (by kernel_rfl) (by kernel_rfl) (fun call hs t0 t1 m=>(congrFun (x1lt call hs m.next) _).trans (by kernel_rfl)) (fun _ _ _ _ _ h=>by unfold x8b at h;split at h<;>first | exact ⟨_,_,rfl⟩ | cases h)
noncomputable abbrev xw4:Fs→O2:=x1pe Try.prog [.tmp 2]
noncomputable abbrev x28f:=XK call { f:=x5y,u:=u,nt:=5,hs:=hs } xw4
noncomputable def x1lu:=x1pg x5y
theorem x1lv:x28f call hs u x1lu xw4 eNil=(j1 (xic call hs u) 0):=by kernel_rfl
theorem x11r:FL x5y x9p:=le1 (fn:=Try.f98) (by kernel_rfl) (by kernel_rfl) (by kernel_rfl) (by kernel_rfl) (fun call hs t0 m=>(congrFun (x1lv call hs m.next) _).trans (by kernel_rfl)) (fun _ _ _ _ _ h=>by unfold x9p at h;split at h<;>first | exact ⟨_,rfl⟩ | cases h)
noncomputable abbrev xfb:Fs→O2:=x1pe Try.prog [.tmp 4]
noncomputable abbrev x1yz:=XK call { f:=x4s,u:=u,nt:=14,hs:=hs } xfb
noncomputable def xw5:=x1pg x4s
noncomputable def xld:=nRs 2 xw5
noncomputable def x1lw:=nL xld
noncomputable def x1lx:=nR xld
theorem x1ly:x1yz call hs u x1lx xfb eNil=(j1 (x7h call hs u) 0):=by kernel_rfl
theorem x1lz:x1yz call hs u x1lw (j1 (x7h call hs u) 0) eNil=(j2 (xdo call hs u) 0 1):=by kernel_rfl
theorem x1m0:x1yz call hs u xld xfb eNil=(j2 (xdo call hs u) 0 1):=sq2 (by kernel_rfl) (x1ly call hs u) (x1lz call hs u)
theorem x1m1:x1yz call hs u xw5 xfb eNil=(j2 (xid call hs u) 0 1):=(sqN 2 (by kernel_rfl) (x1m0 call hs u)).trans (by kernel_rfl)
theorem x11s:FL x4s x9q:=le2 (fn:=Try.f99) (by kernel_rfl) (by kernel_rfl) (by kernel_rfl) (by kernel_rfl) (fun call hs t0 t1 m=>(congrFun (x1m1 call hs m.next) _).trans (by kernel_rfl)) (fun _ _ _ _ _ h=>by unfold x9q at h;split at h<;>first | exact ⟨_,_,rfl⟩ | cases h)
noncomputable abbrev xw6:Fs→O2:=x1pe Try.prog [.tmp 4]
noncomputable abbrev x28g:=XK call { f:=x5z,u:=u,nt:=19,hs:=hs } xw6
noncomputable def x1m2:=x1pg x5z
theorem x1m3:x28g call hs u x1m2 xw6 eNil=(j2 (xie call hs u) 0 1):=by kernel_rfl
theorem x11t:FL x5z x9r:=le2 (fn:=Try.f100) (by kernel_rfl) (by kernel_rfl) (by kernel_rfl) (by kernel_rfl) (fun call hs t0 t1 m=>(congrFun (x1m3 call hs m.next) _).trans (by kernel_rfl)) (fun _ _ _ _ _ h=>by unfold x9r at h;split at h<;>first | exact ⟨_,_,rfl⟩ | cases h)
noncomputable abbrev xw7:Fs→O2:=x1pe Try.prog [.tmp 3]
noncomputable abbrev x28h:=XK call { f:=x9s,u:=u,nt:=15,hs:=hs } xw7
noncomputable def x1m4:=x1pg x9s
theorem x1m5:x28h call hs u x1m4 xw7 eNil=(j2 (xn7 call hs u) 0 1):=by kernel_rfl
theorem x11u:FL x9s xgg:=le2 (fn:=Try.f101) (by kernel_rfl) (by kernel_rfl) (by kernel_rfl) (by kernel_rfl) (fun call hs t0 t1 m=>(congrFun (x1m5 call hs m.next) _).trans (by kernel_rfl)) (fun _ _ _ _ _ h=>by unfold xgg at h;split at h<;>first | exact ⟨_,_,rfl⟩ | cases h)
noncomputable abbrev xfc:Fs→O2:=x1pe Try.prog [.tmp 2,.tmp 3]
noncomputable abbrev x1vs:=XK call { f:=x9t,u:=u,nt:=62,hs:=hs } xfc
noncomputable def xw8:=x1pg x9t
noncomputable def xle:=nRs 2 xw8
noncomputable def xw9:=nL xle
noncomputable def x1m6:=nR xle
noncomputable def xwa:=nR xw9
noncomputable def xwb:=nR xwa
noncomputable def x1m7:=nR xwb
theorem x1m8:x1vs call hs u x1m6 xfc eNil=(j0 (x6h call hs u)):=by kernel_rfl
theorem x1m9 (rec0:AV→AV→AV→AV→Mem→Nat→O2):x1vs call hs u x1m7 (j4 rec0 1 17 18 19) (setE 1 (j0 (x6h call hs u)) eNil)=(j4 (xn8 call hs u rec0) 1 17 18 19):=by kernel_rfl
theorem x1ma:x1vs call hs u xwb (j0 (x6h call hs u)) (setE 1 (j0 (x6h call hs u)) eNil)=(j4 (x7i call hs u NN) 1 17 18 19):=lp (Ln:=fun n=>j4 (x7i call hs u n) 1 17 18 19) (by kernel_rfl) rfl fun n=>(x1m9 call hs u (x7i call hs u n)).trans (by kernel_rfl)
theorem x1mb:x1vs call hs u xwa (j0 (x6h call hs u)) eNil=(j4 (x7i call hs u NN) 1 17 18 19):=bk (by kernel_rfl) (x1ma call hs u)
theorem x1mc:x1vs call hs u xw9 (j0 (x6h call hs u)) eNil=(j1 (xif call hs u) 1):=(sqN 1 (by kernel_rfl) (x1mb call hs u)).trans (by kernel_rfl)
theorem x1md:x1vs call hs u xle xfc eNil=(j1 (xif call hs u) 1):=sq2 (by kernel_rfl) (x1m8 call hs u) (x1mc call hs u)
theorem x1me:x1vs call hs u xw8 xfc eNil=(j1 (xn9 call hs u) 0):=(sqN 2 (by kernel_rfl) (x1md call hs u)).trans (by kernel_rfl)
theorem x11v:FL x9t xgh:=le1 (fn:=Try.f102) (by kernel_rfl) (by kernel_rfl) (by kernel_rfl) (by kernel_rfl) (fun call hs t0 m=>(congrFun (x1me call hs m.next) _).trans (by kernel_rfl)) (fun _ _ _ _ _ h=>by unfold xgh at h;split at h<;>first | exact ⟨_,rfl⟩ | cases h)
noncomputable abbrev xfd:Fs→O2:=x1pe Try.prog [.tmp 2]
noncomputable abbrev x1sf:=XK call { f:=x4t,u:=u,nt:=132,hs:=hs } xfd
noncomputable def xwc:=x1pg x4t
noncomputable def xlf:=nRs 2 xwc
noncomputable def xwd:=nL xlf
noncomputable def x1mf:=nR xlf
noncomputable def xwe:=nR xwd
noncomputable def xwf:=nR xwe
noncomputable def xwg:=nR xwf
noncomputable def xlg:=nRs 2 xwg
noncomputable def xwh:=nL xlg
noncomputable def x1mg:=nR xlg
noncomputable def xwi:=nR xwh
noncomputable def xlh:=nR xwi
noncomputable def x1mh:=nL xlh
noncomputable def x1mi:=nR xlh
theorem x1mj:x1sf call hs u x1mf xfd eNil=(j1 (xw call hs u) 3):=by kernel_rfl
theorem x1mk (rec0:AV→AV→AV→AV→Mem→Nat→O2):x1sf call hs u x1mg (j4 rec0 3 28 29 30) (setE 0 (j1 (xw call hs u) 3) eNil)=(j4 (x22 call hs u rec0) 3 28 29 30):=by kernel_rfl
theorem x1ml (rec0:AV→AV→AV→AV→Mem→Nat→O2):x1sf call hs u x1mi (j4 (x22 call hs u rec0) 3 28 29 30) (setE 1 (j4 (x22 call hs u rec0) 3 28 29 30) (setE 0 (j1 (xw call hs u) 3) eNil))=(j6 (x5g call hs u rec0) 3 4 5 28 29 30):=by kernel_rfl
theorem x1mm (rec0:AV→AV→AV→AV→Mem→Nat→O2):x1sf call hs u x1mh (j6 (x5g call hs u rec0) 3 4 5 28 29 30) (setE 1 (j4 (x22 call hs u rec0) 3 28 29 30) (setE 0 (j1 (xw call hs u) 3) eNil))=(j6 (xdp call hs u rec0) 3 4 5 28 29 30):=by kernel_rfl
theorem x1mn (rec0:AV→AV→AV→AV→Mem→Nat→O2):x1sf call hs u xlh (j4 (x22 call hs u rec0) 3 28 29 30) (setE 1 (j4 (x22 call hs u rec0) 3 28 29 30) (setE 0 (j1 (xw call hs u) 3) eNil))=(j6 (xdp call hs u rec0) 3 4 5 28 29 30):=sq2 (by kernel_rfl) (x1ml call hs u rec0) (x1mm call hs u rec0)
theorem x1mo (rec0:AV→AV→AV→AV→Mem→Nat→O2):x1sf call hs u xwi (j4 (x22 call hs u rec0) 3 28 29 30) (setE 1 (j4 (x22 call hs u rec0) 3 28 29 30) (setE 0 (j1 (xw call hs u) 3) eNil))=(j4 (xas call hs u rec0) 3 28 29 30):=(sqN 1 (by kernel_rfl) (x1mn call hs u rec0)).trans (by kernel_rfl)
theorem x1mp (rec0:AV→AV→AV→AV→Mem→Nat→O2):x1sf call hs u xwh (j4 (x22 call hs u rec0) 3 28 29 30) (setE 0 (j1 (xw call hs u) 3) eNil)=(j4 (xas call hs u rec0) 3 28 29 30):=bk (by kernel_rfl) (x1mo call hs u rec0)
theorem x1mq (rec0:AV→AV→AV→AV→Mem→Nat→O2):x1sf call hs u xlg (j4 rec0 3 28 29 30) (setE 0 (j1 (xw call hs u) 3) eNil)=(j4 (xas call hs u rec0) 3 28 29 30):=sq2 (by kernel_rfl) (x1mk call hs u rec0) (x1mp call hs u rec0)
theorem x1mr (rec0:AV→AV→AV→AV→Mem→Nat→O2):x1sf call hs u xwg (j4 rec0 3 28 29 30) (setE 0 (j1 (xw call hs u) 3) eNil)=(j4 (xdq call hs u rec0) 3 28 29 30):=(sqN 2 (by kernel_rfl) (x1mq call hs u rec0)).trans (by kernel_rfl)
theorem x1ms:x1sf call hs u xwf (j1 (xw call hs u) 3) (setE 0 (j1 (xw call hs u) 3) eNil)=(j4 (x23 call hs u NN) 3 28 29 30):=lp (Ln:=fun n=>j4 (x23 call hs u n) 3 28 29 30) (by kernel_rfl) rfl fun n=>(x1mr call hs u (x23 call hs u n)).trans (by kernel_rfl)
theorem x1mt:x1sf call hs u xwe (j1 (xw call hs u) 3) eNil=(j4 (x23 call hs u NN) 3 28 29 30):=bk (by kernel_rfl) (x1ms call hs u)
theorem x1mu:x1sf call hs u xwd (j1 (xw call hs u) 3) eNil=(j2 (xdr call hs u) 1 3):=(sqN 1 (by kernel_rfl) (x1mt call hs u)).trans (by kernel_rfl)
theorem x1mv:x1sf call hs u xlf xfd eNil=(j2 (xdr call hs u) 1 3):=sq2 (by kernel_rfl) (x1mj call hs u) (x1mu call hs u)
theorem x1mw:x1sf call hs u xwc xfd eNil=(j1 (xig call hs u) 0):=(sqN 2 (by kernel_rfl) (x1mv call hs u)).trans (by kernel_rfl)
theorem x11w:FL x4t x9u:=le1 (fn:=Try.f103) (by kernel_rfl) (by kernel_rfl) (by kernel_rfl) (by kernel_rfl) (fun call hs t0 m=>(congrFun (x1mw call hs m.next) _).trans (by kernel_rfl)) (fun _ _ _ _ _ h=>by unfold x9u at h;split at h<;>first | exact ⟨_,rfl⟩ | cases h)
noncomputable abbrev xfe:Fs→O2:=x1pe Try.prog [.tmp 4]
noncomputable abbrev x1vt:=XK call { f:=x29,u:=u,nt:=19,hs:=hs } xfe
noncomputable def xwj:=x1pg x29
noncomputable def xli:=nR xwj
noncomputable def xwk:=nL xli
noncomputable def x1mx:=nR xli
noncomputable def xwl:=nR xwk
noncomputable def xwm:=nR xwl
noncomputable def x1my:=nR xwm
theorem x1mz:x1vt call hs u x1mx xfe eNil=(j0 (x2p call hs u)):=by kernel_rfl
theorem x1n0 (rec0:AV→AV→AV→AV→Mem→Nat→O2):x1vt call hs u x1my (j4 rec0 0 1 7 8) (setE 0 (j0 (x2p call hs u)) eNil)=(j4 (x3x call hs u rec0) 0 1 7 8):=by kernel_rfl
theorem x1n1:x1vt call hs u xwm (j0 (x2p call hs u)) (setE 0 (j0 (x2p call hs u)) eNil)=(j4 (xq call hs u NN) 0 1 7 8):=lp (Ln:=fun n=>j4 (xq call hs u n) 0 1 7 8) (by kernel_rfl) rfl fun n=>(x1n0 call hs u (xq call hs u n)).trans (by kernel_rfl)
theorem x1n2:x1vt call hs u xwl (j0 (x2p call hs u)) eNil=(j4 (xq call hs u NN) 0 1 7 8):=bk (by kernel_rfl) (x1n1 call hs u)
theorem x1n3:x1vt call hs u xwk (j0 (x2p call hs u)) eNil=(j2 (x7j call hs u) 0 1):=(sqN 1 (by kernel_rfl) (x1n2 call hs u)).trans (by kernel_rfl)
theorem x1n4:x1vt call hs u xli xfe eNil=(j2 (x7j call hs u) 0 1):=sq2 (by kernel_rfl) (x1mz call hs u) (x1n3 call hs u)
theorem x1n5:x1vt call hs u xwj xfe eNil=(j2 (xat call hs u) 0 1):=(sqN 1 (by kernel_rfl) (x1n4 call hs u)).trans (by kernel_rfl)
theorem xzn:FL x29 x5o:=le2 (fn:=Try.f104) (by kernel_rfl) (by kernel_rfl) (by kernel_rfl) (by kernel_rfl) (fun call hs t0 t1 m=>(congrFun (x1n5 call hs m.next) _).trans (by kernel_rfl)) (fun _ _ _ _ _ h=>by unfold x5o at h;split at h<;>first | exact ⟨_,_,rfl⟩ | cases h)
noncomputable abbrev xwn:Fs→O2:=x1pe Try.prog [.tmp 2]
noncomputable abbrev x28i:=XK call { f:=x2a,u:=u,nt:=5,hs:=hs } xwn
noncomputable def x1n6:=x1pg x2a
theorem x1n7:x28i call hs u x1n6 xwn eNil=(j1 (xih call hs u) 0):=by kernel_rfl
theorem xzo:FL x2a x8d:=le1 (fn:=Try.f105) (by kernel_rfl) (by kernel_rfl) (by kernel_rfl) (by kernel_rfl) (fun call hs t0 m=>(congrFun (x1n7 call hs m.next) _).trans (by kernel_rfl)) (fun _ _ _ _ _ h=>by unfold x8d at h;split at h<;>first | exact ⟨_,rfl⟩ | cases h)
noncomputable abbrev x28:Fs→O2:=x1pe Try.prog []
noncomputable abbrev x1r0:=XK call { f:=x4u,u:=u,nt:=160,hs:=hs } x28
noncomputable def xwo:=x1pg x4u
noncomputable def xlj:=nRs 2 xwo
noncomputable def xwp:=nL xlj
noncomputable def xwq:=nR xlj
noncomputable def xlk:=nR xwq
noncomputable def xwr:=nL xlk
noncomputable def xll:=nR xlk
noncomputable def xws:=nL xll
noncomputable def xwt:=nR xll
noncomputable def xwu:=nRs 3 xwt
noncomputable def xwv:=nR xwu
noncomputable def x1n8:=nR xwv
noncomputable def xww:=nR xws
noncomputable def xwx:=nR xww
noncomputable def x1n9:=nR xwx
noncomputable def xwy:=nR xwr
noncomputable def xwz:=nR xwy
noncomputable def x1na:=nR xwz
noncomputable def xx0:=nR xwp
noncomputable def xx1:=nR xx0
noncomputable def xx2:=nR xx1
noncomputable def xlm:=nRs 2 xx2
noncomputable def x1nb:=nL xlm
noncomputable def x1nc:=nR xlm
theorem x1nd (rec0:AV→AV→AV→AV→AV→AV→Mem→Nat→O2):x1r0 call hs u x1n8 (j6 rec0 0 4 5 136 137 138) (setE 6 x28 eNil)=(j6 (xds call hs u rec0) 0 4 5 136 137 138):=by kernel_rfl
theorem x1ne:x1r0 call hs u xwv x28 (setE 6 x28 eNil)=(j6 (x3y call hs u NN) 0 4 5 136 137 138):=lp (Ln:=fun n=>j6 (x3y call hs u n) 0 4 5 136 137 138) (by kernel_rfl) rfl fun n=>(x1nd call hs u (x3y call hs u n)).trans (by kernel_rfl)
theorem x1nf:x1r0 call hs u xwu x28 eNil=(j6 (x3y call hs u NN) 0 4 5 136 137 138):=bk (by kernel_rfl) (x1ne call hs u)
theorem x1ng:x1r0 call hs u xwt x28 eNil=(j5 (x3z call hs u) 0 1 4 5 8):=(sqN 3 (by kernel_rfl) (x1nf call hs u)).trans (by kernel_rfl)
theorem x1nh (rec1:AV→AV→AV→AV→AV→AV→Mem→Nat→O2):x1r0 call hs u x1n9 (j6 rec1 0 1 4 5 8 10) (setE 4 (j5 (x3z call hs u) 0 1 4 5 8) eNil)=(j6 (xdt call hs u rec1) 0 1 4 5 8 10):=by kernel_rfl
theorem x1ni:x1r0 call hs u xwx (j5 (x3z call hs u) 0 1 4 5 8) (setE 4 (j5 (x3z call hs u) 0 1 4 5 8) eNil)=(j6 (x40 call hs u NN) 0 1 4 5 8 10):=lp (Ln:=fun n=>j6 (x40 call hs u n) 0 1 4 5 8 10) (by kernel_rfl) rfl fun n=>(x1nh call hs u (x40 call hs u n)).trans (by kernel_rfl)
theorem x1nj:x1r0 call hs u xww (j5 (x3z call hs u) 0 1 4 5 8) eNil=(j6 (x40 call hs u NN) 0 1 4 5 8 10):=bk (by kernel_rfl) (x1ni call hs u)
theorem x1nk:x1r0 call hs u xws (j5 (x3z call hs u) 0 1 4 5 8) eNil=(j5 (x2q call hs u) 0 1 4 5 8):=(sqN 1 (by kernel_rfl) (x1nj call hs u)).trans (by kernel_rfl)
theorem x1nl:x1r0 call hs u xll x28 eNil=(j5 (x2q call hs u) 0 1 4 5 8):=sq2 (by kernel_rfl) (x1ng call hs u) (x1nk call hs u)
theorem x1nm (rec2:AV→AV→AV→AV→AV→AV→Mem→Nat→O2):x1r0 call hs u x1na (j6 rec2 0 1 4 5 8 9) (setE 2 (j5 (x2q call hs u) 0 1 4 5 8) eNil)=(j6 (xdu call hs u rec2) 0 1 4 5 8 9):=by kernel_rfl
theorem x1nn:x1r0 call hs u xwz (j5 (x2q call hs u) 0 1 4 5 8) (setE 2 (j5 (x2q call hs u) 0 1 4 5 8) eNil)=(j6 (x41 call hs u NN) 0 1 4 5 8 9):=lp (Ln:=fun n=>j6 (x41 call hs u n) 0 1 4 5 8 9) (by kernel_rfl) rfl fun n=>(x1nm call hs u (x41 call hs u n)).trans (by kernel_rfl)
theorem x1no:x1r0 call hs u xwy (j5 (x2q call hs u) 0 1 4 5 8) eNil=(j6 (x41 call hs u NN) 0 1 4 5 8 9):=bk (by kernel_rfl) (x1nn call hs u)
theorem x1np:x1r0 call hs u xwr (j5 (x2q call hs u) 0 1 4 5 8) eNil=(j5 (xdv call hs u) 0 1 4 5 8):=(sqN 1 (by kernel_rfl) (x1no call hs u)).trans (by kernel_rfl)
theorem x1nq:x1r0 call hs u xlk x28 eNil=(j5 (xdv call hs u) 0 1 4 5 8):=sq2 (by kernel_rfl) (x1nl call hs u) (x1np call hs u)
theorem x1nr:x1r0 call hs u xwq x28 eNil=(j4 (x1k call hs u) 0 1 4 5):=(sqN 1 (by kernel_rfl) (x1nq call hs u)).trans (by kernel_rfl)
theorem x1ns (rec3:AV→AV→AV→AV→AV→AV→AV→Mem→Nat→O2):x1r0 call hs u x1nc (j7 rec3 0 1 4 5 17 18 19) (setE 0 (j4 (x1k call hs u) 0 1 4 5) eNil)=(j7 (x42 call hs u rec3) 0 1 4 5 17 18 19):=by kernel_rfl
theorem x1nt (rec3:AV→AV→AV→AV→AV→AV→AV→Mem→Nat→O2):x1r0 call hs u x1nb (j7 (x42 call hs u rec3) 0 1 4 5 17 18 19) (setE 0 (j4 (x1k call hs u) 0 1 4 5) eNil)=(j7 (xau call hs u rec3) 0 1 4 5 17 18 19):=by kernel_rfl
theorem x1nu (rec3:AV→AV→AV→AV→AV→AV→AV→Mem→Nat→O2):x1r0 call hs u xlm (j7 rec3 0 1 4 5 17 18 19) (setE 0 (j4 (x1k call hs u) 0 1 4 5) eNil)=(j7 (xau call hs u rec3) 0 1 4 5 17 18 19):=sq2 (by kernel_rfl) (x1ns call hs u rec3) (x1nt call hs u rec3)
theorem x1nv (rec3:AV→AV→AV→AV→AV→AV→AV→Mem→Nat→O2):x1r0 call hs u xx2 (j7 rec3 0 1 4 5 17 18 19) (setE 0 (j4 (x1k call hs u) 0 1 4 5) eNil)=(j7 (xav call hs u rec3) 0 1 4 5 17 18 19):=(sqN 2 (by kernel_rfl) (x1nu call hs u rec3)).trans (by kernel_rfl)
theorem x1nw:x1r0 call hs u xx1 (j4 (x1k call hs u) 0 1 4 5) (setE 0 (j4 (x1k call hs u) 0 1 4 5) eNil)=(j7 (x2r call hs u NN) 0 1 4 5 17 18 19):=lp (Ln:=fun n=>j7 (x2r call hs u n) 0 1 4 5 17 18 19) (by kernel_rfl) rfl fun n=>(x1nv call hs u (x2r call hs u n)).trans (by kernel_rfl)
theorem x1nx:x1r0 call hs u xx0 (j4 (x1k call hs u) 0 1 4 5) eNil=(j7 (x2r call hs u NN) 0 1 4 5 17 18 19):=bk (by kernel_rfl) (x1nw call hs u)
theorem x1ny:x1r0 call hs u xwp (j4 (x1k call hs u) 0 1 4 5) eNil=(j4 (xdw call hs u) 0 1 4 5):=(sqN 1 (by kernel_rfl) (x1nx call hs u)).trans (by kernel_rfl)
theorem x1nz:x1r0 call hs u xlj x28 eNil=(j4 (xdw call hs u) 0 1 4 5):=sq2 (by kernel_rfl) (x1nr call hs u) (x1ny call hs u)
theorem x1o0:x1r0 call hs u xwo x28 eNil=(j2 (xii call hs u) 0 1):=(sqN 2 (by kernel_rfl) (x1nz call hs u)).trans (by kernel_rfl)
theorem x11x:FL x4u x9v:=le2 (fn:=Try.f106) (by kernel_rfl) (by kernel_rfl) (by kernel_rfl) (by kernel_rfl) (fun call hs t0 t1 m=>(congrFun (x1o0 call hs m.next) _).trans (by kernel_rfl)) (fun _ _ _ _ _ h=>by unfold x9v at h;split at h<;>first | exact ⟨_,_,rfl⟩ | cases h)
noncomputable abbrev xx3:Fs→O2:=x1pe Try.prog [.tmp 2]
noncomputable abbrev x28j:=XK call { f:=x2x,u:=u,nt:=7,hs:=hs } xx3
noncomputable def x1o1:=x1pg x2x
theorem x1o2:x28j call hs u x1o1 xx3 eNil=(j1 (xij call hs u) 0):=by kernel_rfl
theorem xzm:FL x2x x8c:=le1 (fn:=Try.f107) (by kernel_rfl) (by kernel_rfl) (by kernel_rfl) (by kernel_rfl) (fun call hs t0 m=>(congrFun (x1o2 call hs m.next) _).trans (by kernel_rfl)) (fun _ _ _ _ _ h=>by unfold x8c at h;split at h<;>first | exact ⟨_,rfl⟩ | cases h)
noncomputable abbrev xx4:Fs→O2:=x1pe Try.prog [.tmp 4]
noncomputable abbrev x28k:=XK call { f:=x60,u:=u,nt:=6,hs:=hs } xx4
noncomputable def x1o3:=x1pg x60
theorem x1o4:x28k call hs u x1o3 xx4 eNil=(j2 (xik call hs u) 0 1):=by kernel_rfl
theorem x11y:FL x60 x9w:=le2 (fn:=Try.f108) (by kernel_rfl) (by kernel_rfl) (by kernel_rfl) (by kernel_rfl) (fun call hs t0 t1 m=>(congrFun (x1o4 call hs m.next) _).trans (by kernel_rfl)) (fun _ _ _ _ _ h=>by unfold x9w at h;split at h<;>first | exact ⟨_,_,rfl⟩ | cases h)
noncomputable abbrev xx5:Fs→O2:=x1pe Try.prog [.tmp 2]
noncomputable abbrev x28l:=XK call { f:=x61,u:=u,nt:=5,hs:=hs } xx5
noncomputable def x1o5:=x1pg x61
theorem x1o6:x28l call hs u x1o5 xx5 eNil=(j1 (xil call hs u) 0):=by kernel_rfl
theorem x11z:FL x61 x9x:=le1 (fn:=Try.f109) (by kernel_rfl) (by kernel_rfl) (by kernel_rfl) (by kernel_rfl) (fun call hs t0 m=>(congrFun (x1o6 call hs m.next) _).trans (by kernel_rfl)) (fun _ _ _ _ _ h=>by unfold x9x at h;split at h<;>first | exact ⟨_,rfl⟩ | cases h)
noncomputable abbrev xx6:Fs→O2:=x1pe Try.prog [.tmp 3]
noncomputable abbrev x28m:=XK call { f:=x4v,u:=u,nt:=13,hs:=hs } xx6
noncomputable def x1o7:=x1pg x4v
theorem x1o8:x28m call hs u x1o7 xx6 eNil=(j2 (xim call hs u) 0 1):=by kernel_rfl
theorem x120:FL x4v x9y:=le2 (fn:=Try.f110) (by kernel_rfl) (by kernel_rfl) (by kernel_rfl) (by kernel_rfl) (fun call hs t0 t1 m=>(congrFun (x1o8 call hs m.next) _).trans (by kernel_rfl)) (fun _ _ _ _ _ h=>by unfold x9y at h;split at h<;>first | exact ⟨_,_,rfl⟩ | cases h)
noncomputable abbrev xba:Fs→O2:=x1pe Try.prog [.tmp 4]
noncomputable abbrev x1wl:=XK call { f:=x4w,u:=u,nt:=27,hs:=hs } xba
noncomputable def xx7:=x1pg x4w
noncomputable def xln:=nR xx7
noncomputable def x1o9:=nL xln
noncomputable def xlo:=nR xln
noncomputable def x1oa:=nL xlo
noncomputable def x1ob:=nR xlo
theorem x1oc:x1wl call hs u x1ob xba eNil=(j1 (x7k call hs u) 0):=by kernel_rfl
theorem x1od:x1wl call hs u x1oa (j1 (x7k call hs u) 0) eNil=(j2 (x7l call hs u) 0 1):=by kernel_rfl
theorem x1oe:x1wl call hs u xlo xba eNil=(j2 (x7l call hs u) 0 1):=sq2 (by kernel_rfl) (x1oc call hs u) (x1od call hs u)
theorem x1of:x1wl call hs u x1o9 (j2 (x7l call hs u) 0 1) eNil=(j2 (xaw call hs u) 0 1):=by kernel_rfl
theorem x1og:x1wl call hs u xln xba eNil=(j2 (xaw call hs u) 0 1):=sq2 (by kernel_rfl) (x1oe call hs u) (x1of call hs u)
theorem x1oh:x1wl call hs u xx7 xba eNil=(j2 (xdx call hs u) 0 1):=(sqN 1 (by kernel_rfl) (x1og call hs u)).trans (by kernel_rfl)
theorem x121:FL x4w x6s:=le2 (fn:=Try.f111) (by kernel_rfl) (by kernel_rfl) (by kernel_rfl) (by kernel_rfl) (fun call hs t0 t1 m=>(congrFun (x1oh call hs m.next) _).trans (by kernel_rfl)) (fun _ _ _ _ _ h=>by unfold x6s at h;split at h<;>first | exact ⟨_,_,rfl⟩ | cases h)
noncomputable abbrev xx8:Fs→O2:=x1pe Try.prog [.tmp 2]
noncomputable abbrev x28n:=XK call { f:=x4x,u:=u,nt:=7,hs:=hs } xx8
noncomputable def x1oi:=x1pg x4x
theorem x1oj:x28n call hs u x1oi xx8 eNil=(j1 (xin call hs u) 0):=by kernel_rfl
theorem x122:FL x4x x9z:=le1 (fn:=Try.f112) (by kernel_rfl) (by kernel_rfl) (by kernel_rfl) (by kernel_rfl) (fun call hs t0 m=>(congrFun (x1oj call hs m.next) _).trans (by kernel_rfl)) (fun _ _ _ _ _ h=>by unfold x9z at h;split at h<;>first | exact ⟨_,rfl⟩ | cases h)
noncomputable abbrev xff:Fs→O2:=x1pe Try.prog [.tmp 4]
noncomputable abbrev x1s0:=XK call { f:=x4y,u:=u,nt:=45,hs:=hs } xff
noncomputable def xx9:=x1pg x4y
noncomputable def xlp:=nRs 3 xx9
noncomputable def xxa:=nL xlp
noncomputable def x1ok:=nR xlp
noncomputable def xxb:=nR xxa
noncomputable def xxc:=nR xxb
noncomputable def xxd:=nR xxc
noncomputable def xlq:=nRs 2 xxd
noncomputable def xxe:=nL xlq
noncomputable def x1ol:=nR xlq
noncomputable def xxf:=nR xxe
noncomputable def xlr:=nRs 4 xxf
noncomputable def xxg:=nL xlr
noncomputable def x1om:=nR xlr
noncomputable def xxh:=nR xxg
noncomputable def x1on:=nR xxh
theorem x1oo:x1s0 call hs u x1ok xff eNil=(j1 (xm call hs u) 5):=by kernel_rfl
theorem x1op (rec0:AV→AV→AV→AV→AV→Mem→Nat→O2):x1s0 call hs u x1ol (j5 rec0 1 5 6 14 15) (setE 0 (j1 (xm call hs u) 5) eNil)=(j5 (xx call hs u rec0) 1 5 6 14 15):=by kernel_rfl
theorem x1oq (rec0:AV→AV→AV→AV→AV→Mem→Nat→O2):x1s0 call hs u x1om (j5 (xx call hs u rec0) 1 5 6 14 15) (setE 1 (j5 (xx call hs u rec0) 1 5 6 14 15) (setE 0 (j1 (xm call hs u) 5) eNil))=(j5 (x5h call hs u rec0) 1 5 6 14 15):=by kernel_rfl
theorem x1or (rec0:AV→AV→AV→AV→AV→Mem→Nat→O2) (rec1:AV→AV→AV→AV→AV→AV→Mem→Nat→O2):x1s0 call hs u x1on (j6 rec1 1 5 6 8 14 15) (setE 2 (j5 (x5h call hs u rec0) 1 5 6 14 15) (setE 1 (j5 (xx call hs u rec0) 1 5 6 14 15) (setE 0 (j1 (xm call hs u) 5) eNil)))=(j6 (xax call hs u rec0 rec1) 1 5 6 8 14 15):=by kernel_rfl
theorem x1os (rec0:AV→AV→AV→AV→AV→Mem→Nat→O2):x1s0 call hs u xxh (j5 (x5h call hs u rec0) 1 5 6 14 15) (setE 2 (j5 (x5h call hs u rec0) 1 5 6 14 15) (setE 1 (j5 (xx call hs u rec0) 1 5 6 14 15) (setE 0 (j1 (xm call hs u) 5) eNil)))=(j6 (x24 call hs u rec0 NN) 1 5 6 8 14 15):=lp (Ln:=fun n=>j6 (x24 call hs u rec0 n) 1 5 6 8 14 15) (by kernel_rfl) rfl fun n=>(x1or call hs u rec0 (x24 call hs u rec0 n)).trans (by kernel_rfl)
theorem x1ot (rec0:AV→AV→AV→AV→AV→Mem→Nat→O2):x1s0 call hs u xxg (j5 (x5h call hs u rec0) 1 5 6 14 15) (setE 1 (j5 (xx call hs u rec0) 1 5 6 14 15) (setE 0 (j1 (xm call hs u) 5) eNil))=(j6 (x24 call hs u rec0 NN) 1 5 6 8 14 15):=bk (by kernel_rfl) (x1os call hs u rec0)
theorem x1ou (rec0:AV→AV→AV→AV→AV→Mem→Nat→O2):x1s0 call hs u xlr (j5 (xx call hs u rec0) 1 5 6 14 15) (setE 1 (j5 (xx call hs u rec0) 1 5 6 14 15) (setE 0 (j1 (xm call hs u) 5) eNil))=(j6 (x24 call hs u rec0 NN) 1 5 6 8 14 15):=sq2 (by kernel_rfl) (x1oq call hs u rec0) (x1ot call hs u rec0)
theorem x1ov (rec0:AV→AV→AV→AV→AV→Mem→Nat→O2):x1s0 call hs u xxf (j5 (xx call hs u rec0) 1 5 6 14 15) (setE 1 (j5 (xx call hs u rec0) 1 5 6 14 15) (setE 0 (j1 (xm call hs u) 5) eNil))=(j5 (x7m call hs u rec0) 1 5 6 14 15):=(sqN 4 (by kernel_rfl) (x1ou call hs u rec0)).trans (by kernel_rfl)
theorem x1ow (rec0:AV→AV→AV→AV→AV→Mem→Nat→O2):x1s0 call hs u xxe (j5 (xx call hs u rec0) 1 5 6 14 15) (setE 0 (j1 (xm call hs u) 5) eNil)=(j5 (x7m call hs u rec0) 1 5 6 14 15):=bk (by kernel_rfl) (x1ov call hs u rec0)
theorem x1ox (rec0:AV→AV→AV→AV→AV→Mem→Nat→O2):x1s0 call hs u xlq (j5 rec0 1 5 6 14 15) (setE 0 (j1 (xm call hs u) 5) eNil)=(j5 (x7m call hs u rec0) 1 5 6 14 15):=sq2 (by kernel_rfl) (x1op call hs u rec0) (x1ow call hs u rec0)
theorem x1oy (rec0:AV→AV→AV→AV→AV→Mem→Nat→O2):x1s0 call hs u xxd (j5 rec0 1 5 6 14 15) (setE 0 (j1 (xm call hs u) 5) eNil)=(j5 (xay call hs u rec0) 1 5 6 14 15):=(sqN 2 (by kernel_rfl) (x1ox call hs u rec0)).trans (by kernel_rfl)
theorem x1oz:x1s0 call hs u xxc (j1 (xm call hs u) 5) (setE 0 (j1 (xm call hs u) 5) eNil)=(j5 (x25 call hs u NN) 1 5 6 14 15):=lp (Ln:=fun n=>j5 (x25 call hs u n) 1 5 6 14 15) (by kernel_rfl) rfl fun n=>(x1oy call hs u (x25 call hs u n)).trans (by kernel_rfl)
theorem x1p0:x1s0 call hs u xxb (j1 (xm call hs u) 5) eNil=(j5 (x25 call hs u NN) 1 5 6 14 15):=bk (by kernel_rfl) (x1oz call hs u)
theorem x1p1:x1s0 call hs u xxa (j1 (xm call hs u) 5) eNil=(j3 (xdy call hs u) 1 5 6):=(sqN 1 (by kernel_rfl) (x1p0 call hs u)).trans (by kernel_rfl)
theorem x1p2:x1s0 call hs u xlp xff eNil=(j3 (xdy call hs u) 1 5 6):=sq2 (by kernel_rfl) (x1oo call hs u) (x1p1 call hs u)
theorem x1p3:x1s0 call hs u xx9 xff eNil=(j2 (xio call hs u) 0 1):=(sqN 3 (by kernel_rfl) (x1p2 call hs u)).trans (by kernel_rfl)
theorem x123:FL x4y xa0:=le2 (fn:=Try.f113) (by kernel_rfl) (by kernel_rfl) (by kernel_rfl) (by kernel_rfl) (fun call hs t0 t1 m=>(congrFun (x1p3 call hs m.next) _).trans (by kernel_rfl)) (fun _ _ _ _ _ h=>by unfold xa0 at h;split at h<;>first | exact ⟨_,_,rfl⟩ | cases h)
noncomputable abbrev x82:Fs→O2:=x1pe Try.prog []
noncomputable abbrev x1z0:=XK call { f:=x2v,u:=u,nt:=20,hs:=hs } x82
noncomputable def xxi:=x1pg x2v
noncomputable def xxj:=nR xxi
noncomputable def xxk:=nR xxj
noncomputable def x1p4:=nR xxk
theorem x1p5 (rec0:AV→AV→AV→AV→Mem→Nat→O2):x1z0 call hs u x1p4 (j4 rec0 1 10 11 12) (setE 0 x82 eNil)=(j4 (xdz call hs u rec0) 1 10 11 12):=by kernel_rfl
theorem x1p6:x1z0 call hs u xxk x82 (setE 0 x82 eNil)=(j4 (x43 call hs u NN) 1 10 11 12):=lp (Ln:=fun n=>j4 (x43 call hs u n) 1 10 11 12) (by kernel_rfl) rfl fun n=>(x1p5 call hs u (x43 call hs u n)).trans (by kernel_rfl)
theorem x1p7:x1z0 call hs u xxj x82 eNil=(j4 (x43 call hs u NN) 1 10 11 12):=bk (by kernel_rfl) (x1p6 call hs u)
theorem x1p8:x1z0 call hs u xxi x82 eNil=(j3 (xe0 call hs u) 0 1 2):=(sqN 1 (by kernel_rfl) (x1p7 call hs u)).trans (by kernel_rfl)
theorem xzg:FL x2v xbc:=le3 (fn:=Try.f114) (by kernel_rfl) (by kernel_rfl) (by kernel_rfl) (by kernel_rfl) (fun call hs t0 t1 t2 m=>(congrFun (x1p8 call hs m.next) _).trans (by kernel_rfl)) (fun _ _ _ _ _ h=>by unfold xbc at h;split at h<;>first | exact ⟨_,_,_,rfl⟩ | cases h)
end Go.Ix
