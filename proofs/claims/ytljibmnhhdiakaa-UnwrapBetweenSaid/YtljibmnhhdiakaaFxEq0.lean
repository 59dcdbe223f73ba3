import Derived.Test.YtljibmnhhdiakaaFxText0
import Derived.Test.YtljibmnhhdiakaaFxText1
import Derived.Test.YtljibmnhhdiakaaFxEnt
import Derived.Test.YtljibmnhhdiakaaFxRules
import Derived.Test.YtljibmnhhdiakaaFxProj
import Derived.ProofKit
set_option linter.unusedVariables false
namespace Go.Ix
open Go.Proofs
variable (call:x1lo) (hs:FHs) (u:Nat)
noncomputable abbrev xna:Fs→O2:=x1lu Try.prog [.tmp 6]
noncomputable abbrev x223:=XK call { f:=x5e,u:=u,nt:=140,hs:=hs } xna
noncomputable def x121:=x1lv x5e
theorem x122:x223 call hs u x121 xna eNil=(j3 (xf3 call hs u) 0 1 2):=by kernel_rfl
theorem xxd:FL x5e x7d:=le3 (fn:=Try.f5) (by kernel_rfl) (by kernel_rfl) (by kernel_rfl) (by kernel_rfl) (fun call hs t0 t1 t2 m=>(congrFun (x122 call hs m.next) _).trans (by kernel_rfl)) (fun _ _ _ _ _ h=>by unfold x7d at h;split at h<;>first | exact ⟨_,_,_,rfl⟩ | cases h)
noncomputable abbrev x6y:Fs→O2:=x1lu Try.prog [.tmp 6]
noncomputable abbrev x1pp:=XK call { f:=x9t,u:=u,nt:=95,hs:=hs } x6y
noncomputable def xnb:=x1lv x9t
noncomputable def xhe:=nRs 6 xnb
noncomputable def x123:=nL xhe
noncomputable def xnc:=nR xhe
noncomputable def xhf:=nRs 3 xnc
noncomputable def xnd:=nL xhf
noncomputable def x124:=nR xhf
noncomputable def xne:=nR xnd
noncomputable def xnf:=nR xne
noncomputable def x125:=nR xnf
theorem x126:x1pp call hs u x124 x6y eNil=(j3 (x4w call hs u) 3 7 11):=by kernel_rfl
theorem x127 (rec0:AV→AV→AV→AV→AV→AV→Mem→Nat→O2):x1pp call hs u x125 (j6 rec0 1 2 3 7 11 12) (setE 0 (j3 (x4w call hs u) 3 7 11) eNil)=(j6 (xjt call hs u rec0) 1 2 3 7 11 12):=by kernel_rfl
theorem x128:x1pp call hs u xnf (j3 (x4w call hs u) 3 7 11) (setE 0 (j3 (x4w call hs u) 3 7 11) eNil)=(j6 (x5u call hs u NN) 1 2 3 7 11 12):=lp (Ln:=fun n=>j6 (x5u call hs u n) 1 2 3 7 11 12) (by kernel_rfl) rfl fun n=>(x127 call hs u (x5u call hs u n)).trans (by kernel_rfl)
theorem x129:x1pp call hs u xne (j3 (x4w call hs u) 3 7 11) eNil=(j6 (x5u call hs u NN) 1 2 3 7 11 12):=bk (by kernel_rfl) (x128 call hs u)
theorem x12a:x1pp call hs u xnd (j3 (x4w call hs u) 3 7 11) eNil=(j5 (xf4 call hs u) 1 2 3 7 11):=(sqN 1 (by kernel_rfl) (x129 call hs u)).trans (by kernel_rfl)
theorem x12b:x1pp call hs u xhf x6y eNil=(j5 (xf4 call hs u) 1 2 3 7 11):=sq2 (by kernel_rfl) (x126 call hs u) (x12a call hs u)
theorem x12c:x1pp call hs u xnc x6y eNil=(j7 (xa9 call hs u) 1 2 3 7 8 9 10):=(sqN 3 (by kernel_rfl) (x12b call hs u)).trans (by kernel_rfl)
theorem x12d:x1pp call hs u x123 (j7 (xa9 call hs u) 1 2 3 7 8 9 10) eNil=(j7 (xf5 call hs u) 1 2 3 7 8 9 10):=by kernel_rfl
theorem x12e:x1pp call hs u xhe x6y eNil=(j7 (xf5 call hs u) 1 2 3 7 8 9 10):=sq2 (by kernel_rfl) (x12c call hs u) (x12d call hs u)
theorem x12f:x1pp call hs u xnb x6y eNil=(j3 (xju call hs u) 0 1 2):=(sqN 6 (by kernel_rfl) (x12e call hs u)).trans (by kernel_rfl)
theorem xxe:FL x9t xdh:=le3 (fn:=Try.f6) (by kernel_rfl) (by kernel_rfl) (by kernel_rfl) (by kernel_rfl) (fun call hs t0 t1 t2 m=>(congrFun (x12f call hs m.next) _).trans (by kernel_rfl)) (fun _ _ _ _ _ h=>by unfold xdh at h;split at h<;>first | exact ⟨_,_,_,rfl⟩ | cases h)
noncomputable abbrev xng:Fs→O2:=x1lu Try.prog [.tmp 6]
noncomputable abbrev x224:=XK call { f:=x9u,u:=u,nt:=124,hs:=hs } xng
noncomputable def x12g:=x1lv x9u
theorem x12h:x224 call hs u x12g xng eNil=(j3 (xjv call hs u) 0 1 2):=by kernel_rfl
theorem xxf:FL x9u xdi:=le3 (fn:=Try.f7) (by kernel_rfl) (by kernel_rfl) (by kernel_rfl) (by kernel_rfl) (fun call hs t0 t1 t2 m=>(congrFun (x12h call hs m.next) _).trans (by kernel_rfl)) (fun _ _ _ _ _ h=>by unfold xdi at h;split at h<;>first | exact ⟨_,_,_,rfl⟩ | cases h)
noncomputable abbrev xcj:Fs→O2:=x1lu Try.prog [.tmp 4]
noncomputable abbrev x1uk:=XK call { f:=x9v,u:=u,nt:=45,hs:=hs } xcj
noncomputable def xnh:=x1lv x9v
noncomputable def xhg:=nRs 6 xnh
noncomputable def x12i:=nL xhg
noncomputable def x12j:=nR xhg
theorem x12k:x1uk call hs u x12j xcj eNil=(j4 (xaa call hs u) 5 6 7 8):=by kernel_rfl
theorem x12l:x1uk call hs u x12i (j4 (xaa call hs u) 5 6 7 8) eNil=(j6 (xf6 call hs u) 1 2 5 6 7 8):=by kernel_rfl
theorem x12m:x1uk call hs u xhg xcj eNil=(j6 (xf6 call hs u) 1 2 5 6 7 8):=sq2 (by kernel_rfl) (x12k call hs u) (x12l call hs u)
theorem x12n:x1uk call hs u xnh xcj eNil=(j2 (xjw call hs u) 0 1):=(sqN 6 (by kernel_rfl) (x12m call hs u)).trans (by kernel_rfl)
theorem xxg:FL x9v xdj:=le2 (fn:=Try.f9) (by kernel_rfl) (by kernel_rfl) (by kernel_rfl) (by kernel_rfl) (fun call hs t0 t1 m=>(congrFun (x12n call hs m.next) _).trans (by kernel_rfl)) (fun _ _ _ _ _ h=>by unfold xdj at h;split at h<;>first | exact ⟨_,_,rfl⟩ | cases h)
noncomputable abbrev xni:Fs→O2:=x1lu Try.prog [.tmp 6]
noncomputable abbrev x225:=XK call { f:=x9w,u:=u,nt:=100,hs:=hs } xni
noncomputable def x12o:=x1lv x9w
theorem x12p:x225 call hs u x12o xni eNil=(j3 (xjx call hs u) 0 1 2):=by kernel_rfl
theorem xxh:FL x9w xdk:=le3 (fn:=Try.f10) (by kernel_rfl) (by kernel_rfl) (by kernel_rfl) (by kernel_rfl) (fun call hs t0 t1 t2 m=>(congrFun (x12p call hs m.next) _).trans (by kernel_rfl)) (fun _ _ _ _ _ h=>by unfold xdk at h;split at h<;>first | exact ⟨_,_,_,rfl⟩ | cases h)
noncomputable abbrev xck:Fs→O2:=x1lu Try.prog [.tmp 4]
noncomputable abbrev x1ul:=XK call { f:=x9x,u:=u,nt:=56,hs:=hs } xck
noncomputable def xnj:=x1lv x9x
noncomputable def xhh:=nRs 6 xnj
noncomputable def x12q:=nL xhh
noncomputable def x12r:=nR xhh
theorem x12s:x1ul call hs u x12r xck eNil=(j4 (xab call hs u) 5 6 7 8):=by kernel_rfl
theorem x12t:x1ul call hs u x12q (j4 (xab call hs u) 5 6 7 8) eNil=(j6 (xf7 call hs u) 1 2 5 6 7 8):=by kernel_rfl
theorem x12u:x1ul call hs u xhh xck eNil=(j6 (xf7 call hs u) 1 2 5 6 7 8):=sq2 (by kernel_rfl) (x12s call hs u) (x12t call hs u)
theorem x12v:x1ul call hs u xnj xck eNil=(j2 (xjy call hs u) 0 1):=(sqN 6 (by kernel_rfl) (x12u call hs u)).trans (by kernel_rfl)
theorem xxi:FL x9x xdl:=le2 (fn:=Try.f11) (by kernel_rfl) (by kernel_rfl) (by kernel_rfl) (by kernel_rfl) (fun call hs t0 t1 m=>(congrFun (x12v call hs m.next) _).trans (by kernel_rfl)) (fun _ _ _ _ _ h=>by unfold xdl at h;split at h<;>first | exact ⟨_,_,rfl⟩ | cases h)
noncomputable abbrev xnk:Fs→O2:=x1lu Try.prog [.tmp 0]
noncomputable abbrev x226:=XK call { f:=x1d,u:=u,nt:=79,hs:=hs } xnk
noncomputable def x12w:=x1lv x1d
theorem x12x:x226 call hs u x12w xnk eNil=(j0 (xjz call hs u)):=by kernel_rfl
theorem xxj:FL x1d xdm:=le0 (fn:=Try.f15) (by kernel_rfl) (by kernel_rfl) (by kernel_rfl) (by kernel_rfl) (fun call hs m=>(congrFun (x12x call hs m.next) _).trans (by kernel_rfl)) (fun _ _ _ _ _ h=>by unfold xdm at h;split at h<;>first | exact rfl | cases h)
noncomputable abbrev xcl:Fs→O2:=x1lu Try.prog [.tmp 2]
noncomputable abbrev x1rg:=XK call { f:=x26,u:=u,nt:=56,hs:=hs } xcl
noncomputable def xnl:=x1lv x26
noncomputable def xhi:=nRs 3 xnl
noncomputable def xnm:=nL xhi
noncomputable def x12y:=nR xhi
noncomputable def xnn:=nR xnm
noncomputable def xno:=nR xnn
noncomputable def x12z:=nR xno
theorem x130:x1rg call hs u x12y xcl eNil=(j0 (x43 call hs u)):=by kernel_rfl
theorem x131 (rec0:AV→AV→Mem→Nat→O2):x1rg call hs u x12z (j2 rec0 1 3) (setE 0 (j0 (x43 call hs u)) eNil)=(j2 (xac call hs u rec0) 1 3):=by kernel_rfl
theorem x132:x1rg call hs u xno (j0 (x43 call hs u)) (setE 0 (j0 (x43 call hs u)) eNil)=(j2 (x2y call hs u NN) 1 3):=lp (Ln:=fun n=>j2 (x2y call hs u n) 1 3) (by kernel_rfl) rfl fun n=>(x131 call hs u (x2y call hs u n)).trans (by kernel_rfl)
theorem x133:x1rg call hs u xnn (j0 (x43 call hs u)) eNil=(j2 (x2y call hs u NN) 1 3):=bk (by kernel_rfl) (x132 call hs u)
theorem x134:x1rg call hs u xnm (j0 (x43 call hs u)) eNil=(j1 (xad call hs u) 1):=(sqN 1 (by kernel_rfl) (x133 call hs u)).trans (by kernel_rfl)
theorem x135:x1rg call hs u xhi xcl eNil=(j1 (xad call hs u) 1):=sq2 (by kernel_rfl) (x130 call hs u) (x134 call hs u)
theorem x136:x1rg call hs u xnl xcl eNil=(j1 (xf8 call hs u) 0):=(sqN 3 (by kernel_rfl) (x135 call hs u)).trans (by kernel_rfl)
theorem xxk:FL x26 x7e:=le1 (fn:=Try.f16) (by kernel_rfl) (by kernel_rfl) (by kernel_rfl) (by kernel_rfl) (fun call hs t0 m=>(congrFun (x136 call hs m.next) _).trans (by kernel_rfl)) (fun _ _ _ _ _ h=>by unfold x7e at h;split at h<;>first | exact ⟨_,rfl⟩ | cases h)
noncomputable abbrev xnp:Fs→O2:=x1lu Try.prog [.tmp 2,.tmp 3,.tmp 4,.tmp 5]
noncomputable abbrev x227:=XK call { f:=x2t,u:=u,nt:=33,hs:=hs } xnp
noncomputable def x137:=x1lv x2t
theorem x138:x227 call hs u x137 xnp eNil=(j1 (xae call hs u) 0):=by kernel_rfl
theorem xxl:FL x2t x9y:=le1 (fn:=Try.f17) (by kernel_rfl) (by kernel_rfl) (by kernel_rfl) (by kernel_rfl) (fun call hs t0 m=>(congrFun (x138 call hs m.next) _).trans (by kernel_rfl)) (fun _ _ _ _ _ h=>by unfold x9y at h;split at h<;>first | exact ⟨_,rfl⟩ | cases h)
noncomputable abbrev xnq:Fs→O2:=x1lu Try.prog [.cell 2 xch]
noncomputable abbrev x228:=XK call { f:=xc,u:=u,nt:=10,hs:=hs } xnq
noncomputable def x139:=x1lv xc
theorem x13a:x228 call hs u x139 xnq eNil=(j1 (xaf call hs u) 0):=by kernel_rfl
theorem xxm:FL xc x5f:=le1 (fn:=Try.f18) (by kernel_rfl) (by kernel_rfl) (by kernel_rfl) (by kernel_rfl) (fun call hs t0 m=>(congrFun (x13a call hs m.next) _).trans (by kernel_rfl)) (fun _ _ _ _ _ h=>by unfold x5f at h;split at h<;>first | exact ⟨_,rfl⟩ | cases h)
noncomputable abbrev xnr:Fs→O2:=x1lu Try.prog [.tmp 2]
noncomputable abbrev x229:=XK call { f:=x1m,u:=u,nt:=11,hs:=hs } xnr
noncomputable def x13b:=x1lv x1m
theorem x13c:x229 call hs u x13b xnr eNil=(j1 (xf9 call hs u) 0):=by kernel_rfl
theorem xxn:FL x1m x7f:=le1 (fn:=Try.f19) (by kernel_rfl) (by kernel_rfl) (by kernel_rfl) (by kernel_rfl) (fun call hs t0 m=>(congrFun (x13c call hs m.next) _).trans (by kernel_rfl)) (fun _ _ _ _ _ h=>by unfold x7f at h;split at h<;>first | exact ⟨_,rfl⟩ | cases h)
noncomputable abbrev xcm:Fs→O2:=x1lu Try.prog [.tmp 4,.tmp 5]
noncomputable abbrev x1rh:=XK call { f:=x7g,u:=u,nt:=27,hs:=hs } xcm
noncomputable def xns:=x1lv x7g
noncomputable def xhj:=nRs 2 xns
noncomputable def xnt:=nL xhj
noncomputable def x13d:=nR xhj
noncomputable def xnu:=nR xnt
noncomputable def xnv:=nR xnu
noncomputable def x13e:=nR xnv
theorem x13f:x1rh call hs u x13d xcm eNil=(j2 (x4x call hs u) 1 2):=by kernel_rfl
theorem x13g (rec0:AV→AV→AV→Mem→Nat→O2):x1rh call hs u x13e (j3 rec0 1 2 6) (setE 0 (j2 (x4x call hs u) 1 2) eNil)=(j3 (xk0 call hs u rec0) 1 2 6):=by kernel_rfl
theorem x13h:x1rh call hs u xnv (j2 (x4x call hs u) 1 2) (setE 0 (j2 (x4x call hs u) 1 2) eNil)=(j3 (x5v call hs u NN) 1 2 6):=lp (Ln:=fun n=>j3 (x5v call hs u n) 1 2 6) (by kernel_rfl) rfl fun n=>(x13g call hs u (x5v call hs u n)).trans (by kernel_rfl)
theorem x13i:x1rh call hs u xnu (j2 (x4x call hs u) 1 2) eNil=(j3 (x5v call hs u NN) 1 2 6):=bk (by kernel_rfl) (x13h call hs u)
theorem x13j:x1rh call hs u xnt (j2 (x4x call hs u) 1 2) eNil=(j2 (xfa call hs u) 1 2):=(sqN 1 (by kernel_rfl) (x13i call hs u)).trans (by kernel_rfl)
theorem x13k:x1rh call hs u xhj xcm eNil=(j2 (xfa call hs u) 1 2):=sq2 (by kernel_rfl) (x13f call hs u) (x13j call hs u)
theorem x13l:x1rh call hs u xns xcm eNil=(j2 (xk1 call hs u) 0 1):=(sqN 2 (by kernel_rfl) (x13k call hs u)).trans (by kernel_rfl)
theorem xxo:FL x7g xdn:=le2 (fn:=Try.f20) (by kernel_rfl) (by kernel_rfl) (by kernel_rfl) (by kernel_rfl) (fun call hs t0 t1 m=>(congrFun (x13l call hs m.next) _).trans (by kernel_rfl)) (fun _ _ _ _ _ h=>by unfold xdn at h;split at h<;>first | exact ⟨_,_,rfl⟩ | cases h)
noncomputable abbrev x9k:Fs→O2:=x1lu Try.prog [.tmp 4,.tmp 5]
noncomputable abbrev x1p1:=XK call { f:=x7h,u:=u,nt:=91,hs:=hs } x9k
noncomputable def xnw:=x1lv x7h
noncomputable def xhk:=nRs 4 xnw
noncomputable def xnx:=nL xhk
noncomputable def xhl:=nR xhk
noncomputable def xny:=nL xhl
noncomputable def x13m:=nR xhl
noncomputable def xnz:=nR xny
noncomputable def xo0:=nR xnz
noncomputable def x13n:=nR xo0
noncomputable def xo1:=nR xnx
noncomputable def xo2:=nR xo1
noncomputable def x13o:=nR xo2
theorem x13p:x1p1 call hs u x13m x9k eNil=(j1 (x4y call hs u) 7):=by kernel_rfl
theorem x13q (rec0:AV→AV→AV→AV→Mem→Nat→O2):x1p1 call hs u x13n (j4 rec0 2 6 7 10) (setE 2 (j1 (x4y call hs u) 7) eNil)=(j4 (xk2 call hs u rec0) 2 6 7 10):=by kernel_rfl
theorem x13r:x1p1 call hs u xo0 (j1 (x4y call hs u) 7) (setE 2 (j1 (x4y call hs u) 7) eNil)=(j4 (x5w call hs u NN) 2 6 7 10):=lp (Ln:=fun n=>j4 (x5w call hs u n) 2 6 7 10) (by kernel_rfl) rfl fun n=>(x13q call hs u (x5w call hs u n)).trans (by kernel_rfl)
theorem x13s:x1p1 call hs u xnz (j1 (x4y call hs u) 7) eNil=(j4 (x5w call hs u NN) 2 6 7 10):=bk (by kernel_rfl) (x13r call hs u)
theorem x13t:x1p1 call hs u xny (j1 (x4y call hs u) 7) eNil=(j3 (x45 call hs u) 2 6 7):=(sqN 1 (by kernel_rfl) (x13s call hs u)).trans (by kernel_rfl)
theorem x13u:x1p1 call hs u xhl x9k eNil=(j3 (x45 call hs u) 2 6 7):=sq2 (by kernel_rfl) (x13p call hs u) (x13t call hs u)
theorem x13v (rec1:AV→AV→AV→AV→AV→Mem→Nat→O2):x1p1 call hs u x13o (j5 rec1 1 2 6 7 8) (setE 0 (j3 (x45 call hs u) 2 6 7) eNil)=(j5 (xk3 call hs u rec1) 1 2 6 7 8):=by kernel_rfl
theorem x13w:x1p1 call hs u xo2 (j3 (x45 call hs u) 2 6 7) (setE 0 (j3 (x45 call hs u) 2 6 7) eNil)=(j5 (x5x call hs u NN) 1 2 6 7 8):=lp (Ln:=fun n=>j5 (x5x call hs u n) 1 2 6 7 8) (by kernel_rfl) rfl fun n=>(x13v call hs u (x5x call hs u n)).trans (by kernel_rfl)
theorem x13x:x1p1 call hs u xo1 (j3 (x45 call hs u) 2 6 7) eNil=(j5 (x5x call hs u NN) 1 2 6 7 8):=bk (by kernel_rfl) (x13w call hs u)
theorem x13y:x1p1 call hs u xnx (j3 (x45 call hs u) 2 6 7) eNil=(j4 (xfb call hs u) 1 2 6 7):=(sqN 1 (by kernel_rfl) (x13x call hs u)).trans (by kernel_rfl)
theorem x13z:x1p1 call hs u xhk x9k eNil=(j4 (xfb call hs u) 1 2 6 7):=sq2 (by kernel_rfl) (x13u call hs u) (x13y call hs u)
theorem x140:x1p1 call hs u xnw x9k eNil=(j2 (xk4 call hs u) 0 1):=(sqN 4 (by kernel_rfl) (x13z call hs u)).trans (by kernel_rfl)
theorem xxp:FL x7h xdo:=le2 (fn:=Try.f21) (by kernel_rfl) (by kernel_rfl) (by kernel_rfl) (by kernel_rfl) (fun call hs t0 t1 m=>(congrFun (x140 call hs m.next) _).trans (by kernel_rfl)) (fun _ _ _ _ _ h=>by unfold xdo at h;split at h<;>first | exact ⟨_,_,rfl⟩ | cases h)
noncomputable abbrev xo3:Fs→O2:=x1lu Try.prog [.tmp 2]
noncomputable abbrev x22a:=XK call { f:=x9z,u:=u,nt:=7,hs:=hs } xo3
noncomputable def x141:=x1lv x9z
theorem x142:x22a call hs u x141 xo3 eNil=(j1 (xk5 call hs u) 0):=by kernel_rfl
theorem xxq:FL x9z xdp:=le1 (fn:=Try.f22) (by kernel_rfl) (by kernel_rfl) (by kernel_rfl) (by kernel_rfl) (fun call hs t0 m=>(congrFun (x142 call hs m.next) _).trans (by kernel_rfl)) (fun _ _ _ _ _ h=>by unfold xdp at h;split at h<;>first | exact ⟨_,rfl⟩ | cases h)
noncomputable abbrev x9l:Fs→O2:=x1lu Try.prog [.tmp 2]
noncomputable abbrev x1n7:=XK call { f:=xa0,u:=u,nt:=82,hs:=hs } x9l
noncomputable def xo4:=x1lv xa0
noncomputable def xhm:=nRs 2 xo4
noncomputable def xo5:=nL xhm
noncomputable def xhn:=nR xhm
noncomputable def xo6:=nL xhn
noncomputable def x143:=nR xhn
noncomputable def xo7:=nR xo6
noncomputable def xo8:=nR xo7
noncomputable def xo9:=nR xo8
noncomputable def xho:=nR xo9
noncomputable def xoa:=nL xho
noncomputable def x144:=nR xho
noncomputable def xob:=nR xoa
noncomputable def xhp:=nR xob
noncomputable def xoc:=nL xhp
noncomputable def x145:=nR xhp
noncomputable def xod:=nR xoc
noncomputable def xoe:=nR xod
noncomputable def xof:=nR xoe
noncomputable def xhq:=nR xof
noncomputable def x146:=nL xhq
noncomputable def x147:=nR xhq
noncomputable def xog:=nR xo5
noncomputable def xoh:=nR xog
noncomputable def x148:=nR xoh
theorem x149:x1n7 call hs u x143 x9l eNil=(j1 (xd call hs u) 3):=by kernel_rfl
theorem x14a (rec0:AV→AV→AV→Mem→Nat→O2):x1n7 call hs u x144 (j3 rec0 1 3 5) (setE 2 (j1 (xd call hs u) 3) eNil)=(j3 (xq call hs u rec0) 1 3 5):=by kernel_rfl
theorem x14b (rec0:AV→AV→AV→Mem→Nat→O2):x1n7 call hs u x145 (j3 (xq call hs u rec0) 1 3 5) (setE 3 (j3 (xq call hs u rec0) 1 3 5) (setE 2 (j1 (xd call hs u) 3) eNil))=(j4 (x2b call hs u rec0) 1 3 5 6):=by kernel_rfl
theorem x14c (rec0:AV→AV→AV→Mem→Nat→O2) (rec1:AV→AV→AV→AV→AV→Mem→Nat→O2):x1n7 call hs u x147 (j5 rec1 1 3 5 6 7) (setE 4 (j4 (x2b call hs u rec0) 1 3 5 6) (setE 3 (j3 (xq call hs u rec0) 1 3 5) (setE 2 (j1 (xd call hs u) 3) eNil)))=(j5 (xag call hs u rec0 rec1) 1 3 5 6 7):=by kernel_rfl
theorem x14d (rec0:AV→AV→AV→Mem→Nat→O2) (rec1:AV→AV→AV→AV→AV→Mem→Nat→O2):x1n7 call hs u x146 (j5 (xag call hs u rec0 rec1) 1 3 5 6 7) (setE 4 (j4 (x2b call hs u rec0) 1 3 5 6) (setE 3 (j3 (xq call hs u rec0) 1 3 5) (setE 2 (j1 (xd call hs u) 3) eNil)))=(j5 (xfc call hs u rec0 rec1) 1 3 5 6 7):=by kernel_rfl
theorem x14e (rec0:AV→AV→AV→Mem→Nat→O2) (rec1:AV→AV→AV→AV→AV→Mem→Nat→O2):x1n7 call hs u xhq (j5 rec1 1 3 5 6 7) (setE 4 (j4 (x2b call hs u rec0) 1 3 5 6) (setE 3 (j3 (xq call hs u rec0) 1 3 5) (setE 2 (j1 (xd call hs u) 3) eNil)))=(j5 (xfc call hs u rec0 rec1) 1 3 5 6 7):=sq2 (by kernel_rfl) (x14c call hs u rec0 rec1) (x14d call hs u rec0 rec1)
theorem x14f (rec0:AV→AV→AV→Mem→Nat→O2) (rec1:AV→AV→AV→AV→AV→Mem→Nat→O2):x1n7 call hs u xof (j5 rec1 1 3 5 6 7) (setE 4 (j4 (x2b call hs u rec0) 1 3 5 6) (setE 3 (j3 (xq call hs u rec0) 1 3 5) (setE 2 (j1 (xd call hs u) 3) eNil)))=(j5 (xk6 call hs u rec0 rec1) 1 3 5 6 7):=(sqN 1 (by kernel_rfl) (x14e call hs u rec0 rec1)).trans (by kernel_rfl)
theorem x14g (rec0:AV→AV→AV→Mem→Nat→O2):x1n7 call hs u xoe (j4 (x2b call hs u rec0) 1 3 5 6) (setE 4 (j4 (x2b call hs u rec0) 1 3 5 6) (setE 3 (j3 (xq call hs u rec0) 1 3 5) (setE 2 (j1 (xd call hs u) 3) eNil)))=(j5 (x5y call hs u rec0 NN) 1 3 5 6 7):=lp (Ln:=fun n=>j5 (x5y call hs u rec0 n) 1 3 5 6 7) (by kernel_rfl) rfl fun n=>(x14f call hs u rec0 (x5y call hs u rec0 n)).trans (by kernel_rfl)
theorem x14h (rec0:AV→AV→AV→Mem→Nat→O2):x1n7 call hs u xod (j4 (x2b call hs u rec0) 1 3 5 6) (setE 3 (j3 (xq call hs u rec0) 1 3 5) (setE 2 (j1 (xd call hs u) 3) eNil))=(j5 (x5y call hs u rec0 NN) 1 3 5 6 7):=bk (by kernel_rfl) (x14g call hs u rec0)
theorem x14i (rec0:AV→AV→AV→Mem→Nat→O2):x1n7 call hs u xoc (j4 (x2b call hs u rec0) 1 3 5 6) (setE 3 (j3 (xq call hs u rec0) 1 3 5) (setE 2 (j1 (xd call hs u) 3) eNil))=(j4 (xfd call hs u rec0) 1 3 5 6):=(sqN 1 (by kernel_rfl) (x14h call hs u rec0)).trans (by kernel_rfl)
theorem x14j (rec0:AV→AV→AV→Mem→Nat→O2):x1n7 call hs u xhp (j3 (xq call hs u rec0) 1 3 5) (setE 3 (j3 (xq call hs u rec0) 1 3 5) (setE 2 (j1 (xd call hs u) 3) eNil))=(j4 (xfd call hs u rec0) 1 3 5 6):=sq2 (by kernel_rfl) (x14b call hs u rec0) (x14i call hs u rec0)
theorem x14k (rec0:AV→AV→AV→Mem→Nat→O2):x1n7 call hs u xob (j3 (xq call hs u rec0) 1 3 5) (setE 3 (j3 (xq call hs u rec0) 1 3 5) (setE 2 (j1 (xd call hs u) 3) eNil))=(j3 (xah call hs u rec0) 1 3 5):=(sqN 1 (by kernel_rfl) (x14j call hs u rec0)).trans (by kernel_rfl)
theorem x14l (rec0:AV→AV→AV→Mem→Nat→O2):x1n7 call hs u xoa (j3 (xq call hs u rec0) 1 3 5) (setE 2 (j1 (xd call hs u) 3) eNil)=(j3 (xah call hs u rec0) 1 3 5):=bk (by kernel_rfl) (x14k call hs u rec0)
theorem x14m (rec0:AV→AV→AV→Mem→Nat→O2):x1n7 call hs u xho (j3 rec0 1 3 5) (setE 2 (j1 (xd call hs u) 3) eNil)=(j3 (xah call hs u rec0) 1 3 5):=sq2 (by kernel_rfl) (x14a call hs u rec0) (x14l call hs u rec0)
theorem x14n (rec0:AV→AV→AV→Mem→Nat→O2):x1n7 call hs u xo9 (j3 rec0 1 3 5) (setE 2 (j1 (xd call hs u) 3) eNil)=(j3 (xk7 call hs u rec0) 1 3 5):=(sqN 1 (by kernel_rfl) (x14m call hs u rec0)).trans (by kernel_rfl)
theorem x14o:x1n7 call hs u xo8 (j1 (xd call hs u) 3) (setE 2 (j1 (xd call hs u) 3) eNil)=(j3 (x5z call hs u NN) 1 3 5):=lp (Ln:=fun n=>j3 (x5z call hs u n) 1 3 5) (by kernel_rfl) rfl fun n=>(x14n call hs u (x5z call hs u n)).trans (by kernel_rfl)
theorem x14p:x1n7 call hs u xo7 (j1 (xd call hs u) 3) eNil=(j3 (x5z call hs u NN) 1 3 5):=bk (by kernel_rfl) (x14o call hs u)
theorem x14q:x1n7 call hs u xo6 (j1 (xd call hs u) 3) eNil=(j2 (x46 call hs u) 1 3):=(sqN 1 (by kernel_rfl) (x14p call hs u)).trans (by kernel_rfl)
theorem x14r:x1n7 call hs u xhn x9l eNil=(j2 (x46 call hs u) 1 3):=sq2 (by kernel_rfl) (x149 call hs u) (x14q call hs u)
theorem x14s (rec2:AV→AV→AV→Mem→Nat→O2):x1n7 call hs u x148 (j3 rec2 1 3 4) (setE 0 (j2 (x46 call hs u) 1 3) eNil)=(j3 (xk8 call hs u rec2) 1 3 4):=by kernel_rfl
theorem x14t:x1n7 call hs u xoh (j2 (x46 call hs u) 1 3) (setE 0 (j2 (x46 call hs u) 1 3) eNil)=(j3 (x60 call hs u NN) 1 3 4):=lp (Ln:=fun n=>j3 (x60 call hs u n) 1 3 4) (by kernel_rfl) rfl fun n=>(x14s call hs u (x60 call hs u n)).trans (by kernel_rfl)
theorem x14u:x1n7 call hs u xog (j2 (x46 call hs u) 1 3) eNil=(j3 (x60 call hs u NN) 1 3 4):=bk (by kernel_rfl) (x14t call hs u)
theorem x14v:x1n7 call hs u xo5 (j2 (x46 call hs u) 1 3) eNil=(j2 (xfe call hs u) 1 3):=(sqN 1 (by kernel_rfl) (x14u call hs u)).trans (by kernel_rfl)
theorem x14w:x1n7 call hs u xhm x9l eNil=(j2 (xfe call hs u) 1 3):=sq2 (by kernel_rfl) (x14r call hs u) (x14v call hs u)
theorem x14x:x1n7 call hs u xo4 x9l eNil=(j1 (xk9 call hs u) 0):=(sqN 2 (by kernel_rfl) (x14w call hs u)).trans (by kernel_rfl)
theorem xxr:FL xa0 xdq:=le1 (fn:=Try.f23) (by kernel_rfl) (by kernel_rfl) (by kernel_rfl) (by kernel_rfl) (fun call hs t0 m=>(congrFun (x14x call hs m.next) _).trans (by kernel_rfl)) (fun _ _ _ _ _ h=>by unfold xdq at h;split at h<;>first | exact ⟨_,rfl⟩ | cases h)
noncomputable abbrev x9m:Fs→O2:=x1lu Try.prog [.tmp 2]
noncomputable abbrev x1p2:=XK call { f:=xa1,u:=u,nt:=56,hs:=hs } x9m
noncomputable def xoi:=x1lv xa1
noncomputable def xhr:=nRs 4 xoi
noncomputable def xoj:=nL xhr
noncomputable def xhs:=nR xhr
noncomputable def xok:=nL xhs
noncomputable def x14y:=nR xhs
noncomputable def xol:=nR xok
noncomputable def xom:=nR xol
noncomputable def x14z:=nR xom
noncomputable def xon:=nR xoj
noncomputable def xoo:=nR xon
noncomputable def x150:=nR xoo
theorem x151:x1p2 call hs u x14y x9m eNil=(j0 (x4z call hs u)):=by kernel_rfl
theorem x152 (rec0:AV→AV→Mem→Nat→O2):x1p2 call hs u x14z (j2 rec0 1 4) (setE 2 (j0 (x4z call hs u)) eNil)=(j2 (xka call hs u rec0) 1 4):=by kernel_rfl
theorem x153:x1p2 call hs u xom (j0 (x4z call hs u)) (setE 2 (j0 (x4z call hs u)) eNil)=(j2 (x61 call hs u NN) 1 4):=lp (Ln:=fun n=>j2 (x61 call hs u n) 1 4) (by kernel_rfl) rfl fun n=>(x152 call hs u (x61 call hs u n)).trans (by kernel_rfl)
theorem x154:x1p2 call hs u xol (j0 (x4z call hs u)) eNil=(j2 (x61 call hs u NN) 1 4):=bk (by kernel_rfl) (x153 call hs u)
theorem x155:x1p2 call hs u xok (j0 (x4z call hs u)) eNil=(j1 (x47 call hs u) 1):=(sqN 1 (by kernel_rfl) (x154 call hs u)).trans (by kernel_rfl)
theorem x156:x1p2 call hs u xhs x9m eNil=(j1 (x47 call hs u) 1):=sq2 (by kernel_rfl) (x151 call hs u) (x155 call hs u)
theorem x157 (rec1:AV→AV→Mem→Nat→O2):x1p2 call hs u x150 (j2 rec1 1 3) (setE 0 (j1 (x47 call hs u) 1) eNil)=(j2 (xkb call hs u rec1) 1 3):=by kernel_rfl
theorem x158:x1p2 call hs u xoo (j1 (x47 call hs u) 1) (setE 0 (j1 (x47 call hs u) 1) eNil)=(j2 (x62 call hs u NN) 1 3):=lp (Ln:=fun n=>j2 (x62 call hs u n) 1 3) (by kernel_rfl) rfl fun n=>(x157 call hs u (x62 call hs u n)).trans (by kernel_rfl)
theorem x159:x1p2 call hs u xon (j1 (x47 call hs u) 1) eNil=(j2 (x62 call hs u NN) 1 3):=bk (by kernel_rfl) (x158 call hs u)
theorem x15a:x1p2 call hs u xoj (j1 (x47 call hs u) 1) eNil=(j1 (xff call hs u) 1):=(sqN 1 (by kernel_rfl) (x159 call hs u)).trans (by kernel_rfl)
theorem x15b:x1p2 call hs u xhr x9m eNil=(j1 (xff call hs u) 1):=sq2 (by kernel_rfl) (x156 call hs u) (x15a call hs u)
theorem x15c:x1p2 call hs u xoi x9m eNil=(j1 (xkc call hs u) 0):=(sqN 4 (by kernel_rfl) (x15b call hs u)).trans (by kernel_rfl)
theorem xxs:FL xa1 xdr:=le1 (fn:=Try.f25) (by kernel_rfl) (by kernel_rfl) (by kernel_rfl) (by kernel_rfl) (fun call hs t0 m=>(congrFun (x15c call hs m.next) _).trans (by kernel_rfl)) (fun _ _ _ _ _ h=>by unfold xdr at h;split at h<;>first | exact ⟨_,rfl⟩ | cases h)
noncomputable abbrev xop:Fs→O2:=x1lu Try.prog [.cell 2 xh3]
noncomputable abbrev x22b:=XK call { f:=xa2,u:=u,nt:=13,hs:=hs } xop
noncomputable def x15d:=x1lv xa2
theorem x15e:x22b call hs u x15d xop eNil=(j1 (xkd call hs u) 0):=by kernel_rfl
theorem xxt:FL xa2 xds:=le1 (fn:=Try.f27) (by kernel_rfl) (by kernel_rfl) (by kernel_rfl) (by kernel_rfl) (fun call hs t0 m=>(congrFun (x15e call hs m.next) _).trans (by kernel_rfl)) (fun _ _ _ _ _ h=>by unfold xds at h;split at h<;>first | exact ⟨_,rfl⟩ | cases h)
noncomputable abbrev x9n:Fs→O2:=x1lu Try.prog [.tmp 2]
noncomputable abbrev x1p3:=XK call { f:=x7i,u:=u,nt:=83,hs:=hs } x9n
noncomputable def xoq:=x1lv x7i
noncomputable def xht:=nRs 6 xoq
noncomputable def xor:=nL xht
noncomputable def xhu:=nR xht
noncomputable def xos:=nL xhu
noncomputable def x15f:=nR xhu
noncomputable def xot:=nR xos
noncomputable def xou:=nR xot
noncomputable def x15g:=nR xou
noncomputable def xov:=nR xor
noncomputable def xow:=nR xov
noncomputable def x15h:=nR xow
theorem x15i:x1p3 call hs u x15f x9n eNil=(j0 (x50 call hs u)):=by kernel_rfl
theorem x15j (rec0:AV→AV→Mem→Nat→O2):x1p3 call hs u x15g (j2 rec0 1 7) (setE 2 (j0 (x50 call hs u)) eNil)=(j2 (xke call hs u rec0) 1 7):=by kernel_rfl
theorem x15k:x1p3 call hs u xou (j0 (x50 call hs u)) (setE 2 (j0 (x50 call hs u)) eNil)=(j2 (x63 call hs u NN) 1 7):=lp (Ln:=fun n=>j2 (x63 call hs u n) 1 7) (by kernel_rfl) rfl fun n=>(x15j call hs u (x63 call hs u n)).trans (by kernel_rfl)
theorem x15l:x1p3 call hs u xot (j0 (x50 call hs u)) eNil=(j2 (x63 call hs u NN) 1 7):=bk (by kernel_rfl) (x15k call hs u)
theorem x15m:x1p3 call hs u xos (j0 (x50 call hs u)) eNil=(j1 (x48 call hs u) 1):=(sqN 1 (by kernel_rfl) (x15l call hs u)).trans (by kernel_rfl)
theorem x15n:x1p3 call hs u xhu x9n eNil=(j1 (x48 call hs u) 1):=sq2 (by kernel_rfl) (x15i call hs u) (x15m call hs u)
theorem x15o (rec1:AV→AV→Mem→Nat→O2):x1p3 call hs u x15h (j2 rec1 1 6) (setE 0 (j1 (x48 call hs u) 1) eNil)=(j2 (xkf call hs u rec1) 1 6):=by kernel_rfl
theorem x15p:x1p3 call hs u xow (j1 (x48 call hs u) 1) (setE 0 (j1 (x48 call hs u) 1) eNil)=(j2 (x64 call hs u NN) 1 6):=lp (Ln:=fun n=>j2 (x64 call hs u n) 1 6) (by kernel_rfl) rfl fun n=>(x15o call hs u (x64 call hs u n)).trans (by kernel_rfl)
theorem x15q:x1p3 call hs u xov (j1 (x48 call hs u) 1) eNil=(j2 (x64 call hs u NN) 1 6):=bk (by kernel_rfl) (x15p call hs u)
theorem x15r:x1p3 call hs u xor (j1 (x48 call hs u) 1) eNil=(j1 (xfg call hs u) 1):=(sqN 1 (by kernel_rfl) (x15q call hs u)).trans (by kernel_rfl)
theorem x15s:x1p3 call hs u xht x9n eNil=(j1 (xfg call hs u) 1):=sq2 (by kernel_rfl) (x15n call hs u) (x15r call hs u)
theorem x15t:x1p3 call hs u xoq x9n eNil=(j1 (xkg call hs u) 0):=(sqN 6 (by kernel_rfl) (x15s call hs u)).trans (by kernel_rfl)
theorem xxu:FL x7i xdt:=le1 (fn:=Try.f28) (by kernel_rfl) (by kernel_rfl) (by kernel_rfl) (by kernel_rfl) (fun call hs t0 m=>(congrFun (x15t call hs m.next) _).trans (by kernel_rfl)) (fun _ _ _ _ _ h=>by unfold xdt at h;split at h<;>first | exact ⟨_,rfl⟩ | cases h)
noncomputable abbrev xcn:Fs→O2:=x1lu Try.prog [.tmp 2]
noncomputable abbrev x1ri:=XK call { f:=x5g,u:=u,nt:=67,hs:=hs } xcn
noncomputable def xox:=x1lv x5g
noncomputable def xhv:=nRs 6 xox
noncomputable def xoy:=nL xhv
noncomputable def x15u:=nR xhv
noncomputable def xoz:=nR xoy
noncomputable def xp0:=nR xoz
noncomputable def x15v:=nR xp0
theorem x15w:x1ri call hs u x15u xcn eNil=(j0 (x51 call hs u)):=by kernel_rfl
theorem x15x (rec0:AV→AV→AV→Mem→Nat→O2):x1ri call hs u x15v (j3 rec0 57 58 59) (setE 0 (j0 (x51 call hs u)) eNil)=(j3 (xkh call hs u rec0) 57 58 59):=by kernel_rfl
theorem x15y:x1ri call hs u xp0 (j0 (x51 call hs u)) (setE 0 (j0 (x51 call hs u)) eNil)=(j3 (x65 call hs u NN) 57 58 59):=lp (Ln:=fun n=>j3 (x65 call hs u n) 57 58 59) (by kernel_rfl) rfl fun n=>(x15x call hs u (x65 call hs u n)).trans (by kernel_rfl)
theorem x15z:x1ri call hs u xoz (j0 (x51 call hs u)) eNil=(j3 (x65 call hs u NN) 57 58 59):=bk (by kernel_rfl) (x15y call hs u)
theorem x160:x1ri call hs u xoy (j0 (x51 call hs u)) eNil=(j1 (xfh call hs u) 1):=(sqN 1 (by kernel_rfl) (x15z call hs u)).trans (by kernel_rfl)
theorem x161:x1ri call hs u xhv xcn eNil=(j1 (xfh call hs u) 1):=sq2 (by kernel_rfl) (x15w call hs u) (x160 call hs u)
theorem x162:x1ri call hs u xox xcn eNil=(j1 (xki call hs u) 0):=(sqN 6 (by kernel_rfl) (x161 call hs u)).trans (by kernel_rfl)
theorem xxv:FL x5g xdu:=le1 (fn:=Try.f29) (by kernel_rfl) (by kernel_rfl) (by kernel_rfl) (by kernel_rfl) (fun call hs t0 m=>(congrFun (x162 call hs m.next) _).trans (by kernel_rfl)) (fun _ _ _ _ _ h=>by unfold xdu at h;split at h<;>first | exact ⟨_,rfl⟩ | cases h)
noncomputable abbrev xco:Fs→O2:=x1lu Try.prog [.tmp 4]
noncomputable abbrev x1rj:=XK call { f:=xa3,u:=u,nt:=38,hs:=hs } xco
noncomputable def xp1:=x1lv xa3
noncomputable def xhw:=nRs 2 xp1
noncomputable def xp2:=nL xhw
noncomputable def x163:=nR xhw
noncomputable def xp3:=nR xp2
noncomputable def xp4:=nR xp3
noncomputable def x164:=nR xp4
theorem x165:x1rj call hs u x163 xco eNil=(j0 (x52 call hs u)):=by kernel_rfl
theorem x166 (rec0:AV→AV→AV→Mem→Nat→O2):x1rj call hs u x164 (j3 rec0 2 3 5) (setE 0 (j0 (x52 call hs u)) eNil)=(j3 (xkj call hs u rec0) 2 3 5):=by kernel_rfl
theorem x167:x1rj call hs u xp4 (j0 (x52 call hs u)) (setE 0 (j0 (x52 call hs u)) eNil)=(j3 (x66 call hs u NN) 2 3 5):=lp (Ln:=fun n=>j3 (x66 call hs u n) 2 3 5) (by kernel_rfl) rfl fun n=>(x166 call hs u (x66 call hs u n)).trans (by kernel_rfl)
theorem x168:x1rj call hs u xp3 (j0 (x52 call hs u)) eNil=(j3 (x66 call hs u NN) 2 3 5):=bk (by kernel_rfl) (x167 call hs u)
theorem x169:x1rj call hs u xp2 (j0 (x52 call hs u)) eNil=(j2 (xfi call hs u) 2 3):=(sqN 1 (by kernel_rfl) (x168 call hs u)).trans (by kernel_rfl)
theorem x16a:x1rj call hs u xhw xco eNil=(j2 (xfi call hs u) 2 3):=sq2 (by kernel_rfl) (x165 call hs u) (x169 call hs u)
theorem x16b:x1rj call hs u xp1 xco eNil=(j2 (xkk call hs u) 0 1):=(sqN 2 (by kernel_rfl) (x16a call hs u)).trans (by kernel_rfl)
theorem xxw:FL xa3 xdv:=le2 (fn:=Try.f30) (by kernel_rfl) (by kernel_rfl) (by kernel_rfl) (by kernel_rfl) (fun call hs t0 t1 m=>(congrFun (x16b call hs m.next) _).trans (by kernel_rfl)) (fun _ _ _ _ _ h=>by unfold xdv at h;split at h<;>first | exact ⟨_,_,rfl⟩ | cases h)
noncomputable abbrev xp5:Fs→O2:=x1lu Try.prog [.cell 6 x2x,.tmp 7]
noncomputable abbrev x22c:=XK call { f:=xu,u:=u,nt:=66,hs:=hs } xp5
noncomputable def x16c:=x1lv xu
theorem x16d:x22c call hs u x16c xp5 eNil=(j3 (x8s call hs u) 0 1 2):=by kernel_rfl
theorem xxx:FL xu x4s:=le3 (fn:=Try.f32) (by kernel_rfl) (by kernel_rfl) (by kernel_rfl) (by kernel_rfl) (fun call hs t0 t1 t2 m=>(congrFun (x16d call hs m.next) _).trans (by kernel_rfl)) (fun _ _ _ _ _ h=>by unfold x4s at h;split at h<;>first | exact ⟨_,_,_,rfl⟩ | cases h)
noncomputable abbrev xp6:Fs→O2:=x1lu Try.prog [.tmp 2,.tmp 3]
noncomputable abbrev x22d:=XK call { f:=x2u,u:=u,nt:=16,hs:=hs } xp6
noncomputable def x16e:=x1lv x2u
theorem x16f:x22d call hs u x16e xp6 eNil=(j1 (xaj call hs u) 0):=by kernel_rfl
theorem xxy:FL x2u x5h:=le1 (fn:=Try.f33) (by kernel_rfl) (by kernel_rfl) (by kernel_rfl) (by kernel_rfl) (fun call hs t0 m=>(congrFun (x16f call hs m.next) _).trans (by kernel_rfl)) (fun _ _ _ _ _ h=>by unfold x5h at h;split at h<;>first | exact ⟨_,rfl⟩ | cases h)
noncomputable abbrev xcp:Fs→O2:=x1lu Try.prog [.tmp 4]
noncomputable abbrev x1rk:=XK call { f:=x27,u:=u,nt:=26,hs:=hs } xcp
noncomputable def xp7:=x1lv x27
noncomputable def xhx:=nRs 2 xp7
noncomputable def xp8:=nL xhx
noncomputable def x16g:=nR xhx
noncomputable def xp9:=nR xp8
noncomputable def xpa:=nR xp9
noncomputable def x16h:=nR xpa
theorem x16i:x1rk call hs u x16g xcp eNil=(j0 (x49 call hs u)):=by kernel_rfl
theorem x16j (rec0:AV→AV→AV→Mem→Nat→O2):x1rk call hs u x16h (j3 rec0 0 1 5) (setE 0 (j0 (x49 call hs u)) eNil)=(j3 (xak call hs u rec0) 0 1 5):=by kernel_rfl
theorem x16k:x1rk call hs u xpa (j0 (x49 call hs u)) (setE 0 (j0 (x49 call hs u)) eNil)=(j3 (x2z call hs u NN) 0 1 5):=lp (Ln:=fun n=>j3 (x2z call hs u n) 0 1 5) (by kernel_rfl) rfl fun n=>(x16j call hs u (x2z call hs u n)).trans (by kernel_rfl)
theorem x16l:x1rk call hs u xp9 (j0 (x49 call hs u)) eNil=(j3 (x2z call hs u NN) 0 1 5):=bk (by kernel_rfl) (x16k call hs u)
theorem x16m:x1rk call hs u xp8 (j0 (x49 call hs u)) eNil=(j2 (xal call hs u) 0 1):=(sqN 1 (by kernel_rfl) (x16l call hs u)).trans (by kernel_rfl)
theorem x16n:x1rk call hs u xhx xcp eNil=(j2 (xal call hs u) 0 1):=sq2 (by kernel_rfl) (x16i call hs u) (x16m call hs u)
theorem x16o:x1rk call hs u xp7 xcp eNil=(j2 (xfj call hs u) 0 1):=(sqN 2 (by kernel_rfl) (x16n call hs u)).trans (by kernel_rfl)
theorem xxz:FL x27 x7j:=le2 (fn:=Try.f34) (by kernel_rfl) (by kernel_rfl) (by kernel_rfl) (by kernel_rfl) (fun call hs t0 t1 m=>(congrFun (x16o call hs m.next) _).trans (by kernel_rfl)) (fun _ _ _ _ _ h=>by unfold x7j at h;split at h<;>first | exact ⟨_,_,rfl⟩ | cases h)
noncomputable abbrev x9o:Fs→O2:=x1lu Try.prog [.tmp 2]
noncomputable abbrev x1n8:=XK call { f:=x3p,u:=u,nt:=69,hs:=hs } x9o
noncomputable def xpb:=x1lv x3p
noncomputable def xhy:=nRs 3 xpb
noncomputable def xpc:=nL xhy
noncomputable def xhz:=nR xhy
noncomputable def xpd:=nL xhz
noncomputable def x16p:=nR xhz
noncomputable def xpe:=nR xpd
noncomputable def xpf:=nR xpe
noncomputable def x16q:=nR xpf
noncomputable def xpg:=nR xpc
noncomputable def xph:=nR xpg
noncomputable def xpi:=nR xph
noncomputable def xi0:=nR xpi
noncomputable def xpj:=nL xi0
noncomputable def x16r:=nR xi0
noncomputable def xpk:=nR xpj
noncomputable def xi1:=nR xpk
noncomputable def xpl:=nL xi1
noncomputable def x16s:=nR xi1
noncomputable def xpm:=nR xpl
noncomputable def xpn:=nR xpm
noncomputable def xpo:=nR xpn
noncomputable def xi2:=nR xpo
noncomputable def x16t:=nL xi2
noncomputable def x16u:=nR xi2
theorem x16v:x1n8 call hs u x16p x9o eNil=(j1 (x30 call hs u) 4):=by kernel_rfl
theorem x16w (rec0:AV→AV→AV→Mem→Nat→O2):x1n8 call hs u x16q (j3 rec0 1 4 10) (setE 4 (j1 (x30 call hs u) 4) eNil)=(j3 (xam call hs u rec0) 1 4 10):=by kernel_rfl
theorem x16x:x1n8 call hs u xpf (j1 (x30 call hs u) 4) (setE 4 (j1 (x30 call hs u) 4) eNil)=(j3 (x31 call hs u NN) 1 4 10):=lp (Ln:=fun n=>j3 (x31 call hs u n) 1 4 10) (by kernel_rfl) rfl fun n=>(x16w call hs u (x31 call hs u n)).trans (by kernel_rfl)
theorem x16y:x1n8 call hs u xpe (j1 (x30 call hs u) 4) eNil=(j3 (x31 call hs u NN) 1 4 10):=bk (by kernel_rfl) (x16x call hs u)
theorem x16z:x1n8 call hs u xpd (j1 (x30 call hs u) 4) eNil=(j2 (x8 call hs u) 1 4):=(sqN 1 (by kernel_rfl) (x16y call hs u)).trans (by kernel_rfl)
theorem x170:x1n8 call hs u xhz x9o eNil=(j2 (x8 call hs u) 1 4):=sq2 (by kernel_rfl) (x16v call hs u) (x16z call hs u)
theorem x171 (rec1:AV→AV→AV→AV→Mem→Nat→O2):x1n8 call hs u x16r (j4 rec1 1 3 4 5) (setE 0 (j2 (x8 call hs u) 1 4) eNil)=(j4 (xm call hs u rec1) 1 3 4 5):=by kernel_rfl
theorem x172 (rec1:AV→AV→AV→AV→Mem→Nat→O2):x1n8 call hs u x16s (j4 (xm call hs u rec1) 1 3 4 5) (setE 1 (j4 (xm call hs u rec1) 1 3 4 5) (setE 0 (j2 (x8 call hs u) 1 4) eNil))=(j5 (x1f call hs u rec1) 1 3 4 5 6):=by kernel_rfl
theorem x173 (rec1:AV→AV→AV→AV→Mem→Nat→O2) (rec2:AV→AV→AV→AV→AV→AV→Mem→Nat→O2):x1n8 call hs u x16u (j6 rec2 1 3 4 5 6 7) (setE 2 (j5 (x1f call hs u rec1) 1 3 4 5 6) (setE 1 (j4 (xm call hs u rec1) 1 3 4 5) (setE 0 (j2 (x8 call hs u) 1 4) eNil)))=(j6 (x53 call hs u rec1 rec2) 1 3 4 5 6 7):=by kernel_rfl
theorem x174 (rec1:AV→AV→AV→AV→Mem→Nat→O2) (rec2:AV→AV→AV→AV→AV→AV→Mem→Nat→O2):x1n8 call hs u x16t (j6 (x53 call hs u rec1 rec2) 1 3 4 5 6 7) (setE 2 (j5 (x1f call hs u rec1) 1 3 4 5 6) (setE 1 (j4 (xm call hs u rec1) 1 3 4 5) (setE 0 (j2 (x8 call hs u) 1 4) eNil)))=(j6 (x67 call hs u rec1 rec2) 1 3 4 5 6 7):=by kernel_rfl
theorem x175 (rec1:AV→AV→AV→AV→Mem→Nat→O2) (rec2:AV→AV→AV→AV→AV→AV→Mem→Nat→O2):x1n8 call hs u xi2 (j6 rec2 1 3 4 5 6 7) (setE 2 (j5 (x1f call hs u rec1) 1 3 4 5 6) (setE 1 (j4 (xm call hs u rec1) 1 3 4 5) (setE 0 (j2 (x8 call hs u) 1 4) eNil)))=(j6 (x67 call hs u rec1 rec2) 1 3 4 5 6 7):=sq2 (by kernel_rfl) (x173 call hs u rec1 rec2) (x174 call hs u rec1 rec2)
theorem x176 (rec1:AV→AV→AV→AV→Mem→Nat→O2) (rec2:AV→AV→AV→AV→AV→AV→Mem→Nat→O2):x1n8 call hs u xpo (j6 rec2 1 3 4 5 6 7) (setE 2 (j5 (x1f call hs u rec1) 1 3 4 5 6) (setE 1 (j4 (xm call hs u rec1) 1 3 4 5) (setE 0 (j2 (x8 call hs u) 1 4) eNil)))=(j6 (x4a call hs u rec1 rec2) 1 3 4 5 6 7):=(sqN 1 (by kernel_rfl) (x175 call hs u rec1 rec2)).trans (by kernel_rfl)
theorem x177 (rec1:AV→AV→AV→AV→Mem→Nat→O2):x1n8 call hs u xpn (j5 (x1f call hs u rec1) 1 3 4 5 6) (setE 2 (j5 (x1f call hs u rec1) 1 3 4 5 6) (setE 1 (j4 (xm call hs u rec1) 1 3 4 5) (setE 0 (j2 (x8 call hs u) 1 4) eNil)))=(j6 (x2c call hs u rec1 NN) 1 3 4 5 6 7):=lp (Ln:=fun n=>j6 (x2c call hs u rec1 n) 1 3 4 5 6 7) (by kernel_rfl) rfl fun n=>(x176 call hs u rec1 (x2c call hs u rec1 n)).trans (by kernel_rfl)
theorem x178 (rec1:AV→AV→AV→AV→Mem→Nat→O2):x1n8 call hs u xpm (j5 (x1f call hs u rec1) 1 3 4 5 6) (setE 1 (j4 (xm call hs u rec1) 1 3 4 5) (setE 0 (j2 (x8 call hs u) 1 4) eNil))=(j6 (x2c call hs u rec1 NN) 1 3 4 5 6 7):=bk (by kernel_rfl) (x177 call hs u rec1)
theorem x179 (rec1:AV→AV→AV→AV→Mem→Nat→O2):x1n8 call hs u xpl (j5 (x1f call hs u rec1) 1 3 4 5 6) (setE 1 (j4 (xm call hs u rec1) 1 3 4 5) (setE 0 (j2 (x8 call hs u) 1 4) eNil))=(j5 (xan call hs u rec1) 1 3 4 5 6):=(sqN 1 (by kernel_rfl) (x178 call hs u rec1)).trans (by kernel_rfl)
theorem x17a (rec1:AV→AV→AV→AV→Mem→Nat→O2):x1n8 call hs u xi1 (j4 (xm call hs u rec1) 1 3 4 5) (setE 1 (j4 (xm call hs u rec1) 1 3 4 5) (setE 0 (j2 (x8 call hs u) 1 4) eNil))=(j5 (xan call hs u rec1) 1 3 4 5 6):=sq2 (by kernel_rfl) (x172 call hs u rec1) (x179 call hs u rec1)
theorem x17b (rec1:AV→AV→AV→AV→Mem→Nat→O2):x1n8 call hs u xpk (j4 (xm call hs u rec1) 1 3 4 5) (setE 1 (j4 (xm call hs u rec1) 1 3 4 5) (setE 0 (j2 (x8 call hs u) 1 4) eNil))=(j4 (x8t call hs u rec1) 1 3 4 5):=(sqN 1 (by kernel_rfl) (x17a call hs u rec1)).trans (by kernel_rfl)
theorem x17c (rec1:AV→AV→AV→AV→Mem→Nat→O2):x1n8 call hs u xpj (j4 (xm call hs u rec1) 1 3 4 5) (setE 0 (j2 (x8 call hs u) 1 4) eNil)=(j4 (x8t call hs u rec1) 1 3 4 5):=bk (by kernel_rfl) (x17b call hs u rec1)
theorem x17d (rec1:AV→AV→AV→AV→Mem→Nat→O2):x1n8 call hs u xi0 (j4 rec1 1 3 4 5) (setE 0 (j2 (x8 call hs u) 1 4) eNil)=(j4 (x8t call hs u rec1) 1 3 4 5):=sq2 (by kernel_rfl) (x171 call hs u rec1) (x17c call hs u rec1)
theorem x17e (rec1:AV→AV→AV→AV→Mem→Nat→O2):x1n8 call hs u xpi (j4 rec1 1 3 4 5) (setE 0 (j2 (x8 call hs u) 1 4) eNil)=(j4 (x8u call hs u rec1) 1 3 4 5):=(sqN 1 (by kernel_rfl) (x17d call hs u rec1)).trans (by kernel_rfl)
theorem x17f:x1n8 call hs u xph (j2 (x8 call hs u) 1 4) (setE 0 (j2 (x8 call hs u) 1 4) eNil)=(j4 (x1q call hs u NN) 1 3 4 5):=lp (Ln:=fun n=>j4 (x1q call hs u n) 1 3 4 5) (by kernel_rfl) rfl fun n=>(x17e call hs u (x1q call hs u n)).trans (by kernel_rfl)
theorem x17g:x1n8 call hs u xpg (j2 (x8 call hs u) 1 4) eNil=(j4 (x1q call hs u NN) 1 3 4 5):=bk (by kernel_rfl) (x17f call hs u)
theorem x17h:x1n8 call hs u xpc (j2 (x8 call hs u) 1 4) eNil=(j3 (xao call hs u) 1 3 4):=(sqN 1 (by kernel_rfl) (x17g call hs u)).trans (by kernel_rfl)
theorem x17i:x1n8 call hs u xhy x9o eNil=(j3 (xao call hs u) 1 3 4):=sq2 (by kernel_rfl) (x170 call hs u) (x17h call hs u)
theorem x17j:x1n8 call hs u xpb x9o eNil=(j1 (xfk call hs u) 0):=(sqN 3 (by kernel_rfl) (x17i call hs u)).trans (by kernel_rfl)
theorem xy0:FL x3p x7k:=le1 (fn:=Try.f35) (by kernel_rfl) (by kernel_rfl) (by kernel_rfl) (by kernel_rfl) (fun call hs t0 m=>(congrFun (x17j call hs m.next) _).trans (by kernel_rfl)) (fun _ _ _ _ _ h=>by unfold x7k at h;split at h<;>first | exact ⟨_,rfl⟩ | cases h)
noncomputable abbrev xpp:Fs→O2:=x1lu Try.prog [.tmp 6]
noncomputable abbrev x22e:=XK call { f:=x5,u:=u,nt:=15,hs:=hs } xpp
noncomputable def x17k:=x1lv x5
theorem x17l:x22e call hs u x17k xpp eNil=(j3 (xfl call hs u) 0 1 2):=by kernel_rfl
theorem xy1:FL x5 x7l:=le3 (fn:=Try.f36) (by kernel_rfl) (by kernel_rfl) (by kernel_rfl) (by kernel_rfl) (fun call hs t0 t1 t2 m=>(congrFun (x17l call hs m.next) _).trans (by kernel_rfl)) (fun _ _ _ _ _ h=>by unfold x7l at h;split at h<;>first | exact ⟨_,_,_,rfl⟩ | cases h)
noncomputable abbrev xpq:Fs→O2:=x1lu Try.prog [.cell 8 x2x,.tmp 9]
noncomputable abbrev x22f:=XK call { f:=x3q,u:=u,nt:=37,hs:=hs } xpq
noncomputable def x17m:=x1lv x3q
theorem x17n:x22f call hs u x17m xpq eNil=(j4 (xfm call hs u) 0 1 2 3):=by kernel_rfl
theorem xy2:FL x3q x7m:=le4 (fn:=Try.f37) (by kernel_rfl) (by kernel_rfl) (by kernel_rfl) (by kernel_rfl) (fun call hs t0 t1 t2 t3 m=>(congrFun (x17n call hs m.next) _).trans (by kernel_rfl)) (fun _ _ _ _ _ h=>by unfold x7m at h;split at h<;>first | exact ⟨_,_,_,_,rfl⟩ | cases h)
noncomputable abbrev x6z:Fs→O2:=x1lu Try.prog [.tmp 2]
noncomputable abbrev x1um:=XK call { f:=x28,u:=u,nt:=20,hs:=hs } x6z
noncomputable def xpr:=x1lv x28
noncomputable def xps:=nRs 2 xpr
noncomputable def xpt:=nR xps
noncomputable def x17o:=nR xpt
theorem x17p (rec0:AV→AV→Mem→Nat→O2):x1um call hs u x17o (j2 rec0 1 3) (setE 0 x6z eNil)=(j2 (x4b call hs u rec0) 1 3):=by kernel_rfl
theorem x17q:x1um call hs u xpt x6z (setE 0 x6z eNil)=(j2 (x13 call hs u NN) 1 3):=lp (Ln:=fun n=>j2 (x13 call hs u n) 1 3) (by kernel_rfl) rfl fun n=>(x17p call hs u (x13 call hs u n)).trans (by kernel_rfl)
theorem x17r:x1um call hs u xps x6z eNil=(j2 (x13 call hs u NN) 1 3):=bk (by kernel_rfl) (x17q call hs u)
theorem x17s:x1um call hs u xpr x6z eNil=(j1 (xfn call hs u) 0):=(sqN 2 (by kernel_rfl) (x17r call hs u)).trans (by kernel_rfl)
theorem xy3:FL x28 x7n:=le1 (fn:=Try.f38) (by kernel_rfl) (by kernel_rfl) (by kernel_rfl) (by kernel_rfl) (fun call hs t0 m=>(congrFun (x17s call hs m.next) _).trans (by kernel_rfl)) (fun _ _ _ _ _ h=>by unfold x7n at h;split at h<;>first | exact ⟨_,rfl⟩ | cases h)
noncomputable abbrev xpu:Fs→O2:=x1lu Try.prog [.tmp 4,.tmp 5]
noncomputable abbrev x22g:=XK call { f:=x3r,u:=u,nt:=29,hs:=hs } xpu
noncomputable def x17t:=x1lv x3r
theorem x17u:x22g call hs u x17t xpu eNil=(j2 (xkl call hs u) 0 1):=by kernel_rfl
theorem xy4:FL x3r xdw:=le2 (fn:=Try.f39) (by kernel_rfl) (by kernel_rfl) (by kernel_rfl) (by kernel_rfl) (fun call hs t0 t1 m=>(congrFun (x17u call hs m.next) _).trans (by kernel_rfl)) (fun _ _ _ _ _ h=>by unfold xdw at h;split at h<;>first | exact ⟨_,_,rfl⟩ | cases h)
noncomputable abbrev xpv:Fs→O2:=x1lu Try.prog [.tmp 2]
noncomputable abbrev x22h:=XK call { f:=xh,u:=u,nt:=6,hs:=hs } xpv
noncomputable def x17v:=x1lv xh
theorem x17w:x22h call hs u x17v xpv eNil=(j1 (xfo call hs u) 0):=by kernel_rfl
theorem xy5:FL xh x7o:=le1 (fn:=Try.f40) (by kernel_rfl) (by kernel_rfl) (by kernel_rfl) (by kernel_rfl) (fun call hs t0 m=>(congrFun (x17w call hs m.next) _).trans (by kernel_rfl)) (fun _ _ _ _ _ h=>by unfold x7o at h;split at h<;>first | exact ⟨_,rfl⟩ | cases h)
noncomputable abbrev xpw:Fs→O2:=x1lu Try.prog [.tmp 2]
noncomputable abbrev x22i:=XK call { f:=x5i,u:=u,nt:=10,hs:=hs } xpw
noncomputable def x17x:=x1lv x5i
theorem x17y:x22i call hs u x17x xpw eNil=(j1 (xkm call hs u) 0):=by kernel_rfl
theorem xy6:FL x5i xdx:=le1 (fn:=Try.f41) (by kernel_rfl) (by kernel_rfl) (by kernel_rfl) (by kernel_rfl) (fun call hs t0 m=>(congrFun (x17y call hs m.next) _).trans (by kernel_rfl)) (fun _ _ _ _ _ h=>by unfold xdx at h;split at h<;>first | exact ⟨_,rfl⟩ | cases h)
noncomputable abbrev xcq:Fs→O2:=x1lu Try.prog [.cell 2 xh2,.tmp 3,.tmp 4,.tmp 5]
noncomputable abbrev x1pq:=XK call { f:=x7p,u:=u,nt:=72,hs:=hs } xcq
noncomputable def xpx:=x1lv x7p
noncomputable def xi3:=nRs 5 xpx
noncomputable def xpy:=nL xi3
noncomputable def x17z:=nR xi3
noncomputable def xpz:=nR xpy
noncomputable def xq0:=nR xpz
noncomputable def xq1:=nR xq0
noncomputable def xi4:=nRs 2 xq1
noncomputable def x180:=nL xi4
noncomputable def x181:=nR xi4
theorem x182:x1pq call hs u x17z xcq eNil=(j4 (x2d call hs u) 2 7 8 9):=by kernel_rfl
theorem x183 (rec0:AV→AV→AV→AV→AV→AV→AV→Mem→Nat→O2):x1pq call hs u x181 (j7 rec0 2 7 8 9 37 38 39) (setE 0 (j4 (x2d call hs u) 2 7 8 9) eNil)=(j7 (xap call hs u rec0) 2 7 8 9 37 38 39):=by kernel_rfl
theorem x184 (rec0:AV→AV→AV→AV→AV→AV→AV→Mem→Nat→O2):x1pq call hs u x180 (j7 (xap call hs u rec0) 2 7 8 9 37 38 39) (setE 0 (j4 (x2d call hs u) 2 7 8 9) eNil)=(j7 (xfp call hs u rec0) 2 7 8 9 37 38 39):=by kernel_rfl
theorem x185 (rec0:AV→AV→AV→AV→AV→AV→AV→Mem→Nat→O2):x1pq call hs u xi4 (j7 rec0 2 7 8 9 37 38 39) (setE 0 (j4 (x2d call hs u) 2 7 8 9) eNil)=(j7 (xfp call hs u rec0) 2 7 8 9 37 38 39):=sq2 (by kernel_rfl) (x183 call hs u rec0) (x184 call hs u rec0)
theorem x186 (rec0:AV→AV→AV→AV→AV→AV→AV→Mem→Nat→O2):x1pq call hs u xq1 (j7 rec0 2 7 8 9 37 38 39) (setE 0 (j4 (x2d call hs u) 2 7 8 9) eNil)=(j7 (xkn call hs u rec0) 2 7 8 9 37 38 39):=(sqN 2 (by kernel_rfl) (x185 call hs u rec0)).trans (by kernel_rfl)
theorem x187:x1pq call hs u xq0 (j4 (x2d call hs u) 2 7 8 9) (setE 0 (j4 (x2d call hs u) 2 7 8 9) eNil)=(j7 (x68 call hs u NN) 2 7 8 9 37 38 39):=lp (Ln:=fun n=>j7 (x68 call hs u n) 2 7 8 9 37 38 39) (by kernel_rfl) rfl fun n=>(x186 call hs u (x68 call hs u n)).trans (by kernel_rfl)
theorem x188:x1pq call hs u xpz (j4 (x2d call hs u) 2 7 8 9) eNil=(j7 (x68 call hs u NN) 2 7 8 9 37 38 39):=bk (by kernel_rfl) (x187 call hs u)
theorem x189:x1pq call hs u xpy (j4 (x2d call hs u) 2 7 8 9) eNil=(j4 (xfq call hs u) 2 7 8 9):=(sqN 1 (by kernel_rfl) (x188 call hs u)).trans (by kernel_rfl)
theorem x18a:x1pq call hs u xi3 xcq eNil=(j4 (xfq call hs u) 2 7 8 9):=sq2 (by kernel_rfl) (x182 call hs u) (x189 call hs u)
theorem x18b:x1pq call hs u xpx xcq eNil=(j1 (xko call hs u) 0):=(sqN 5 (by kernel_rfl) (x18a call hs u)).trans (by kernel_rfl)
theorem xy7:FL x7p xdy:=le1 (fn:=Try.f42) (by kernel_rfl) (by kernel_rfl) (by kernel_rfl) (by kernel_rfl) (fun call hs t0 m=>(congrFun (x18b call hs m.next) _).trans (by kernel_rfl)) (fun _ _ _ _ _ h=>by unfold xdy at h;split at h<;>first | exact ⟨_,rfl⟩ | cases h)
noncomputable abbrev xq2:Fs→O2:=x1lu Try.prog [.tmp 4,.tmp 5]
noncomputable abbrev x22j:=XK call { f:=x4t,u:=u,nt:=21,hs:=hs } xq2
noncomputable def x18c:=x1lv x4t
theorem x18d:x22j call hs u x18c xq2 eNil=(j2 (xkp call hs u) 0 1):=by kernel_rfl
theorem xy8:FL x4t xdz:=le2 (fn:=Try.f46) (by kernel_rfl) (by kernel_rfl) (by kernel_rfl) (by kernel_rfl) (fun call hs t0 t1 m=>(congrFun (x18d call hs m.next) _).trans (by kernel_rfl)) (fun _ _ _ _ _ h=>by unfold xdz at h;split at h<;>first | exact ⟨_,_,rfl⟩ | cases h)
noncomputable abbrev xcr:Fs→O2:=x1lu Try.prog [.tmp 4,.tmp 5]
noncomputable abbrev x1oh:=XK call { f:=x7q,u:=u,nt:=101,hs:=hs } xcr
noncomputable def xq3:=x1lv x7q
noncomputable def xi5:=nRs 4 xq3
noncomputable def xq4:=nL xi5
noncomputable def x18e:=nR xi5
noncomputable def xq5:=nR xq4
noncomputable def xq6:=nR xq5
noncomputable def xq7:=nR xq6
noncomputable def xi6:=nRs 2 xq7
noncomputable def xq8:=nL xi6
noncomputable def x18f:=nR xi6
noncomputable def xq9:=nR xq8
noncomputable def xi7:=nRs 3 xq9
noncomputable def x18g:=nL xi7
noncomputable def x18h:=nR xi7
theorem x18i:x1oh call hs u x18e xcr eNil=(j1 (x14 call hs u) 7):=by kernel_rfl
theorem x18j (rec0:AV→AV→AV→AV→AV→AV→Mem→Nat→O2):x1oh call hs u x18f (j6 rec0 1 2 7 21 22 23) (setE 0 (j1 (x14 call hs u) 7) eNil)=(j6 (x1r call hs u rec0) 1 2 7 21 22 23):=by kernel_rfl
theorem x18k (rec0:AV→AV→AV→AV→AV→AV→Mem→Nat→O2):x1oh call hs u x18h (j6 (x1r call hs u rec0) 1 2 7 21 22 23) (setE 1 (j6 (x1r call hs u rec0) 1 2 7 21 22 23) (setE 0 (j1 (x14 call hs u) 7) eNil))=(j10 (xaq call hs u rec0) 1 2 7 8 10 11 12 21 22 23):=by kernel_rfl
theorem x18l (rec0:AV→AV→AV→AV→AV→AV→Mem→Nat→O2):x1oh call hs u x18g (j10 (xaq call hs u rec0) 1 2 7 8 10 11 12 21 22 23) (setE 1 (j6 (x1r call hs u rec0) 1 2 7 21 22 23) (setE 0 (j1 (x14 call hs u) 7) eNil))=(j10 (xfr call hs u rec0) 1 2 7 8 10 11 12 21 22 23):=by kernel_rfl
theorem x18m (rec0:AV→AV→AV→AV→AV→AV→Mem→Nat→O2):x1oh call hs u xi7 (j6 (x1r call hs u rec0) 1 2 7 21 22 23) (setE 1 (j6 (x1r call hs u rec0) 1 2 7 21 22 23) (setE 0 (j1 (x14 call hs u) 7) eNil))=(j10 (xfr call hs u rec0) 1 2 7 8 10 11 12 21 22 23):=sq2 (by kernel_rfl) (x18k call hs u rec0) (x18l call hs u rec0)
theorem x18n (rec0:AV→AV→AV→AV→AV→AV→Mem→Nat→O2):x1oh call hs u xq9 (j6 (x1r call hs u rec0) 1 2 7 21 22 23) (setE 1 (j6 (x1r call hs u rec0) 1 2 7 21 22 23) (setE 0 (j1 (x14 call hs u) 7) eNil))=(j6 (xar call hs u rec0) 1 2 7 21 22 23):=(sqN 3 (by kernel_rfl) (x18m call hs u rec0)).trans (by kernel_rfl)
theorem x18o (rec0:AV→AV→AV→AV→AV→AV→Mem→Nat→O2):x1oh call hs u xq8 (j6 (x1r call hs u rec0) 1 2 7 21 22 23) (setE 0 (j1 (x14 call hs u) 7) eNil)=(j6 (xar call hs u rec0) 1 2 7 21 22 23):=bk (by kernel_rfl) (x18n call hs u rec0)
theorem x18p (rec0:AV→AV→AV→AV→AV→AV→Mem→Nat→O2):x1oh call hs u xi6 (j6 rec0 1 2 7 21 22 23) (setE 0 (j1 (x14 call hs u) 7) eNil)=(j6 (xar call hs u rec0) 1 2 7 21 22 23):=sq2 (by kernel_rfl) (x18j call hs u rec0) (x18o call hs u rec0)
theorem x18q (rec0:AV→AV→AV→AV→AV→AV→Mem→Nat→O2):x1oh call hs u xq7 (j6 rec0 1 2 7 21 22 23) (setE 0 (j1 (x14 call hs u) 7) eNil)=(j6 (xkq call hs u rec0) 1 2 7 21 22 23):=(sqN 2 (by kernel_rfl) (x18p call hs u rec0)).trans (by kernel_rfl)
theorem x18r:x1oh call hs u xq6 (j1 (x14 call hs u) 7) (setE 0 (j1 (x14 call hs u) 7) eNil)=(j6 (x69 call hs u NN) 1 2 7 21 22 23):=lp (Ln:=fun n=>j6 (x69 call hs u n) 1 2 7 21 22 23) (by kernel_rfl) rfl fun n=>(x18q call hs u (x69 call hs u n)).trans (by kernel_rfl)
theorem x18s:x1oh call hs u xq5 (j1 (x14 call hs u) 7) eNil=(j6 (x69 call hs u NN) 1 2 7 21 22 23):=bk (by kernel_rfl) (x18r call hs u)
theorem x18t:x1oh call hs u xq4 (j1 (x14 call hs u) 7) eNil=(j3 (xfs call hs u) 1 2 7):=(sqN 1 (by kernel_rfl) (x18s call hs u)).trans (by kernel_rfl)
theorem x18u:x1oh call hs u xi5 xcr eNil=(j3 (xfs call hs u) 1 2 7):=sq2 (by kernel_rfl) (x18i call hs u) (x18t call hs u)
theorem x18v:x1oh call hs u xq3 xcr eNil=(j2 (xkr call hs u) 0 1):=(sqN 4 (by kernel_rfl) (x18u call hs u)).trans (by kernel_rfl)
theorem xy9:FL x7q xe0:=le2 (fn:=Try.f47) (by kernel_rfl) (by kernel_rfl) (by kernel_rfl) (by kernel_rfl) (fun call hs t0 t1 m=>(congrFun (x18v call hs m.next) _).trans (by kernel_rfl)) (fun _ _ _ _ _ h=>by unfold xe0 at h;split at h<;>first | exact ⟨_,_,rfl⟩ | cases h)
noncomputable abbrev xqa:Fs→O2:=x1lu Try.prog [.cell 2 xh2]
noncomputable abbrev x22k:=XK call { f:=x5j,u:=u,nt:=11,hs:=hs } xqa
noncomputable def x18w:=x1lv x5j
theorem x18x:x22k call hs u x18w xqa eNil=(j1 (xks call hs u) 0):=by kernel_rfl
theorem xya:FL x5j xe1:=le1 (fn:=Try.f48) (by kernel_rfl) (by kernel_rfl) (by kernel_rfl) (by kernel_rfl) (fun call hs t0 m=>(congrFun (x18x call hs m.next) _).trans (by kernel_rfl)) (fun _ _ _ _ _ h=>by unfold xe1 at h;split at h<;>first | exact ⟨_,rfl⟩ | cases h)
noncomputable abbrev xqb:Fs→O2:=x1lu Try.prog [.tmp 2]
noncomputable abbrev x22l:=XK call { f:=x7r,u:=u,nt:=18,hs:=hs } xqb
noncomputable def x18y:=x1lv x7r
theorem x18z:x22l call hs u x18y xqb eNil=(j1 (xkt call hs u) 0):=by kernel_rfl
theorem xyb:FL x7r xe2:=le1 (fn:=Try.f49) (by kernel_rfl) (by kernel_rfl) (by kernel_rfl) (by kernel_rfl) (fun call hs t0 m=>(congrFun (x18z call hs m.next) _).trans (by kernel_rfl)) (fun _ _ _ _ _ h=>by unfold xe2 at h;split at h<;>first | exact ⟨_,rfl⟩ | cases h)
noncomputable abbrev xcs:Fs→O2:=x1lu Try.prog [.tmp 4,.tmp 5]
noncomputable abbrev x1pr:=XK call { f:=x7s,u:=u,nt:=77,hs:=hs } xcs
noncomputable def xqc:=x1lv x7s
noncomputable def xi8:=nRs 3 xqc
noncomputable def xqd:=nL xi8
noncomputable def x190:=nR xi8
noncomputable def xqe:=nR xqd
noncomputable def xqf:=nR xqe
noncomputable def xqg:=nR xqf
noncomputable def xi9:=nR xqg
noncomputable def x191:=nL xi9
noncomputable def x192:=nR xi9
theorem x193:x1pr call hs u x190 xcs eNil=(j1 (x2e call hs u) 6):=by kernel_rfl
theorem x194 (rec0:AV→AV→AV→AV→Mem→Nat→O2):x1pr call hs u x192 (j4 rec0 1 2 6 7) (setE 0 (j1 (x2e call hs u) 6) eNil)=(j4 (xas call hs u rec0) 1 2 6 7):=by kernel_rfl
theorem x195 (rec0:AV→AV→AV→AV→Mem→Nat→O2):x1pr call hs u x191 (j4 (xas call hs u rec0) 1 2 6 7) (setE 0 (j1 (x2e call hs u) 6) eNil)=(j4 (xft call hs u rec0) 1 2 6 7):=by kernel_rfl
theorem x196 (rec0:AV→AV→AV→AV→Mem→Nat→O2):x1pr call hs u xi9 (j4 rec0 1 2 6 7) (setE 0 (j1 (x2e call hs u) 6) eNil)=(j4 (xft call hs u rec0) 1 2 6 7):=sq2 (by kernel_rfl) (x194 call hs u rec0) (x195 call hs u rec0)
theorem x197 (rec0:AV→AV→AV→AV→Mem→Nat→O2):x1pr call hs u xqg (j4 rec0 1 2 6 7) (setE 0 (j1 (x2e call hs u) 6) eNil)=(j4 (xku call hs u rec0) 1 2 6 7):=(sqN 1 (by kernel_rfl) (x196 call hs u rec0)).trans (by kernel_rfl)
theorem x198:x1pr call hs u xqf (j1 (x2e call hs u) 6) (setE 0 (j1 (x2e call hs u) 6) eNil)=(j4 (x6a call hs u NN) 1 2 6 7):=lp (Ln:=fun n=>j4 (x6a call hs u n) 1 2 6 7) (by kernel_rfl) rfl fun n=>(x197 call hs u (x6a call hs u n)).trans (by kernel_rfl)
theorem x199:x1pr call hs u xqe (j1 (x2e call hs u) 6) eNil=(j4 (x6a call hs u NN) 1 2 6 7):=bk (by kernel_rfl) (x198 call hs u)
theorem x19a:x1pr call hs u xqd (j1 (x2e call hs u) 6) eNil=(j3 (xfu call hs u) 1 2 6):=(sqN 1 (by kernel_rfl) (x199 call hs u)).trans (by kernel_rfl)
theorem x19b:x1pr call hs u xi8 xcs eNil=(j3 (xfu call hs u) 1 2 6):=sq2 (by kernel_rfl) (x193 call hs u) (x19a call hs u)
theorem x19c:x1pr call hs u xqc xcs eNil=(j2 (xkv call hs u) 0 1):=(sqN 3 (by kernel_rfl) (x19b call hs u)).trans (by kernel_rfl)
theorem xyc:FL x7s xe3:=le2 (fn:=Try.f50) (by kernel_rfl) (by kernel_rfl) (by kernel_rfl) (by kernel_rfl) (fun call hs t0 t1 m=>(congrFun (x19c call hs m.next) _).trans (by kernel_rfl)) (fun _ _ _ _ _ h=>by unfold xe3 at h;split at h<;>first | exact ⟨_,_,rfl⟩ | cases h)
noncomputable abbrev xct:Fs→O2:=x1lu Try.prog [.tmp 4]
noncomputable abbrev x1rl:=XK call { f:=x7t,u:=u,nt:=32,hs:=hs } xct
noncomputable def xqh:=x1lv x7t
noncomputable def xia:=nRs 2 xqh
noncomputable def xqi:=nL xia
noncomputable def x19d:=nR xia
noncomputable def xqj:=nR xqi
noncomputable def xqk:=nR xqj
noncomputable def x19e:=nR xqk
theorem x19f:x1rl call hs u x19d xct eNil=(j1 (x54 call hs u) 5):=by kernel_rfl
theorem x19g (rec0:AV→AV→AV→AV→Mem→Nat→O2):x1rl call hs u x19e (j4 rec0 1 2 5 6) (setE 0 (j1 (x54 call hs u) 5) eNil)=(j4 (xkw call hs u rec0) 1 2 5 6):=by kernel_rfl
theorem x19h:x1rl call hs u xqk (j1 (x54 call hs u) 5) (setE 0 (j1 (x54 call hs u) 5) eNil)=(j4 (x6b call hs u NN) 1 2 5 6):=lp (Ln:=fun n=>j4 (x6b call hs u n) 1 2 5 6) (by kernel_rfl) rfl fun n=>(x19g call hs u (x6b call hs u n)).trans (by kernel_rfl)
theorem x19i:x1rl call hs u xqj (j1 (x54 call hs u) 5) eNil=(j4 (x6b call hs u NN) 1 2 5 6):=bk (by kernel_rfl) (x19h call hs u)
theorem x19j:x1rl call hs u xqi (j1 (x54 call hs u) 5) eNil=(j3 (xfv call hs u) 1 2 5):=(sqN 1 (by kernel_rfl) (x19i call hs u)).trans (by kernel_rfl)
theorem x19k:x1rl call hs u xia xct eNil=(j3 (xfv call hs u) 1 2 5):=sq2 (by kernel_rfl) (x19f call hs u) (x19j call hs u)
theorem x19l:x1rl call hs u xqh xct eNil=(j2 (xkx call hs u) 0 1):=(sqN 2 (by kernel_rfl) (x19k call hs u)).trans (by kernel_rfl)
theorem xyd:FL x7t xe4:=le2 (fn:=Try.f55) (by kernel_rfl) (by kernel_rfl) (by kernel_rfl) (by kernel_rfl) (fun call hs t0 t1 m=>(congrFun (x19l call hs m.next) _).trans (by kernel_rfl)) (fun _ _ _ _ _ h=>by unfold xe4 at h;split at h<;>first | exact ⟨_,_,rfl⟩ | cases h)
noncomputable abbrev xql:Fs→O2:=x1lu Try.prog [.tmp 2,.tmp 3]
noncomputable abbrev x22m:=XK call { f:=x7u,u:=u,nt:=20,hs:=hs } xql
noncomputable def x19m:=x1lv x7u
theorem x19n:x22m call hs u x19m xql eNil=(j1 (xky call hs u) 0):=by kernel_rfl
theorem xye:FL x7u xe5:=le1 (fn:=Try.f58) (by kernel_rfl) (by kernel_rfl) (by kernel_rfl) (by kernel_rfl) (fun call hs t0 m=>(congrFun (x19n call hs m.next) _).trans (by kernel_rfl)) (fun _ _ _ _ _ h=>by unfold xe5 at h;split at h<;>first | exact ⟨_,rfl⟩ | cases h)
noncomputable abbrev xqm:Fs→O2:=x1lu Try.prog [.cell 2 xch]
noncomputable abbrev x22n:=XK call { f:=x5k,u:=u,nt:=9,hs:=hs } xqm
noncomputable def x19o:=x1lv x5k
theorem x19p:x22n call hs u x19o xqm eNil=(j1 (xkz call hs u) 0):=by kernel_rfl
theorem xyf:FL x5k xe6:=le1 (fn:=Try.f60) (by kernel_rfl) (by kernel_rfl) (by kernel_rfl) (by kernel_rfl) (fun call hs t0 m=>(congrFun (x19p call hs m.next) _).trans (by kernel_rfl)) (fun _ _ _ _ _ h=>by unfold xe6 at h;split at h<;>first | exact ⟨_,rfl⟩ | cases h)
noncomputable abbrev xcu:Fs→O2:=x1lu Try.prog [.cell 2 xh3]
noncomputable abbrev x1un:=XK call { f:=x5l,u:=u,nt:=20,hs:=hs } xcu
noncomputable def xqn:=x1lv x5l
noncomputable def xib:=nRs 2 xqn
noncomputable def x19q:=nL xib
noncomputable def x19r:=nR xib
theorem x19s:x1un call hs u x19r xcu eNil=(j2 (xat call hs u) 2 3):=by kernel_rfl
theorem x19t:x1un call hs u x19q (j2 (xat call hs u) 2 3) eNil=(j3 (xfw call hs u) 0 2 3):=by kernel_rfl
theorem x19u:x1un call hs u xib xcu eNil=(j3 (xfw call hs u) 0 2 3):=sq2 (by kernel_rfl) (x19s call hs u) (x19t call hs u)
theorem x19v:x1un call hs u xqn xcu eNil=(j1 (xl0 call hs u) 0):=(sqN 2 (by kernel_rfl) (x19u call hs u)).trans (by kernel_rfl)
theorem xyg:FL x5l xe7:=le1 (fn:=Try.f61) (by kernel_rfl) (by kernel_rfl) (by kernel_rfl) (by kernel_rfl) (fun call hs t0 m=>(congrFun (x19v call hs m.next) _).trans (by kernel_rfl)) (fun _ _ _ _ _ h=>by unfold xe7 at h;split at h<;>first | exact ⟨_,rfl⟩ | cases h)
noncomputable abbrev xqo:Fs→O2:=x1lu Try.prog [.tmp 2]
noncomputable abbrev x22o:=XK call { f:=x29,u:=u,nt:=7,hs:=hs } xqo
noncomputable def x19w:=x1lv x29
theorem x19x:x22o call hs u x19w xqo eNil=(j1 (xfx call hs u) 0):=by kernel_rfl
theorem xyh:FL x29 x7v:=le1 (fn:=Try.f62) (by kernel_rfl) (by kernel_rfl) (by kernel_rfl) (by kernel_rfl) (fun call hs t0 m=>(congrFun (x19x call hs m.next) _).trans (by kernel_rfl)) (fun _ _ _ _ _ h=>by unfold x7v at h;split at h<;>first | exact ⟨_,rfl⟩ | cases h)
noncomputable abbrev xqp:Fs→O2:=x1lu Try.prog [.cell 2 xma,.tmp 3]
noncomputable abbrev x22p:=XK call { f:=x1n,u:=u,nt:=14,hs:=hs } xqp
noncomputable def x19y:=x1lv x1n
theorem x19z:x22p call hs u x19y xqp eNil=(j1 (xfy call hs u) 0):=by kernel_rfl
theorem xyi:FL x1n x7w:=le1 (fn:=Try.f63) (by kernel_rfl) (by kernel_rfl) (by kernel_rfl) (by kernel_rfl) (fun call hs t0 m=>(congrFun (x19z call hs m.next) _).trans (by kernel_rfl)) (fun _ _ _ _ _ h=>by unfold x7w at h;split at h<;>first | exact ⟨_,rfl⟩ | cases h)
noncomputable abbrev x70:Fs→O2:=x1lu Try.prog [.tmp 2]
noncomputable abbrev x1nm:=XK call { f:=x11,u:=u,nt:=64,hs:=hs } x70
noncomputable def xqq:=x1lv x11
noncomputable def xic:=nRs 2 xqq
noncomputable def xqr:=nL xic
noncomputable def xqs:=nR xic
noncomputable def xid:=nRs 2 xqs
noncomputable def xqt:=nL xid
noncomputable def x1a0:=nR xid
noncomputable def xqu:=nR xqt
noncomputable def xqv:=nR xqu
noncomputable def xqw:=nR xqv
noncomputable def xie:=nRs 2 xqw
noncomputable def xqx:=nL xie
noncomputable def x1a1:=nR xie
noncomputable def xqy:=nR xqx
noncomputable def xif:=nR xqy
noncomputable def x1a2:=nL xif
noncomputable def x1a3:=nR xif
noncomputable def xqz:=nR xqr
noncomputable def x1a4:=nR xqz
theorem x1a5:x1nm call hs u x1a0 x70 eNil=(j1 (xv call hs u) 3):=by kernel_rfl
theorem x1a6 (rec0:AV→AV→AV→AV→AV→Mem→Nat→O2):x1nm call hs u x1a1 (j5 rec0 3 6 26 27 28) (setE 2 (j1 (xv call hs u) 3) eNil)=(j5 (x1s call hs u rec0) 3 6 26 27 28):=by kernel_rfl
theorem x1a7 (rec0:AV→AV→AV→AV→AV→Mem→Nat→O2):x1nm call hs u x1a3 (j5 (x1s call hs u rec0) 3 6 26 27 28) (setE 3 (j5 (x1s call hs u rec0) 3 6 26 27 28) (setE 2 (j1 (xv call hs u) 3) eNil))=(j7 (x4c call hs u rec0) 3 6 7 8 26 27 28):=by kernel_rfl
theorem x1a8 (rec0:AV→AV→AV→AV→AV→Mem→Nat→O2):x1nm call hs u x1a2 (j7 (x4c call hs u rec0) 3 6 7 8 26 27 28) (setE 3 (j5 (x1s call hs u rec0) 3 6 26 27 28) (setE 2 (j1 (xv call hs u) 3) eNil))=(j7 (xau call hs u rec0) 3 6 7 8 26 27 28):=by kernel_rfl
theorem x1a9 (rec0:AV→AV→AV→AV→AV→Mem→Nat→O2):x1nm call hs u xif (j5 (x1s call hs u rec0) 3 6 26 27 28) (setE 3 (j5 (x1s call hs u rec0) 3 6 26 27 28) (setE 2 (j1 (xv call hs u) 3) eNil))=(j7 (xau call hs u rec0) 3 6 7 8 26 27 28):=sq2 (by kernel_rfl) (x1a7 call hs u rec0) (x1a8 call hs u rec0)
theorem x1aa (rec0:AV→AV→AV→AV→AV→Mem→Nat→O2):x1nm call hs u xqy (j5 (x1s call hs u rec0) 3 6 26 27 28) (setE 3 (j5 (x1s call hs u rec0) 3 6 26 27 28) (setE 2 (j1 (xv call hs u) 3) eNil))=(j5 (x8v call hs u rec0) 3 6 26 27 28):=(sqN 1 (by kernel_rfl) (x1a9 call hs u rec0)).trans (by kernel_rfl)
theorem x1ab (rec0:AV→AV→AV→AV→AV→Mem→Nat→O2):x1nm call hs u xqx (j5 (x1s call hs u rec0) 3 6 26 27 28) (setE 2 (j1 (xv call hs u) 3) eNil)=(j5 (x8v call hs u rec0) 3 6 26 27 28):=bk (by kernel_rfl) (x1aa call hs u rec0)
theorem x1ac (rec0:AV→AV→AV→AV→AV→Mem→Nat→O2):x1nm call hs u xie (j5 rec0 3 6 26 27 28) (setE 2 (j1 (xv call hs u) 3) eNil)=(j5 (x8v call hs u rec0) 3 6 26 27 28):=sq2 (by kernel_rfl) (x1a6 call hs u rec0) (x1ab call hs u rec0)
theorem x1ad (rec0:AV→AV→AV→AV→AV→Mem→Nat→O2):x1nm call hs u xqw (j5 rec0 3 6 26 27 28) (setE 2 (j1 (xv call hs u) 3) eNil)=(j5 (xav call hs u rec0) 3 6 26 27 28):=(sqN 2 (by kernel_rfl) (x1ac call hs u rec0)).trans (by kernel_rfl)
theorem x1ae:x1nm call hs u xqv (j1 (xv call hs u) 3) (setE 2 (j1 (xv call hs u) 3) eNil)=(j5 (x17 call hs u NN) 3 6 26 27 28):=lp (Ln:=fun n=>j5 (x17 call hs u n) 3 6 26 27 28) (by kernel_rfl) rfl fun n=>(x1ad call hs u (x17 call hs u n)).trans (by kernel_rfl)
theorem x1af:x1nm call hs u xqu (j1 (xv call hs u) 3) eNil=(j5 (x17 call hs u NN) 3 6 26 27 28):=bk (by kernel_rfl) (x1ae call hs u)
theorem x1ag:x1nm call hs u xqt (j1 (xv call hs u) 3) eNil=(j3 (xaw call hs u) 3 5 6):=(sqN 1 (by kernel_rfl) (x1af call hs u)).trans (by kernel_rfl)
theorem x1ah:x1nm call hs u xid x70 eNil=(j3 (xaw call hs u) 3 5 6):=sq2 (by kernel_rfl) (x1a5 call hs u) (x1ag call hs u)
theorem x1ai:x1nm call hs u xqs x70 eNil=(j2 (x32 call hs u) 1 3):=(sqN 2 (by kernel_rfl) (x1ah call hs u)).trans (by kernel_rfl)
theorem x1aj (rec1:AV→AV→Mem→Nat→O2):x1nm call hs u x1a4 (j2 rec1 1 3) (setE 0 (j2 (x32 call hs u) 1 3) eNil)=(j2 (xfz call hs u rec1) 1 3):=by kernel_rfl
theorem x1ak:x1nm call hs u xqz (j2 (x32 call hs u) 1 3) (setE 0 (j2 (x32 call hs u) 1 3) eNil)=(j2 (x1g call hs u NN) 1 3):=lp (Ln:=fun n=>j2 (x1g call hs u n) 1 3) (by kernel_rfl) rfl fun n=>(x1aj call hs u (x1g call hs u n)).trans (by kernel_rfl)
theorem x1al:x1nm call hs u xqr (j2 (x32 call hs u) 1 3) eNil=(j2 (x1g call hs u NN) 1 3):=bk (by kernel_rfl) (x1ak call hs u)
theorem x1am:x1nm call hs u xic x70 eNil=(j2 (x1g call hs u NN) 1 3):=sq2 (by kernel_rfl) (x1ai call hs u) (x1al call hs u)
theorem x1an:x1nm call hs u xqq x70 eNil=(j1 (xax call hs u) 0):=(sqN 2 (by kernel_rfl) (x1am call hs u)).trans (by kernel_rfl)
theorem xyj:FL x11 xa4:=le1 (fn:=Try.f64) (by kernel_rfl) (by kernel_rfl) (by kernel_rfl) (by kernel_rfl) (fun call hs t0 m=>(congrFun (x1an call hs m.next) _).trans (by kernel_rfl)) (fun _ _ _ _ _ h=>by unfold xa4 at h;split at h<;>first | exact ⟨_,rfl⟩ | cases h)
noncomputable abbrev xcv:Fs→O2:=x1lu Try.prog [.tmp 4]
noncomputable abbrev x1rm:=XK call { f:=x2a,u:=u,nt:=27,hs:=hs } xcv
noncomputable def xr0:=x1lv x2a
noncomputable def xig:=nRs 2 xr0
noncomputable def xr1:=nL xig
noncomputable def x1ao:=nR xig
noncomputable def xr2:=nR xr1
noncomputable def xr3:=nR xr2
noncomputable def x1ap:=nR xr3
theorem x1aq:x1rm call hs u x1ao xcv eNil=(j1 (x4e call hs u) 5):=by kernel_rfl
theorem x1ar (rec0:AV→AV→AV→AV→AV→Mem→Nat→O2):x1rm call hs u x1ap (j5 rec0 1 5 10 11 12) (setE 0 (j1 (x4e call hs u) 5) eNil)=(j5 (xay call hs u rec0) 1 5 10 11 12):=by kernel_rfl
theorem x1as:x1rm call hs u xr3 (j1 (x4e call hs u) 5) (setE 0 (j1 (x4e call hs u) 5) eNil)=(j5 (x33 call hs u NN) 1 5 10 11 12):=lp (Ln:=fun n=>j5 (x33 call hs u n) 1 5 10 11 12) (by kernel_rfl) rfl fun n=>(x1ar call hs u (x33 call hs u n)).trans (by kernel_rfl)
theorem x1at:x1rm call hs u xr2 (j1 (x4e call hs u) 5) eNil=(j5 (x33 call hs u NN) 1 5 10 11 12):=bk (by kernel_rfl) (x1as call hs u)
theorem x1au:x1rm call hs u xr1 (j1 (x4e call hs u) 5) eNil=(j3 (xaz call hs u) 1 2 5):=(sqN 1 (by kernel_rfl) (x1at call hs u)).trans (by kernel_rfl)
theorem x1av:x1rm call hs u xig xcv eNil=(j3 (xaz call hs u) 1 2 5):=sq2 (by kernel_rfl) (x1aq call hs u) (x1au call hs u)
theorem x1aw:x1rm call hs u xr0 xcv eNil=(j2 (xg0 call hs u) 0 1):=(sqN 2 (by kernel_rfl) (x1av call hs u)).trans (by kernel_rfl)
theorem xyk:FL x2a x7x:=le2 (fn:=Try.f65) (by kernel_rfl) (by kernel_rfl) (by kernel_rfl) (by kernel_rfl) (fun call hs t0 t1 m=>(congrFun (x1aw call hs m.next) _).trans (by kernel_rfl)) (fun _ _ _ _ _ h=>by unfold x7x at h;split at h<;>first | exact ⟨_,_,rfl⟩ | cases h)
noncomputable abbrev xcw:Fs→O2:=x1lu Try.prog [.tmp 2,.tmp 3]
noncomputable abbrev x1rn:=XK call { f:=x3s,u:=u,nt:=60,hs:=hs } xcw
noncomputable def xr4:=x1lv x3s
noncomputable def xih:=nRs 3 xr4
noncomputable def xr5:=nL xih
noncomputable def x1ax:=nR xih
noncomputable def xr6:=nR xr5
noncomputable def xr7:=nR xr6
noncomputable def x1ay:=nR xr7
theorem x1az:x1rn call hs u x1ax xcw eNil=(j0 (x4f call hs u)):=by kernel_rfl
theorem x1b0 (rec0:AV→AV→Mem→Nat→O2):x1rn call hs u x1ay (j2 rec0 1 4) (setE 0 (j0 (x4f call hs u)) eNil)=(j2 (xb0 call hs u rec0) 1 4):=by kernel_rfl
theorem x1b1:x1rn call hs u xr7 (j0 (x4f call hs u)) (setE 0 (j0 (x4f call hs u)) eNil)=(j2 (x34 call hs u NN) 1 4):=lp (Ln:=fun n=>j2 (x34 call hs u n) 1 4) (by kernel_rfl) rfl fun n=>(x1b0 call hs u (x34 call hs u n)).trans (by kernel_rfl)
theorem x1b2:x1rn call hs u xr6 (j0 (x4f call hs u)) eNil=(j2 (x34 call hs u NN) 1 4):=bk (by kernel_rfl) (x1b1 call hs u)
theorem x1b3:x1rn call hs u xr5 (j0 (x4f call hs u)) eNil=(j1 (xb1 call hs u) 1):=(sqN 1 (by kernel_rfl) (x1b2 call hs u)).trans (by kernel_rfl)
theorem x1b4:x1rn call hs u xih xcw eNil=(j1 (xb1 call hs u) 1):=sq2 (by kernel_rfl) (x1az call hs u) (x1b3 call hs u)
theorem x1b5:x1rn call hs u xr4 xcw eNil=(j1 (xg1 call hs u) 0):=(sqN 3 (by kernel_rfl) (x1b4 call hs u)).trans (by kernel_rfl)
theorem xyl:FL x3s x7y:=le1 (fn:=Try.f66) (by kernel_rfl) (by kernel_rfl) (by kernel_rfl) (by kernel_rfl) (fun call hs t0 m=>(congrFun (x1b5 call hs m.next) _).trans (by kernel_rfl)) (fun _ _ _ _ _ h=>by unfold x7y at h;split at h<;>first | exact ⟨_,rfl⟩ | cases h)
noncomputable abbrev xcx:Fs→O2:=x1lu Try.prog [.tmp 4]
noncomputable abbrev x1ro:=XK call { f:=x7z,u:=u,nt:=27,hs:=hs } xcx
noncomputable def xr8:=x1lv x7z
noncomputable def xii:=nRs 2 xr8
noncomputable def xr9:=nL xii
noncomputable def x1b6:=nR xii
noncomputable def xra:=nR xr9
noncomputable def xrb:=nR xra
noncomputable def x1b7:=nR xrb
theorem x1b8:x1ro call hs u x1b6 xcx eNil=(j1 (x55 call hs u) 5):=by kernel_rfl
theorem x1b9 (rec0:AV→AV→AV→AV→Mem→Nat→O2):x1ro call hs u x1b7 (j4 rec0 1 2 5 6) (setE 0 (j1 (x55 call hs u) 5) eNil)=(j4 (xl1 call hs u rec0) 1 2 5 6):=by kernel_rfl
theorem x1ba:x1ro call hs u xrb (j1 (x55 call hs u) 5) (setE 0 (j1 (x55 call hs u) 5) eNil)=(j4 (x6c call hs u NN) 1 2 5 6):=lp (Ln:=fun n=>j4 (x6c call hs u n) 1 2 5 6) (by kernel_rfl) rfl fun n=>(x1b9 call hs u (x6c call hs u n)).trans (by kernel_rfl)
theorem x1bb:x1ro call hs u xra (j1 (x55 call hs u) 5) eNil=(j4 (x6c call hs u NN) 1 2 5 6):=bk (by kernel_rfl) (x1ba call hs u)
theorem x1bc:x1ro call hs u xr9 (j1 (x55 call hs u) 5) eNil=(j3 (xg2 call hs u) 1 2 5):=(sqN 1 (by kernel_rfl) (x1bb call hs u)).trans (by kernel_rfl)
theorem x1bd:x1ro call hs u xii xcx eNil=(j3 (xg2 call hs u) 1 2 5):=sq2 (by kernel_rfl) (x1b8 call hs u) (x1bc call hs u)
theorem x1be:x1ro call hs u xr8 xcx eNil=(j2 (xl2 call hs u) 0 1):=(sqN 2 (by kernel_rfl) (x1bd call hs u)).trans (by kernel_rfl)
theorem xym:FL x7z xe8:=le2 (fn:=Try.f67) (by kernel_rfl) (by kernel_rfl) (by kernel_rfl) (by kernel_rfl) (fun call hs t0 t1 m=>(congrFun (x1be call hs m.next) _).trans (by kernel_rfl)) (fun _ _ _ _ _ h=>by unfold xe8 at h;split at h<;>first | exact ⟨_,_,rfl⟩ | cases h)
noncomputable abbrev xcy:Fs→O2:=x1lu Try.prog [.tmp 2]
noncomputable abbrev x1ps:=XK call { f:=x2v,u:=u,nt:=38,hs:=hs } xcy
noncomputable def xrc:=x1lv x2v
noncomputable def xij:=nRs 3 xrc
noncomputable def xrd:=nL xij
noncomputable def x1bf:=nR xij
noncomputable def xre:=nR xrd
noncomputable def xrf:=nR xre
noncomputable def xrg:=nR xrf
noncomputable def xik:=nR xrg
noncomputable def x1bg:=nL xik
noncomputable def x1bh:=nR xik
theorem x1bi:x1ps call hs u x1bf xcy eNil=(j1 (x1t call hs u) 3):=by kernel_rfl
theorem x1bj (rec0:AV→AV→AV→AV→Mem→Nat→O2):x1ps call hs u x1bh (j4 rec0 0 3 4 5) (setE 0 (j1 (x1t call hs u) 3) eNil)=(j4 (x6d call hs u rec0) 0 3 4 5):=by kernel_rfl
theorem x1bk (rec0:AV→AV→AV→AV→Mem→Nat→O2):x1ps call hs u x1bg (j4 (x6d call hs u rec0) 0 3 4 5) (setE 0 (j1 (x1t call hs u) 3) eNil)=(j4 (x8w call hs u rec0) 0 3 4 5):=by kernel_rfl
theorem x1bl (rec0:AV→AV→AV→AV→Mem→Nat→O2):x1ps call hs u xik (j4 rec0 0 3 4 5) (setE 0 (j1 (x1t call hs u) 3) eNil)=(j4 (x8w call hs u rec0) 0 3 4 5):=sq2 (by kernel_rfl) (x1bj call hs u rec0) (x1bk call hs u rec0)
theorem x1bm (rec0:AV→AV→AV→AV→Mem→Nat→O2):x1ps call hs u xrg (j4 rec0 0 3 4 5) (setE 0 (j1 (x1t call hs u) 3) eNil)=(j4 (x8x call hs u rec0) 0 3 4 5):=(sqN 1 (by kernel_rfl) (x1bl call hs u rec0)).trans (by kernel_rfl)
theorem x1bn:x1ps call hs u xrf (j1 (x1t call hs u) 3) (setE 0 (j1 (x1t call hs u) 3) eNil)=(j4 (x2f call hs u NN) 0 3 4 5):=lp (Ln:=fun n=>j4 (x2f call hs u n) 0 3 4 5) (by kernel_rfl) rfl fun n=>(x1bm call hs u (x2f call hs u n)).trans (by kernel_rfl)
theorem x1bo:x1ps call hs u xre (j1 (x1t call hs u) 3) eNil=(j4 (x2f call hs u NN) 0 3 4 5):=bk (by kernel_rfl) (x1bn call hs u)
theorem x1bp:x1ps call hs u xrd (j1 (x1t call hs u) 3) eNil=(j3 (xb2 call hs u) 0 3 4):=(sqN 1 (by kernel_rfl) (x1bo call hs u)).trans (by kernel_rfl)
theorem x1bq:x1ps call hs u xij xcy eNil=(j3 (xb2 call hs u) 0 3 4):=sq2 (by kernel_rfl) (x1bi call hs u) (x1bp call hs u)
theorem x1br:x1ps call hs u xrc xcy eNil=(j1 (xg3 call hs u) 0):=(sqN 3 (by kernel_rfl) (x1bq call hs u)).trans (by kernel_rfl)
theorem xyn:FL x2v x80:=le1 (fn:=Try.f68) (by kernel_rfl) (by kernel_rfl) (by kernel_rfl) (by kernel_rfl) (fun call hs t0 m=>(congrFun (x1br call hs m.next) _).trans (by kernel_rfl)) (fun _ _ _ _ _ h=>by unfold x80 at h;split at h<;>first | exact ⟨_,rfl⟩ | cases h)
noncomputable abbrev xcz:Fs→O2:=x1lu Try.prog [.cell 2 xch]
noncomputable abbrev x1sl:=XK call { f:=x3t,u:=u,nt:=71,hs:=hs } xcz
noncomputable abbrev x1zs:=XK (R:=Mem) call { f:=x3t,u:=u,nt:=71,hs:=hs } fNil
noncomputable def xrh:=x1lv x3t
noncomputable def xil:=nRs 4 xrh
noncomputable def xri:=nL xil
noncomputable def x1bs:=nR xil
noncomputable def xrj:=nR xri
noncomputable def xd0:=nR xrj
noncomputable def x1bt:=nL xd0
noncomputable def x1bu:=nR xd0
theorem x1bv:x1sl call hs u x1bs xcz eNil=(j2 (x6e call hs u) 2 4):=by kernel_rfl
theorem x1bw:x1zs call hs u x1bu (fun s=>some s.m) eNil=(j5 (xg4 call hs u) 3 4 5 6 7):=by kernel_rfl
theorem x1bx:x1zs call hs u x1bt (j5 (xg4 call hs u) 3 4 5 6 7) eNil=(j5 (xl3 call hs u) 3 4 5 27 28):=by kernel_rfl
theorem x1by:x1sl call hs u xd0 (j2 (x6e call hs u) 2 4) (setE 0 (j2 (x6e call hs u) 2 4) eNil)=(j5 (xg5 call hs u) 2 3 4 5 26):=(rg (C:=xd0) (c:={ f:=x3t,u:=u,nt:=71,hs:=hs }) (f:=(.tmp 26)) (ps:=#[27,28]) (by kernel_rfl) (fun u=>x1bw call hs u) (fun u=>x1bx call hs u)).trans (by kernel_rfl)
theorem x1bz:x1sl call hs u xrj (j2 (x6e call hs u) 2 4) eNil=(j5 (xg5 call hs u) 2 3 4 5 26):=bk (by kernel_rfl) (x1by call hs u)
theorem x1c0:x1sl call hs u xri (j2 (x6e call hs u) 2 4) eNil=(j4 (xg6 call hs u) 2 3 4 5):=(sqN 1 (by kernel_rfl) (x1bz call hs u)).trans (by kernel_rfl)
theorem x1c1:x1sl call hs u xil xcz eNil=(j4 (xg6 call hs u) 2 3 4 5):=sq2 (by kernel_rfl) (x1bv call hs u) (x1c0 call hs u)
theorem x1c2:x1sl call hs u xrh xcz eNil=(j1 (xl4 call hs u) 0):=(sqN 4 (by kernel_rfl) (x1c1 call hs u)).trans (by kernel_rfl)
theorem xyo:FL x3t xe9:=le1 (fn:=Try.f69) (by kernel_rfl) (by kernel_rfl) (by kernel_rfl) (by kernel_rfl) (fun call hs t0 m=>(congrFun (x1c2 call hs m.next) _).trans (by kernel_rfl)) (fun _ _ _ _ _ h=>by unfold xe9 at h;split at h<;>first | exact ⟨_,rfl⟩ | cases h)
noncomputable abbrev xrk:Fs→O2:=x1lu Try.prog [.tmp 6]
noncomputable abbrev x22q:=XK call { f:=x5m,u:=u,nt:=20,hs:=hs } xrk
noncomputable def x1c3:=x1lv x5m
theorem x1c4:x22q call hs u x1c3 xrk eNil=(j3 (xl5 call hs u) 0 1 2):=by kernel_rfl
theorem xyp:FL x5m xea:=le3 (fn:=Try.f70) (by kernel_rfl) (by kernel_rfl) (by kernel_rfl) (by kernel_rfl) (fun call hs t0 t1 t2 m=>(congrFun (x1c4 call hs m.next) _).trans (by kernel_rfl)) (fun _ _ _ _ _ h=>by unfold xea at h;split at h<;>first | exact ⟨_,_,_,rfl⟩ | cases h)
noncomputable abbrev xd1:Fs→O2:=x1lu Try.prog [.tmp 2]
noncomputable abbrev x1rp:=XK call { f:=x5n,u:=u,nt:=23,hs:=hs } xd1
noncomputable def xrl:=x1lv x5n
noncomputable def xim:=nR xrl
noncomputable def xrm:=nL xim
noncomputable def x1c5:=nR xim
noncomputable def xrn:=nR xrm
noncomputable def xro:=nR xrn
noncomputable def x1c6:=nR xro
theorem x1c7:x1rp call hs u x1c5 xd1 eNil=(j0 (x56 call hs u)):=by kernel_rfl
theorem x1c8 (rec0:AV→AV→Mem→Nat→O2):x1rp call hs u x1c6 (j2 rec0 0 3) (setE 0 (j0 (x56 call hs u)) eNil)=(j2 (xl6 call hs u rec0) 0 3):=by kernel_rfl
theorem x1c9:x1rp call hs u xro (j0 (x56 call hs u)) (setE 0 (j0 (x56 call hs u)) eNil)=(j2 (x6f call hs u NN) 0 3):=lp (Ln:=fun n=>j2 (x6f call hs u n) 0 3) (by kernel_rfl) rfl fun n=>(x1c8 call hs u (x6f call hs u n)).trans (by kernel_rfl)
theorem x1ca:x1rp call hs u xrn (j0 (x56 call hs u)) eNil=(j2 (x6f call hs u NN) 0 3):=bk (by kernel_rfl) (x1c9 call hs u)
theorem x1cb:x1rp call hs u xrm (j0 (x56 call hs u)) eNil=(j1 (xg7 call hs u) 0):=(sqN 1 (by kernel_rfl) (x1ca call hs u)).trans (by kernel_rfl)
theorem x1cc:x1rp call hs u xim xd1 eNil=(j1 (xg7 call hs u) 0):=sq2 (by kernel_rfl) (x1c7 call hs u) (x1cb call hs u)
theorem x1cd:x1rp call hs u xrl xd1 eNil=(j1 (xl7 call hs u) 0):=(sqN 1 (by kernel_rfl) (x1cc call hs u)).trans (by kernel_rfl)
theorem xyq:FL x5n xeb:=le1 (fn:=Try.f71) (by kernel_rfl) (by kernel_rfl) (by kernel_rfl) (by kernel_rfl) (fun call hs t0 m=>(congrFun (x1cd call hs m.next) _).trans (by kernel_rfl)) (fun _ _ _ _ _ h=>by unfold xeb at h;split at h<;>first | exact ⟨_,rfl⟩ | cases h)
noncomputable abbrev xrp:Fs→O2:=x1lu Try.prog [.tmp 6]
noncomputable abbrev x22r:=XK call { f:=x5o,u:=u,nt:=22,hs:=hs } xrp
noncomputable def x1ce:=x1lv x5o
theorem x1cf:x22r call hs u x1ce xrp eNil=(j3 (xl8 call hs u) 0 1 2):=by kernel_rfl
theorem xyr:FL x5o xec:=le3 (fn:=Try.f72) (by kernel_rfl) (by kernel_rfl) (by kernel_rfl) (by kernel_rfl) (fun call hs t0 t1 t2 m=>(congrFun (x1cf call hs m.next) _).trans (by kernel_rfl)) (fun _ _ _ _ _ h=>by unfold xec at h;split at h<;>first | exact ⟨_,_,_,rfl⟩ | cases h)
noncomputable abbrev xrq:Fs→O2:=x1lu Try.prog [.tmp 4]
noncomputable abbrev x22s:=XK call { f:=x5p,u:=u,nt:=9,hs:=hs } xrq
noncomputable def x1cg:=x1lv x5p
theorem x1ch:x22s call hs u x1cg xrq eNil=(j2 (xl9 call hs u) 0 1):=by kernel_rfl
theorem xys:FL x5p xed:=le2 (fn:=Try.f73) (by kernel_rfl) (by kernel_rfl) (by kernel_rfl) (by kernel_rfl) (fun call hs t0 t1 m=>(congrFun (x1ch call hs m.next) _).trans (by kernel_rfl)) (fun _ _ _ _ _ h=>by unfold xed at h;split at h<;>first | exact ⟨_,_,rfl⟩ | cases h)
noncomputable abbrev xrr:Fs→O2:=x1lu Try.prog [.tmp 2]
noncomputable abbrev x22t:=XK call { f:=x5q,u:=u,nt:=7,hs:=hs } xrr
noncomputable def x1ci:=x1lv x5q
theorem x1cj:x22t call hs u x1ci xrr eNil=(j1 (xla call hs u) 0):=by kernel_rfl
theorem xyt:FL x5q xee:=le1 (fn:=Try.f74) (by kernel_rfl) (by kernel_rfl) (by kernel_rfl) (by kernel_rfl) (fun call hs t0 m=>(congrFun (x1cj call hs m.next) _).trans (by kernel_rfl)) (fun _ _ _ _ _ h=>by unfold xee at h;split at h<;>first | exact ⟨_,rfl⟩ | cases h)
noncomputable abbrev x71:Fs→O2:=x1lu Try.prog [.tmp 2]
noncomputable abbrev x1ny:=XK call { f:=x5r,u:=u,nt:=36,hs:=hs } x71
noncomputable def xrs:=x1lv x5r
noncomputable def xin:=nRs 2 xrs
noncomputable def xrt:=nL xin
noncomputable def xru:=nR xin
noncomputable def xio:=nR xru
noncomputable def xrv:=nL xio
noncomputable def x1ck:=nR xio
noncomputable def xrw:=nR xrv
noncomputable def xrx:=nR xrw
noncomputable def x1cl:=nR xrx
noncomputable def xry:=nR xrt
noncomputable def xrz:=nR xry
noncomputable def xs0:=nR xrz
noncomputable def xip:=nRs 2 xs0
noncomputable def x1cm:=nL xip
noncomputable def x1cn:=nR xip
theorem x1co:x1ny call hs u x1ck x71 eNil=(j1 (x57 call hs u) 6):=by kernel_rfl
theorem x1cp (rec0:AV→AV→AV→AV→Mem→Nat→O2):x1ny call hs u x1cl (j4 rec0 6 25 26 27) (setE 2 (j1 (x57 call hs u) 6) eNil)=(j4 (xlb call hs u rec0) 6 25 26 27):=by kernel_rfl
theorem x1cq:x1ny call hs u xrx (j1 (x57 call hs u) 6) (setE 2 (j1 (x57 call hs u) 6) eNil)=(j4 (x6g call hs u NN) 6 25 26 27):=lp (Ln:=fun n=>j4 (x6g call hs u n) 6 25 26 27) (by kernel_rfl) rfl fun n=>(x1cp call hs u (x6g call hs u n)).trans (by kernel_rfl)
theorem x1cr:x1ny call hs u xrw (j1 (x57 call hs u) 6) eNil=(j4 (x6g call hs u NN) 6 25 26 27):=bk (by kernel_rfl) (x1cq call hs u)
theorem x1cs:x1ny call hs u xrv (j1 (x57 call hs u) 6) eNil=(j2 (xg8 call hs u) 0 6):=(sqN 1 (by kernel_rfl) (x1cr call hs u)).trans (by kernel_rfl)
theorem x1ct:x1ny call hs u xio x71 eNil=(j2 (xg8 call hs u) 0 6):=sq2 (by kernel_rfl) (x1co call hs u) (x1cs call hs u)
theorem x1cu:x1ny call hs u xru x71 eNil=(j2 (x2g call hs u) 0 3):=(sqN 1 (by kernel_rfl) (x1ct call hs u)).trans (by kernel_rfl)
theorem x1cv (rec1:AV→AV→AV→AV→AV→Mem→Nat→O2):x1ny call hs u x1cn (j5 rec1 0 3 9 10 11) (setE 0 (j2 (x2g call hs u) 0 3) eNil)=(j5 (xga call hs u rec1) 0 3 9 10 11):=by kernel_rfl
theorem x1cw (rec1:AV→AV→AV→AV→AV→Mem→Nat→O2):x1ny call hs u x1cm (j5 (xga call hs u rec1) 0 3 9 10 11) (setE 0 (j2 (x2g call hs u) 0 3) eNil)=(j5 (xgb call hs u rec1) 0 3 9 10 11):=by kernel_rfl
theorem x1cx (rec1:AV→AV→AV→AV→AV→Mem→Nat→O2):x1ny call hs u xip (j5 rec1 0 3 9 10 11) (setE 0 (j2 (x2g call hs u) 0 3) eNil)=(j5 (xgb call hs u rec1) 0 3 9 10 11):=sq2 (by kernel_rfl) (x1cv call hs u rec1) (x1cw call hs u rec1)
theorem x1cy (rec1:AV→AV→AV→AV→AV→Mem→Nat→O2):x1ny call hs u xs0 (j5 rec1 0 3 9 10 11) (setE 0 (j2 (x2g call hs u) 0 3) eNil)=(j5 (xlc call hs u rec1) 0 3 9 10 11):=(sqN 2 (by kernel_rfl) (x1cx call hs u rec1)).trans (by kernel_rfl)
theorem x1cz:x1ny call hs u xrz (j2 (x2g call hs u) 0 3) (setE 0 (j2 (x2g call hs u) 0 3) eNil)=(j5 (x6h call hs u NN) 0 3 9 10 11):=lp (Ln:=fun n=>j5 (x6h call hs u n) 0 3 9 10 11) (by kernel_rfl) rfl fun n=>(x1cy call hs u (x6h call hs u n)).trans (by kernel_rfl)
theorem x1d0:x1ny call hs u xry (j2 (x2g call hs u) 0 3) eNil=(j5 (x6h call hs u NN) 0 3 9 10 11):=bk (by kernel_rfl) (x1cz call hs u)
theorem x1d1:x1ny call hs u xrt (j2 (x2g call hs u) 0 3) eNil=(j2 (xgc call hs u) 0 3):=(sqN 1 (by kernel_rfl) (x1d0 call hs u)).trans (by kernel_rfl)
theorem x1d2:x1ny call hs u xin x71 eNil=(j2 (xgc call hs u) 0 3):=sq2 (by kernel_rfl) (x1cu call hs u) (x1d1 call hs u)
theorem x1d3:x1ny call hs u xrs x71 eNil=(j1 (xld call hs u) 0):=(sqN 2 (by kernel_rfl) (x1d2 call hs u)).trans (by kernel_rfl)
theorem xyu:FL x5r xef:=le1 (fn:=Try.f75) (by kernel_rfl) (by kernel_rfl) (by kernel_rfl) (by kernel_rfl) (fun call hs t0 m=>(congrFun (x1d3 call hs m.next) _).trans (by kernel_rfl)) (fun _ _ _ _ _ h=>by unfold xef at h;split at h<;>first | exact ⟨_,rfl⟩ | cases h)
noncomputable abbrev xs1:Fs→O2:=x1lu Try.prog [.tmp 2]
noncomputable abbrev x22u:=XK call { f:=x3u,u:=u,nt:=5,hs:=hs } xs1
noncomputable def x1d4:=x1lv x3u
theorem x1d5:x22u call hs u x1d4 xs1 eNil=(j1 (xgd call hs u) 0):=by kernel_rfl
theorem xyv:FL x3u x81:=le1 (fn:=Try.f76) (by kernel_rfl) (by kernel_rfl) (by kernel_rfl) (by kernel_rfl) (fun call hs t0 m=>(congrFun (x1d5 call hs m.next) _).trans (by kernel_rfl)) (fun _ _ _ _ _ h=>by unfold x81 at h;split at h<;>first | exact ⟨_,rfl⟩ | cases h)
noncomputable abbrev xs2:Fs→O2:=x1lu Try.prog [.cell 8 xai,.tmp 9]
noncomputable abbrev x22v:=XK call { f:=xa5,u:=u,nt:=42,hs:=hs } xs2
noncomputable def x1d6:=x1lv xa5
theorem x1d7:x22v call hs u x1d6 xs2 eNil=(j4 (xle call hs u) 0 1 2 3):=by kernel_rfl
theorem xyw:FL xa5 xeg:=le4 (fn:=Try.f77) (by kernel_rfl) (by kernel_rfl) (by kernel_rfl) (by kernel_rfl) (fun call hs t0 t1 t2 t3 m=>(congrFun (x1d7 call hs m.next) _).trans (by kernel_rfl)) (fun _ _ _ _ _ h=>by unfold xeg at h;split at h<;>first | exact ⟨_,_,_,_,rfl⟩ | cases h)
noncomputable abbrev xs3:Fs→O2:=x1lu Try.prog [.tmp 6]
noncomputable abbrev x22w:=XK call { f:=xg,u:=u,nt:=15,hs:=hs } xs3
noncomputable def x1d8:=x1lv xg
theorem x1d9:x22w call hs u x1d8 xs3 eNil=(j3 (xge call hs u) 0 1 2):=by kernel_rfl
theorem xx0:FL xg x75:=le3 (fn:=Try.f78) (by kernel_rfl) (by kernel_rfl) (by kernel_rfl) (by kernel_rfl) (fun call hs t0 t1 t2 m=>(congrFun (x1d9 call hs m.next) _).trans (by kernel_rfl)) (fun _ _ _ _ _ h=>by unfold x75 at h;split at h<;>first | exact ⟨_,_,_,rfl⟩ | cases h)
noncomputable abbrev xd2:Fs→O2:=x1lu Try.prog [.tmp 2]
noncomputable abbrev x1pt:=XK call { f:=x3v,u:=u,nt:=53,hs:=hs } xd2
noncomputable def xs4:=x1lv x3v
noncomputable def xiq:=nRs 2 xs4
noncomputable def xs5:=nL xiq
noncomputable def x1da:=nR xiq
noncomputable def xs6:=nR xs5
noncomputable def xs7:=nR xs6
noncomputable def xs8:=nR xs7
noncomputable def xir:=nRs 2 xs8
noncomputable def x1db:=nL xir
noncomputable def x1dc:=nR xir
theorem x1dd:x1pt call hs u x1da xd2 eNil=(j2 (x1h call hs u) 1 3):=by kernel_rfl
theorem x1de (rec0:AV→AV→AV→AV→AV→Mem→Nat→O2):x1pt call hs u x1dc (j5 rec0 1 3 12 13 14) (setE 0 (j2 (x1h call hs u) 1 3) eNil)=(j5 (x6i call hs u rec0) 1 3 12 13 14):=by kernel_rfl
theorem x1df (rec0:AV→AV→AV→AV→AV→Mem→Nat→O2):x1pt call hs u x1db (j5 (x6i call hs u rec0) 1 3 12 13 14) (setE 0 (j2 (x1h call hs u) 1 3) eNil)=(j5 (x8z call hs u rec0) 1 3 12 13 14):=by kernel_rfl
theorem x1dg (rec0:AV→AV→AV→AV→AV→Mem→Nat→O2):x1pt call hs u xir (j5 rec0 1 3 12 13 14) (setE 0 (j2 (x1h call hs u) 1 3) eNil)=(j5 (x8z call hs u rec0) 1 3 12 13 14):=sq2 (by kernel_rfl) (x1de call hs u rec0) (x1df call hs u rec0)
theorem x1dh (rec0:AV→AV→AV→AV→AV→Mem→Nat→O2):x1pt call hs u xs8 (j5 rec0 1 3 12 13 14) (setE 0 (j2 (x1h call hs u) 1 3) eNil)=(j5 (x90 call hs u rec0) 1 3 12 13 14):=(sqN 2 (by kernel_rfl) (x1dg call hs u rec0)).trans (by kernel_rfl)
theorem x1di:x1pt call hs u xs7 (j2 (x1h call hs u) 1 3) (setE 0 (j2 (x1h call hs u) 1 3) eNil)=(j5 (x1u call hs u NN) 1 3 12 13 14):=lp (Ln:=fun n=>j5 (x1u call hs u n) 1 3 12 13 14) (by kernel_rfl) rfl fun n=>(x1dh call hs u (x1u call hs u n)).trans (by kernel_rfl)
theorem x1dj:x1pt call hs u xs6 (j2 (x1h call hs u) 1 3) eNil=(j5 (x1u call hs u NN) 1 3 12 13 14):=bk (by kernel_rfl) (x1di call hs u)
theorem x1dk:x1pt call hs u xs5 (j2 (x1h call hs u) 1 3) eNil=(j2 (xb3 call hs u) 1 3):=(sqN 1 (by kernel_rfl) (x1dj call hs u)).trans (by kernel_rfl)
theorem x1dl:x1pt call hs u xiq xd2 eNil=(j2 (xb3 call hs u) 1 3):=sq2 (by kernel_rfl) (x1dd call hs u) (x1dk call hs u)
theorem x1dm:x1pt call hs u xs4 xd2 eNil=(j1 (xb4 call hs u) 0):=(sqN 2 (by kernel_rfl) (x1dl call hs u)).trans (by kernel_rfl)
theorem xyx:FL x3v xa6:=le1 (fn:=Try.f79) (by kernel_rfl) (by kernel_rfl) (by kernel_rfl) (by kernel_rfl) (fun call hs t0 m=>(congrFun (x1dm call hs m.next) _).trans (by kernel_rfl)) (fun _ _ _ _ _ h=>by unfold xa6 at h;split at h<;>first | exact ⟨_,rfl⟩ | cases h)
noncomputable abbrev xd3:Fs→O2:=x1lu Try.prog [.tmp 4]
noncomputable abbrev x1pu:=XK call { f:=x12,u:=u,nt:=47,hs:=hs } xd3
noncomputable def xs9:=x1lv x12
noncomputable def xis:=nRs 2 xs9
noncomputable def xsa:=nL xis
noncomputable def x1dn:=nR xis
noncomputable def xsb:=nR xsa
noncomputable def xsc:=nR xsb
noncomputable def xsd:=nR xsc
noncomputable def xit:=nRs 2 xsd
noncomputable def x1do:=nL xit
noncomputable def x1dp:=nR xit
theorem x1dq:x1pu call hs u x1dn xd3 eNil=(j1 (x1v call hs u) 5):=by kernel_rfl
theorem x1dr (rec0:AV→AV→AV→AV→AV→Mem→Nat→O2):x1pu call hs u x1dp (j5 rec0 0 1 5 12 13) (setE 0 (j1 (x1v call hs u) 5) eNil)=(j5 (x6j call hs u rec0) 0 1 5 12 13):=by kernel_rfl
theorem x1ds (rec0:AV→AV→AV→AV→AV→Mem→Nat→O2):x1pu call hs u x1do (j5 (x6j call hs u rec0) 0 1 5 12 13) (setE 0 (j1 (x1v call hs u) 5) eNil)=(j5 (x91 call hs u rec0) 0 1 5 12 13):=by kernel_rfl
theorem x1dt (rec0:AV→AV→AV→AV→AV→Mem→Nat→O2):x1pu call hs u xit (j5 rec0 0 1 5 12 13) (setE 0 (j1 (x1v call hs u) 5) eNil)=(j5 (x91 call hs u rec0) 0 1 5 12 13):=sq2 (by kernel_rfl) (x1dr call hs u rec0) (x1ds call hs u rec0)
theorem x1du (rec0:AV→AV→AV→AV→AV→Mem→Nat→O2):x1pu call hs u xsd (j5 rec0 0 1 5 12 13) (setE 0 (j1 (x1v call hs u) 5) eNil)=(j5 (x92 call hs u rec0) 0 1 5 12 13):=(sqN 2 (by kernel_rfl) (x1dt call hs u rec0)).trans (by kernel_rfl)
theorem x1dv:x1pu call hs u xsc (j1 (x1v call hs u) 5) (setE 0 (j1 (x1v call hs u) 5) eNil)=(j5 (x2h call hs u NN) 0 1 5 12 13):=lp (Ln:=fun n=>j5 (x2h call hs u n) 0 1 5 12 13) (by kernel_rfl) rfl fun n=>(x1du call hs u (x2h call hs u n)).trans (by kernel_rfl)
theorem x1dw:x1pu call hs u xsb (j1 (x1v call hs u) 5) eNil=(j5 (x2h call hs u NN) 0 1 5 12 13):=bk (by kernel_rfl) (x1dv call hs u)
theorem x1dx:x1pu call hs u xsa (j1 (x1v call hs u) 5) eNil=(j3 (xb6 call hs u) 0 1 5):=(sqN 1 (by kernel_rfl) (x1dw call hs u)).trans (by kernel_rfl)
theorem x1dy:x1pu call hs u xis xd3 eNil=(j3 (xb6 call hs u) 0 1 5):=sq2 (by kernel_rfl) (x1dq call hs u) (x1dx call hs u)
theorem x1dz:x1pu call hs u xs9 xd3 eNil=(j2 (xb7 call hs u) 0 1):=(sqN 2 (by kernel_rfl) (x1dy call hs u)).trans (by kernel_rfl)
theorem xyy:FL x12 xa7:=le2 (fn:=Try.f80) (by kernel_rfl) (by kernel_rfl) (by kernel_rfl) (by kernel_rfl) (fun call hs t0 t1 m=>(congrFun (x1dz call hs m.next) _).trans (by kernel_rfl)) (fun _ _ _ _ _ h=>by unfold xa7 at h;split at h<;>first | exact ⟨_,_,rfl⟩ | cases h)
noncomputable abbrev xd4:Fs→O2:=x1lu Try.prog [.tmp 2]
noncomputable abbrev x1rq:=XK call { f:=x2w,u:=u,nt:=26,hs:=hs } xd4
noncomputable def xse:=x1lv x2w
noncomputable def xiu:=nRs 3 xse
noncomputable def xsf:=nL xiu
noncomputable def x1e0:=nR xiu
noncomputable def xsg:=nR xsf
noncomputable def xsh:=nR xsg
noncomputable def x1e1:=nR xsh
theorem x1e2:x1rq call hs u x1e0 xd4 eNil=(j2 (x35 call hs u) 1 4):=by kernel_rfl
theorem x1e3 (rec0:AV→AV→AV→AV→AV→Mem→Nat→O2):x1rq call hs u x1e1 (j5 rec0 1 3 4 10 11) (setE 0 (j2 (x35 call hs u) 1 4) eNil)=(j5 (xb8 call hs u rec0) 1 3 4 10 11):=by kernel_rfl
theorem x1e4:x1rq call hs u xsh (j2 (x35 call hs u) 1 4) (setE 0 (j2 (x35 call hs u) 1 4) eNil)=(j5 (x36 call hs u NN) 1 3 4 10 11):=lp (Ln:=fun n=>j5 (x36 call hs u n) 1 3 4 10 11) (by kernel_rfl) rfl fun n=>(x1e3 call hs u (x36 call hs u n)).trans (by kernel_rfl)
theorem x1e5:x1rq call hs u xsg (j2 (x35 call hs u) 1 4) eNil=(j5 (x36 call hs u NN) 1 3 4 10 11):=bk (by kernel_rfl) (x1e4 call hs u)
theorem x1e6:x1rq call hs u xsf (j2 (x35 call hs u) 1 4) eNil=(j3 (xb9 call hs u) 1 3 4):=(sqN 1 (by kernel_rfl) (x1e5 call hs u)).trans (by kernel_rfl)
theorem x1e7:x1rq call hs u xiu xd4 eNil=(j3 (xb9 call hs u) 1 3 4):=sq2 (by kernel_rfl) (x1e2 call hs u) (x1e6 call hs u)
theorem x1e8:x1rq call hs u xse xd4 eNil=(j1 (xba call hs u) 0):=(sqN 3 (by kernel_rfl) (x1e7 call hs u)).trans (by kernel_rfl)
theorem xyz:FL x2w xa8:=le1 (fn:=Try.f81) (by kernel_rfl) (by kernel_rfl) (by kernel_rfl) (by kernel_rfl) (fun call hs t0 m=>(congrFun (x1e8 call hs m.next) _).trans (by kernel_rfl)) (fun _ _ _ _ _ h=>by unfold xa8 at h;split at h<;>first | exact ⟨_,rfl⟩ | cases h)
noncomputable abbrev x72:Fs→O2:=x1lu Try.prog [.tmp 6]
noncomputable abbrev x1ne:=XK call { f:=x3w,u:=u,nt:=87,hs:=hs } x72
noncomputable def xsi:=x1lv x3w
noncomputable def xiv:=nRs 2 xsi
noncomputable def xsj:=nL xiv
noncomputable def xsk:=nR xiv
noncomputable def xiw:=nRs 2 xsk
noncomputable def xsl:=nL xiw
noncomputable def x1e9:=nR xiw
noncomputable def xsm:=nR xsl
noncomputable def xsn:=nR xsm
noncomputable def xso:=nR xsn
noncomputable def xix:=nR xso
noncomputable def xsp:=nL xix
noncomputable def x1ea:=nR xix
noncomputable def xsq:=nR xsp
noncomputable def xsr:=nR xsq
noncomputable def xss:=nR xsr
noncomputable def xst:=nR xss
noncomputable def xiy:=nR xst
noncomputable def x1eb:=nL xiy
noncomputable def x1ec:=nR xiy
noncomputable def xsu:=nR xsj
noncomputable def xsv:=nR xsu
noncomputable def x1ed:=nR xsv
theorem x1ee:x1ne call hs u x1e9 x72 eNil=(j1 (xi call hs u) 7):=by kernel_rfl
theorem x1ef (rec0:AV→AV→AV→AV→Mem→Nat→O2):x1ne call hs u x1ea (j4 rec0 3 7 9 10) (setE 2 (j1 (xi call hs u) 7) eNil)=(j4 (xf call hs u rec0) 3 7 9 10):=by kernel_rfl
theorem x1eg (rec0:AV→AV→AV→AV→Mem→Nat→O2) (rec1:AV→AV→AV→AV→AV→Mem→Nat→O2):x1ne call hs u x1ec (j5 rec1 3 7 9 10 11) (setE 4 (j4 (xf call hs u rec0) 3 7 9 10) (setE 3 (j4 (xf call hs u rec0) 3 7 9 10) (setE 2 (j1 (xi call hs u) 7) eNil)))=(j5 (x58 call hs u rec0 rec1) 3 7 9 10 11):=by kernel_rfl
theorem x1eh (rec0:AV→AV→AV→AV→Mem→Nat→O2) (rec1:AV→AV→AV→AV→AV→Mem→Nat→O2):x1ne call hs u x1eb (j5 (x58 call hs u rec0 rec1) 3 7 9 10 11) (setE 4 (j4 (xf call hs u rec0) 3 7 9 10) (setE 3 (j4 (xf call hs u rec0) 3 7 9 10) (setE 2 (j1 (xi call hs u) 7) eNil)))=(j5 (x6l call hs u rec0 rec1) 3 7 9 10 11):=by kernel_rfl
theorem x1ei (rec0:AV→AV→AV→AV→Mem→Nat→O2) (rec1:AV→AV→AV→AV→AV→Mem→Nat→O2):x1ne call hs u xiy (j5 rec1 3 7 9 10 11) (setE 4 (j4 (xf call hs u rec0) 3 7 9 10) (setE 3 (j4 (xf call hs u rec0) 3 7 9 10) (setE 2 (j1 (xi call hs u) 7) eNil)))=(j5 (x6l call hs u rec0 rec1) 3 7 9 10 11):=sq2 (by kernel_rfl) (x1eg call hs u rec0 rec1) (x1eh call hs u rec0 rec1)
theorem x1ej (rec0:AV→AV→AV→AV→Mem→Nat→O2) (rec1:AV→AV→AV→AV→AV→Mem→Nat→O2):x1ne call hs u xst (j5 rec1 3 7 9 10 11) (setE 4 (j4 (xf call hs u rec0) 3 7 9 10) (setE 3 (j4 (xf call hs u rec0) 3 7 9 10) (setE 2 (j1 (xi call hs u) 7) eNil)))=(j5 (x6m call hs u rec0 rec1) 3 7 9 10 11):=(sqN 1 (by kernel_rfl) (x1ei call hs u rec0 rec1)).trans (by kernel_rfl)
theorem x1ek (rec0:AV→AV→AV→AV→Mem→Nat→O2):x1ne call hs u xss (j4 (xf call hs u rec0) 3 7 9 10) (setE 4 (j4 (xf call hs u rec0) 3 7 9 10) (setE 3 (j4 (xf call hs u rec0) 3 7 9 10) (setE 2 (j1 (xi call hs u) 7) eNil)))=(j5 (x1w call hs u rec0 NN) 3 7 9 10 11):=lp (Ln:=fun n=>j5 (x1w call hs u rec0 n) 3 7 9 10 11) (by kernel_rfl) rfl fun n=>(x1ej call hs u rec0 (x1w call hs u rec0 n)).trans (by kernel_rfl)
theorem x1el (rec0:AV→AV→AV→AV→Mem→Nat→O2):x1ne call hs u xsr (j4 (xf call hs u rec0) 3 7 9 10) (setE 3 (j4 (xf call hs u rec0) 3 7 9 10) (setE 2 (j1 (xi call hs u) 7) eNil))=(j5 (x1w call hs u rec0 NN) 3 7 9 10 11):=bk (by kernel_rfl) (x1ek call hs u rec0)
theorem x1em (rec0:AV→AV→AV→AV→Mem→Nat→O2):x1ne call hs u xsq (j4 (xf call hs u rec0) 3 7 9 10) (setE 3 (j4 (xf call hs u rec0) 3 7 9 10) (setE 2 (j1 (xi call hs u) 7) eNil))=(j4 (x93 call hs u rec0) 3 7 9 10):=(sqN 1 (by kernel_rfl) (x1el call hs u rec0)).trans (by kernel_rfl)
theorem x1en (rec0:AV→AV→AV→AV→Mem→Nat→O2):x1ne call hs u xsp (j4 (xf call hs u rec0) 3 7 9 10) (setE 2 (j1 (xi call hs u) 7) eNil)=(j4 (x93 call hs u rec0) 3 7 9 10):=bk (by kernel_rfl) (x1em call hs u rec0)
theorem x1eo (rec0:AV→AV→AV→AV→Mem→Nat→O2):x1ne call hs u xix (j4 rec0 3 7 9 10) (setE 2 (j1 (xi call hs u) 7) eNil)=(j4 (x93 call hs u rec0) 3 7 9 10):=sq2 (by kernel_rfl) (x1ef call hs u rec0) (x1en call hs u rec0)
theorem x1ep (rec0:AV→AV→AV→AV→Mem→Nat→O2):x1ne call hs u xso (j4 rec0 3 7 9 10) (setE 2 (j1 (xi call hs u) 7) eNil)=(j4 (x94 call hs u rec0) 3 7 9 10):=(sqN 1 (by kernel_rfl) (x1eo call hs u rec0)).trans (by kernel_rfl)
theorem x1eq:x1ne call hs u xsn (j1 (xi call hs u) 7) (setE 2 (j1 (xi call hs u) 7) eNil)=(j4 (x1x call hs u NN) 3 7 9 10):=lp (Ln:=fun n=>j4 (x1x call hs u n) 3 7 9 10) (by kernel_rfl) rfl fun n=>(x1ep call hs u (x1x call hs u n)).trans (by kernel_rfl)
theorem x1er:x1ne call hs u xsm (j1 (xi call hs u) 7) eNil=(j4 (x1x call hs u NN) 3 7 9 10):=bk (by kernel_rfl) (x1eq call hs u)
theorem x1es:x1ne call hs u xsl (j1 (xi call hs u) 7) eNil=(j3 (xbb call hs u) 3 7 9):=(sqN 1 (by kernel_rfl) (x1er call hs u)).trans (by kernel_rfl)
theorem x1et:x1ne call hs u xiw x72 eNil=(j3 (xbb call hs u) 3 7 9):=sq2 (by kernel_rfl) (x1ee call hs u) (x1es call hs u)
theorem x1eu:x1ne call hs u xsk x72 eNil=(j4 (x37 call hs u) 1 2 3 7):=(sqN 2 (by kernel_rfl) (x1et call hs u)).trans (by kernel_rfl)
theorem x1ev (rec2:AV→AV→AV→AV→AV→Mem→Nat→O2):x1ne call hs u x1ed (j5 rec2 1 2 3 7 8) (setE 0 (j4 (x37 call hs u) 1 2 3 7) eNil)=(j5 (xbc call hs u rec2) 1 2 3 7 8):=by kernel_rfl
theorem x1ew:x1ne call hs u xsv (j4 (x37 call hs u) 1 2 3 7) (setE 0 (j4 (x37 call hs u) 1 2 3 7) eNil)=(j5 (x38 call hs u NN) 1 2 3 7 8):=lp (Ln:=fun n=>j5 (x38 call hs u n) 1 2 3 7 8) (by kernel_rfl) rfl fun n=>(x1ev call hs u (x38 call hs u n)).trans (by kernel_rfl)
theorem x1ex:x1ne call hs u xsu (j4 (x37 call hs u) 1 2 3 7) eNil=(j5 (x38 call hs u NN) 1 2 3 7 8):=bk (by kernel_rfl) (x1ew call hs u)
theorem x1ey:x1ne call hs u xsj (j4 (x37 call hs u) 1 2 3 7) eNil=(j4 (xbd call hs u) 1 2 3 7):=(sqN 1 (by kernel_rfl) (x1ex call hs u)).trans (by kernel_rfl)
theorem x1ez:x1ne call hs u xiv x72 eNil=(j4 (xbd call hs u) 1 2 3 7):=sq2 (by kernel_rfl) (x1eu call hs u) (x1ey call hs u)
theorem x1f0:x1ne call hs u xsi x72 eNil=(j3 (xgg call hs u) 0 1 2):=(sqN 2 (by kernel_rfl) (x1ez call hs u)).trans (by kernel_rfl)
theorem xz0:FL x3w x82:=le3 (fn:=Try.f82) (by kernel_rfl) (by kernel_rfl) (by kernel_rfl) (by kernel_rfl) (fun call hs t0 t1 t2 m=>(congrFun (x1f0 call hs m.next) _).trans (by kernel_rfl)) (fun _ _ _ _ _ h=>by unfold x82 at h;split at h<;>first | exact ⟨_,_,_,rfl⟩ | cases h)
noncomputable abbrev x23:Fs→O2:=x1lu Try.prog [.tmp 4,.tmp 5]
noncomputable abbrev x1mk:=XK call { f:=x3x,u:=u,nt:=169,hs:=hs } x23
noncomputable def xsw:=x1lv x3x
noncomputable def xiz:=nRs 4 xsw
noncomputable def xsx:=nL xiz
noncomputable def xj0:=nR xiz
noncomputable def xsy:=nL xj0
noncomputable def xsz:=nR xj0
noncomputable def xj1:=nR xsz
noncomputable def xt0:=nL xj1
noncomputable def xt1:=nR xj1
noncomputable def xt2:=nRs 2 xt1
noncomputable def xt3:=nR xt2
noncomputable def x1f1:=nR xt3
noncomputable def xt4:=nR xt0
noncomputable def xt5:=nR xt4
noncomputable def x1f2:=nR xt5
noncomputable def xt6:=nR xsy
noncomputable def xt7:=nR xt6
noncomputable def x1f3:=nR xt7
noncomputable def xt8:=nR xsx
noncomputable def xt9:=nR xt8
noncomputable def xta:=nR xt9
noncomputable def xj2:=nR xta
noncomputable def xtb:=nL xj2
noncomputable def x1f4:=nR xj2
noncomputable def xtc:=nR xtb
noncomputable def xj3:=nR xtc
noncomputable def xtd:=nL xj3
noncomputable def x1f5:=nR xj3
noncomputable def xte:=nR xtd
noncomputable def xtf:=nR xte
noncomputable def xtg:=nR xtf
noncomputable def xj4:=nR xtg
noncomputable def x1f6:=nL xj4
noncomputable def x1f7:=nR xj4
theorem x1f8 (rec0:AV→AV→AV→AV→AV→AV→Mem→Nat→O2):x1mk call hs u x1f1 (j6 rec0 6 8 9 14 16 17) (setE 8 x23 eNil)=(j6 (xbe call hs u rec0) 6 8 9 14 16 17):=by kernel_rfl
theorem x1f9:x1mk call hs u xt3 x23 (setE 8 x23 eNil)=(j6 (x39 call hs u NN) 6 8 9 14 16 17):=lp (Ln:=fun n=>j6 (x39 call hs u n) 6 8 9 14 16 17) (by kernel_rfl) rfl fun n=>(x1f8 call hs u (x39 call hs u n)).trans (by kernel_rfl)
theorem x1fa:x1mk call hs u xt2 x23 eNil=(j6 (x39 call hs u NN) 6 8 9 14 16 17):=bk (by kernel_rfl) (x1f9 call hs u)
theorem x1fb:x1mk call hs u xt1 x23 eNil=(j5 (x3a call hs u) 1 6 8 9 14):=(sqN 2 (by kernel_rfl) (x1fa call hs u)).trans (by kernel_rfl)
theorem x1fc (rec1:AV→AV→AV→AV→AV→AV→Mem→Nat→O2):x1mk call hs u x1f2 (j6 rec1 1 6 8 9 14 15) (setE 6 (j5 (x3a call hs u) 1 6 8 9 14) eNil)=(j6 (xbf call hs u rec1) 1 6 8 9 14 15):=by kernel_rfl
theorem x1fd:x1mk call hs u xt5 (j5 (x3a call hs u) 1 6 8 9 14) (setE 6 (j5 (x3a call hs u) 1 6 8 9 14) eNil)=(j6 (x3b call hs u NN) 1 6 8 9 14 15):=lp (Ln:=fun n=>j6 (x3b call hs u n) 1 6 8 9 14 15) (by kernel_rfl) rfl fun n=>(x1fc call hs u (x3b call hs u n)).trans (by kernel_rfl)
theorem x1fe:x1mk call hs u xt4 (j5 (x3a call hs u) 1 6 8 9 14) eNil=(j6 (x3b call hs u NN) 1 6 8 9 14 15):=bk (by kernel_rfl) (x1fd call hs u)
theorem x1ff:x1mk call hs u xt0 (j5 (x3a call hs u) 1 6 8 9 14) eNil=(j5 (xbg call hs u) 1 6 8 9 14):=(sqN 1 (by kernel_rfl) (x1fe call hs u)).trans (by kernel_rfl)
theorem x1fg:x1mk call hs u xj1 x23 eNil=(j5 (xbg call hs u) 1 6 8 9 14):=sq2 (by kernel_rfl) (x1fb call hs u) (x1ff call hs u)
theorem x1fh:x1mk call hs u xsz x23 eNil=(j4 (x3c call hs u) 1 6 8 9):=(sqN 1 (by kernel_rfl) (x1fg call hs u)).trans (by kernel_rfl)
theorem x1fi (rec2:AV→AV→AV→AV→AV→AV→Mem→Nat→O2):x1mk call hs u x1f3 (j6 rec2 1 2 6 8 9 13) (setE 4 (j4 (x3c call hs u) 1 6 8 9) eNil)=(j6 (xbh call hs u rec2) 1 2 6 8 9 13):=by kernel_rfl
theorem x1fj:x1mk call hs u xt7 (j4 (x3c call hs u) 1 6 8 9) (setE 4 (j4 (x3c call hs u) 1 6 8 9) eNil)=(j6 (x3d call hs u NN) 1 2 6 8 9 13):=lp (Ln:=fun n=>j6 (x3d call hs u n) 1 2 6 8 9 13) (by kernel_rfl) rfl fun n=>(x1fi call hs u (x3d call hs u n)).trans (by kernel_rfl)
theorem x1fk:x1mk call hs u xt6 (j4 (x3c call hs u) 1 6 8 9) eNil=(j6 (x3d call hs u NN) 1 2 6 8 9 13):=bk (by kernel_rfl) (x1fj call hs u)
theorem x1fl:x1mk call hs u xsy (j4 (x3c call hs u) 1 6 8 9) eNil=(j5 (x7 call hs u) 1 2 6 8 9):=(sqN 1 (by kernel_rfl) (x1fk call hs u)).trans (by kernel_rfl)
theorem x1fm:x1mk call hs u xj0 x23 eNil=(j5 (x7 call hs u) 1 2 6 8 9):=sq2 (by kernel_rfl) (x1fh call hs u) (x1fl call hs u)
theorem x1fn (rec3:AV→AV→AV→AV→AV→AV→AV→Mem→Nat→O2):x1mk call hs u x1f4 (j7 rec3 1 2 6 7 8 9 10) (setE 0 (j5 (x7 call hs u) 1 2 6 8 9) eNil)=(j7 (xo call hs u rec3) 1 2 6 7 8 9 10):=by kernel_rfl
theorem x1fo (rec3:AV→AV→AV→AV→AV→AV→AV→Mem→Nat→O2):x1mk call hs u x1f5 (j7 (xo call hs u rec3) 1 2 6 7 8 9 10) (setE 1 (j7 (xo call hs u rec3) 1 2 6 7 8 9 10) (setE 0 (j5 (x7 call hs u) 1 2 6 8 9) eNil))=(j7 (x18 call hs u rec3) 1 2 6 7 8 9 10):=by kernel_rfl
theorem x1fp (rec3:AV→AV→AV→AV→AV→AV→AV→Mem→Nat→O2) (rec4:AV→AV→AV→AV→AV→AV→AV→AV→Mem→Nat→O2):x1mk call hs u x1f7 (j8 rec4 1 2 6 7 8 9 10 11) (setE 2 (j7 (x18 call hs u rec3) 1 2 6 7 8 9 10) (setE 1 (j7 (xo call hs u rec3) 1 2 6 7 8 9 10) (setE 0 (j5 (x7 call hs u) 1 2 6 8 9) eNil)))=(j8 (x6n call hs u rec3 rec4) 1 2 6 7 8 9 10 11):=by kernel_rfl
theorem x1fq (rec3:AV→AV→AV→AV→AV→AV→AV→Mem→Nat→O2) (rec4:AV→AV→AV→AV→AV→AV→AV→AV→Mem→Nat→O2):x1mk call hs u x1f6 (j8 (x6n call hs u rec3 rec4) 1 2 6 7 8 9 10 11) (setE 2 (j7 (x18 call hs u rec3) 1 2 6 7 8 9 10) (setE 1 (j7 (xo call hs u rec3) 1 2 6 7 8 9 10) (setE 0 (j5 (x7 call hs u) 1 2 6 8 9) eNil)))=(j8 (x95 call hs u rec3 rec4) 1 2 6 7 8 9 10 11):=by kernel_rfl
theorem x1fr (rec3:AV→AV→AV→AV→AV→AV→AV→Mem→Nat→O2) (rec4:AV→AV→AV→AV→AV→AV→AV→AV→Mem→Nat→O2):x1mk call hs u xj4 (j8 rec4 1 2 6 7 8 9 10 11) (setE 2 (j7 (x18 call hs u rec3) 1 2 6 7 8 9 10) (setE 1 (j7 (xo call hs u rec3) 1 2 6 7 8 9 10) (setE 0 (j5 (x7 call hs u) 1 2 6 8 9) eNil)))=(j8 (x95 call hs u rec3 rec4) 1 2 6 7 8 9 10 11):=sq2 (by kernel_rfl) (x1fp call hs u rec3 rec4) (x1fq call hs u rec3 rec4)
theorem x1fs (rec3:AV→AV→AV→AV→AV→AV→AV→Mem→Nat→O2) (rec4:AV→AV→AV→AV→AV→AV→AV→AV→Mem→Nat→O2):x1mk call hs u xtg (j8 rec4 1 2 6 7 8 9 10 11) (setE 2 (j7 (x18 call hs u rec3) 1 2 6 7 8 9 10) (setE 1 (j7 (xo call hs u rec3) 1 2 6 7 8 9 10) (setE 0 (j5 (x7 call hs u) 1 2 6 8 9) eNil)))=(j8 (x96 call hs u rec3 rec4) 1 2 6 7 8 9 10 11):=(sqN 1 (by kernel_rfl) (x1fr call hs u rec3 rec4)).trans (by kernel_rfl)
theorem x1ft (rec3:AV→AV→AV→AV→AV→AV→AV→Mem→Nat→O2):x1mk call hs u xtf (j7 (x18 call hs u rec3) 1 2 6 7 8 9 10) (setE 2 (j7 (x18 call hs u rec3) 1 2 6 7 8 9 10) (setE 1 (j7 (xo call hs u rec3) 1 2 6 7 8 9 10) (setE 0 (j5 (x7 call hs u) 1 2 6 8 9) eNil)))=(j8 (x2i call hs u rec3 NN) 1 2 6 7 8 9 10 11):=lp (Ln:=fun n=>j8 (x2i call hs u rec3 n) 1 2 6 7 8 9 10 11) (by kernel_rfl) rfl fun n=>(x1fs call hs u rec3 (x2i call hs u rec3 n)).trans (by kernel_rfl)
theorem x1fu (rec3:AV→AV→AV→AV→AV→AV→AV→Mem→Nat→O2):x1mk call hs u xte (j7 (x18 call hs u rec3) 1 2 6 7 8 9 10) (setE 1 (j7 (xo call hs u rec3) 1 2 6 7 8 9 10) (setE 0 (j5 (x7 call hs u) 1 2 6 8 9) eNil))=(j8 (x2i call hs u rec3 NN) 1 2 6 7 8 9 10 11):=bk (by kernel_rfl) (x1ft call hs u rec3)
theorem x1fv (rec3:AV→AV→AV→AV→AV→AV→AV→Mem→Nat→O2):x1mk call hs u xtd (j7 (x18 call hs u rec3) 1 2 6 7 8 9 10) (setE 1 (j7 (xo call hs u rec3) 1 2 6 7 8 9 10) (setE 0 (j5 (x7 call hs u) 1 2 6 8 9) eNil))=(j7 (xbi call hs u rec3) 1 2 6 7 8 9 10):=(sqN 1 (by kernel_rfl) (x1fu call hs u rec3)).trans (by kernel_rfl)
theorem x1fw (rec3:AV→AV→AV→AV→AV→AV→AV→Mem→Nat→O2):x1mk call hs u xj3 (j7 (xo call hs u rec3) 1 2 6 7 8 9 10) (setE 1 (j7 (xo call hs u rec3) 1 2 6 7 8 9 10) (setE 0 (j5 (x7 call hs u) 1 2 6 8 9) eNil))=(j7 (xbi call hs u rec3) 1 2 6 7 8 9 10):=sq2 (by kernel_rfl) (x1fo call hs u rec3) (x1fv call hs u rec3)
theorem x1fx (rec3:AV→AV→AV→AV→AV→AV→AV→Mem→Nat→O2):x1mk call hs u xtc (j7 (xo call hs u rec3) 1 2 6 7 8 9 10) (setE 1 (j7 (xo call hs u rec3) 1 2 6 7 8 9 10) (setE 0 (j5 (x7 call hs u) 1 2 6 8 9) eNil))=(j6 (x97 call hs u rec3) 1 2 6 7 8 10):=(sqN 1 (by kernel_rfl) (x1fw call hs u rec3)).trans (by kernel_rfl)
theorem x1fy (rec3:AV→AV→AV→AV→AV→AV→AV→Mem→Nat→O2):x1mk call hs u xtb (j7 (xo call hs u rec3) 1 2 6 7 8 9 10) (setE 0 (j5 (x7 call hs u) 1 2 6 8 9) eNil)=(j6 (x97 call hs u rec3) 1 2 6 7 8 10):=bk (by kernel_rfl) (x1fx call hs u rec3)
theorem x1fz (rec3:AV→AV→AV→AV→AV→AV→AV→Mem→Nat→O2):x1mk call hs u xj2 (j7 rec3 1 2 6 7 8 9 10) (setE 0 (j5 (x7 call hs u) 1 2 6 8 9) eNil)=(j6 (x97 call hs u rec3) 1 2 6 7 8 10):=sq2 (by kernel_rfl) (x1fn call hs u rec3) (x1fy call hs u rec3)
theorem x1g0 (rec3:AV→AV→AV→AV→AV→AV→AV→Mem→Nat→O2):x1mk call hs u xta (j7 rec3 1 2 6 7 8 9 10) (setE 0 (j5 (x7 call hs u) 1 2 6 8 9) eNil)=(j7 (x98 call hs u rec3) 1 2 6 7 8 9 10):=(sqN 1 (by kernel_rfl) (x1fz call hs u rec3)).trans (by kernel_rfl)
theorem x1g1:x1mk call hs u xt9 (j5 (x7 call hs u) 1 2 6 8 9) (setE 0 (j5 (x7 call hs u) 1 2 6 8 9) eNil)=(j7 (xw call hs u NN) 1 2 6 7 8 9 10):=lp (Ln:=fun n=>j7 (xw call hs u n) 1 2 6 7 8 9 10) (by kernel_rfl) rfl fun n=>(x1g0 call hs u (xw call hs u n)).trans (by kernel_rfl)
theorem x1g2:x1mk call hs u xt8 (j5 (x7 call hs u) 1 2 6 8 9) eNil=(j7 (xw call hs u NN) 1 2 6 7 8 9 10):=bk (by kernel_rfl) (x1g1 call hs u)
theorem x1g3:x1mk call hs u xsx (j5 (x7 call hs u) 1 2 6 8 9) eNil=(j6 (xbj call hs u) 1 2 6 7 8 9):=(sqN 1 (by kernel_rfl) (x1g2 call hs u)).trans (by kernel_rfl)
theorem x1g4:x1mk call hs u xiz x23 eNil=(j6 (xbj call hs u) 1 2 6 7 8 9):=sq2 (by kernel_rfl) (x1fm call hs u) (x1g3 call hs u)
theorem x1g5:x1mk call hs u xsw x23 eNil=(j2 (xgh call hs u) 0 1):=(sqN 4 (by kernel_rfl) (x1g4 call hs u)).trans (by kernel_rfl)
theorem xz1:FL x3x x83:=le2 (fn:=Try.f83) (by kernel_rfl) (by kernel_rfl) (by kernel_rfl) (by kernel_rfl) (fun call hs t0 t1 m=>(congrFun (x1g5 call hs m.next) _).trans (by kernel_rfl)) (fun _ _ _ _ _ h=>by unfold x83 at h;split at h<;>first | exact ⟨_,_,rfl⟩ | cases h)
noncomputable abbrev xth:Fs→O2:=x1lu Try.prog [.tmp 4]
noncomputable abbrev x22x:=XK call { f:=x4u,u:=u,nt:=9,hs:=hs } xth
noncomputable def x1g6:=x1lv x4u
theorem x1g7:x22x call hs u x1g6 xth eNil=(j2 (xlf call hs u) 0 1):=by kernel_rfl
theorem xz2:FL x4u xeh:=le2 (fn:=Try.f84) (by kernel_rfl) (by kernel_rfl) (by kernel_rfl) (by kernel_rfl) (fun call hs t0 t1 m=>(congrFun (x1g7 call hs m.next) _).trans (by kernel_rfl)) (fun _ _ _ _ _ h=>by unfold xeh at h;split at h<;>first | exact ⟨_,_,rfl⟩ | cases h)
noncomputable abbrev xti:Fs→O2:=x1lu Try.prog [.tmp 2]
noncomputable abbrev x22y:=XK call { f:=x84,u:=u,nt:=6,hs:=hs } xti
noncomputable def x1g8:=x1lv x84
theorem x1g9:x22y call hs u x1g8 xti eNil=(j1 (xlg call hs u) 0):=by kernel_rfl
theorem xz3:FL x84 xei:=le1 (fn:=Try.f85) (by kernel_rfl) (by kernel_rfl) (by kernel_rfl) (by kernel_rfl) (fun call hs t0 m=>(congrFun (x1g9 call hs m.next) _).trans (by kernel_rfl)) (fun _ _ _ _ _ h=>by unfold xei at h;split at h<;>first | exact ⟨_,rfl⟩ | cases h)
noncomputable abbrev xtj:Fs→O2:=x1lu Try.prog [.tmp 2]
noncomputable abbrev x22z:=XK call { f:=x85,u:=u,nt:=8,hs:=hs } xtj
noncomputable def x1ga:=x1lv x85
theorem x1gb:x22z call hs u x1ga xtj eNil=(j1 (xlh call hs u) 0):=by kernel_rfl
theorem xz4:FL x85 xej:=le1 (fn:=Try.f86) (by kernel_rfl) (by kernel_rfl) (by kernel_rfl) (by kernel_rfl) (fun call hs t0 m=>(congrFun (x1gb call hs m.next) _).trans (by kernel_rfl)) (fun _ _ _ _ _ h=>by unfold xej at h;split at h<;>first | exact ⟨_,rfl⟩ | cases h)
noncomputable abbrev xtk:Fs→O2:=x1lu Try.prog [.tmp 2]
noncomputable abbrev x230:=XK call { f:=x2r,u:=u,nt:=5,hs:=hs } xtk
noncomputable def x1gc:=x1lv x2r
theorem x1gd:x230 call hs u x1gc xtk eNil=(j1 (xli call hs u) 0):=by kernel_rfl
theorem xx8:FL x2r xdg:=le1 (fn:=Try.f87) (by kernel_rfl) (by kernel_rfl) (by kernel_rfl) (by kernel_rfl) (fun call hs t0 m=>(congrFun (x1gd call hs m.next) _).trans (by kernel_rfl)) (fun _ _ _ _ _ h=>by unfold xdg at h;split at h<;>first | exact ⟨_,rfl⟩ | cases h)
noncomputable abbrev xd5:Fs→O2:=x1lu Try.prog [.tmp 4,.tmp 5]
noncomputable abbrev x1rr:=XK call { f:=x86,u:=u,nt:=76,hs:=hs } xd5
noncomputable def xtl:=x1lv x86
noncomputable def xj5:=nRs 3 xtl
noncomputable def xtm:=nL xj5
noncomputable def x1ge:=nR xj5
noncomputable def xtn:=nR xtm
noncomputable def xto:=nR xtn
noncomputable def x1gf:=nR xto
theorem x1gg:x1rr call hs u x1ge xd5 eNil=(j2 (x59 call hs u) 6 7):=by kernel_rfl
theorem x1gh (rec0:AV→AV→AV→AV→AV→AV→Mem→Nat→O2):x1rr call hs u x1gf (j6 rec0 1 6 7 23 24 25) (setE 0 (j2 (x59 call hs u) 6 7) eNil)=(j6 (xlj call hs u rec0) 1 6 7 23 24 25):=by kernel_rfl
theorem x1gi:x1rr call hs u xto (j2 (x59 call hs u) 6 7) (setE 0 (j2 (x59 call hs u) 6 7) eNil)=(j6 (x6o call hs u NN) 1 6 7 23 24 25):=lp (Ln:=fun n=>j6 (x6o call hs u n) 1 6 7 23 24 25) (by kernel_rfl) rfl fun n=>(x1gh call hs u (x6o call hs u n)).trans (by kernel_rfl)
theorem x1gj:x1rr call hs u xtn (j2 (x59 call hs u) 6 7) eNil=(j6 (x6o call hs u NN) 1 6 7 23 24 25):=bk (by kernel_rfl) (x1gi call hs u)
theorem x1gk:x1rr call hs u xtm (j2 (x59 call hs u) 6 7) eNil=(j4 (xgi call hs u) 1 2 6 7):=(sqN 1 (by kernel_rfl) (x1gj call hs u)).trans (by kernel_rfl)
theorem x1gl:x1rr call hs u xj5 xd5 eNil=(j4 (xgi call hs u) 1 2 6 7):=sq2 (by kernel_rfl) (x1gg call hs u) (x1gk call hs u)
theorem x1gm:x1rr call hs u xtl xd5 eNil=(j2 (xlk call hs u) 0 1):=(sqN 3 (by kernel_rfl) (x1gl call hs u)).trans (by kernel_rfl)
theorem xz5:FL x86 xek:=le2 (fn:=Try.f88) (by kernel_rfl) (by kernel_rfl) (by kernel_rfl) (by kernel_rfl) (fun call hs t0 t1 m=>(congrFun (x1gm call hs m.next) _).trans (by kernel_rfl)) (fun _ _ _ _ _ h=>by unfold xek at h;split at h<;>first | exact ⟨_,_,rfl⟩ | cases h)
noncomputable abbrev xtp:Fs→O2:=x1lu Try.prog [.tmp 4]
noncomputable abbrev x231:=XK call { f:=x87,u:=u,nt:=20,hs:=hs } xtp
noncomputable def x1gn:=x1lv x87
theorem x1go:x231 call hs u x1gn xtp eNil=(j2 (xll call hs u) 0 1):=by kernel_rfl
theorem xz6:FL x87 xel:=le2 (fn:=Try.f89) (by kernel_rfl) (by kernel_rfl) (by kernel_rfl) (by kernel_rfl) (fun call hs t0 t1 m=>(congrFun (x1go call hs m.next) _).trans (by kernel_rfl)) (fun _ _ _ _ _ h=>by unfold xel at h;split at h<;>first | exact ⟨_,_,rfl⟩ | cases h)
noncomputable abbrev xtq:Fs→O2:=x1lu Try.prog [.tmp 6]
noncomputable abbrev x232:=XK call { f:=x88,u:=u,nt:=38,hs:=hs } xtq
noncomputable def x1gp:=x1lv x88
theorem x1gq:x232 call hs u x1gp xtq eNil=(j3 (xlm call hs u) 0 1 2):=by kernel_rfl
theorem xz7:FL x88 xem:=le3 (fn:=Try.f90) (by kernel_rfl) (by kernel_rfl) (by kernel_rfl) (by kernel_rfl) (fun call hs t0 t1 t2 m=>(congrFun (x1gq call hs m.next) _).trans (by kernel_rfl)) (fun _ _ _ _ _ h=>by unfold xem at h;split at h<;>first | exact ⟨_,_,_,rfl⟩ | cases h)
noncomputable abbrev xd6:Fs→O2:=x1lu Try.prog [.tmp 2]
noncomputable abbrev x1uo:=XK call { f:=x4q,u:=u,nt:=12,hs:=hs } xd6
noncomputable def xtr:=x1lv x4q
noncomputable def xj6:=nRs 2 xtr
noncomputable def x1gr:=nL xj6
noncomputable def x1gs:=nR xj6
theorem x1gt:x1uo call hs u x1gs xd6 eNil=(j1 (xbk call hs u) 0):=by kernel_rfl
theorem x1gu:x1uo call hs u x1gr (j1 (xbk call hs u) 0) eNil=(j1 (xgj call hs u) 0):=by kernel_rfl
theorem x1gv:x1uo call hs u xj6 xd6 eNil=(j1 (xgj call hs u) 0):=sq2 (by kernel_rfl) (x1gt call hs u) (x1gu call hs u)
theorem x1gw:x1uo call hs u xtr xd6 eNil=(j1 (xln call hs u) 0):=(sqN 2 (by kernel_rfl) (x1gv call hs u)).trans (by kernel_rfl)
theorem xx7:FL x4q xdf:=le1 (fn:=Try.f91) (by kernel_rfl) (by kernel_rfl) (by kernel_rfl) (by kernel_rfl) (fun call hs t0 m=>(congrFun (x1gw call hs m.next) _).trans (by kernel_rfl)) (fun _ _ _ _ _ h=>by unfold xdf at h;split at h<;>first | exact ⟨_,rfl⟩ | cases h)
noncomputable abbrev xts:Fs→O2:=x1lu Try.prog [.tmp 6]
noncomputable abbrev x233:=XK call { f:=x89,u:=u,nt:=29,hs:=hs } xts
noncomputable def x1gx:=x1lv x89
theorem x1gy:x233 call hs u x1gx xts eNil=(j3 (xlo call hs u) 0 1 2):=by kernel_rfl
theorem xz8:FL x89 xen:=le3 (fn:=Try.f92) (by kernel_rfl) (by kernel_rfl) (by kernel_rfl) (by kernel_rfl) (fun call hs t0 t1 t2 m=>(congrFun (x1gy call hs m.next) _).trans (by kernel_rfl)) (fun _ _ _ _ _ h=>by unfold xen at h;split at h<;>first | exact ⟨_,_,_,rfl⟩ | cases h)
noncomputable abbrev xtt:Fs→O2:=x1lu Try.prog [.tmp 6]
noncomputable abbrev x234:=XK call { f:=x5s,u:=u,nt:=27,hs:=hs } xtt
noncomputable def x1gz:=x1lv x5s
theorem x1h0:x234 call hs u x1gz xtt eNil=(j3 (xlp call hs u) 0 1 2):=by kernel_rfl
theorem xz9:FL x5s xeo:=le3 (fn:=Try.f93) (by kernel_rfl) (by kernel_rfl) (by kernel_rfl) (by kernel_rfl) (fun call hs t0 t1 t2 m=>(congrFun (x1h0 call hs m.next) _).trans (by kernel_rfl)) (fun _ _ _ _ _ h=>by unfold xeo at h;split at h<;>first | exact ⟨_,_,_,rfl⟩ | cases h)
noncomputable abbrev xd7:Fs→O2:=x1lu Try.prog [.tmp 4]
noncomputable abbrev x1pv:=XK call { f:=x8a,u:=u,nt:=29,hs:=hs } xd7
noncomputable def xtu:=x1lv x8a
noncomputable def xj7:=nRs 2 xtu
noncomputable def xtv:=nL xj7
noncomputable def x1h1:=nR xj7
noncomputable def xtw:=nR xtv
noncomputable def xtx:=nR xtw
noncomputable def xty:=nR xtx
noncomputable def xj8:=nRs 2 xty
noncomputable def x1h2:=nL xj8
noncomputable def x1h3:=nR xj8
theorem x1h4:x1pv call hs u x1h1 xd7 eNil=(j1 (x2j call hs u) 5):=by kernel_rfl
theorem x1h5 (rec0:AV→AV→AV→AV→AV→Mem→Nat→O2):x1pv call hs u x1h3 (j5 rec0 1 5 10 11 12) (setE 0 (j1 (x2j call hs u) 5) eNil)=(j5 (xbl call hs u rec0) 1 5 10 11 12):=by kernel_rfl
theorem x1h6 (rec0:AV→AV→AV→AV→AV→Mem→Nat→O2):x1pv call hs u x1h2 (j5 (xbl call hs u rec0) 1 5 10 11 12) (setE 0 (j1 (x2j call hs u) 5) eNil)=(j5 (xgk call hs u rec0) 1 5 10 11 12):=by kernel_rfl
theorem x1h7 (rec0:AV→AV→AV→AV→AV→Mem→Nat→O2):x1pv call hs u xj8 (j5 rec0 1 5 10 11 12) (setE 0 (j1 (x2j call hs u) 5) eNil)=(j5 (xgk call hs u rec0) 1 5 10 11 12):=sq2 (by kernel_rfl) (x1h5 call hs u rec0) (x1h6 call hs u rec0)
theorem x1h8 (rec0:AV→AV→AV→AV→AV→Mem→Nat→O2):x1pv call hs u xty (j5 rec0 1 5 10 11 12) (setE 0 (j1 (x2j call hs u) 5) eNil)=(j5 (xlq call hs u rec0) 1 5 10 11 12):=(sqN 2 (by kernel_rfl) (x1h7 call hs u rec0)).trans (by kernel_rfl)
theorem x1h9:x1pv call hs u xtx (j1 (x2j call hs u) 5) (setE 0 (j1 (x2j call hs u) 5) eNil)=(j5 (x6p call hs u NN) 1 5 10 11 12):=lp (Ln:=fun n=>j5 (x6p call hs u n) 1 5 10 11 12) (by kernel_rfl) rfl fun n=>(x1h8 call hs u (x6p call hs u n)).trans (by kernel_rfl)
theorem x1ha:x1pv call hs u xtw (j1 (x2j call hs u) 5) eNil=(j5 (x6p call hs u NN) 1 5 10 11 12):=bk (by kernel_rfl) (x1h9 call hs u)
theorem x1hb:x1pv call hs u xtv (j1 (x2j call hs u) 5) eNil=(j3 (xgl call hs u) 1 2 5):=(sqN 1 (by kernel_rfl) (x1ha call hs u)).trans (by kernel_rfl)
theorem x1hc:x1pv call hs u xj7 xd7 eNil=(j3 (xgl call hs u) 1 2 5):=sq2 (by kernel_rfl) (x1h4 call hs u) (x1hb call hs u)
theorem x1hd:x1pv call hs u xtu xd7 eNil=(j2 (xlr call hs u) 0 1):=(sqN 2 (by kernel_rfl) (x1hc call hs u)).trans (by kernel_rfl)
theorem xza:FL x8a xep:=le2 (fn:=Try.f95) (by kernel_rfl) (by kernel_rfl) (by kernel_rfl) (by kernel_rfl) (fun call hs t0 t1 m=>(congrFun (x1hd call hs m.next) _).trans (by kernel_rfl)) (fun _ _ _ _ _ h=>by unfold xep at h;split at h<;>first | exact ⟨_,_,rfl⟩ | cases h)
noncomputable abbrev xtz:Fs→O2:=x1lu Try.prog [.tmp 4]
noncomputable abbrev x235:=XK call { f:=x4r,u:=u,nt:=19,hs:=hs } xtz
noncomputable def x1he:=x1lv x4r
theorem x1hf:x235 call hs u x1he xtz eNil=(j2 (xgm call hs u) 0 1):=by kernel_rfl
theorem xx9:FL x4r x79:=le2 (fn:=Try.f97) (by kernel_rfl) (by kernel_rfl) (by kernel_rfl) (by kernel_rfl) (fun call hs t0 t1 m=>(congrFun (x1hf call hs m.next) _).trans (by kernel_rfl)) (fun _ _ _ _ _ h=>by unfold x79 at h;split at h<;>first | exact ⟨_,_,rfl⟩ | cases h)
noncomputable abbrev xd8:Fs→O2:=x1lu Try.prog [.tmp 4]
noncomputable abbrev x1up:=XK call { f:=x8b,u:=u,nt:=14,hs:=hs } xd8
noncomputable def xu0:=x1lv x8b
noncomputable def xj9:=nRs 2 xu0
noncomputable def x1hg:=nL xj9
noncomputable def x1hh:=nR xj9
theorem x1hi:x1up call hs u x1hh xd8 eNil=(j1 (xbm call hs u) 0):=by kernel_rfl
theorem x1hj:x1up call hs u x1hg (j1 (xbm call hs u) 0) eNil=(j2 (xgn call hs u) 0 1):=by kernel_rfl
theorem x1hk:x1up call hs u xj9 xd8 eNil=(j2 (xgn call hs u) 0 1):=sq2 (by kernel_rfl) (x1hi call hs u) (x1hj call hs u)
theorem x1hl:x1up call hs u xu0 xd8 eNil=(j2 (xls call hs u) 0 1):=(sqN 2 (by kernel_rfl) (x1hk call hs u)).trans (by kernel_rfl)
theorem xzb:FL x8b xeq:=le2 (fn:=Try.f99) (by kernel_rfl) (by kernel_rfl) (by kernel_rfl) (by kernel_rfl) (fun call hs t0 t1 m=>(congrFun (x1hl call hs m.next) _).trans (by kernel_rfl)) (fun _ _ _ _ _ h=>by unfold xeq at h;split at h<;>first | exact ⟨_,_,rfl⟩ | cases h)
noncomputable abbrev xu1:Fs→O2:=x1lu Try.prog [.tmp 4]
noncomputable abbrev x236:=XK call { f:=x8c,u:=u,nt:=19,hs:=hs } xu1
noncomputable def x1hm:=x1lv x8c
theorem x1hn:x236 call hs u x1hm xu1 eNil=(j2 (xlt call hs u) 0 1):=by kernel_rfl
theorem xzc:FL x8c xer:=le2 (fn:=Try.f100) (by kernel_rfl) (by kernel_rfl) (by kernel_rfl) (by kernel_rfl) (fun call hs t0 t1 m=>(congrFun (x1hn call hs m.next) _).trans (by kernel_rfl)) (fun _ _ _ _ _ h=>by unfold xer at h;split at h<;>first | exact ⟨_,_,rfl⟩ | cases h)
noncomputable abbrev xu2:Fs→O2:=x1lu Try.prog [.tmp 3]
noncomputable abbrev x237:=XK call { f:=x8d,u:=u,nt:=15,hs:=hs } xu2
noncomputable def x1ho:=x1lv x8d
theorem x1hp:x237 call hs u x1ho xu2 eNil=(j2 (xlu call hs u) 0 1):=by kernel_rfl
theorem xzd:FL x8d xes:=le2 (fn:=Try.f101) (by kernel_rfl) (by kernel_rfl) (by kernel_rfl) (by kernel_rfl) (fun call hs t0 t1 m=>(congrFun (x1hp call hs m.next) _).trans (by kernel_rfl)) (fun _ _ _ _ _ h=>by unfold xes at h;split at h<;>first | exact ⟨_,_,rfl⟩ | cases h)
noncomputable abbrev xd9:Fs→O2:=x1lu Try.prog [.tmp 2,.tmp 3]
noncomputable abbrev x1rs:=XK call { f:=x3y,u:=u,nt:=62,hs:=hs } xd9
noncomputable def xu3:=x1lv x3y
noncomputable def xja:=nRs 2 xu3
noncomputable def xu4:=nL xja
noncomputable def x1hq:=nR xja
noncomputable def xu5:=nR xu4
noncomputable def xu6:=nR xu5
noncomputable def x1hr:=nR xu6
theorem x1hs:x1rs call hs u x1hq xd9 eNil=(j0 (x4h call hs u)):=by kernel_rfl
theorem x1ht (rec0:AV→AV→AV→AV→Mem→Nat→O2):x1rs call hs u x1hr (j4 rec0 1 17 18 19) (setE 1 (j0 (x4h call hs u)) eNil)=(j4 (xbn call hs u rec0) 1 17 18 19):=by kernel_rfl
theorem x1hu:x1rs call hs u xu6 (j0 (x4h call hs u)) (setE 1 (j0 (x4h call hs u)) eNil)=(j4 (x3e call hs u NN) 1 17 18 19):=lp (Ln:=fun n=>j4 (x3e call hs u n) 1 17 18 19) (by kernel_rfl) rfl fun n=>(x1ht call hs u (x3e call hs u n)).trans (by kernel_rfl)
theorem x1hv:x1rs call hs u xu5 (j0 (x4h call hs u)) eNil=(j4 (x3e call hs u NN) 1 17 18 19):=bk (by kernel_rfl) (x1hu call hs u)
theorem x1hw:x1rs call hs u xu4 (j0 (x4h call hs u)) eNil=(j1 (xbo call hs u) 1):=(sqN 1 (by kernel_rfl) (x1hv call hs u)).trans (by kernel_rfl)
theorem x1hx:x1rs call hs u xja xd9 eNil=(j1 (xbo call hs u) 1):=sq2 (by kernel_rfl) (x1hs call hs u) (x1hw call hs u)
theorem x1hy:x1rs call hs u xu3 xd9 eNil=(j1 (xgo call hs u) 0):=(sqN 2 (by kernel_rfl) (x1hx call hs u)).trans (by kernel_rfl)
theorem xze:FL x3y x8e:=le1 (fn:=Try.f102) (by kernel_rfl) (by kernel_rfl) (by kernel_rfl) (by kernel_rfl) (fun call hs t0 m=>(congrFun (x1hy call hs m.next) _).trans (by kernel_rfl)) (fun _ _ _ _ _ h=>by unfold x8e at h;split at h<;>first | exact ⟨_,rfl⟩ | cases h)
noncomputable abbrev xda:Fs→O2:=x1lu Try.prog [.tmp 2]
noncomputable abbrev x1oi:=XK call { f:=x3z,u:=u,nt:=132,hs:=hs } xda
noncomputable def xu7:=x1lv x3z
noncomputable def xjb:=nRs 2 xu7
noncomputable def xu8:=nL xjb
noncomputable def x1hz:=nR xjb
noncomputable def xu9:=nR xu8
noncomputable def xua:=nR xu9
noncomputable def xub:=nR xua
noncomputable def xjc:=nRs 2 xub
noncomputable def xuc:=nL xjc
noncomputable def x1i0:=nR xjc
noncomputable def xud:=nR xuc
noncomputable def xjd:=nR xud
noncomputable def x1i1:=nL xjd
noncomputable def x1i2:=nR xjd
theorem x1i3:x1oi call hs u x1hz xda eNil=(j1 (xx call hs u) 3):=by kernel_rfl
theorem x1i4 (rec0:AV→AV→AV→AV→Mem→Nat→O2):x1oi call hs u x1i0 (j4 rec0 3 28 29 30) (setE 0 (j1 (xx call hs u) 3) eNil)=(j4 (x1y call hs u rec0) 3 28 29 30):=by kernel_rfl
theorem x1i5 (rec0:AV→AV→AV→AV→Mem→Nat→O2):x1oi call hs u x1i2 (j4 (x1y call hs u rec0) 3 28 29 30) (setE 1 (j4 (x1y call hs u rec0) 3 28 29 30) (setE 0 (j1 (xx call hs u) 3) eNil))=(j6 (x4i call hs u rec0) 3 4 5 28 29 30):=by kernel_rfl
theorem x1i6 (rec0:AV→AV→AV→AV→Mem→Nat→O2):x1oi call hs u x1i1 (j6 (x4i call hs u rec0) 3 4 5 28 29 30) (setE 1 (j4 (x1y call hs u rec0) 3 28 29 30) (setE 0 (j1 (xx call hs u) 3) eNil))=(j6 (xbp call hs u rec0) 3 4 5 28 29 30):=by kernel_rfl
theorem x1i7 (rec0:AV→AV→AV→AV→Mem→Nat→O2):x1oi call hs u xjd (j4 (x1y call hs u rec0) 3 28 29 30) (setE 1 (j4 (x1y call hs u rec0) 3 28 29 30) (setE 0 (j1 (xx call hs u) 3) eNil))=(j6 (xbp call hs u rec0) 3 4 5 28 29 30):=sq2 (by kernel_rfl) (x1i5 call hs u rec0) (x1i6 call hs u rec0)
theorem x1i8 (rec0:AV→AV→AV→AV→Mem→Nat→O2):x1oi call hs u xud (j4 (x1y call hs u rec0) 3 28 29 30) (setE 1 (j4 (x1y call hs u rec0) 3 28 29 30) (setE 0 (j1 (xx call hs u) 3) eNil))=(j4 (x99 call hs u rec0) 3 28 29 30):=(sqN 1 (by kernel_rfl) (x1i7 call hs u rec0)).trans (by kernel_rfl)
theorem x1i9 (rec0:AV→AV→AV→AV→Mem→Nat→O2):x1oi call hs u xuc (j4 (x1y call hs u rec0) 3 28 29 30) (setE 0 (j1 (xx call hs u) 3) eNil)=(j4 (x99 call hs u rec0) 3 28 29 30):=bk (by kernel_rfl) (x1i8 call hs u rec0)
theorem x1ia (rec0:AV→AV→AV→AV→Mem→Nat→O2):x1oi call hs u xjc (j4 rec0 3 28 29 30) (setE 0 (j1 (xx call hs u) 3) eNil)=(j4 (x99 call hs u rec0) 3 28 29 30):=sq2 (by kernel_rfl) (x1i4 call hs u rec0) (x1i9 call hs u rec0)
theorem x1ib (rec0:AV→AV→AV→AV→Mem→Nat→O2):x1oi call hs u xub (j4 rec0 3 28 29 30) (setE 0 (j1 (xx call hs u) 3) eNil)=(j4 (xbq call hs u rec0) 3 28 29 30):=(sqN 2 (by kernel_rfl) (x1ia call hs u rec0)).trans (by kernel_rfl)
theorem x1ic:x1oi call hs u xua (j1 (xx call hs u) 3) (setE 0 (j1 (xx call hs u) 3) eNil)=(j4 (x1z call hs u NN) 3 28 29 30):=lp (Ln:=fun n=>j4 (x1z call hs u n) 3 28 29 30) (by kernel_rfl) rfl fun n=>(x1ib call hs u (x1z call hs u n)).trans (by kernel_rfl)
theorem x1id:x1oi call hs u xu9 (j1 (xx call hs u) 3) eNil=(j4 (x1z call hs u NN) 3 28 29 30):=bk (by kernel_rfl) (x1ic call hs u)
theorem x1ie:x1oi call hs u xu8 (j1 (xx call hs u) 3) eNil=(j2 (xbr call hs u) 1 3):=(sqN 1 (by kernel_rfl) (x1id call hs u)).trans (by kernel_rfl)
theorem x1if:x1oi call hs u xjb xda eNil=(j2 (xbr call hs u) 1 3):=sq2 (by kernel_rfl) (x1i3 call hs u) (x1ie call hs u)
theorem x1ig:x1oi call hs u xu7 xda eNil=(j1 (xgp call hs u) 0):=(sqN 2 (by kernel_rfl) (x1if call hs u)).trans (by kernel_rfl)
theorem xzf:FL x3z x8f:=le1 (fn:=Try.f103) (by kernel_rfl) (by kernel_rfl) (by kernel_rfl) (by kernel_rfl) (fun call hs t0 m=>(congrFun (x1ig call hs m.next) _).trans (by kernel_rfl)) (fun _ _ _ _ _ h=>by unfold x8f at h;split at h<;>first | exact ⟨_,rfl⟩ | cases h)
noncomputable abbrev xdb:Fs→O2:=x1lu Try.prog [.tmp 4]
noncomputable abbrev x1rt:=XK call { f:=x3o,u:=u,nt:=19,hs:=hs } xdb
noncomputable def xue:=x1lv x3o
noncomputable def xje:=nR xue
noncomputable def xuf:=nL xje
noncomputable def x1ih:=nR xje
noncomputable def xug:=nR xuf
noncomputable def xuh:=nR xug
noncomputable def x1ii:=nR xuh
theorem x1ij:x1rt call hs u x1ih xdb eNil=(j0 (x4j call hs u)):=by kernel_rfl
theorem x1ik (rec0:AV→AV→AV→AV→Mem→Nat→O2):x1rt call hs u x1ii (j4 rec0 0 1 7 8) (setE 0 (j0 (x4j call hs u)) eNil)=(j4 (x9a call hs u rec0) 0 1 7 8):=by kernel_rfl
theorem x1il:x1rt call hs u xuh (j0 (x4j call hs u)) (setE 0 (j0 (x4j call hs u)) eNil)=(j4 (x2k call hs u NN) 0 1 7 8):=lp (Ln:=fun n=>j4 (x2k call hs u n) 0 1 7 8) (by kernel_rfl) rfl fun n=>(x1ik call hs u (x2k call hs u n)).trans (by kernel_rfl)
theorem x1im:x1rt call hs u xug (j0 (x4j call hs u)) eNil=(j4 (x2k call hs u NN) 0 1 7 8):=bk (by kernel_rfl) (x1il call hs u)
theorem x1in:x1rt call hs u xuf (j0 (x4j call hs u)) eNil=(j2 (xbs call hs u) 0 1):=(sqN 1 (by kernel_rfl) (x1im call hs u)).trans (by kernel_rfl)
theorem x1io:x1rt call hs u xje xdb eNil=(j2 (xbs call hs u) 0 1):=sq2 (by kernel_rfl) (x1ij call hs u) (x1in call hs u)
theorem x1ip:x1rt call hs u xue xdb eNil=(j2 (xgq call hs u) 0 1):=(sqN 1 (by kernel_rfl) (x1io call hs u)).trans (by kernel_rfl)
theorem xxb:FL x3o x7b:=le2 (fn:=Try.f104) (by kernel_rfl) (by kernel_rfl) (by kernel_rfl) (by kernel_rfl) (fun call hs t0 t1 m=>(congrFun (x1ip call hs m.next) _).trans (by kernel_rfl)) (fun _ _ _ _ _ h=>by unfold x7b at h;split at h<;>first | exact ⟨_,_,rfl⟩ | cases h)
noncomputable abbrev xui:Fs→O2:=x1lu Try.prog [.tmp 2]
noncomputable abbrev x238:=XK call { f:=x25,u:=u,nt:=5,hs:=hs } xui
noncomputable def x1iq:=x1lv x25
theorem x1ir:x238 call hs u x1iq xui eNil=(j1 (xgr call hs u) 0):=by kernel_rfl
theorem xxc:FL x25 x7c:=le1 (fn:=Try.f105) (by kernel_rfl) (by kernel_rfl) (by kernel_rfl) (by kernel_rfl) (fun call hs t0 m=>(congrFun (x1ir call hs m.next) _).trans (by kernel_rfl)) (fun _ _ _ _ _ h=>by unfold x7c at h;split at h<;>first | exact ⟨_,rfl⟩ | cases h)
noncomputable abbrev x24:Fs→O2:=x1lu Try.prog []
noncomputable abbrev x1nb:=XK call { f:=x40,u:=u,nt:=160,hs:=hs } x24
noncomputable def xuj:=x1lv x40
noncomputable def xjf:=nRs 2 xuj
noncomputable def xuk:=nL xjf
noncomputable def xul:=nR xjf
noncomputable def xjg:=nR xul
noncomputable def xum:=nL xjg
noncomputable def xjh:=nR xjg
noncomputable def xun:=nL xjh
noncomputable def xuo:=nR xjh
noncomputable def xup:=nRs 3 xuo
noncomputable def xuq:=nR xup
noncomputable def x1is:=nR xuq
noncomputable def xur:=nR xun
noncomputable def xus:=nR xur
noncomputable def x1it:=nR xus
noncomputable def xut:=nR xum
noncomputable def xuu:=nR xut
noncomputable def x1iu:=nR xuu
noncomputable def xuv:=nR xuk
noncomputable def xuw:=nR xuv
noncomputable def xux:=nR xuw
noncomputable def xji:=nRs 2 xux
noncomputable def x1iv:=nL xji
noncomputable def x1iw:=nR xji
theorem x1ix (rec0:AV→AV→AV→AV→AV→AV→Mem→Nat→O2):x1nb call hs u x1is (j6 rec0 0 4 5 136 137 138) (setE 6 x24 eNil)=(j6 (xbt call hs u rec0) 0 4 5 136 137 138):=by kernel_rfl
theorem x1iy:x1nb call hs u xuq x24 (setE 6 x24 eNil)=(j6 (x3f call hs u NN) 0 4 5 136 137 138):=lp (Ln:=fun n=>j6 (x3f call hs u n) 0 4 5 136 137 138) (by kernel_rfl) rfl fun n=>(x1ix call hs u (x3f call hs u n)).trans (by kernel_rfl)
theorem x1iz:x1nb call hs u xup x24 eNil=(j6 (x3f call hs u NN) 0 4 5 136 137 138):=bk (by kernel_rfl) (x1iy call hs u)
theorem x1j0:x1nb call hs u xuo x24 eNil=(j5 (x3g call hs u) 0 1 4 5 8):=(sqN 3 (by kernel_rfl) (x1iz call hs u)).trans (by kernel_rfl)
theorem x1j1 (rec1:AV→AV→AV→AV→AV→AV→Mem→Nat→O2):x1nb call hs u x1it (j6 rec1 0 1 4 5 8 10) (setE 4 (j5 (x3g call hs u) 0 1 4 5 8) eNil)=(j6 (xbu call hs u rec1) 0 1 4 5 8 10):=by kernel_rfl
theorem x1j2:x1nb call hs u xus (j5 (x3g call hs u) 0 1 4 5 8) (setE 4 (j5 (x3g call hs u) 0 1 4 5 8) eNil)=(j6 (x3h call hs u NN) 0 1 4 5 8 10):=lp (Ln:=fun n=>j6 (x3h call hs u n) 0 1 4 5 8 10) (by kernel_rfl) rfl fun n=>(x1j1 call hs u (x3h call hs u n)).trans (by kernel_rfl)
theorem x1j3:x1nb call hs u xur (j5 (x3g call hs u) 0 1 4 5 8) eNil=(j6 (x3h call hs u NN) 0 1 4 5 8 10):=bk (by kernel_rfl) (x1j2 call hs u)
theorem x1j4:x1nb call hs u xun (j5 (x3g call hs u) 0 1 4 5 8) eNil=(j5 (x2l call hs u) 0 1 4 5 8):=(sqN 1 (by kernel_rfl) (x1j3 call hs u)).trans (by kernel_rfl)
theorem x1j5:x1nb call hs u xjh x24 eNil=(j5 (x2l call hs u) 0 1 4 5 8):=sq2 (by kernel_rfl) (x1j0 call hs u) (x1j4 call hs u)
theorem x1j6 (rec2:AV→AV→AV→AV→AV→AV→Mem→Nat→O2):x1nb call hs u x1iu (j6 rec2 0 1 4 5 8 9) (setE 2 (j5 (x2l call hs u) 0 1 4 5 8) eNil)=(j6 (xbv call hs u rec2) 0 1 4 5 8 9):=by kernel_rfl
theorem x1j7:x1nb call hs u xuu (j5 (x2l call hs u) 0 1 4 5 8) (setE 2 (j5 (x2l call hs u) 0 1 4 5 8) eNil)=(j6 (x3i call hs u NN) 0 1 4 5 8 9):=lp (Ln:=fun n=>j6 (x3i call hs u n) 0 1 4 5 8 9) (by kernel_rfl) rfl fun n=>(x1j6 call hs u (x3i call hs u n)).trans (by kernel_rfl)
theorem x1j8:x1nb call hs u xut (j5 (x2l call hs u) 0 1 4 5 8) eNil=(j6 (x3i call hs u NN) 0 1 4 5 8 9):=bk (by kernel_rfl) (x1j7 call hs u)
theorem x1j9:x1nb call hs u xum (j5 (x2l call hs u) 0 1 4 5 8) eNil=(j5 (xbw call hs u) 0 1 4 5 8):=(sqN 1 (by kernel_rfl) (x1j8 call hs u)).trans (by kernel_rfl)
theorem x1ja:x1nb call hs u xjg x24 eNil=(j5 (xbw call hs u) 0 1 4 5 8):=sq2 (by kernel_rfl) (x1j5 call hs u) (x1j9 call hs u)
theorem x1jb:x1nb call hs u xul x24 eNil=(j4 (x1i call hs u) 0 1 4 5):=(sqN 1 (by kernel_rfl) (x1ja call hs u)).trans (by kernel_rfl)
theorem x1jc (rec3:AV→AV→AV→AV→AV→AV→AV→Mem→Nat→O2):x1nb call hs u x1iw (j7 rec3 0 1 4 5 17 18 19) (setE 0 (j4 (x1i call hs u) 0 1 4 5) eNil)=(j7 (x3j call hs u rec3) 0 1 4 5 17 18 19):=by kernel_rfl
theorem x1jd (rec3:AV→AV→AV→AV→AV→AV→AV→Mem→Nat→O2):x1nb call hs u x1iv (j7 (x3j call hs u rec3) 0 1 4 5 17 18 19) (setE 0 (j4 (x1i call hs u) 0 1 4 5) eNil)=(j7 (x9b call hs u rec3) 0 1 4 5 17 18 19):=by kernel_rfl
theorem x1je (rec3:AV→AV→AV→AV→AV→AV→AV→Mem→Nat→O2):x1nb call hs u xji (j7 rec3 0 1 4 5 17 18 19) (setE 0 (j4 (x1i call hs u) 0 1 4 5) eNil)=(j7 (x9b call hs u rec3) 0 1 4 5 17 18 19):=sq2 (by kernel_rfl) (x1jc call hs u rec3) (x1jd call hs u rec3)
theorem x1jf (rec3:AV→AV→AV→AV→AV→AV→AV→Mem→Nat→O2):x1nb call hs u xux (j7 rec3 0 1 4 5 17 18 19) (setE 0 (j4 (x1i call hs u) 0 1 4 5) eNil)=(j7 (x9c call hs u rec3) 0 1 4 5 17 18 19):=(sqN 2 (by kernel_rfl) (x1je call hs u rec3)).trans (by kernel_rfl)
theorem x1jg:x1nb call hs u xuw (j4 (x1i call hs u) 0 1 4 5) (setE 0 (j4 (x1i call hs u) 0 1 4 5) eNil)=(j7 (x2m call hs u NN) 0 1 4 5 17 18 19):=lp (Ln:=fun n=>j7 (x2m call hs u n) 0 1 4 5 17 18 19) (by kernel_rfl) rfl fun n=>(x1jf call hs u (x2m call hs u n)).trans (by kernel_rfl)
theorem x1jh:x1nb call hs u xuv (j4 (x1i call hs u) 0 1 4 5) eNil=(j7 (x2m call hs u NN) 0 1 4 5 17 18 19):=bk (by kernel_rfl) (x1jg call hs u)
theorem x1ji:x1nb call hs u xuk (j4 (x1i call hs u) 0 1 4 5) eNil=(j4 (xbx call hs u) 0 1 4 5):=(sqN 1 (by kernel_rfl) (x1jh call hs u)).trans (by kernel_rfl)
theorem x1jj:x1nb call hs u xjf x24 eNil=(j4 (xbx call hs u) 0 1 4 5):=sq2 (by kernel_rfl) (x1jb call hs u) (x1ji call hs u)
theorem x1jk:x1nb call hs u xuj x24 eNil=(j2 (xgs call hs u) 0 1):=(sqN 2 (by kernel_rfl) (x1jj call hs u)).trans (by kernel_rfl)
theorem xzg:FL x40 x8g:=le2 (fn:=Try.f106) (by kernel_rfl) (by kernel_rfl) (by kernel_rfl) (by kernel_rfl) (fun call hs t0 t1 m=>(congrFun (x1jk call hs m.next) _).trans (by kernel_rfl)) (fun _ _ _ _ _ h=>by unfold x8g at h;split at h<;>first | exact ⟨_,_,rfl⟩ | cases h)
noncomputable abbrev xuy:Fs→O2:=x1lu Try.prog [.tmp 2]
noncomputable abbrev x239:=XK call { f:=x2s,u:=u,nt:=7,hs:=hs } xuy
noncomputable def x1jl:=x1lv x2s
theorem x1jm:x239 call hs u x1jl xuy eNil=(j1 (xgt call hs u) 0):=by kernel_rfl
theorem xxa:FL x2s x7a:=le1 (fn:=Try.f107) (by kernel_rfl) (by kernel_rfl) (by kernel_rfl) (by kernel_rfl) (fun call hs t0 m=>(congrFun (x1jm call hs m.next) _).trans (by kernel_rfl)) (fun _ _ _ _ _ h=>by unfold x7a at h;split at h<;>first | exact ⟨_,rfl⟩ | cases h)
noncomputable abbrev xuz:Fs→O2:=x1lu Try.prog [.tmp 4]
noncomputable abbrev x23a:=XK call { f:=x8h,u:=u,nt:=6,hs:=hs } xuz
noncomputable def x1jn:=x1lv x8h
theorem x1jo:x23a call hs u x1jn xuz eNil=(j2 (xlw call hs u) 0 1):=by kernel_rfl
theorem xzh:FL x8h xet:=le2 (fn:=Try.f108) (by kernel_rfl) (by kernel_rfl) (by kernel_rfl) (by kernel_rfl) (fun call hs t0 t1 m=>(congrFun (x1jo call hs m.next) _).trans (by kernel_rfl)) (fun _ _ _ _ _ h=>by unfold xet at h;split at h<;>first | exact ⟨_,_,rfl⟩ | cases h)
noncomputable abbrev xv0:Fs→O2:=x1lu Try.prog [.tmp 2]
noncomputable abbrev x23b:=XK call { f:=x8i,u:=u,nt:=5,hs:=hs } xv0
noncomputable def x1jp:=x1lv x8i
theorem x1jq:x23b call hs u x1jp xv0 eNil=(j1 (xlx call hs u) 0):=by kernel_rfl
theorem xzi:FL x8i xeu:=le1 (fn:=Try.f109) (by kernel_rfl) (by kernel_rfl) (by kernel_rfl) (by kernel_rfl) (fun call hs t0 m=>(congrFun (x1jq call hs m.next) _).trans (by kernel_rfl)) (fun _ _ _ _ _ h=>by unfold xeu at h;split at h<;>first | exact ⟨_,rfl⟩ | cases h)
noncomputable abbrev xv1:Fs→O2:=x1lu Try.prog [.tmp 3]
noncomputable abbrev x23c:=XK call { f:=x8j,u:=u,nt:=13,hs:=hs } xv1
noncomputable def x1jr:=x1lv x8j
theorem x1js:x23c call hs u x1jr xv1 eNil=(j2 (xly call hs u) 0 1):=by kernel_rfl
theorem xzj:FL x8j xev:=le2 (fn:=Try.f110) (by kernel_rfl) (by kernel_rfl) (by kernel_rfl) (by kernel_rfl) (fun call hs t0 t1 m=>(congrFun (x1js call hs m.next) _).trans (by kernel_rfl)) (fun _ _ _ _ _ h=>by unfold xev at h;split at h<;>first | exact ⟨_,_,rfl⟩ | cases h)
noncomputable abbrev x9p:Fs→O2:=x1lu Try.prog [.tmp 4]
noncomputable abbrev x1sm:=XK call { f:=x8k,u:=u,nt:=27,hs:=hs } x9p
noncomputable def xv2:=x1lv x8k
noncomputable def xjj:=nR xv2
noncomputable def x1jt:=nL xjj
noncomputable def xjk:=nR xjj
noncomputable def x1ju:=nL xjk
noncomputable def x1jv:=nR xjk
theorem x1jw:x1sm call hs u x1jv x9p eNil=(j1 (xby call hs u) 0):=by kernel_rfl
theorem x1jx:x1sm call hs u x1ju (j1 (xby call hs u) 0) eNil=(j2 (xbz call hs u) 0 1):=by kernel_rfl
theorem x1jy:x1sm call hs u xjk x9p eNil=(j2 (xbz call hs u) 0 1):=sq2 (by kernel_rfl) (x1jw call hs u) (x1jx call hs u)
theorem x1jz:x1sm call hs u x1jt (j2 (xbz call hs u) 0 1) eNil=(j2 (xgu call hs u) 0 1):=by kernel_rfl
theorem x1k0:x1sm call hs u xjj x9p eNil=(j2 (xgu call hs u) 0 1):=sq2 (by kernel_rfl) (x1jy call hs u) (x1jz call hs u)
theorem x1k1:x1sm call hs u xv2 x9p eNil=(j2 (xlz call hs u) 0 1):=(sqN 1 (by kernel_rfl) (x1k0 call hs u)).trans (by kernel_rfl)
theorem xzk:FL x8k xew:=le2 (fn:=Try.f111) (by kernel_rfl) (by kernel_rfl) (by kernel_rfl) (by kernel_rfl) (fun call hs t0 t1 m=>(congrFun (x1k1 call hs m.next) _).trans (by kernel_rfl)) (fun _ _ _ _ _ h=>by unfold xew at h;split at h<;>first | exact ⟨_,_,rfl⟩ | cases h)
noncomputable abbrev xv3:Fs→O2:=x1lu Try.prog [.tmp 2]
noncomputable abbrev x23d:=XK call { f:=x5t,u:=u,nt:=7,hs:=hs } xv3
noncomputable def x1k2:=x1lv x5t
theorem x1k3:x23d call hs u x1k2 xv3 eNil=(j1 (xm0 call hs u) 0):=by kernel_rfl
theorem xzl:FL x5t xex:=le1 (fn:=Try.f112) (by kernel_rfl) (by kernel_rfl) (by kernel_rfl) (by kernel_rfl) (fun call hs t0 m=>(congrFun (x1k3 call hs m.next) _).trans (by kernel_rfl)) (fun _ _ _ _ _ h=>by unfold xex at h;split at h<;>first | exact ⟨_,rfl⟩ | cases h)
noncomputable abbrev xdc:Fs→O2:=x1lu Try.prog [.tmp 4]
noncomputable abbrev x1nz:=XK call { f:=x41,u:=u,nt:=45,hs:=hs } xdc
noncomputable def xv4:=x1lv x41
noncomputable def xjl:=nRs 3 xv4
noncomputable def xv5:=nL xjl
noncomputable def x1k4:=nR xjl
noncomputable def xv6:=nR xv5
noncomputable def xv7:=nR xv6
noncomputable def xv8:=nR xv7
noncomputable def xjm:=nRs 2 xv8
noncomputable def xv9:=nL xjm
noncomputable def x1k5:=nR xjm
noncomputable def xva:=nR xv9
noncomputable def xjn:=nRs 4 xva
noncomputable def xvb:=nL xjn
noncomputable def x1k6:=nR xjn
noncomputable def xvc:=nR xvb
noncomputable def x1k7:=nR xvc
theorem x1k8:x1nz call hs u x1k4 xdc eNil=(j1 (xp call hs u) 5):=by kernel_rfl
theorem x1k9 (rec0:AV→AV→AV→AV→AV→Mem→Nat→O2):x1nz call hs u x1k5 (j5 rec0 1 5 6 14 15) (setE 0 (j1 (xp call hs u) 5) eNil)=(j5 (xy call hs u rec0) 1 5 6 14 15):=by kernel_rfl
theorem x1ka (rec0:AV→AV→AV→AV→AV→Mem→Nat→O2):x1nz call hs u x1k6 (j5 (xy call hs u rec0) 1 5 6 14 15) (setE 1 (j5 (xy call hs u rec0) 1 5 6 14 15) (setE 0 (j1 (xp call hs u) 5) eNil))=(j5 (x4k call hs u rec0) 1 5 6 14 15):=by kernel_rfl
theorem x1kb (rec0:AV→AV→AV→AV→AV→Mem→Nat→O2) (rec1:AV→AV→AV→AV→AV→AV→Mem→Nat→O2):x1nz call hs u x1k7 (j6 rec1 1 5 6 8 14 15) (setE 2 (j5 (x4k call hs u rec0) 1 5 6 14 15) (setE 1 (j5 (xy call hs u rec0) 1 5 6 14 15) (setE 0 (j1 (xp call hs u) 5) eNil)))=(j6 (x9d call hs u rec0 rec1) 1 5 6 8 14 15):=by kernel_rfl
theorem x1kc (rec0:AV→AV→AV→AV→AV→Mem→Nat→O2):x1nz call hs u xvc (j5 (x4k call hs u rec0) 1 5 6 14 15) (setE 2 (j5 (x4k call hs u rec0) 1 5 6 14 15) (setE 1 (j5 (xy call hs u rec0) 1 5 6 14 15) (setE 0 (j1 (xp call hs u) 5) eNil)))=(j6 (x20 call hs u rec0 NN) 1 5 6 8 14 15):=lp (Ln:=fun n=>j6 (x20 call hs u rec0 n) 1 5 6 8 14 15) (by kernel_rfl) rfl fun n=>(x1kb call hs u rec0 (x20 call hs u rec0 n)).trans (by kernel_rfl)
theorem x1kd (rec0:AV→AV→AV→AV→AV→Mem→Nat→O2):x1nz call hs u xvb (j5 (x4k call hs u rec0) 1 5 6 14 15) (setE 1 (j5 (xy call hs u rec0) 1 5 6 14 15) (setE 0 (j1 (xp call hs u) 5) eNil))=(j6 (x20 call hs u rec0 NN) 1 5 6 8 14 15):=bk (by kernel_rfl) (x1kc call hs u rec0)
theorem x1ke (rec0:AV→AV→AV→AV→AV→Mem→Nat→O2):x1nz call hs u xjn (j5 (xy call hs u rec0) 1 5 6 14 15) (setE 1 (j5 (xy call hs u rec0) 1 5 6 14 15) (setE 0 (j1 (xp call hs u) 5) eNil))=(j6 (x20 call hs u rec0 NN) 1 5 6 8 14 15):=sq2 (by kernel_rfl) (x1ka call hs u rec0) (x1kd call hs u rec0)
theorem x1kf (rec0:AV→AV→AV→AV→AV→Mem→Nat→O2):x1nz call hs u xva (j5 (xy call hs u rec0) 1 5 6 14 15) (setE 1 (j5 (xy call hs u rec0) 1 5 6 14 15) (setE 0 (j1 (xp call hs u) 5) eNil))=(j5 (x6q call hs u rec0) 1 5 6 14 15):=(sqN 4 (by kernel_rfl) (x1ke call hs u rec0)).trans (by kernel_rfl)
theorem x1kg (rec0:AV→AV→AV→AV→AV→Mem→Nat→O2):x1nz call hs u xv9 (j5 (xy call hs u rec0) 1 5 6 14 15) (setE 0 (j1 (xp call hs u) 5) eNil)=(j5 (x6q call hs u rec0) 1 5 6 14 15):=bk (by kernel_rfl) (x1kf call hs u rec0)
theorem x1kh (rec0:AV→AV→AV→AV→AV→Mem→Nat→O2):x1nz call hs u xjm (j5 rec0 1 5 6 14 15) (setE 0 (j1 (xp call hs u) 5) eNil)=(j5 (x6q call hs u rec0) 1 5 6 14 15):=sq2 (by kernel_rfl) (x1k9 call hs u rec0) (x1kg call hs u rec0)
theorem x1ki (rec0:AV→AV→AV→AV→AV→Mem→Nat→O2):x1nz call hs u xv8 (j5 rec0 1 5 6 14 15) (setE 0 (j1 (xp call hs u) 5) eNil)=(j5 (x9e call hs u rec0) 1 5 6 14 15):=(sqN 2 (by kernel_rfl) (x1kh call hs u rec0)).trans (by kernel_rfl)
theorem x1kj:x1nz call hs u xv7 (j1 (xp call hs u) 5) (setE 0 (j1 (xp call hs u) 5) eNil)=(j5 (x21 call hs u NN) 1 5 6 14 15):=lp (Ln:=fun n=>j5 (x21 call hs u n) 1 5 6 14 15) (by kernel_rfl) rfl fun n=>(x1ki call hs u (x21 call hs u n)).trans (by kernel_rfl)
theorem x1kk:x1nz call hs u xv6 (j1 (xp call hs u) 5) eNil=(j5 (x21 call hs u NN) 1 5 6 14 15):=bk (by kernel_rfl) (x1kj call hs u)
theorem x1kl:x1nz call hs u xv5 (j1 (xp call hs u) 5) eNil=(j3 (xc0 call hs u) 1 5 6):=(sqN 1 (by kernel_rfl) (x1kk call hs u)).trans (by kernel_rfl)
theorem x1km:x1nz call hs u xjl xdc eNil=(j3 (xc0 call hs u) 1 5 6):=sq2 (by kernel_rfl) (x1k8 call hs u) (x1kl call hs u)
theorem x1kn:x1nz call hs u xv4 xdc eNil=(j2 (xgv call hs u) 0 1):=(sqN 3 (by kernel_rfl) (x1km call hs u)).trans (by kernel_rfl)
theorem xzm:FL x41 x8l:=le2 (fn:=Try.f113) (by kernel_rfl) (by kernel_rfl) (by kernel_rfl) (by kernel_rfl) (fun call hs t0 t1 m=>(congrFun (x1kn call hs m.next) _).trans (by kernel_rfl)) (fun _ _ _ _ _ h=>by unfold x8l at h;split at h<;>first | exact ⟨_,_,rfl⟩ | cases h)
noncomputable abbrev x73:Fs→O2:=x1lu Try.prog []
noncomputable abbrev x1uq:=XK call { f:=x2p,u:=u,nt:=20,hs:=hs } x73
noncomputable def xvd:=x1lv x2p
noncomputable def xve:=nR xvd
noncomputable def xvf:=nR xve
noncomputable def x1ko:=nR xvf
theorem x1kp (rec0:AV→AV→AV→AV→Mem→Nat→O2):x1uq call hs u x1ko (j4 rec0 1 10 11 12) (setE 0 x73 eNil)=(j4 (xc1 call hs u rec0) 1 10 11 12):=by kernel_rfl
theorem x1kq:x1uq call hs u xvf x73 (setE 0 x73 eNil)=(j4 (x3k call hs u NN) 1 10 11 12):=lp (Ln:=fun n=>j4 (x3k call hs u n) 1 10 11 12) (by kernel_rfl) rfl fun n=>(x1kp call hs u (x3k call hs u n)).trans (by kernel_rfl)
theorem x1kr:x1uq call hs u xve x73 eNil=(j4 (x3k call hs u NN) 1 10 11 12):=bk (by kernel_rfl) (x1kq call hs u)
theorem x1ks:x1uq call hs u xvd x73 eNil=(j3 (xc2 call hs u) 0 1 2):=(sqN 1 (by kernel_rfl) (x1kr call hs u)).trans (by kernel_rfl)
theorem xx4:FL x2p x9r:=le3 (fn:=Try.f114) (by kernel_rfl) (by kernel_rfl) (by kernel_rfl) (by kernel_rfl) (fun call hs t0 t1 t2 m=>(congrFun (x1ks call hs m.next) _).trans (by kernel_rfl)) (fun _ _ _ _ _ h=>by unfold x9r at h;split at h<;>first | exact ⟨_,_,_,rfl⟩ | cases h)
noncomputable abbrev xl:Fs→O2:=x1lu Try.prog [.cell 4 xmb]
noncomputable abbrev x1o0:=XK call { f:=x1c,u:=u,nt:=139,hs:=hs } xl
noncomputable abbrev x1zt:=XK (R:=Mem) call { f:=x1c,u:=u,nt:=139,hs:=hs } fNil
noncomputable def xvg:=x1lv x1c
noncomputable def xvh:=nRs 4 xvg
noncomputable def xvi:=nR xvh
noncomputable def xvj:=nR xvi
noncomputable def xvk:=nR xvj
noncomputable def xjo:=nR xvk
noncomputable def xvl:=nL xjo
noncomputable def xvm:=nR xjo
noncomputable def xvn:=nRs 3 xvm
noncomputable def xdd:=nR xvn
noncomputable def x1kt:=nL xdd
noncomputable def x1ku:=nR xdd
noncomputable def xvo:=nR xvl
noncomputable def xvp:=nR xvo
noncomputable def xvq:=nR xvp
noncomputable def xjp:=nRs 2 xvq
noncomputable def x1kv:=nL xjp
noncomputable def x1kw:=nR xjp
theorem x1kx:x1zt call hs u x1ku (fun s=>some s.m) eNil=(j4 (x6r call hs u) 2 5 7 10):=by kernel_rfl
theorem x1ky:x1zt call hs u x1kt (j4 (x6r call hs u) 2 5 7 10) eNil=(j4 (x5a call hs u) 2 5 7 87):=by kernel_rfl
theorem x1kz (rec0:AV→AV→AV→AV→Mem→Nat→O2):x1o0 call hs u xdd (j4 rec0 2 4 5 6) (setE 4 (j4 rec0 2 4 5 6) (setE 1 (j4 rec0 2 4 5 6) (setE 0 xl eNil)))=(j6 (xc3 call hs u rec0) 2 4 5 6 7 86):=(rg (C:=xdd) (c:={ f:=x1c,u:=u,nt:=139,hs:=hs }) (f:=(.tmp 86)) (ps:=#[87]) (by kernel_rfl) (fun u=>x1kx call hs u) (fun u=>x1ky call hs u)).trans (by kernel_rfl)
theorem x1l0 (rec0:AV→AV→AV→AV→Mem→Nat→O2):x1o0 call hs u xvn (j4 rec0 2 4 5 6) (setE 1 (j4 rec0 2 4 5 6) (setE 0 xl eNil))=(j6 (xc3 call hs u rec0) 2 4 5 6 7 86):=bk (by kernel_rfl) (x1kz call hs u rec0)
theorem x1l1 (rec0:AV→AV→AV→AV→Mem→Nat→O2):x1o0 call hs u xvm (j4 rec0 2 4 5 6) (setE 1 (j4 rec0 2 4 5 6) (setE 0 xl eNil))=(j5 (xz call hs u rec0) 2 4 5 6 7):=(sqN 3 (by kernel_rfl) (x1l0 call hs u rec0)).trans (by kernel_rfl)
theorem x1l2 (rec0:AV→AV→AV→AV→Mem→Nat→O2) (rec1:AV→AV→AV→AV→AV→AV→AV→AV→Mem→Nat→O2):x1o0 call hs u x1kw (j8 rec1 2 4 5 6 7 47 48 49) (setE 2 (j5 (xz call hs u rec0) 2 4 5 6 7) (setE 1 (j4 rec0 2 4 5 6) (setE 0 xl eNil)))=(j8 (x3l call hs u rec0 rec1) 2 4 5 6 7 47 48 49):=by kernel_rfl
theorem x1l3 (rec0:AV→AV→AV→AV→Mem→Nat→O2) (rec1:AV→AV→AV→AV→AV→AV→AV→AV→Mem→Nat→O2):x1o0 call hs u x1kv (j8 (x3l call hs u rec0 rec1) 2 4 5 6 7 47 48 49) (setE 2 (j5 (xz call hs u rec0) 2 4 5 6 7) (setE 1 (j4 rec0 2 4 5 6) (setE 0 xl eNil)))=(j8 (x9f call hs u rec0 rec1) 2 4 5 6 7 47 48 49):=by kernel_rfl
theorem x1l4 (rec0:AV→AV→AV→AV→Mem→Nat→O2) (rec1:AV→AV→AV→AV→AV→AV→AV→AV→Mem→Nat→O2):x1o0 call hs u xjp (j8 rec1 2 4 5 6 7 47 48 49) (setE 2 (j5 (xz call hs u rec0) 2 4 5 6 7) (setE 1 (j4 rec0 2 4 5 6) (setE 0 xl eNil)))=(j8 (x9f call hs u rec0 rec1) 2 4 5 6 7 47 48 49):=sq2 (by kernel_rfl) (x1l2 call hs u rec0 rec1) (x1l3 call hs u rec0 rec1)
theorem x1l5 (rec0:AV→AV→AV→AV→Mem→Nat→O2) (rec1:AV→AV→AV→AV→AV→AV→AV→AV→Mem→Nat→O2):x1o0 call hs u xvq (j8 rec1 2 4 5 6 7 47 48 49) (setE 2 (j5 (xz call hs u rec0) 2 4 5 6 7) (setE 1 (j4 rec0 2 4 5 6) (setE 0 xl eNil)))=(j8 (x9g call hs u rec0 rec1) 2 4 5 6 7 47 48 49):=(sqN 2 (by kernel_rfl) (x1l4 call hs u rec0 rec1)).trans (by kernel_rfl)
theorem x1l6 (rec0:AV→AV→AV→AV→Mem→Nat→O2):x1o0 call hs u xvp (j5 (xz call hs u rec0) 2 4 5 6 7) (setE 2 (j5 (xz call hs u rec0) 2 4 5 6 7) (setE 1 (j4 rec0 2 4 5 6) (setE 0 xl eNil)))=(j8 (x2n call hs u rec0 NN) 2 4 5 6 7 47 48 49):=lp (Ln:=fun n=>j8 (x2n call hs u rec0 n) 2 4 5 6 7 47 48 49) (by kernel_rfl) rfl fun n=>(x1l5 call hs u rec0 (x2n call hs u rec0 n)).trans (by kernel_rfl)
theorem x1l7 (rec0:AV→AV→AV→AV→Mem→Nat→O2):x1o0 call hs u xvo (j5 (xz call hs u rec0) 2 4 5 6 7) (setE 1 (j4 rec0 2 4 5 6) (setE 0 xl eNil))=(j8 (x2n call hs u rec0 NN) 2 4 5 6 7 47 48 49):=bk (by kernel_rfl) (x1l6 call hs u rec0)
theorem x1l8 (rec0:AV→AV→AV→AV→Mem→Nat→O2):x1o0 call hs u xvl (j5 (xz call hs u rec0) 2 4 5 6 7) (setE 1 (j4 rec0 2 4 5 6) (setE 0 xl eNil))=(j5 (xc4 call hs u rec0) 2 4 5 6 7):=(sqN 1 (by kernel_rfl) (x1l7 call hs u rec0)).trans (by kernel_rfl)
theorem x1l9 (rec0:AV→AV→AV→AV→Mem→Nat→O2):x1o0 call hs u xjo (j4 rec0 2 4 5 6) (setE 1 (j4 rec0 2 4 5 6) (setE 0 xl eNil))=(j5 (xc4 call hs u rec0) 2 4 5 6 7):=sq2 (by kernel_rfl) (x1l1 call hs u rec0) (x1l8 call hs u rec0)
theorem x1la (rec0:AV→AV→AV→AV→Mem→Nat→O2):x1o0 call hs u xvk (j4 rec0 2 4 5 6) (setE 1 (j4 rec0 2 4 5 6) (setE 0 xl eNil))=(j4 (xc5 call hs u rec0) 2 4 5 6):=(sqN 1 (by kernel_rfl) (x1l9 call hs u rec0)).trans (by kernel_rfl)
theorem x1lb (rec0:AV→AV→AV→AV→Mem→Nat→O2):x1o0 call hs u xvj (j4 rec0 2 4 5 6) (setE 0 xl eNil)=(j4 (xc5 call hs u rec0) 2 4 5 6):=bk (by kernel_rfl) (x1la call hs u rec0)
theorem x1lc:x1o0 call hs u xvi xl (setE 0 xl eNil)=(j4 (x1j call hs u NN) 2 4 5 6):=lp (Ln:=fun n=>j4 (x1j call hs u n) 2 4 5 6) (by kernel_rfl) rfl fun n=>(x1lb call hs u (x1j call hs u n)).trans (by kernel_rfl)
theorem x1ld:x1o0 call hs u xvh xl eNil=(j4 (x1j call hs u NN) 2 4 5 6):=bk (by kernel_rfl) (x1lc call hs u)
theorem x1le:x1o0 call hs u xvg xl eNil=(j2 (xgw call hs u) 0 1):=(sqN 4 (by kernel_rfl) (x1ld call hs u)).trans (by kernel_rfl)
theorem xx2:FL x1c x76:=le2 (fn:=Try.f115) (by kernel_rfl) (by kernel_rfl) (by kernel_rfl) (by kernel_rfl) (fun call hs t0 t1 m=>(congrFun (x1le call hs m.next) _).trans (by kernel_rfl)) (fun _ _ _ _ _ h=>by unfold x76 at h;split at h<;>first | exact ⟨_,_,rfl⟩ | cases h)
noncomputable abbrev x3m:Fs→O2:=x1lu Try.prog []
noncomputable abbrev x1ru:=XK call { f:=x2q,u:=u,nt:=53,hs:=hs } x3m
noncomputable def xvr:=x1lv x2q
noncomputable def xvs:=nR xvr
noncomputable def xvt:=nR xvs
noncomputable def xvu:=nR xvt
noncomputable def xjq:=nRs 2 xvu
noncomputable def x1lf:=nL xjq
noncomputable def x1lg:=nR xjq
theorem x1lh (rec0:AV→AV→AV→AV→AV→Mem→Nat→O2):x1ru call hs u x1lg (j5 rec0 0 1 3 9 10) (setE 0 x3m eNil)=(j5 (x4l call hs u rec0) 0 1 3 9 10):=by kernel_rfl
theorem x1li (rec0:AV→AV→AV→AV→AV→Mem→Nat→O2):x1ru call hs u x1lf (j5 (x4l call hs u rec0) 0 1 3 9 10) (setE 0 x3m eNil)=(j5 (x5b call hs u rec0) 0 1 3 9 10):=by kernel_rfl
theorem x1lj (rec0:AV→AV→AV→AV→AV→Mem→Nat→O2):x1ru call hs u xjq (j5 rec0 0 1 3 9 10) (setE 0 x3m eNil)=(j5 (x5b call hs u rec0) 0 1 3 9 10):=sq2 (by kernel_rfl) (x1lh call hs u rec0) (x1li call hs u rec0)
theorem x1lk (rec0:AV→AV→AV→AV→AV→Mem→Nat→O2):x1ru call hs u xvu (j5 rec0 0 1 3 9 10) (setE 0 x3m eNil)=(j5 (x5c call hs u rec0) 0 1 3 9 10):=(sqN 2 (by kernel_rfl) (x1lj call hs u rec0)).trans (by kernel_rfl)
theorem x1ll:x1ru call hs u xvt x3m (setE 0 x3m eNil)=(j5 (x19 call hs u NN) 0 1 3 9 10):=lp (Ln:=fun n=>j5 (x19 call hs u n) 0 1 3 9 10) (by kernel_rfl) rfl fun n=>(x1lk call hs u (x19 call hs u n)).trans (by kernel_rfl)
theorem x1lm:x1ru call hs u xvs x3m eNil=(j5 (x19 call hs u NN) 0 1 3 9 10):=bk (by kernel_rfl) (x1ll call hs u)
theorem x1ln:x1ru call hs u xvr x3m eNil=(j4 (xc6 call hs u) 0 1 2 3):=(sqN 1 (by kernel_rfl) (x1lm call hs u)).trans (by kernel_rfl)
theorem xx6:FL x2q x9s:=le4 (fn:=Try.f116) (by kernel_rfl) (by kernel_rfl) (by kernel_rfl) (by kernel_rfl) (fun call hs t0 t1 t2 t3 m=>(congrFun (x1ln call hs m.next) _).trans (by kernel_rfl)) (fun _ _ _ _ _ h=>by unfold x9s at h;split at h<;>first | exact ⟨_,_,_,_,rfl⟩ | cases h)
end Go.Ix
