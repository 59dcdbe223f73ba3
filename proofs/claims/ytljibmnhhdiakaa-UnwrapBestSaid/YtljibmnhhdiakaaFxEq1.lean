import Derived.Test.YtljibmnhhdiakaaFxText0
import Derived.Test.YtljibmnhhdiakaaFxText1
import Derived.Test.YtljibmnhhdiakaaFxEnt
import Derived.Test.YtljibmnhhdiakaaFxRules
import Derived.Test.YtljibmnhhdiakaaFxProj
import Derived.ProofKit
set_option linter.unusedVariables false
namespace Go.Ix
open Go.Proofs
variable (call:x1p9) (hs:FHs) (u:Nat)
noncomputable abbrev xj:Fs→O2:=x1pe Try.prog [.cell 4 xnl]
noncomputable abbrev x1ry:=XK call { f:=x1r,u:=u,nt:=139,hs:=hs } xj
noncomputable abbrev x24m:=XK (R:=Mem) call { f:=x1r,u:=u,nt:=139,hs:=hs } fNil
noncomputable def xnn:=x1pg x1r
noncomputable def xno:=nRs 4 xnn
noncomputable def xnp:=nR xno
noncomputable def xnq:=nR xnp
noncomputable def xnr:=nR xnq
noncomputable def xj1:=nR xnr
noncomputable def xns:=nL xj1
noncomputable def xnt:=nR xj1
noncomputable def xnu:=nRs 3 xnt
noncomputable def xef:=nR xnu
noncomputable def x12e:=nL xef
noncomputable def x12f:=nR xef
noncomputable def xnv:=nR xns
noncomputable def xnw:=nR xnv
noncomputable def xnx:=nR xnw
noncomputable def xj2:=nRs 2 xnx
noncomputable def x12g:=nL xj2
noncomputable def x12h:=nR xj2
theorem x12i:x24m call hs u x12f (fun s=>some s.m) eNil=(j4 (x7n call hs u) 2 5 7 10):=by kernel_rfl
theorem x12j:x24m call hs u x12e (j4 (x7n call hs u) 2 5 7 10) eNil=(j4 (x6i call hs u) 2 5 7 87):=by kernel_rfl
theorem x12k (rec0:AV→AV→AV→AV→Mem→Nat→O2):x1ry call hs u xef (j4 rec0 2 4 5 6) (setE 4 (j4 rec0 2 4 5 6) (setE 1 (j4 rec0 2 4 5 6) (setE 0 xj eNil)))=(j6 (xe1 call hs u rec0) 2 4 5 6 7 86):=(rg (C:=xef) (c:={ f:=x1r,u:=u,nt:=139,hs:=hs }) (f:=(.tmp 86)) (ps:=#[87]) (by kernel_rfl) (fun u=>x12i call hs u) (fun u=>x12j call hs u)).trans (by kernel_rfl)
theorem x12l (rec0:AV→AV→AV→AV→Mem→Nat→O2):x1ry call hs u xnu (j4 rec0 2 4 5 6) (setE 1 (j4 rec0 2 4 5 6) (setE 0 xj eNil))=(j6 (xe1 call hs u rec0) 2 4 5 6 7 86):=bk (by kernel_rfl) (x12k call hs u rec0)
theorem x12m (rec0:AV→AV→AV→AV→Mem→Nat→O2):x1ry call hs u xnt (j4 rec0 2 4 5 6) (setE 1 (j4 rec0 2 4 5 6) (setE 0 xj eNil))=(j5 (xy call hs u rec0) 2 4 5 6 7):=(sqN 3 (by kernel_rfl) (x12l call hs u rec0)).trans (by kernel_rfl)
theorem x12n (rec0:AV→AV→AV→AV→Mem→Nat→O2) (rec1:AV→AV→AV→AV→AV→AV→AV→AV→Mem→Nat→O2):x1ry call hs u x12h (j8 rec1 2 4 5 6 7 47 48 49) (setE 2 (j5 (xy call hs u rec0) 2 4 5 6 7) (setE 1 (j4 rec0 2 4 5 6) (setE 0 xj eNil)))=(j8 (x44 call hs u rec0 rec1) 2 4 5 6 7 47 48 49):=by kernel_rfl
theorem x12o (rec0:AV→AV→AV→AV→Mem→Nat→O2) (rec1:AV→AV→AV→AV→AV→AV→AV→AV→Mem→Nat→O2):x1ry call hs u x12g (j8 (x44 call hs u rec0 rec1) 2 4 5 6 7 47 48 49) (setE 2 (j5 (xy call hs u rec0) 2 4 5 6 7) (setE 1 (j4 rec0 2 4 5 6) (setE 0 xj eNil)))=(j8 (xaz call hs u rec0 rec1) 2 4 5 6 7 47 48 49):=by kernel_rfl
theorem x12p (rec0:AV→AV→AV→AV→Mem→Nat→O2) (rec1:AV→AV→AV→AV→AV→AV→AV→AV→Mem→Nat→O2):x1ry call hs u xj2 (j8 rec1 2 4 5 6 7 47 48 49) (setE 2 (j5 (xy call hs u rec0) 2 4 5 6 7) (setE 1 (j4 rec0 2 4 5 6) (setE 0 xj eNil)))=(j8 (xaz call hs u rec0 rec1) 2 4 5 6 7 47 48 49):=sq2 (by kernel_rfl) (x12n call hs u rec0 rec1) (x12o call hs u rec0 rec1)
theorem x12q (rec0:AV→AV→AV→AV→Mem→Nat→O2) (rec1:AV→AV→AV→AV→AV→AV→AV→AV→Mem→Nat→O2):x1ry call hs u xnx (j8 rec1 2 4 5 6 7 47 48 49) (setE 2 (j5 (xy call hs u rec0) 2 4 5 6 7) (setE 1 (j4 rec0 2 4 5 6) (setE 0 xj eNil)))=(j8 (xb0 call hs u rec0 rec1) 2 4 5 6 7 47 48 49):=(sqN 2 (by kernel_rfl) (x12p call hs u rec0 rec1)).trans (by kernel_rfl)
theorem x12r (rec0:AV→AV→AV→AV→Mem→Nat→O2):x1ry call hs u xnw (j5 (xy call hs u rec0) 2 4 5 6 7) (setE 2 (j5 (xy call hs u rec0) 2 4 5 6 7) (setE 1 (j4 rec0 2 4 5 6) (setE 0 xj eNil)))=(j8 (x2s call hs u rec0 NN) 2 4 5 6 7 47 48 49):=lp (Ln:=fun n=>j8 (x2s call hs u rec0 n) 2 4 5 6 7 47 48 49) (by kernel_rfl) rfl fun n=>(x12q call hs u rec0 (x2s call hs u rec0 n)).trans (by kernel_rfl)
theorem x12s (rec0:AV→AV→AV→AV→Mem→Nat→O2):x1ry call hs u xnv (j5 (xy call hs u rec0) 2 4 5 6 7) (setE 1 (j4 rec0 2 4 5 6) (setE 0 xj eNil))=(j8 (x2s call hs u rec0 NN) 2 4 5 6 7 47 48 49):=bk (by kernel_rfl) (x12r call hs u rec0)
theorem x12t (rec0:AV→AV→AV→AV→Mem→Nat→O2):x1ry call hs u xns (j5 (xy call hs u rec0) 2 4 5 6 7) (setE 1 (j4 rec0 2 4 5 6) (setE 0 xj eNil))=(j5 (xe2 call hs u rec0) 2 4 5 6 7):=(sqN 1 (by kernel_rfl) (x12s call hs u rec0)).trans (by kernel_rfl)
theorem x12u (rec0:AV→AV→AV→AV→Mem→Nat→O2):x1ry call hs u xj1 (j4 rec0 2 4 5 6) (setE 1 (j4 rec0 2 4 5 6) (setE 0 xj eNil))=(j5 (xe2 call hs u rec0) 2 4 5 6 7):=sq2 (by kernel_rfl) (x12m call hs u rec0) (x12t call hs u rec0)
theorem x12v (rec0:AV→AV→AV→AV→Mem→Nat→O2):x1ry call hs u xnr (j4 rec0 2 4 5 6) (setE 1 (j4 rec0 2 4 5 6) (setE 0 xj eNil))=(j4 (xe3 call hs u rec0) 2 4 5 6):=(sqN 1 (by kernel_rfl) (x12u call hs u rec0)).trans (by kernel_rfl)
theorem x12w (rec0:AV→AV→AV→AV→Mem→Nat→O2):x1ry call hs u xnq (j4 rec0 2 4 5 6) (setE 0 xj eNil)=(j4 (xe3 call hs u rec0) 2 4 5 6):=bk (by kernel_rfl) (x12v call hs u rec0)
theorem x12x:x1ry call hs u xnp xj (setE 0 xj eNil)=(j4 (x1l call hs u NN) 2 4 5 6):=lp (Ln:=fun n=>j4 (x1l call hs u n) 2 4 5 6) (by kernel_rfl) rfl fun n=>(x12w call hs u (x1l call hs u n)).trans (by kernel_rfl)
theorem x12y:x1ry call hs u xno xj eNil=(j4 (x1l call hs u NN) 2 4 5 6):=bk (by kernel_rfl) (x12x call hs u)
theorem x12z:x1ry call hs u xnn xj eNil=(j2 (xip call hs u) 0 1):=(sqN 4 (by kernel_rfl) (x12y call hs u)).trans (by kernel_rfl)
theorem xze:FL x1r x85:=le2 (fn:=Try.f115) (by kernel_rfl) (by kernel_rfl) (by kernel_rfl) (by kernel_rfl) (fun call hs t0 t1 m=>(congrFun (x12z call hs m.next) _).trans (by kernel_rfl)) (fun _ _ _ _ _ h=>by unfold x85 at h;split at h<;>first | exact ⟨_,_,rfl⟩ | cases h)
noncomputable abbrev x45:Fs→O2:=x1pe Try.prog []
noncomputable abbrev x1vc:=XK call { f:=x88,u:=u,nt:=53,hs:=hs } x45
noncomputable def xny:=x1pg x88
noncomputable def xnz:=nR xny
noncomputable def xo0:=nR xnz
noncomputable def xo1:=nR xo0
noncomputable def xj3:=nRs 2 xo1
noncomputable def x130:=nL xj3
noncomputable def x131:=nR xj3
theorem x132 (rec0:AV→AV→AV→AV→AV→Mem→Nat→O2):x1vc call hs u x131 (j5 rec0 0 1 3 9 10) (setE 0 x45 eNil)=(j5 (xe4 call hs u rec0) 0 1 3 9 10):=by kernel_rfl
theorem x133 (rec0:AV→AV→AV→AV→AV→Mem→Nat→O2):x1vc call hs u x130 (j5 (xe4 call hs u rec0) 0 1 3 9 10) (setE 0 x45 eNil)=(j5 (xiq call hs u rec0) 0 1 3 9 10):=by kernel_rfl
theorem x134 (rec0:AV→AV→AV→AV→AV→Mem→Nat→O2):x1vc call hs u xj3 (j5 rec0 0 1 3 9 10) (setE 0 x45 eNil)=(j5 (xiq call hs u rec0) 0 1 3 9 10):=sq2 (by kernel_rfl) (x132 call hs u rec0) (x133 call hs u rec0)
theorem x135 (rec0:AV→AV→AV→AV→AV→Mem→Nat→O2):x1vc call hs u xo1 (j5 rec0 0 1 3 9 10) (setE 0 x45 eNil)=(j5 (xnc call hs u rec0) 0 1 3 9 10):=(sqN 2 (by kernel_rfl) (x134 call hs u rec0)).trans (by kernel_rfl)
theorem x136:x1vc call hs u xo0 x45 (setE 0 x45 eNil)=(j5 (x7p call hs u NN) 0 1 3 9 10):=lp (Ln:=fun n=>j5 (x7p call hs u n) 0 1 3 9 10) (by kernel_rfl) rfl fun n=>(x135 call hs u (x7p call hs u n)).trans (by kernel_rfl)
theorem x137:x1vc call hs u xnz x45 eNil=(j5 (x7p call hs u NN) 0 1 3 9 10):=bk (by kernel_rfl) (x136 call hs u)
theorem x138:x1vc call hs u xny x45 eNil=(j4 (xnd call hs u) 0 1 2 3):=(sqN 1 (by kernel_rfl) (x137 call hs u)).trans (by kernel_rfl)
theorem xzi:FL x88 xfh:=le4 (fn:=Try.f116) (by kernel_rfl) (by kernel_rfl) (by kernel_rfl) (by kernel_rfl) (fun call hs t0 t1 t2 t3 m=>(congrFun (x138 call hs m.next) _).trans (by kernel_rfl)) (fun _ _ _ _ _ h=>by unfold xfh at h;split at h<;>first | exact ⟨_,_,_,_,rfl⟩ | cases h)
noncomputable abbrev xeg:Fs→O2:=x1pe Try.prog [.tmp 4]
noncomputable abbrev x1sc:=XK call { f:=x62,u:=u,nt:=73,hs:=hs } xeg
noncomputable def xo2:=x1pg x62
noncomputable def xj4:=nRs 2 xo2
noncomputable def xo3:=nL xj4
noncomputable def x139:=nR xj4
noncomputable def xo4:=nR xo3
noncomputable def xo5:=nR xo4
noncomputable def xo6:=nR xo5
noncomputable def xj5:=nR xo6
noncomputable def xo7:=nL xj5
noncomputable def x13a:=nR xj5
noncomputable def xo8:=nR xo7
noncomputable def xj6:=nR xo8
noncomputable def x13b:=nL xj6
noncomputable def x13c:=nR xj6
theorem x13d:x1sc call hs u x139 xeg eNil=(j1 (xz call hs u) 5):=by kernel_rfl
theorem x13e (rec0:AV→AV→AV→AV→Mem→Nat→O2):x1sc call hs u x13a (j4 rec0 1 2 5 6) (setE 0 (j1 (xz call hs u) 5) eNil)=(j4 (x1b call hs u rec0) 1 2 5 6):=by kernel_rfl
theorem x13f (rec0:AV→AV→AV→AV→Mem→Nat→O2):x1sc call hs u x13c (j4 (x1b call hs u rec0) 1 2 5 6) (setE 1 (j4 (x1b call hs u rec0) 1 2 5 6) (setE 0 (j1 (xz call hs u) 5) eNil))=(j5 (x6j call hs u rec0) 1 2 5 6 7):=by kernel_rfl
theorem x13g (rec0:AV→AV→AV→AV→Mem→Nat→O2):x1sc call hs u x13b (j5 (x6j call hs u rec0) 1 2 5 6 7) (setE 1 (j4 (x1b call hs u rec0) 1 2 5 6) (setE 0 (j1 (xz call hs u) 5) eNil))=(j5 (x7q call hs u rec0) 1 2 5 6 7):=by kernel_rfl
theorem x13h (rec0:AV→AV→AV→AV→Mem→Nat→O2):x1sc call hs u xj6 (j4 (x1b call hs u rec0) 1 2 5 6) (setE 1 (j4 (x1b call hs u rec0) 1 2 5 6) (setE 0 (j1 (xz call hs u) 5) eNil))=(j5 (x7q call hs u rec0) 1 2 5 6 7):=sq2 (by kernel_rfl) (x13f call hs u rec0) (x13g call hs u rec0)
theorem x13i (rec0:AV→AV→AV→AV→Mem→Nat→O2):x1sc call hs u xo8 (j4 (x1b call hs u rec0) 1 2 5 6) (setE 1 (j4 (x1b call hs u rec0) 1 2 5 6) (setE 0 (j1 (xz call hs u) 5) eNil))=(j4 (xb1 call hs u rec0) 1 2 5 6):=(sqN 1 (by kernel_rfl) (x13h call hs u rec0)).trans (by kernel_rfl)
theorem x13j (rec0:AV→AV→AV→AV→Mem→Nat→O2):x1sc call hs u xo7 (j4 (x1b call hs u rec0) 1 2 5 6) (setE 0 (j1 (xz call hs u) 5) eNil)=(j4 (xb1 call hs u rec0) 1 2 5 6):=bk (by kernel_rfl) (x13i call hs u rec0)
theorem x13k (rec0:AV→AV→AV→AV→Mem→Nat→O2):x1sc call hs u xj5 (j4 rec0 1 2 5 6) (setE 0 (j1 (xz call hs u) 5) eNil)=(j4 (xb1 call hs u rec0) 1 2 5 6):=sq2 (by kernel_rfl) (x13e call hs u rec0) (x13j call hs u rec0)
theorem x13l (rec0:AV→AV→AV→AV→Mem→Nat→O2):x1sc call hs u xo6 (j4 rec0 1 2 5 6) (setE 0 (j1 (xz call hs u) 5) eNil)=(j4 (xe5 call hs u rec0) 1 2 5 6):=(sqN 1 (by kernel_rfl) (x13k call hs u rec0)).trans (by kernel_rfl)
theorem x13m:x1sc call hs u xo5 (j1 (xz call hs u) 5) (setE 0 (j1 (xz call hs u) 5) eNil)=(j4 (x2t call hs u NN) 1 2 5 6):=lp (Ln:=fun n=>j4 (x2t call hs u n) 1 2 5 6) (by kernel_rfl) rfl fun n=>(x13l call hs u (x2t call hs u n)).trans (by kernel_rfl)
theorem x13n:x1sc call hs u xo4 (j1 (xz call hs u) 5) eNil=(j4 (x2t call hs u NN) 1 2 5 6):=bk (by kernel_rfl) (x13m call hs u)
theorem x13o:x1sc call hs u xo3 (j1 (xz call hs u) 5) eNil=(j3 (xe6 call hs u) 1 2 5):=(sqN 1 (by kernel_rfl) (x13n call hs u)).trans (by kernel_rfl)
theorem x13p:x1sc call hs u xj4 xeg eNil=(j3 (xe6 call hs u) 1 2 5):=sq2 (by kernel_rfl) (x13d call hs u) (x13o call hs u)
theorem x13q:x1sc call hs u xo2 xeg eNil=(j2 (xir call hs u) 0 1):=(sqN 2 (by kernel_rfl) (x13p call hs u)).trans (by kernel_rfl)
theorem x124:FL x62 xa1:=le2 (fn:=Try.f117) (by kernel_rfl) (by kernel_rfl) (by kernel_rfl) (by kernel_rfl) (fun call hs t0 t1 m=>(congrFun (x13q call hs m.next) _).trans (by kernel_rfl)) (fun _ _ _ _ _ h=>by unfold xa1 at h;split at h<;>first | exact ⟨_,_,rfl⟩ | cases h)
noncomputable abbrev xo9:Fs→O2:=x1pe Try.prog [.tmp 2]
noncomputable abbrev x274:=XK call { f:=x2g,u:=u,nt:=5,hs:=hs } xo9
noncomputable def x13r:=x1pg x2g
theorem x13s:x274 call hs u x13r xo9 eNil=(j1 (xis call hs u) 0):=by kernel_rfl
theorem x125:FL x2g xa2:=le1 (fn:=Try.f118) (by kernel_rfl) (by kernel_rfl) (by kernel_rfl) (by kernel_rfl) (fun call hs t0 m=>(congrFun (x13s call hs m.next) _).trans (by kernel_rfl)) (fun _ _ _ _ _ h=>by unfold xa2 at h;split at h<;>first | exact ⟨_,rfl⟩ | cases h)
noncomputable abbrev xeh:Fs→O2:=x1pe Try.prog [.tmp 4,.tmp 5]
noncomputable abbrev x1to:=XK call { f:=xbn,u:=u,nt:=85,hs:=hs } xeh
noncomputable def xoa:=x1pg xbn
noncomputable def xj7:=nRs 4 xoa
noncomputable def xob:=nL xj7
noncomputable def x13t:=nR xj7
noncomputable def xoc:=nR xob
noncomputable def xod:=nR xoc
noncomputable def xoe:=nR xod
noncomputable def xj8:=nRs 2 xoe
noncomputable def x13u:=nL xj8
noncomputable def x13v:=nR xj8
theorem x13w:x1to call hs u x13t xeh eNil=(j1 (x2u call hs u) 7):=by kernel_rfl
theorem x13x (rec0:AV→AV→AV→AV→AV→Mem→Nat→O2):x1to call hs u x13v (j5 rec0 6 7 38 39 40) (setE 0 (j1 (x2u call hs u) 7) eNil)=(j5 (xe7 call hs u rec0) 6 7 38 39 40):=by kernel_rfl
theorem x13y (rec0:AV→AV→AV→AV→AV→Mem→Nat→O2):x1to call hs u x13u (j5 (xe7 call hs u rec0) 6 7 38 39 40) (setE 0 (j1 (x2u call hs u) 7) eNil)=(j5 (xit call hs u rec0) 6 7 38 39 40):=by kernel_rfl
theorem x13z (rec0:AV→AV→AV→AV→AV→Mem→Nat→O2):x1to call hs u xj8 (j5 rec0 6 7 38 39 40) (setE 0 (j1 (x2u call hs u) 7) eNil)=(j5 (xit call hs u rec0) 6 7 38 39 40):=sq2 (by kernel_rfl) (x13x call hs u rec0) (x13y call hs u rec0)
theorem x140 (rec0:AV→AV→AV→AV→AV→Mem→Nat→O2):x1to call hs u xoe (j5 rec0 6 7 38 39 40) (setE 0 (j1 (x2u call hs u) 7) eNil)=(j5 (xne call hs u rec0) 6 7 38 39 40):=(sqN 2 (by kernel_rfl) (x13z call hs u rec0)).trans (by kernel_rfl)
theorem x141:x1to call hs u xod (j1 (x2u call hs u) 7) (setE 0 (j1 (x2u call hs u) 7) eNil)=(j5 (x7r call hs u NN) 6 7 38 39 40):=lp (Ln:=fun n=>j5 (x7r call hs u n) 6 7 38 39 40) (by kernel_rfl) rfl fun n=>(x140 call hs u (x7r call hs u n)).trans (by kernel_rfl)
theorem x142:x1to call hs u xoc (j1 (x2u call hs u) 7) eNil=(j5 (x7r call hs u NN) 6 7 38 39 40):=bk (by kernel_rfl) (x141 call hs u)
theorem x143:x1to call hs u xob (j1 (x2u call hs u) 7) eNil=(j3 (xiu call hs u) 3 6 7):=(sqN 1 (by kernel_rfl) (x142 call hs u)).trans (by kernel_rfl)
theorem x144:x1to call hs u xj7 xeh eNil=(j3 (xiu call hs u) 3 6 7):=sq2 (by kernel_rfl) (x13w call hs u) (x143 call hs u)
theorem x145:x1to call hs u xoa xeh eNil=(j2 (xnf call hs u) 0 1):=(sqN 4 (by kernel_rfl) (x144 call hs u)).trans (by kernel_rfl)
theorem x126:FL xbn xgi:=le2 (fn:=Try.f119) (by kernel_rfl) (by kernel_rfl) (by kernel_rfl) (by kernel_rfl) (fun call hs t0 t1 m=>(congrFun (x145 call hs m.next) _).trans (by kernel_rfl)) (fun _ _ _ _ _ h=>by unfold xgi at h;split at h<;>first | exact ⟨_,_,rfl⟩ | cases h)
noncomputable abbrev xt:Fs→O2:=x1pe Try.prog []
noncomputable abbrev x1sd:=XK call { f:=x35,u:=u,nt:=55,hs:=hs } xt
noncomputable def xof:=x1pg x35
noncomputable def xog:=nRs 2 xof
noncomputable def xoh:=nR xog
noncomputable def xoi:=nR xoh
noncomputable def xj9:=nRs 2 xoi
noncomputable def xoj:=nL xj9
noncomputable def x146:=nR xj9
noncomputable def xok:=nR xoj
noncomputable def xol:=nRs 2 xok
noncomputable def xom:=nR xol
noncomputable def xon:=nR xom
noncomputable def xja:=nRs 2 xon
noncomputable def x147:=nL xja
noncomputable def x148:=nR xja
theorem x149 (rec0:AV→AV→AV→AV→AV→AV→Mem→Nat→O2):x1sd call hs u x146 (j6 rec0 0 1 2 4 9 10) (setE 0 xt eNil)=(j6 (xd call hs u rec0) 0 1 2 4 9 10):=by kernel_rfl
theorem x14a (rec0:AV→AV→AV→AV→AV→AV→Mem→Nat→O2) (rec1:AV→AV→AV→AV→AV→AV→AV→AV→AV→AV→Mem→Nat→O2):x1sd call hs u x148 (j10 rec1 0 1 2 4 5 6 9 10 16 17) (setE 2 (j6 (xd call hs u rec0) 0 1 2 4 9 10) (setE 1 (j6 (xd call hs u rec0) 0 1 2 4 9 10) (setE 0 xt eNil)))=(j10 (x5i call hs u rec0 rec1) 0 1 2 4 5 6 9 10 16 17):=by kernel_rfl
theorem x14b (rec0:AV→AV→AV→AV→AV→AV→Mem→Nat→O2) (rec1:AV→AV→AV→AV→AV→AV→AV→AV→AV→AV→Mem→Nat→O2):x1sd call hs u x147 (j10 (x5i call hs u rec0 rec1) 0 1 2 4 5 6 9 10 16 17) (setE 2 (j6 (xd call hs u rec0) 0 1 2 4 9 10) (setE 1 (j6 (xd call hs u rec0) 0 1 2 4 9 10) (setE 0 xt eNil)))=(j10 (xb2 call hs u rec0 rec1) 0 1 2 4 5 6 9 10 16 17):=by kernel_rfl
theorem x14c (rec0:AV→AV→AV→AV→AV→AV→Mem→Nat→O2) (rec1:AV→AV→AV→AV→AV→AV→AV→AV→AV→AV→Mem→Nat→O2):x1sd call hs u xja (j10 rec1 0 1 2 4 5 6 9 10 16 17) (setE 2 (j6 (xd call hs u rec0) 0 1 2 4 9 10) (setE 1 (j6 (xd call hs u rec0) 0 1 2 4 9 10) (setE 0 xt eNil)))=(j10 (xb2 call hs u rec0 rec1) 0 1 2 4 5 6 9 10 16 17):=sq2 (by kernel_rfl) (x14a call hs u rec0 rec1) (x14b call hs u rec0 rec1)
theorem x14d (rec0:AV→AV→AV→AV→AV→AV→Mem→Nat→O2) (rec1:AV→AV→AV→AV→AV→AV→AV→AV→AV→AV→Mem→Nat→O2):x1sd call hs u xon (j10 rec1 0 1 2 4 5 6 9 10 16 17) (setE 2 (j6 (xd call hs u rec0) 0 1 2 4 9 10) (setE 1 (j6 (xd call hs u rec0) 0 1 2 4 9 10) (setE 0 xt eNil)))=(j10 (x7s call hs u rec0 rec1) 0 1 2 4 5 6 9 10 16 17):=(sqN 2 (by kernel_rfl) (x14c call hs u rec0 rec1)).trans (by kernel_rfl)
theorem x14e (rec0:AV→AV→AV→AV→AV→AV→Mem→Nat→O2):x1sd call hs u xom (j6 (xd call hs u rec0) 0 1 2 4 9 10) (setE 2 (j6 (xd call hs u rec0) 0 1 2 4 9 10) (setE 1 (j6 (xd call hs u rec0) 0 1 2 4 9 10) (setE 0 xt eNil)))=(j10 (x1m call hs u rec0 NN) 0 1 2 4 5 6 9 10 16 17):=lp (Ln:=fun n=>j10 (x1m call hs u rec0 n) 0 1 2 4 5 6 9 10 16 17) (by kernel_rfl) rfl fun n=>(x14d call hs u rec0 (x1m call hs u rec0 n)).trans (by kernel_rfl)
theorem x14f (rec0:AV→AV→AV→AV→AV→AV→Mem→Nat→O2):x1sd call hs u xol (j6 (xd call hs u rec0) 0 1 2 4 9 10) (setE 1 (j6 (xd call hs u rec0) 0 1 2 4 9 10) (setE 0 xt eNil))=(j10 (x1m call hs u rec0 NN) 0 1 2 4 5 6 9 10 16 17):=bk (by kernel_rfl) (x14e call hs u rec0)
theorem x14g (rec0:AV→AV→AV→AV→AV→AV→Mem→Nat→O2):x1sd call hs u xok (j6 (xd call hs u rec0) 0 1 2 4 9 10) (setE 1 (j6 (xd call hs u rec0) 0 1 2 4 9 10) (setE 0 xt eNil))=(j6 (x7t call hs u rec0) 0 1 2 4 9 10):=(sqN 2 (by kernel_rfl) (x14f call hs u rec0)).trans (by kernel_rfl)
theorem x14h (rec0:AV→AV→AV→AV→AV→AV→Mem→Nat→O2):x1sd call hs u xoj (j6 (xd call hs u rec0) 0 1 2 4 9 10) (setE 0 xt eNil)=(j6 (x7t call hs u rec0) 0 1 2 4 9 10):=bk (by kernel_rfl) (x14g call hs u rec0)
theorem x14i (rec0:AV→AV→AV→AV→AV→AV→Mem→Nat→O2):x1sd call hs u xj9 (j6 rec0 0 1 2 4 9 10) (setE 0 xt eNil)=(j6 (x7t call hs u rec0) 0 1 2 4 9 10):=sq2 (by kernel_rfl) (x149 call hs u rec0) (x14h call hs u rec0)
theorem x14j (rec0:AV→AV→AV→AV→AV→AV→Mem→Nat→O2):x1sd call hs u xoi (j6 rec0 0 1 2 4 9 10) (setE 0 xt eNil)=(j6 (x7u call hs u rec0) 0 1 2 4 9 10):=(sqN 2 (by kernel_rfl) (x14i call hs u rec0)).trans (by kernel_rfl)
theorem x14k:x1sd call hs u xoh xt (setE 0 xt eNil)=(j6 (x1n call hs u NN) 0 1 2 4 9 10):=lp (Ln:=fun n=>j6 (x1n call hs u n) 0 1 2 4 9 10) (by kernel_rfl) rfl fun n=>(x14j call hs u (x1n call hs u n)).trans (by kernel_rfl)
theorem x14l:x1sd call hs u xog xt eNil=(j6 (x1n call hs u NN) 0 1 2 4 9 10):=bk (by kernel_rfl) (x14k call hs u)
theorem x14m:x1sd call hs u xof xt eNil=(j3 (xiv call hs u) 0 1 2):=(sqN 2 (by kernel_rfl) (x14l call hs u)).trans (by kernel_rfl)
theorem x127:FL x35 xa3:=le3 (fn:=Try.f120) (by kernel_rfl) (by kernel_rfl) (by kernel_rfl) (by kernel_rfl) (fun call hs t0 t1 t2 m=>(congrFun (x14m call hs m.next) _).trans (by kernel_rfl)) (fun _ _ _ _ _ h=>by unfold xa3 at h;split at h<;>first | exact ⟨_,_,_,rfl⟩ | cases h)
noncomputable abbrev x5l:Fs→O2:=x1pe Try.prog [.tmp 4]
noncomputable abbrev x1sw:=XK call { f:=x1u,u:=u,nt:=48,hs:=hs } x5l
noncomputable def xoo:=x1pg x1u
noncomputable def xjb:=nR xoo
noncomputable def x14n:=nL xjb
noncomputable def xop:=nR xjb
noncomputable def xjc:=nR xop
noncomputable def x14o:=nL xjc
noncomputable def xoq:=nR xjc
noncomputable def xjd:=nRs 2 xoq
noncomputable def xor:=nL xjd
noncomputable def x14p:=nR xjd
noncomputable def xos:=nR xor
noncomputable def x14q:=nR xos
theorem x14r:x1sw call hs u x14p x5l eNil=(j1 (x5j call hs u) 7):=by kernel_rfl
theorem x14s (rec0:AV→AV→Mem→Nat→O2):x1sw call hs u x14q (j2 rec0 7 8) (setE 0 (j1 (x5j call hs u) 7) eNil)=(j2 (xe9 call hs u rec0) 7 8):=by kernel_rfl
theorem x14t:x1sw call hs u xos (j1 (x5j call hs u) 7) (setE 0 (j1 (x5j call hs u) 7) eNil)=(j2 (x26 call hs u NN) 7 8):=lp (Ln:=fun n=>j2 (x26 call hs u n) 7 8) (by kernel_rfl) rfl fun n=>(x14s call hs u (x26 call hs u n)).trans (by kernel_rfl)
theorem x14u:x1sw call hs u xor (j1 (x5j call hs u) 7) eNil=(j2 (x26 call hs u NN) 7 8):=bk (by kernel_rfl) (x14t call hs u)
theorem x14v:x1sw call hs u xjd x5l eNil=(j2 (x26 call hs u NN) 7 8):=sq2 (by kernel_rfl) (x14r call hs u) (x14u call hs u)
theorem x14w:x1sw call hs u xoq x5l eNil=(j2 (xea call hs u) 0 6):=(sqN 2 (by kernel_rfl) (x14v call hs u)).trans (by kernel_rfl)
theorem x14x:x1sw call hs u x14o (j2 (xea call hs u) 0 6) eNil=(j3 (xeb call hs u) 0 5 6):=by kernel_rfl
theorem x14y:x1sw call hs u xjc x5l eNil=(j3 (xeb call hs u) 0 5 6):=sq2 (by kernel_rfl) (x14w call hs u) (x14x call hs u)
theorem x14z:x1sw call hs u xop x5l eNil=(j2 (xec call hs u) 0 1):=(sqN 1 (by kernel_rfl) (x14y call hs u)).trans (by kernel_rfl)
theorem x150:x1sw call hs u x14n (j2 (xec call hs u) 0 1) eNil=(j2 (xed call hs u) 0 1):=by kernel_rfl
theorem x151:x1sw call hs u xjb x5l eNil=(j2 (xed call hs u) 0 1):=sq2 (by kernel_rfl) (x14z call hs u) (x150 call hs u)
theorem x152:x1sw call hs u xoo x5l eNil=(j2 (xiw call hs u) 0 1):=(sqN 1 (by kernel_rfl) (x151 call hs u)).trans (by kernel_rfl)
theorem x128:FL x1u xa4:=le2 (fn:=Try.f121) (by kernel_rfl) (by kernel_rfl) (by kernel_rfl) (by kernel_rfl) (fun call hs t0 t1 m=>(congrFun (x152 call hs m.next) _).trans (by kernel_rfl)) (fun _ _ _ _ _ h=>by unfold xa4 at h;split at h<;>first | exact ⟨_,_,rfl⟩ | cases h)
noncomputable abbrev xot:Fs→O2:=x1pe Try.prog []
noncomputable abbrev x275:=XK call { f:=x1q,u:=u,nt:=18,hs:=hs } xot
noncomputable def x153:=x1pg x1q
theorem x154:x275 call hs u x153 xot eNil=(j4 (xb3 call hs u) 0 1 2 3):=by kernel_rfl
theorem xzd:FL x1q xbb:=le4 (fn:=Try.f122) (by kernel_rfl) (by kernel_rfl) (by kernel_rfl) (by kernel_rfl) (fun call hs t0 t1 t2 t3 m=>(congrFun (x154 call hs m.next) _).trans (by kernel_rfl)) (fun _ _ _ _ _ h=>by unfold xbb at h;split at h<;>first | exact ⟨_,_,_,_,rfl⟩ | cases h)
noncomputable abbrev xou:Fs→O2:=x1pe Try.prog [.tmp 4]
noncomputable abbrev x276:=XK call { f:=x5m,u:=u,nt:=6,hs:=hs } xou
noncomputable def x155:=x1pg x5m
theorem x156:x276 call hs u x155 xou eNil=(j2 (xix call hs u) 0 1):=by kernel_rfl
theorem xzf:FL x5m x86:=le2 (fn:=Try.f123) (by kernel_rfl) (by kernel_rfl) (by kernel_rfl) (by kernel_rfl) (fun call hs t0 t1 m=>(congrFun (x156 call hs m.next) _).trans (by kernel_rfl)) (fun _ _ _ _ _ h=>by unfold x86 at h;split at h<;>first | exact ⟨_,_,rfl⟩ | cases h)
noncomputable abbrev xov:Fs→O2:=x1pe Try.prog [.tmp 2]
noncomputable abbrev x277:=XK call { f:=xa5,u:=u,nt:=5,hs:=hs } xov
noncomputable def x157:=x1pg xa5
theorem x158:x277 call hs u x157 xov eNil=(j1 (xng call hs u) 0):=by kernel_rfl
theorem x129:FL xa5 xgj:=le1 (fn:=Try.f124) (by kernel_rfl) (by kernel_rfl) (by kernel_rfl) (by kernel_rfl) (fun call hs t0 m=>(congrFun (x158 call hs m.next) _).trans (by kernel_rfl)) (fun _ _ _ _ _ h=>by unfold xgj at h;split at h<;>first | exact ⟨_,rfl⟩ | cases h)
noncomputable abbrev xow:Fs→O2:=x1pe Try.prog [.tmp 4,.tmp 5]
noncomputable abbrev x278:=XK call { f:=x63,u:=u,nt:=30,hs:=hs } xow
noncomputable def x159:=x1pg x63
theorem x15a:x278 call hs u x159 xow eNil=(j2 (xnh call hs u) 0 1):=by kernel_rfl
theorem x12a:FL x63 xgk:=le2 (fn:=Try.f125) (by kernel_rfl) (by kernel_rfl) (by kernel_rfl) (by kernel_rfl) (fun call hs t0 t1 m=>(congrFun (x15a call hs m.next) _).trans (by kernel_rfl)) (fun _ _ _ _ _ h=>by unfold xgk at h;split at h<;>first | exact ⟨_,_,rfl⟩ | cases h)
noncomputable abbrev x1c:Fs→O2:=x1pe Try.prog []
noncomputable abbrev x1td:=XK call { f:=x46,u:=u,nt:=76,hs:=hs } x1c
noncomputable def xox:=x1pg x46
noncomputable def xoy:=nR xox
noncomputable def xoz:=nR xoy
noncomputable def xp0:=nR xoz
noncomputable def xje:=nRs 2 xp0
noncomputable def xp1:=nL xje
noncomputable def x15b:=nR xje
noncomputable def xp2:=nR xp1
noncomputable def xjf:=nRs 3 xp2
noncomputable def x15c:=nL xjf
noncomputable def x15d:=nR xjf
theorem x15e (rec0:AV→AV→AV→AV→AV→AV→Mem→Nat→O2):x1td call hs u x15b (j6 rec0 0 1 2 14 15 16) (setE 0 x1c eNil)=(j6 (x1o call hs u rec0) 0 1 2 14 15 16):=by kernel_rfl
theorem x15f (rec0:AV→AV→AV→AV→AV→AV→Mem→Nat→O2):x1td call hs u x15d (j6 (x1o call hs u rec0) 0 1 2 14 15 16) (setE 1 (j6 (x1o call hs u rec0) 0 1 2 14 15 16) (setE 0 x1c eNil))=(j7 (x7v call hs u rec0) 0 1 2 7 14 15 16):=by kernel_rfl
theorem x15g (rec0:AV→AV→AV→AV→AV→AV→Mem→Nat→O2):x1td call hs u x15c (j7 (x7v call hs u rec0) 0 1 2 7 14 15 16) (setE 1 (j6 (x1o call hs u rec0) 0 1 2 14 15 16) (setE 0 x1c eNil))=(j9 (x7w call hs u rec0) 0 1 2 5 6 7 14 15 16):=by kernel_rfl
theorem x15h (rec0:AV→AV→AV→AV→AV→AV→Mem→Nat→O2):x1td call hs u xjf (j6 (x1o call hs u rec0) 0 1 2 14 15 16) (setE 1 (j6 (x1o call hs u rec0) 0 1 2 14 15 16) (setE 0 x1c eNil))=(j9 (x7w call hs u rec0) 0 1 2 5 6 7 14 15 16):=sq2 (by kernel_rfl) (x15f call hs u rec0) (x15g call hs u rec0)
theorem x15i (rec0:AV→AV→AV→AV→AV→AV→Mem→Nat→O2):x1td call hs u xp2 (j6 (x1o call hs u rec0) 0 1 2 14 15 16) (setE 1 (j6 (x1o call hs u rec0) 0 1 2 14 15 16) (setE 0 x1c eNil))=(j6 (xb4 call hs u rec0) 0 1 2 14 15 16):=(sqN 3 (by kernel_rfl) (x15h call hs u rec0)).trans (by kernel_rfl)
theorem x15j (rec0:AV→AV→AV→AV→AV→AV→Mem→Nat→O2):x1td call hs u xp1 (j6 (x1o call hs u rec0) 0 1 2 14 15 16) (setE 0 x1c eNil)=(j6 (xb4 call hs u rec0) 0 1 2 14 15 16):=bk (by kernel_rfl) (x15i call hs u rec0)
theorem x15k (rec0:AV→AV→AV→AV→AV→AV→Mem→Nat→O2):x1td call hs u xje (j6 rec0 0 1 2 14 15 16) (setE 0 x1c eNil)=(j6 (xb4 call hs u rec0) 0 1 2 14 15 16):=sq2 (by kernel_rfl) (x15e call hs u rec0) (x15j call hs u rec0)
theorem x15l (rec0:AV→AV→AV→AV→AV→AV→Mem→Nat→O2):x1td call hs u xp0 (j6 rec0 0 1 2 14 15 16) (setE 0 x1c eNil)=(j6 (xee call hs u rec0) 0 1 2 14 15 16):=(sqN 2 (by kernel_rfl) (x15k call hs u rec0)).trans (by kernel_rfl)
theorem x15m:x1td call hs u xoz x1c (setE 0 x1c eNil)=(j6 (x1p call hs u NN) 0 1 2 14 15 16):=lp (Ln:=fun n=>j6 (x1p call hs u n) 0 1 2 14 15 16) (by kernel_rfl) rfl fun n=>(x15l call hs u (x1p call hs u n)).trans (by kernel_rfl)
theorem x15n:x1td call hs u xoy x1c eNil=(j6 (x1p call hs u NN) 0 1 2 14 15 16):=bk (by kernel_rfl) (x15m call hs u)
theorem x15o:x1td call hs u xox x1c eNil=(j3 (xiy call hs u) 0 1 2):=(sqN 1 (by kernel_rfl) (x15n call hs u)).trans (by kernel_rfl)
theorem xzb:FL x46 x83:=le3 (fn:=Try.f126) (by kernel_rfl) (by kernel_rfl) (by kernel_rfl) (by kernel_rfl) (fun call hs t0 t1 t2 m=>(congrFun (x15o call hs m.next) _).trans (by kernel_rfl)) (fun _ _ _ _ _ h=>by unfold x83 at h;split at h<;>first | exact ⟨_,_,_,rfl⟩ | cases h)
noncomputable abbrev xp3:Fs→O2:=x1pe Try.prog [.tmp 4,.tmp 5]
noncomputable abbrev x279:=XK call { f:=xa6,u:=u,nt:=17,hs:=hs } xp3
noncomputable def x15p:=x1pg xa6
theorem x15q:x279 call hs u x15p xp3 eNil=(j2 (xni call hs u) 0 1):=by kernel_rfl
theorem x12b:FL xa6 xgl:=le2 (fn:=Try.f127) (by kernel_rfl) (by kernel_rfl) (by kernel_rfl) (by kernel_rfl) (fun call hs t0 t1 m=>(congrFun (x15q call hs m.next) _).trans (by kernel_rfl)) (fun _ _ _ _ _ h=>by unfold xgl at h;split at h<;>first | exact ⟨_,_,rfl⟩ | cases h)
noncomputable abbrev xp4:Fs→O2:=x1pe Try.prog [.tmp 4,.tmp 5]
noncomputable abbrev x27a:=XK call { f:=x87,u:=u,nt:=51,hs:=hs } xp4
noncomputable def x15r:=x1pg x87
theorem x15s:x27a call hs u x15r xp4 eNil=(j2 (xnj call hs u) 0 1):=by kernel_rfl
theorem xzh:FL x87 xfg:=le2 (fn:=Try.f128) (by kernel_rfl) (by kernel_rfl) (by kernel_rfl) (by kernel_rfl) (fun call hs t0 t1 m=>(congrFun (x15s call hs m.next) _).trans (by kernel_rfl)) (fun _ _ _ _ _ h=>by unfold xfg at h;split at h<;>first | exact ⟨_,_,rfl⟩ | cases h)
end Go.Ix
