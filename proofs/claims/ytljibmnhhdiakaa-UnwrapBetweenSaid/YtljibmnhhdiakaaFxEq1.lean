import Derived.Test.YtljibmnhhdiakaaFxText0
import Derived.Test.YtljibmnhhdiakaaFxText1
import Derived.Test.YtljibmnhhdiakaaFxEnt
import Derived.Test.YtljibmnhhdiakaaFxRules
import Derived.Test.YtljibmnhhdiakaaFxProj
import Derived.ProofKit
set_option linter.unusedVariables false
namespace Go.Ix
open Go.Proofs
variable (call:x1lo) (hs:FHs) (u:Nat)
noncomputable abbrev xci:Fs→O2:=x1lu Try.prog [.tmp 4]
noncomputable abbrev x1of:=XK call { f:=x42,u:=u,nt:=73,hs:=hs } xci
noncomputable def xmd:=x1lv x42
noncomputable def xh4:=nRs 2 xmd
noncomputable def xme:=nL xh4
noncomputable def xzw:=nR xh4
noncomputable def xmf:=nR xme
noncomputable def xmg:=nR xmf
noncomputable def xmh:=nR xmg
noncomputable def xh5:=nR xmh
noncomputable def xmi:=nL xh5
noncomputable def xzx:=nR xh5
noncomputable def xmj:=nR xmi
noncomputable def xh6:=nR xmj
noncomputable def xzy:=nL xh6
noncomputable def xzz:=nR xh6
theorem x100:x1of call hs u xzw xci eNil=(j1 (x10 call hs u) 5):=by kernel_rfl
theorem x101 (rec0:AV→AV→AV→AV→Mem→Nat→O2):x1of call hs u xzx (j4 rec0 1 2 5 6) (setE 0 (j1 (x10 call hs u) 5) eNil)=(j4 (x1a call hs u rec0) 1 2 5 6):=by kernel_rfl
theorem x102 (rec0:AV→AV→AV→AV→Mem→Nat→O2):x1of call hs u xzz (j4 (x1a call hs u rec0) 1 2 5 6) (setE 1 (j4 (x1a call hs u rec0) 1 2 5 6) (setE 0 (j1 (x10 call hs u) 5) eNil))=(j5 (x5d call hs u rec0) 1 2 5 6 7):=by kernel_rfl
theorem x103 (rec0:AV→AV→AV→AV→Mem→Nat→O2):x1of call hs u xzy (j5 (x5d call hs u rec0) 1 2 5 6 7) (setE 1 (j4 (x1a call hs u rec0) 1 2 5 6) (setE 0 (j1 (x10 call hs u) 5) eNil))=(j5 (x6t call hs u rec0) 1 2 5 6 7):=by kernel_rfl
theorem x104 (rec0:AV→AV→AV→AV→Mem→Nat→O2):x1of call hs u xh6 (j4 (x1a call hs u rec0) 1 2 5 6) (setE 1 (j4 (x1a call hs u rec0) 1 2 5 6) (setE 0 (j1 (x10 call hs u) 5) eNil))=(j5 (x6t call hs u rec0) 1 2 5 6 7):=sq2 (by kernel_rfl) (x102 call hs u rec0) (x103 call hs u rec0)
theorem x105 (rec0:AV→AV→AV→AV→Mem→Nat→O2):x1of call hs u xmj (j4 (x1a call hs u rec0) 1 2 5 6) (setE 1 (j4 (x1a call hs u rec0) 1 2 5 6) (setE 0 (j1 (x10 call hs u) 5) eNil))=(j4 (x9h call hs u rec0) 1 2 5 6):=(sqN 1 (by kernel_rfl) (x104 call hs u rec0)).trans (by kernel_rfl)
theorem x106 (rec0:AV→AV→AV→AV→Mem→Nat→O2):x1of call hs u xmi (j4 (x1a call hs u rec0) 1 2 5 6) (setE 0 (j1 (x10 call hs u) 5) eNil)=(j4 (x9h call hs u rec0) 1 2 5 6):=bk (by kernel_rfl) (x105 call hs u rec0)
theorem x107 (rec0:AV→AV→AV→AV→Mem→Nat→O2):x1of call hs u xh5 (j4 rec0 1 2 5 6) (setE 0 (j1 (x10 call hs u) 5) eNil)=(j4 (x9h call hs u rec0) 1 2 5 6):=sq2 (by kernel_rfl) (x101 call hs u rec0) (x106 call hs u rec0)
theorem x108 (rec0:AV→AV→AV→AV→Mem→Nat→O2):x1of call hs u xmh (j4 rec0 1 2 5 6) (setE 0 (j1 (x10 call hs u) 5) eNil)=(j4 (xc7 call hs u rec0) 1 2 5 6):=(sqN 1 (by kernel_rfl) (x107 call hs u rec0)).trans (by kernel_rfl)
theorem x109:x1of call hs u xmg (j1 (x10 call hs u) 5) (setE 0 (j1 (x10 call hs u) 5) eNil)=(j4 (x2o call hs u NN) 1 2 5 6):=lp (Ln:=fun n=>j4 (x2o call hs u n) 1 2 5 6) (by kernel_rfl) rfl fun n=>(x108 call hs u (x2o call hs u n)).trans (by kernel_rfl)
theorem x10a:x1of call hs u xmf (j1 (x10 call hs u) 5) eNil=(j4 (x2o call hs u NN) 1 2 5 6):=bk (by kernel_rfl) (x109 call hs u)
theorem x10b:x1of call hs u xme (j1 (x10 call hs u) 5) eNil=(j3 (xc8 call hs u) 1 2 5):=(sqN 1 (by kernel_rfl) (x10a call hs u)).trans (by kernel_rfl)
theorem x10c:x1of call hs u xh4 xci eNil=(j3 (xc8 call hs u) 1 2 5):=sq2 (by kernel_rfl) (x100 call hs u) (x10b call hs u)
theorem x10d:x1of call hs u xmd xci eNil=(j2 (xgx call hs u) 0 1):=(sqN 2 (by kernel_rfl) (x10c call hs u)).trans (by kernel_rfl)
theorem xzn:FL x42 x8m:=le2 (fn:=Try.f117) (by kernel_rfl) (by kernel_rfl) (by kernel_rfl) (by kernel_rfl) (fun call hs t0 t1 m=>(congrFun (x10d call hs m.next) _).trans (by kernel_rfl)) (fun _ _ _ _ _ h=>by unfold x8m at h;split at h<;>first | exact ⟨_,_,rfl⟩ | cases h)
noncomputable abbrev xmk:Fs→O2:=x1lu Try.prog [.tmp 2]
noncomputable abbrev x21x:=XK call { f:=x8n,u:=u,nt:=5,hs:=hs } xmk
noncomputable def x10e:=x1lv x8n
theorem x10f:x21x call hs u x10e xmk eNil=(j1 (xm2 call hs u) 0):=by kernel_rfl
theorem xzo:FL x8n xey:=le1 (fn:=Try.f118) (by kernel_rfl) (by kernel_rfl) (by kernel_rfl) (by kernel_rfl) (fun call hs t0 m=>(congrFun (x10f call hs m.next) _).trans (by kernel_rfl)) (fun _ _ _ _ _ h=>by unfold xey at h;split at h<;>first | exact ⟨_,rfl⟩ | cases h)
noncomputable abbrev xt:Fs→O2:=x1lu Try.prog []
noncomputable abbrev x1og:=XK call { f:=x8o,u:=u,nt:=55,hs:=hs } xt
noncomputable def xml:=x1lv x8o
noncomputable def xmm:=nRs 2 xml
noncomputable def xmn:=nR xmm
noncomputable def xmo:=nR xmn
noncomputable def xh7:=nRs 2 xmo
noncomputable def xmp:=nL xh7
noncomputable def x10g:=nR xh7
noncomputable def xmq:=nR xmp
noncomputable def xmr:=nRs 2 xmq
noncomputable def xms:=nR xmr
noncomputable def xmt:=nR xms
noncomputable def xh8:=nRs 2 xmt
noncomputable def x10h:=nL xh8
noncomputable def x10i:=nR xh8
theorem x10j (rec0:AV→AV→AV→AV→AV→AV→Mem→Nat→O2):x1og call hs u x10g (j6 rec0 0 1 2 4 9 10) (setE 0 xt eNil)=(j6 (xj call hs u rec0) 0 1 2 4 9 10):=by kernel_rfl
theorem x10k (rec0:AV→AV→AV→AV→AV→AV→Mem→Nat→O2) (rec1:AV→AV→AV→AV→AV→AV→AV→AV→AV→AV→Mem→Nat→O2):x1og call hs u x10i (j10 rec1 0 1 2 4 5 6 9 10 16 17) (setE 2 (j6 (xj call hs u rec0) 0 1 2 4 9 10) (setE 1 (j6 (xj call hs u rec0) 0 1 2 4 9 10) (setE 0 xt eNil)))=(j10 (xc9 call hs u rec0 rec1) 0 1 2 4 5 6 9 10 16 17):=by kernel_rfl
theorem x10l (rec0:AV→AV→AV→AV→AV→AV→Mem→Nat→O2) (rec1:AV→AV→AV→AV→AV→AV→AV→AV→AV→AV→Mem→Nat→O2):x1og call hs u x10h (j10 (xc9 call hs u rec0 rec1) 0 1 2 4 5 6 9 10 16 17) (setE 2 (j6 (xj call hs u rec0) 0 1 2 4 9 10) (setE 1 (j6 (xj call hs u rec0) 0 1 2 4 9 10) (setE 0 xt eNil)))=(j10 (xgy call hs u rec0 rec1) 0 1 2 4 5 6 9 10 16 17):=by kernel_rfl
theorem x10m (rec0:AV→AV→AV→AV→AV→AV→Mem→Nat→O2) (rec1:AV→AV→AV→AV→AV→AV→AV→AV→AV→AV→Mem→Nat→O2):x1og call hs u xh8 (j10 rec1 0 1 2 4 5 6 9 10 16 17) (setE 2 (j6 (xj call hs u rec0) 0 1 2 4 9 10) (setE 1 (j6 (xj call hs u rec0) 0 1 2 4 9 10) (setE 0 xt eNil)))=(j10 (xgy call hs u rec0 rec1) 0 1 2 4 5 6 9 10 16 17):=sq2 (by kernel_rfl) (x10k call hs u rec0 rec1) (x10l call hs u rec0 rec1)
theorem x10n (rec0:AV→AV→AV→AV→AV→AV→Mem→Nat→O2) (rec1:AV→AV→AV→AV→AV→AV→AV→AV→AV→AV→Mem→Nat→O2):x1og call hs u xmt (j10 rec1 0 1 2 4 5 6 9 10 16 17) (setE 2 (j6 (xj call hs u rec0) 0 1 2 4 9 10) (setE 1 (j6 (xj call hs u rec0) 0 1 2 4 9 10) (setE 0 xt eNil)))=(j10 (xm3 call hs u rec0 rec1) 0 1 2 4 5 6 9 10 16 17):=(sqN 2 (by kernel_rfl) (x10m call hs u rec0 rec1)).trans (by kernel_rfl)
theorem x10o (rec0:AV→AV→AV→AV→AV→AV→Mem→Nat→O2):x1og call hs u xms (j6 (xj call hs u rec0) 0 1 2 4 9 10) (setE 2 (j6 (xj call hs u rec0) 0 1 2 4 9 10) (setE 1 (j6 (xj call hs u rec0) 0 1 2 4 9 10) (setE 0 xt eNil)))=(j10 (x6u call hs u rec0 NN) 0 1 2 4 5 6 9 10 16 17):=lp (Ln:=fun n=>j10 (x6u call hs u rec0 n) 0 1 2 4 5 6 9 10 16 17) (by kernel_rfl) rfl fun n=>(x10n call hs u rec0 (x6u call hs u rec0 n)).trans (by kernel_rfl)
theorem x10p (rec0:AV→AV→AV→AV→AV→AV→Mem→Nat→O2):x1og call hs u xmr (j6 (xj call hs u rec0) 0 1 2 4 9 10) (setE 1 (j6 (xj call hs u rec0) 0 1 2 4 9 10) (setE 0 xt eNil))=(j10 (x6u call hs u rec0 NN) 0 1 2 4 5 6 9 10 16 17):=bk (by kernel_rfl) (x10o call hs u rec0)
theorem x10q (rec0:AV→AV→AV→AV→AV→AV→Mem→Nat→O2):x1og call hs u xmq (j6 (xj call hs u rec0) 0 1 2 4 9 10) (setE 1 (j6 (xj call hs u rec0) 0 1 2 4 9 10) (setE 0 xt eNil))=(j6 (xca call hs u rec0) 0 1 2 4 9 10):=(sqN 2 (by kernel_rfl) (x10p call hs u rec0)).trans (by kernel_rfl)
theorem x10r (rec0:AV→AV→AV→AV→AV→AV→Mem→Nat→O2):x1og call hs u xmp (j6 (xj call hs u rec0) 0 1 2 4 9 10) (setE 0 xt eNil)=(j6 (xca call hs u rec0) 0 1 2 4 9 10):=bk (by kernel_rfl) (x10q call hs u rec0)
theorem x10s (rec0:AV→AV→AV→AV→AV→AV→Mem→Nat→O2):x1og call hs u xh7 (j6 rec0 0 1 2 4 9 10) (setE 0 xt eNil)=(j6 (xca call hs u rec0) 0 1 2 4 9 10):=sq2 (by kernel_rfl) (x10j call hs u rec0) (x10r call hs u rec0)
theorem x10t (rec0:AV→AV→AV→AV→AV→AV→Mem→Nat→O2):x1og call hs u xmo (j6 rec0 0 1 2 4 9 10) (setE 0 xt eNil)=(j6 (xm5 call hs u rec0) 0 1 2 4 9 10):=(sqN 2 (by kernel_rfl) (x10s call hs u rec0)).trans (by kernel_rfl)
theorem x10u:x1og call hs u xmn xt (setE 0 xt eNil)=(j6 (x6v call hs u NN) 0 1 2 4 9 10):=lp (Ln:=fun n=>j6 (x6v call hs u n) 0 1 2 4 9 10) (by kernel_rfl) rfl fun n=>(x10t call hs u (x6v call hs u n)).trans (by kernel_rfl)
theorem x10v:x1og call hs u xmm xt eNil=(j6 (x6v call hs u NN) 0 1 2 4 9 10):=bk (by kernel_rfl) (x10u call hs u)
theorem x10w:x1og call hs u xml xt eNil=(j3 (xm6 call hs u) 0 1 2):=(sqN 2 (by kernel_rfl) (x10v call hs u)).trans (by kernel_rfl)
theorem xzp:FL x8o xez:=le3 (fn:=Try.f120) (by kernel_rfl) (by kernel_rfl) (by kernel_rfl) (by kernel_rfl) (fun call hs t0 t1 t2 m=>(congrFun (x10w call hs m.next) _).trans (by kernel_rfl)) (fun _ _ _ _ _ h=>by unfold xez at h;split at h<;>first | exact ⟨_,_,_,rfl⟩ | cases h)
noncomputable abbrev x4o:Fs→O2:=x1lu Try.prog [.tmp 4]
noncomputable abbrev x1p0:=XK call { f:=x1o,u:=u,nt:=48,hs:=hs } x4o
noncomputable def xmu:=x1lv x1o
noncomputable def xh9:=nR xmu
noncomputable def x10x:=nL xh9
noncomputable def xmv:=nR xh9
noncomputable def xha:=nR xmv
noncomputable def x10y:=nL xha
noncomputable def xmw:=nR xha
noncomputable def xhb:=nRs 2 xmw
noncomputable def xmx:=nL xhb
noncomputable def x10z:=nR xhb
noncomputable def xmy:=nR xmx
noncomputable def x110:=nR xmy
theorem x111:x1p0 call hs u x10z x4o eNil=(j1 (x4m call hs u) 7):=by kernel_rfl
theorem x112 (rec0:AV→AV→Mem→Nat→O2):x1p0 call hs u x110 (j2 rec0 7 8) (setE 0 (j1 (x4m call hs u) 7) eNil)=(j2 (xcb call hs u rec0) 7 8):=by kernel_rfl
theorem x113:x1p0 call hs u xmy (j1 (x4m call hs u) 7) (setE 0 (j1 (x4m call hs u) 7) eNil)=(j2 (x22 call hs u NN) 7 8):=lp (Ln:=fun n=>j2 (x22 call hs u n) 7 8) (by kernel_rfl) rfl fun n=>(x112 call hs u (x22 call hs u n)).trans (by kernel_rfl)
theorem x114:x1p0 call hs u xmx (j1 (x4m call hs u) 7) eNil=(j2 (x22 call hs u NN) 7 8):=bk (by kernel_rfl) (x113 call hs u)
theorem x115:x1p0 call hs u xhb x4o eNil=(j2 (x22 call hs u NN) 7 8):=sq2 (by kernel_rfl) (x111 call hs u) (x114 call hs u)
theorem x116:x1p0 call hs u xmw x4o eNil=(j2 (xcc call hs u) 0 6):=(sqN 2 (by kernel_rfl) (x115 call hs u)).trans (by kernel_rfl)
theorem x117:x1p0 call hs u x10y (j2 (xcc call hs u) 0 6) eNil=(j3 (xcd call hs u) 0 5 6):=by kernel_rfl
theorem x118:x1p0 call hs u xha x4o eNil=(j3 (xcd call hs u) 0 5 6):=sq2 (by kernel_rfl) (x116 call hs u) (x117 call hs u)
theorem x119:x1p0 call hs u xmv x4o eNil=(j2 (xce call hs u) 0 1):=(sqN 1 (by kernel_rfl) (x118 call hs u)).trans (by kernel_rfl)
theorem x11a:x1p0 call hs u x10x (j2 (xce call hs u) 0 1) eNil=(j2 (xcf call hs u) 0 1):=by kernel_rfl
theorem x11b:x1p0 call hs u xh9 x4o eNil=(j2 (xcf call hs u) 0 1):=sq2 (by kernel_rfl) (x119 call hs u) (x11a call hs u)
theorem x11c:x1p0 call hs u xmu x4o eNil=(j2 (xgz call hs u) 0 1):=(sqN 1 (by kernel_rfl) (x11b call hs u)).trans (by kernel_rfl)
theorem xzq:FL x1o x8p:=le2 (fn:=Try.f121) (by kernel_rfl) (by kernel_rfl) (by kernel_rfl) (by kernel_rfl) (fun call hs t0 t1 m=>(congrFun (x11c call hs m.next) _).trans (by kernel_rfl)) (fun _ _ _ _ _ h=>by unfold x8p at h;split at h<;>first | exact ⟨_,_,rfl⟩ | cases h)
noncomputable abbrev xmz:Fs→O2:=x1lu Try.prog []
noncomputable abbrev x21y:=XK call { f:=x15,u:=u,nt:=18,hs:=hs } xmz
noncomputable def x11d:=x1lv x15
theorem x11e:x21y call hs u x11d xmz eNil=(j4 (x9i call hs u) 0 1 2 3):=by kernel_rfl
theorem xx1:FL x15 x9q:=le4 (fn:=Try.f122) (by kernel_rfl) (by kernel_rfl) (by kernel_rfl) (by kernel_rfl) (fun call hs t0 t1 t2 t3 m=>(congrFun (x11e call hs m.next) _).trans (by kernel_rfl)) (fun _ _ _ _ _ h=>by unfold x9q at h;split at h<;>first | exact ⟨_,_,_,_,rfl⟩ | cases h)
noncomputable abbrev xn0:Fs→O2:=x1lu Try.prog [.tmp 4]
noncomputable abbrev x21z:=XK call { f:=x4p,u:=u,nt:=6,hs:=hs } xn0
noncomputable def x11f:=x1lv x4p
theorem x11g:x21z call hs u x11f xn0 eNil=(j2 (xh0 call hs u) 0 1):=by kernel_rfl
theorem xx3:FL x4p x77:=le2 (fn:=Try.f123) (by kernel_rfl) (by kernel_rfl) (by kernel_rfl) (by kernel_rfl) (fun call hs t0 t1 m=>(congrFun (x11g call hs m.next) _).trans (by kernel_rfl)) (fun _ _ _ _ _ h=>by unfold x77 at h;split at h<;>first | exact ⟨_,_,rfl⟩ | cases h)
noncomputable abbrev xn1:Fs→O2:=x1lu Try.prog [.tmp 4,.tmp 5]
noncomputable abbrev x220:=XK call { f:=x4v,u:=u,nt:=30,hs:=hs } xn1
noncomputable def x11h:=x1lv x4v
theorem x11i:x220 call hs u x11h xn1 eNil=(j2 (xm7 call hs u) 0 1):=by kernel_rfl
theorem xzr:FL x4v xf0:=le2 (fn:=Try.f125) (by kernel_rfl) (by kernel_rfl) (by kernel_rfl) (by kernel_rfl) (fun call hs t0 t1 m=>(congrFun (x11i call hs m.next) _).trans (by kernel_rfl)) (fun _ _ _ _ _ h=>by unfold xf0 at h;split at h<;>first | exact ⟨_,_,rfl⟩ | cases h)
noncomputable abbrev x1b:Fs→O2:=x1lu Try.prog []
noncomputable abbrev x1pc:=XK call { f:=x3n,u:=u,nt:=76,hs:=hs } x1b
noncomputable def xn2:=x1lv x3n
noncomputable def xn3:=nR xn2
noncomputable def xn4:=nR xn3
noncomputable def xn5:=nR xn4
noncomputable def xhc:=nRs 2 xn5
noncomputable def xn6:=nL xhc
noncomputable def x11j:=nR xhc
noncomputable def xn7:=nR xn6
noncomputable def xhd:=nRs 3 xn7
noncomputable def x11k:=nL xhd
noncomputable def x11l:=nR xhd
theorem x11m (rec0:AV→AV→AV→AV→AV→AV→Mem→Nat→O2):x1pc call hs u x11j (j6 rec0 0 1 2 14 15 16) (setE 0 x1b eNil)=(j6 (x1k call hs u rec0) 0 1 2 14 15 16):=by kernel_rfl
theorem x11n (rec0:AV→AV→AV→AV→AV→AV→Mem→Nat→O2):x1pc call hs u x11l (j6 (x1k call hs u rec0) 0 1 2 14 15 16) (setE 1 (j6 (x1k call hs u rec0) 0 1 2 14 15 16) (setE 0 x1b eNil))=(j7 (x6w call hs u rec0) 0 1 2 7 14 15 16):=by kernel_rfl
theorem x11o (rec0:AV→AV→AV→AV→AV→AV→Mem→Nat→O2):x1pc call hs u x11k (j7 (x6w call hs u rec0) 0 1 2 7 14 15 16) (setE 1 (j6 (x1k call hs u rec0) 0 1 2 14 15 16) (setE 0 x1b eNil))=(j9 (x6x call hs u rec0) 0 1 2 5 6 7 14 15 16):=by kernel_rfl
theorem x11p (rec0:AV→AV→AV→AV→AV→AV→Mem→Nat→O2):x1pc call hs u xhd (j6 (x1k call hs u rec0) 0 1 2 14 15 16) (setE 1 (j6 (x1k call hs u rec0) 0 1 2 14 15 16) (setE 0 x1b eNil))=(j9 (x6x call hs u rec0) 0 1 2 5 6 7 14 15 16):=sq2 (by kernel_rfl) (x11n call hs u rec0) (x11o call hs u rec0)
theorem x11q (rec0:AV→AV→AV→AV→AV→AV→Mem→Nat→O2):x1pc call hs u xn7 (j6 (x1k call hs u rec0) 0 1 2 14 15 16) (setE 1 (j6 (x1k call hs u rec0) 0 1 2 14 15 16) (setE 0 x1b eNil))=(j6 (x9j call hs u rec0) 0 1 2 14 15 16):=(sqN 3 (by kernel_rfl) (x11p call hs u rec0)).trans (by kernel_rfl)
theorem x11r (rec0:AV→AV→AV→AV→AV→AV→Mem→Nat→O2):x1pc call hs u xn6 (j6 (x1k call hs u rec0) 0 1 2 14 15 16) (setE 0 x1b eNil)=(j6 (x9j call hs u rec0) 0 1 2 14 15 16):=bk (by kernel_rfl) (x11q call hs u rec0)
theorem x11s (rec0:AV→AV→AV→AV→AV→AV→Mem→Nat→O2):x1pc call hs u xhc (j6 rec0 0 1 2 14 15 16) (setE 0 x1b eNil)=(j6 (x9j call hs u rec0) 0 1 2 14 15 16):=sq2 (by kernel_rfl) (x11m call hs u rec0) (x11r call hs u rec0)
theorem x11t (rec0:AV→AV→AV→AV→AV→AV→Mem→Nat→O2):x1pc call hs u xn5 (j6 rec0 0 1 2 14 15 16) (setE 0 x1b eNil)=(j6 (xcg call hs u rec0) 0 1 2 14 15 16):=(sqN 2 (by kernel_rfl) (x11s call hs u rec0)).trans (by kernel_rfl)
theorem x11u:x1pc call hs u xn4 x1b (setE 0 x1b eNil)=(j6 (x1l call hs u NN) 0 1 2 14 15 16):=lp (Ln:=fun n=>j6 (x1l call hs u n) 0 1 2 14 15 16) (by kernel_rfl) rfl fun n=>(x11t call hs u (x1l call hs u n)).trans (by kernel_rfl)
theorem x11v:x1pc call hs u xn3 x1b eNil=(j6 (x1l call hs u NN) 0 1 2 14 15 16):=bk (by kernel_rfl) (x11u call hs u)
theorem x11w:x1pc call hs u xn2 x1b eNil=(j3 (xh1 call hs u) 0 1 2):=(sqN 1 (by kernel_rfl) (x11v call hs u)).trans (by kernel_rfl)
theorem xwz:FL x3n x74:=le3 (fn:=Try.f126) (by kernel_rfl) (by kernel_rfl) (by kernel_rfl) (by kernel_rfl) (fun call hs t0 t1 t2 m=>(congrFun (x11w call hs m.next) _).trans (by kernel_rfl)) (fun _ _ _ _ _ h=>by unfold x74 at h;split at h<;>first | exact ⟨_,_,_,rfl⟩ | cases h)
noncomputable abbrev xn8:Fs→O2:=x1lu Try.prog [.tmp 4,.tmp 5]
noncomputable abbrev x221:=XK call { f:=x8q,u:=u,nt:=17,hs:=hs } xn8
noncomputable def x11x:=x1lv x8q
theorem x11y:x221 call hs u x11x xn8 eNil=(j2 (xm8 call hs u) 0 1):=by kernel_rfl
theorem xzs:FL x8q xf1:=le2 (fn:=Try.f127) (by kernel_rfl) (by kernel_rfl) (by kernel_rfl) (by kernel_rfl) (fun call hs t0 t1 m=>(congrFun (x11y call hs m.next) _).trans (by kernel_rfl)) (fun _ _ _ _ _ h=>by unfold xf1 at h;split at h<;>first | exact ⟨_,_,rfl⟩ | cases h)
noncomputable abbrev xn9:Fs→O2:=x1lu Try.prog [.tmp 4,.tmp 5]
noncomputable abbrev x222:=XK call { f:=x78,u:=u,nt:=51,hs:=hs } xn9
noncomputable def x11z:=x1lv x78
theorem x120:x222 call hs u x11z xn9 eNil=(j2 (xm9 call hs u) 0 1):=by kernel_rfl
theorem xx5:FL x78 xde:=le2 (fn:=Try.f128) (by kernel_rfl) (by kernel_rfl) (by kernel_rfl) (by kernel_rfl) (fun call hs t0 t1 m=>(congrFun (x120 call hs m.next) _).trans (by kernel_rfl)) (fun _ _ _ _ _ h=>by unfold xde at h;split at h<;>first | exact ⟨_,_,rfl⟩ | cases h)
end Go.Ix
