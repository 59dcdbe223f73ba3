import Derived.Test.YtljibmnhhdiakaaFxText0
import Derived.Test.YtljibmnhhdiakaaFxRules
import Derived.ProofKit
set_option linter.unusedVariables false
namespace Go.Ix
open Go.Proofs

abbrev x35 (hs : FHs) (u : Nat) : FCtx := { f := xd, u := u, nt := 95, hs := hs }
noncomputable abbrev x1v : Fs → Option (AV × Mem) := fxRes Try.prog [.tmp 6]
noncomputable def xfg : Code := nav (bodyOf xd) []
noncomputable def x10y : Code := nav (bodyOf xd) [false]
noncomputable def xn8 : Code := nav (bodyOf xd) [true]
noncomputable def x10z : Code := nav (bodyOf xd) [true, false]
noncomputable def xn9 : Code := nav (bodyOf xd) [true, true]
noncomputable def x110 : Code := nav (bodyOf xd) [true, true, false]
noncomputable def xna : Code := nav (bodyOf xd) [true, true, true]
noncomputable def x111 : Code := nav (bodyOf xd) [true, true, true, false]
noncomputable def xnb : Code := nav (bodyOf xd) [true, true, true, true]
noncomputable def x112 : Code := nav (bodyOf xd) [true, true, true, true, false]
noncomputable def xnc : Code := nav (bodyOf xd) [true, true, true, true, true]
noncomputable def x113 : Code := nav (bodyOf xd) [true, true, true, true, true, false]
noncomputable def xfh : Code := nav (bodyOf xd) [true, true, true, true, true, true]
noncomputable def xnd : Code := nav (bodyOf xd) [true, true, true, true, true, true, false]
noncomputable def xfi : Code := nav (bodyOf xd) [true, true, true, true, true, true, true]
noncomputable def x114 : Code := nav (bodyOf xd) [true, true, true, true, true, true, true, false]
noncomputable def xne : Code := nav (bodyOf xd) [true, true, true, true, true, true, true, true]
noncomputable def x115 : Code := nav (bodyOf xd) [true, true, true, true, true, true, true, true, false]
noncomputable def xnf : Code := nav (bodyOf xd) [true, true, true, true, true, true, true, true, true]
noncomputable def x116 : Code := nav (bodyOf xd) [true, true, true, true, true, true, true, true, true, false]
noncomputable def xfj : Code := nav (bodyOf xd) [true, true, true, true, true, true, true, true, true, true]
noncomputable def xfk : Code := nav (bodyOf xd) [true, true, true, true, true, true, true, true, true, true, false]
noncomputable def xng : Code := nav (bodyOf xd) [true, true, true, true, true, true, true, true, true, true, true]
noncomputable def x117 : Code := nav (bodyOf xd) [true, true, true, true, true, true, true, true, true, true, false, false]
noncomputable def xfl : Code := nav (bodyOf xd) [true, true, true, true, true, true, true, true, true, true, false, true]
noncomputable def xfm : Code := nav (bodyOf xd) [true, true, true, true, true, true, true, true, true, true, false, true, false]
noncomputable def xfn : Code := nav (bodyOf xd) [true, true, true, true, true, true, true, true, true, true, false, true, false, false]
theorem x118 (call : FCall) (hs : FHs) (u : Nat) :
  fxK Try.prog pol NN call xng (AV × Mem) (x35 hs u) x1v eNil x1v = (fun s => x3z call hs u (s.sl 3) (s.sl 7) (s.sl 11) s.m s.fc) := by
  kernel_rfl
theorem x119 (call : FCall) (hs : FHs) (u : Nat) (rec0 : AV → AV → AV → AV → AV → AV → Mem → Nat → Option (AV × Mem)) :
  fxK Try.prog pol NN call xfn (AV × Mem) (x35 hs u) (fun s => rec0 (s.sl 1) (s.sl 2) (s.sl 3) (s.sl 7) (s.sl 11) (s.sl 12) s.m s.fc) (setE 0 (fun s => x3z call hs u (s.sl 3) (s.sl 7) (s.sl 11) s.m s.fc) eNil) x1v = (fun s => x9b call hs u rec0 (s.sl 1) (s.sl 2) (s.sl 3) (s.sl 7) (s.sl 11) (s.sl 12) s.m s.fc) := by
  kernel_rfl
theorem xnh (call : FCall) (hs : FHs) (u : Nat) : ∀ n : Nat,
  iter (fun rec => fxK Try.prog pol NN call xfn (AV × Mem) (x35 hs u) rec (setE 0 (fun s => x3z call hs u (s.sl 3) (s.sl 7) (s.sl 11) s.m s.fc) eNil) x1v) n = (fun s => x40 call hs u n (s.sl 1) (s.sl 2) (s.sl 3) (s.sl 7) (s.sl 11) (s.sl 12) s.m s.fc)
  | 0 => rfl
  | n + 1 => by rw [iter_succ, xnh call hs u n, x119 call hs u (x40 call hs u n)]; kernel_rfl
theorem x11a (call : FCall) (hs : FHs) (u : Nat) :
  fxK Try.prog pol NN call xfm (AV × Mem) (x35 hs u) (fun s => x3z call hs u (s.sl 3) (s.sl 7) (s.sl 11) s.m s.fc) (setE 0 (fun s => x3z call hs u (s.sl 3) (s.sl 7) (s.sl 11) s.m s.fc) eNil) x1v = (fun s => x40 call hs u NN (s.sl 1) (s.sl 2) (s.sl 3) (s.sl 7) (s.sl 11) (s.sl 12) s.m s.fc) := by
  rw [show xfm = .loop xfn from by kernel_rfl, loop_r, xnh call hs u NN]
theorem x11b (call : FCall) (hs : FHs) (u : Nat) :
  fxK Try.prog pol NN call xfl (AV × Mem) (x35 hs u) (fun s => x3z call hs u (s.sl 3) (s.sl 7) (s.sl 11) s.m s.fc) eNil x1v = (fun s => x40 call hs u NN (s.sl 1) (s.sl 2) (s.sl 3) (s.sl 7) (s.sl 11) (s.sl 12) s.m s.fc) := by
  rw [show xfl = .block 0 xfm from by kernel_rfl, block_r, x11a call hs u]
theorem x11c (call : FCall) (hs : FHs) (u : Nat) :
  fxK Try.prog pol NN call xfk (AV × Mem) (x35 hs u) (fun s => x3z call hs u (s.sl 3) (s.sl 7) (s.sl 11) s.m s.fc) eNil x1v = (fun s => x9c call hs u (s.sl 1) (s.sl 2) (s.sl 3) (s.sl 7) (s.sl 11) s.m s.fc) := by
  rw [show xfk = .seq x117 xfl from by kernel_rfl, seq_r]; rw [x11b call hs u]; kernel_rfl
theorem x11d (call : FCall) (hs : FHs) (u : Nat) :
  fxK Try.prog pol NN call xfj (AV × Mem) (x35 hs u) x1v eNil x1v = (fun s => x9c call hs u (s.sl 1) (s.sl 2) (s.sl 3) (s.sl 7) (s.sl 11) s.m s.fc) := by
  rw [show xfj = .seq xfk xng from by kernel_rfl, seq_r, x118 call hs u, x11c call hs u]
theorem x11e (call : FCall) (hs : FHs) (u : Nat) :
  fxK Try.prog pol NN call xfi (AV × Mem) (x35 hs u) x1v eNil x1v = (fun s => x78 call hs u (s.sl 1) (s.sl 2) (s.sl 3) (s.sl 7) (s.sl 8) (s.sl 9) (s.sl 10) s.m s.fc) := by
  rw [show xfi = .seq x114 xne from by kernel_rfl, seq_r]; rw [show xne = .seq x115 xnf from by kernel_rfl, seq_r]; rw [show xnf = .seq x116 xfj from by kernel_rfl, seq_r]; rw [x11d call hs u]; kernel_rfl
theorem x11f (call : FCall) (hs : FHs) (u : Nat) :
  fxK Try.prog pol NN call xnd (AV × Mem) (x35 hs u) (fun s => x78 call hs u (s.sl 1) (s.sl 2) (s.sl 3) (s.sl 7) (s.sl 8) (s.sl 9) (s.sl 10) s.m s.fc) eNil x1v = (fun s => x8p call hs u (s.sl 1) (s.sl 2) (s.sl 3) (s.sl 7) (s.sl 8) (s.sl 9) (s.sl 10) s.m s.fc) := by
  kernel_rfl
theorem x11g (call : FCall) (hs : FHs) (u : Nat) :
  fxK Try.prog pol NN call xfh (AV × Mem) (x35 hs u) x1v eNil x1v = (fun s => x8p call hs u (s.sl 1) (s.sl 2) (s.sl 3) (s.sl 7) (s.sl 8) (s.sl 9) (s.sl 10) s.m s.fc) := by
  rw [show xfh = .seq xnd xfi from by kernel_rfl, seq_r, x11e call hs u, x11f call hs u]
theorem x11h (call : FCall) (hs : FHs) (u : Nat) :
  fxK Try.prog pol NN call xfg (AV × Mem) (x35 hs u) x1v eNil x1v = (fun s => xbk call hs u (s.sl 0) (s.sl 1) (s.sl 2) s.m s.fc) := by
  rw [show xfg = .seq x10y xn8 from by kernel_rfl, seq_r]; rw [show xn8 = .seq x10z xn9 from by kernel_rfl, seq_r]; rw [show xn9 = .seq x110 xna from by kernel_rfl, seq_r]; rw [show xna = .seq x111 xnb from by kernel_rfl, seq_r]; rw [show xnb = .seq x112 xnc from by kernel_rfl, seq_r]; rw [show xnc = .seq x113 xfh from by kernel_rfl, seq_r]; rw [x11g call hs u]; kernel_rfl
theorem x11i (call : FCall) (hs : FHs) (t0 t1 t2 : AV) (m : Mem) : fxBody Try.prog pol NN call hs xd [t0, t1, t2] m = x6h call hs [t0, t1, t2] m := by
  rw [fxBody_at (fn := Try.f6) (body := xfg) (nt := 95) (rs := [.tmp 6]) (by kernel_rfl) (by kernel_rfl) (by kernel_rfl) (by kernel_rfl) (by kernel_rfl) (by kernel_rfl)]
  exact (congrFun (x11h call hs m.next) _).trans (by kernel_rfl)
theorem xto (call : FCall) (hs : FHs) (args : List AV) (m : Mem) (r : AV × Mem) (h : x6h call hs args m = some r) : fxBody Try.prog pol NN call hs xd args m = some r := by
  unfold x6h at h
  split at h
  · rw [x11i]; exact h
  · cases h

abbrev xb9 (hs : FHs) (u : Nat) : FCtx := { f := xz, u := u, nt := 45, hs := hs }
noncomputable abbrev x67 : Fs → Option (AV × Mem) := fxRes Try.prog [.tmp 4]
noncomputable def xfo : Code := nav (bodyOf xz) []
noncomputable def x11j : Code := nav (bodyOf xz) [false]
noncomputable def xni : Code := nav (bodyOf xz) [true]
noncomputable def x11k : Code := nav (bodyOf xz) [true, false]
noncomputable def xnj : Code := nav (bodyOf xz) [true, true]
noncomputable def x11l : Code := nav (bodyOf xz) [true, true, false]
noncomputable def xnk : Code := nav (bodyOf xz) [true, true, true]
noncomputable def x11m : Code := nav (bodyOf xz) [true, true, true, false]
noncomputable def xnl : Code := nav (bodyOf xz) [true, true, true, true]
noncomputable def x11n : Code := nav (bodyOf xz) [true, true, true, true, false]
noncomputable def xnm : Code := nav (bodyOf xz) [true, true, true, true, true]
noncomputable def x11o : Code := nav (bodyOf xz) [true, true, true, true, true, false]
noncomputable def xfp : Code := nav (bodyOf xz) [true, true, true, true, true, true]
noncomputable def xnn : Code := nav (bodyOf xz) [true, true, true, true, true, true, false]
noncomputable def xno : Code := nav (bodyOf xz) [true, true, true, true, true, true, true]
theorem x11p (call : FCall) (hs : FHs) (u : Nat) :
  fxK Try.prog pol NN call xno (AV × Mem) (xb9 hs u) x67 eNil x67 = (fun s => x79 call hs u (s.sl 5) (s.sl 6) (s.sl 7) (s.sl 8) s.m s.fc) := by
  kernel_rfl
theorem x11q (call : FCall) (hs : FHs) (u : Nat) :
  fxK Try.prog pol NN call xnn (AV × Mem) (xb9 hs u) (fun s => x79 call hs u (s.sl 5) (s.sl 6) (s.sl 7) (s.sl 8) s.m s.fc) eNil x67 = (fun s => x8q call hs u (s.sl 1) (s.sl 2) (s.sl 5) (s.sl 6) (s.sl 7) (s.sl 8) s.m s.fc) := by
  kernel_rfl
theorem x11r (call : FCall) (hs : FHs) (u : Nat) :
  fxK Try.prog pol NN call xfp (AV × Mem) (xb9 hs u) x67 eNil x67 = (fun s => x8q call hs u (s.sl 1) (s.sl 2) (s.sl 5) (s.sl 6) (s.sl 7) (s.sl 8) s.m s.fc) := by
  rw [show xfp = .seq xnn xno from by kernel_rfl, seq_r, x11p call hs u, x11q call hs u]
theorem x11s (call : FCall) (hs : FHs) (u : Nat) :
  fxK Try.prog pol NN call xfo (AV × Mem) (xb9 hs u) x67 eNil x67 = (fun s => xbl call hs u (s.sl 0) (s.sl 1) s.m s.fc) := by
  rw [show xfo = .seq x11j xni from by kernel_rfl, seq_r]; rw [show xni = .seq x11k xnj from by kernel_rfl, seq_r]; rw [show xnj = .seq x11l xnk from by kernel_rfl, seq_r]; rw [show xnk = .seq x11m xnl from by kernel_rfl, seq_r]; rw [show xnl = .seq x11n xnm from by kernel_rfl, seq_r]; rw [show xnm = .seq x11o xfp from by kernel_rfl, seq_r]; rw [x11r call hs u]; kernel_rfl
theorem x11t (call : FCall) (hs : FHs) (t0 t1 : AV) (m : Mem) : fxBody Try.prog pol NN call hs xz [t0, t1] m = x6i call hs [t0, t1] m := by
  rw [fxBody_at (fn := Try.f9) (body := xfo) (nt := 45) (rs := [.tmp 4]) (by kernel_rfl) (by kernel_rfl) (by kernel_rfl) (by kernel_rfl) (by kernel_rfl) (by kernel_rfl)]
  exact (congrFun (x11s call hs m.next) _).trans (by kernel_rfl)
theorem xtp (call : FCall) (hs : FHs) (args : List AV) (m : Mem) (r : AV × Mem) (h : x6i call hs args m = some r) : fxBody Try.prog pol NN call hs xz args m = some r := by
  unfold x6i at h
  split at h
  · rw [x11t]; exact h
  · cases h

abbrev x11u (hs : FHs) (u : Nat) : FCtx := { f := x5o, u := u, nt := 100, hs := hs }
noncomputable abbrev xnp : Fs → Option (AV × Mem) := fxRes Try.prog [.tmp 6]
noncomputable def xnq : Code := nav (bodyOf x5o) []
theorem x11v (call : FCall) (hs : FHs) (u : Nat) :
  fxK Try.prog pol NN call xnq (AV × Mem) (x11u hs u) xnp eNil xnp = (fun s => xbm call hs u (s.sl 0) (s.sl 1) (s.sl 2) s.m s.fc) := by
  kernel_rfl
theorem x11w (call : FCall) (hs : FHs) (t0 t1 t2 : AV) (m : Mem) : fxBody Try.prog pol NN call hs x5o [t0, t1, t2] m = x6j call hs [t0, t1, t2] m := by
  rw [fxBody_at (fn := Try.f10) (body := xnq) (nt := 100) (rs := [.tmp 6]) (by kernel_rfl) (by kernel_rfl) (by kernel_rfl) (by kernel_rfl) (by kernel_rfl) (by kernel_rfl)]
  exact (congrFun (x11v call hs m.next) _).trans (by kernel_rfl)
theorem xtq (call : FCall) (hs : FHs) (args : List AV) (m : Mem) (r : AV × Mem) (h : x6j call hs args m = some r) : fxBody Try.prog pol NN call hs x5o args m = some r := by
  unfold x6j at h
  split at h
  · rw [x11w]; exact h
  · cases h

abbrev x11x (hs : FHs) (u : Nat) : FCtx := { f := x2n, u := u, nt := 79, hs := hs }
noncomputable abbrev xnr : Fs → Option (AV × Mem) := fxRes Try.prog [.tmp 0]
noncomputable def xns : Code := nav (bodyOf x2n) []
theorem x11y (call : FCall) (hs : FHs) (u : Nat) :
  fxK Try.prog pol NN call xns (AV × Mem) (x11x hs u) xnr eNil xnr = (fun s => xjy call hs u s.m s.fc) := by
  kernel_rfl
theorem x11z (call : FCall) (hs : FHs) (m : Mem) : fxBody Try.prog pol NN call hs x2n [] m = x81 call hs [] m := by
  rw [fxBody_at (fn := Try.f15) (body := xns) (nt := 79) (rs := [.tmp 0]) (by kernel_rfl) (by kernel_rfl) (by kernel_rfl) (by kernel_rfl) (by kernel_rfl) (by kernel_rfl)]
  exact (congrFun (x11y call hs m.next) _).trans (by kernel_rfl)
theorem xtr (call : FCall) (hs : FHs) (args : List AV) (m : Mem) (r : AV × Mem) (h : x81 call hs args m = some r) : fxBody Try.prog pol NN call hs x2n args m = some r := by
  unfold x81 at h
  split at h
  · rw [x11z]; exact h
  · cases h

abbrev x5c (hs : FHs) (u : Nat) : FCtx := { f := xx, u := u, nt := 56, hs := hs }
noncomputable abbrev x36 : Fs → Option (AV × Mem) := fxRes Try.prog [.tmp 2]
noncomputable def xfq : Code := nav (bodyOf xx) []
noncomputable def x120 : Code := nav (bodyOf xx) [false]
noncomputable def xnt : Code := nav (bodyOf xx) [true]
noncomputable def x121 : Code := nav (bodyOf xx) [true, false]
noncomputable def xnu : Code := nav (bodyOf xx) [true, true]
noncomputable def x122 : Code := nav (bodyOf xx) [true, true, false]
noncomputable def xfr : Code := nav (bodyOf xx) [true, true, true]
noncomputable def xfs : Code := nav (bodyOf xx) [true, true, true, false]
noncomputable def xnv : Code := nav (bodyOf xx) [true, true, true, true]
noncomputable def x123 : Code := nav (bodyOf xx) [true, true, true, false, false]
noncomputable def xft : Code := nav (bodyOf xx) [true, true, true, false, true]
noncomputable def xfu : Code := nav (bodyOf xx) [true, true, true, false, true, false]
noncomputable def xfv : Code := nav (bodyOf xx) [true, true, true, false, true, false, false]
theorem x124 (call : FCall) (hs : FHs) (u : Nat) :
  fxK Try.prog pol NN call xnv (AV × Mem) (x5c hs u) x36 eNil x36 = (fun s => x41 call hs u s.m s.fc) := by
  kernel_rfl
theorem x125 (call : FCall) (hs : FHs) (u : Nat) (rec0 : AV → AV → Mem → Nat → Option (AV × Mem)) :
  fxK Try.prog pol NN call xfv (AV × Mem) (x5c hs u) (fun s => rec0 (s.sl 1) (s.sl 3) s.m s.fc) (setE 0 (fun s => x41 call hs u s.m s.fc) eNil) x36 = (fun s => x9e call hs u rec0 (s.sl 1) (s.sl 3) s.m s.fc) := by
  kernel_rfl
theorem xnw (call : FCall) (hs : FHs) (u : Nat) : ∀ n : Nat,
  iter (fun rec => fxK Try.prog pol NN call xfv (AV × Mem) (x5c hs u) rec (setE 0 (fun s => x41 call hs u s.m s.fc) eNil) x36) n = (fun s => x42 call hs u n (s.sl 1) (s.sl 3) s.m s.fc)
  | 0 => rfl
  | n + 1 => by rw [iter_succ, xnw call hs u n, x125 call hs u (x42 call hs u n)]; kernel_rfl
theorem x126 (call : FCall) (hs : FHs) (u : Nat) :
  fxK Try.prog pol NN call xfu (AV × Mem) (x5c hs u) (fun s => x41 call hs u s.m s.fc) (setE 0 (fun s => x41 call hs u s.m s.fc) eNil) x36 = (fun s => x42 call hs u NN (s.sl 1) (s.sl 3) s.m s.fc) := by
  rw [show xfu = .loop xfv from by kernel_rfl, loop_r, xnw call hs u NN]
theorem x127 (call : FCall) (hs : FHs) (u : Nat) :
  fxK Try.prog pol NN call xft (AV × Mem) (x5c hs u) (fun s => x41 call hs u s.m s.fc) eNil x36 = (fun s => x42 call hs u NN (s.sl 1) (s.sl 3) s.m s.fc) := by
  rw [show xft = .block 0 xfu from by kernel_rfl, block_r, x126 call hs u]
theorem x128 (call : FCall) (hs : FHs) (u : Nat) :
  fxK Try.prog pol NN call xfs (AV × Mem) (x5c hs u) (fun s => x41 call hs u s.m s.fc) eNil x36 = (fun s => x9f call hs u (s.sl 1) s.m s.fc) := by
  rw [show xfs = .seq x123 xft from by kernel_rfl, seq_r]; rw [x127 call hs u]; kernel_rfl
theorem x129 (call : FCall) (hs : FHs) (u : Nat) :
  fxK Try.prog pol NN call xfr (AV × Mem) (x5c hs u) x36 eNil x36 = (fun s => x9f call hs u (s.sl 1) s.m s.fc) := by
  rw [show xfr = .seq xfs xnv from by kernel_rfl, seq_r, x124 call hs u, x128 call hs u]
theorem x12a (call : FCall) (hs : FHs) (u : Nat) :
  fxK Try.prog pol NN call xfq (AV × Mem) (x5c hs u) x36 eNil x36 = (fun s => xbn call hs u (s.sl 0) s.m s.fc) := by
  rw [show xfq = .seq x120 xnt from by kernel_rfl, seq_r]; rw [show xnt = .seq x121 xnu from by kernel_rfl, seq_r]; rw [show xnu = .seq x122 xfr from by kernel_rfl, seq_r]; rw [x129 call hs u]; kernel_rfl
theorem x12b (call : FCall) (hs : FHs) (t0 : AV) (m : Mem) : fxBody Try.prog pol NN call hs xx [t0] m = x6k call hs [t0] m := by
  rw [fxBody_at (fn := Try.f16) (body := xfq) (nt := 56) (rs := [.tmp 2]) (by kernel_rfl) (by kernel_rfl) (by kernel_rfl) (by kernel_rfl) (by kernel_rfl) (by kernel_rfl)]
  exact (congrFun (x12a call hs m.next) _).trans (by kernel_rfl)
theorem xts (call : FCall) (hs : FHs) (args : List AV) (m : Mem) (r : AV × Mem) (h : x6k call hs args m = some r) : fxBody Try.prog pol NN call hs xx args m = some r := by
  unfold x6k at h
  split at h
  · rw [x12b]; exact h
  · cases h

abbrev x12c (hs : FHs) (u : Nat) : FCtx := { f := x3m, u := u, nt := 33, hs := hs }
noncomputable abbrev xnx : Fs → Option (AV × Mem) := fxRes Try.prog [.tmp 2, .tmp 3, .tmp 4, .tmp 5]
noncomputable def xny : Code := nav (bodyOf x3m) []
theorem x12d (call : FCall) (hs : FHs) (u : Nat) :
  fxK Try.prog pol NN call xny (AV × Mem) (x12c hs u) xnx eNil xnx = (fun s => x8r call hs u (s.sl 0) s.m s.fc) := by
  kernel_rfl
theorem x12e (call : FCall) (hs : FHs) (t0 : AV) (m : Mem) : fxBody Try.prog pol NN call hs x3m [t0] m = x6l call hs [t0] m := by
  rw [fxBody_at (fn := Try.f17) (body := xny) (nt := 33) (rs := [.tmp 2, .tmp 3, .tmp 4, .tmp 5]) (by kernel_rfl) (by kernel_rfl) (by kernel_rfl) (by kernel_rfl) (by kernel_rfl) (by kernel_rfl)]
  exact (congrFun (x12d call hs m.next) _).trans (by kernel_rfl)
theorem xtt (call : FCall) (hs : FHs) (args : List AV) (m : Mem) (r : AV × Mem) (h : x6l call hs args m = some r) : fxBody Try.prog pol NN call hs x3m args m = some r := by
  unfold x6l at h
  split at h
  · rw [x12e]; exact h
  · cases h

abbrev x12f (hs : FHs) (u : Nat) : FCtx := { f := x1w, u := u, nt := 10, hs := hs }
noncomputable abbrev xnz : Fs → Option (AV × Mem) := fxRes Try.prog [.cell 2 x66]
noncomputable def xo0 : Code := nav (bodyOf x1w) []
theorem x12g (call : FCall) (hs : FHs) (u : Nat) :
  fxK Try.prog pol NN call xo0 (AV × Mem) (x12f hs u) xnz eNil xnz = (fun s => x9g call hs u (s.sl 0) s.m s.fc) := by
  kernel_rfl
theorem x12h (call : FCall) (hs : FHs) (t0 : AV) (m : Mem) : fxBody Try.prog pol NN call hs x1w [t0] m = x5p call hs [t0] m := by
  rw [fxBody_at (fn := Try.f18) (body := xo0) (nt := 10) (rs := [.cell 2 x66]) (by kernel_rfl) (by kernel_rfl) (by kernel_rfl) (by kernel_rfl) (by kernel_rfl) (by kernel_rfl)]
  exact (congrFun (x12g call hs m.next) _).trans (by kernel_rfl)
theorem xtu (call : FCall) (hs : FHs) (args : List AV) (m : Mem) (r : AV × Mem) (h : x5p call hs args m = some r) : fxBody Try.prog pol NN call hs x1w args m = some r := by
  unfold x5p at h
  split at h
  · rw [x12h]; exact h
  · cases h

abbrev x12i (hs : FHs) (u : Nat) : FCtx := { f := x2d, u := u, nt := 11, hs := hs }
noncomputable abbrev xo1 : Fs → Option (AV × Mem) := fxRes Try.prog [.tmp 2]
noncomputable def xo2 : Code := nav (bodyOf x2d) []
theorem x12j (call : FCall) (hs : FHs) (u : Nat) :
  fxK Try.prog pol NN call xo2 (AV × Mem) (x12i hs u) xo1 eNil xo1 = (fun s => xbo call hs u (s.sl 0) s.m s.fc) := by
  kernel_rfl
theorem x12k (call : FCall) (hs : FHs) (t0 : AV) (m : Mem) : fxBody Try.prog pol NN call hs x2d [t0] m = x6m call hs [t0] m := by
  rw [fxBody_at (fn := Try.f19) (body := xo2) (nt := 11) (rs := [.tmp 2]) (by kernel_rfl) (by kernel_rfl) (by kernel_rfl) (by kernel_rfl) (by kernel_rfl) (by kernel_rfl)]
  exact (congrFun (x12j call hs m.next) _).trans (by kernel_rfl)
theorem xtv (call : FCall) (hs : FHs) (args : List AV) (m : Mem) (r : AV × Mem) (h : x6m call hs args m = some r) : fxBody Try.prog pol NN call hs x2d args m = some r := by
  unfold x6m at h
  split at h
  · rw [x12k]; exact h
  · cases h

abbrev x5d (hs : FHs) (u : Nat) : FCtx := { f := x1d, u := u, nt := 27, hs := hs }
noncomputable abbrev x37 : Fs → Option (AV × Mem) := fxRes Try.prog [.tmp 4, .tmp 5]
noncomputable def xfw : Code := nav (bodyOf x1d) []
noncomputable def x12l : Code := nav (bodyOf x1d) [false]
noncomputable def xo3 : Code := nav (bodyOf x1d) [true]
noncomputable def x12m : Code := nav (bodyOf x1d) [true, false]
noncomputable def xfx : Code := nav (bodyOf x1d) [true, true]
noncomputable def xfy : Code := nav (bodyOf x1d) [true, true, false]
noncomputable def xo4 : Code := nav (bodyOf x1d) [true, true, true]
noncomputable def x12n : Code := nav (bodyOf x1d) [true, true, false, false]
noncomputable def xfz : Code := nav (bodyOf x1d) [true, true, false, true]
noncomputable def xg0 : Code := nav (bodyOf x1d) [true, true, false, true, false]
noncomputable def xg1 : Code := nav (bodyOf x1d) [true, true, false, true, false, false]
theorem x12o (call : FCall) (hs : FHs) (u : Nat) :
  fxK Try.prog pol NN call xo4 (AV × Mem) (x5d hs u) x37 eNil x37 = (fun s => x43 call hs u (s.sl 1) (s.sl 2) s.m s.fc) := by
  kernel_rfl
theorem x12p (call : FCall) (hs : FHs) (u : Nat) (rec0 : AV → AV → AV → Mem → Nat → Option (AV × Mem)) :
  fxK Try.prog pol NN call xg1 (AV × Mem) (x5d hs u) (fun s => rec0 (s.sl 1) (s.sl 2) (s.sl 6) s.m s.fc) (setE 0 (fun s => x43 call hs u (s.sl 1) (s.sl 2) s.m s.fc) eNil) x37 = (fun s => x9h call hs u rec0 (s.sl 1) (s.sl 2) (s.sl 6) s.m s.fc) := by
  kernel_rfl
theorem xo5 (call : FCall) (hs : FHs) (u : Nat) : ∀ n : Nat,
  iter (fun rec => fxK Try.prog pol NN call xg1 (AV × Mem) (x5d hs u) rec (setE 0 (fun s => x43 call hs u (s.sl 1) (s.sl 2) s.m s.fc) eNil) x37) n = (fun s => x44 call hs u n (s.sl 1) (s.sl 2) (s.sl 6) s.m s.fc)
  | 0 => rfl
  | n + 1 => by rw [iter_succ, xo5 call hs u n, x12p call hs u (x44 call hs u n)]; kernel_rfl
theorem x12q (call : FCall) (hs : FHs) (u : Nat) :
  fxK Try.prog pol NN call xg0 (AV × Mem) (x5d hs u) (fun s => x43 call hs u (s.sl 1) (s.sl 2) s.m s.fc) (setE 0 (fun s => x43 call hs u (s.sl 1) (s.sl 2) s.m s.fc) eNil) x37 = (fun s => x44 call hs u NN (s.sl 1) (s.sl 2) (s.sl 6) s.m s.fc) := by
  rw [show xg0 = .loop xg1 from by kernel_rfl, loop_r, xo5 call hs u NN]
theorem x12r (call : FCall) (hs : FHs) (u : Nat) :
  fxK Try.prog pol NN call xfz (AV × Mem) (x5d hs u) (fun s => x43 call hs u (s.sl 1) (s.sl 2) s.m s.fc) eNil x37 = (fun s => x44 call hs u NN (s.sl 1) (s.sl 2) (s.sl 6) s.m s.fc) := by
  rw [show xfz = .block 0 xg0 from by kernel_rfl, block_r, x12q call hs u]
theorem x12s (call : FCall) (hs : FHs) (u : Nat) :
  fxK Try.prog pol NN call xfy (AV × Mem) (x5d hs u) (fun s => x43 call hs u (s.sl 1) (s.sl 2) s.m s.fc) eNil x37 = (fun s => x9i call hs u (s.sl 1) (s.sl 2) s.m s.fc) := by
  rw [show xfy = .seq x12n xfz from by kernel_rfl, seq_r]; rw [x12r call hs u]; kernel_rfl
theorem x12t (call : FCall) (hs : FHs) (u : Nat) :
  fxK Try.prog pol NN call xfx (AV × Mem) (x5d hs u) x37 eNil x37 = (fun s => x9i call hs u (s.sl 1) (s.sl 2) s.m s.fc) := by
  rw [show xfx = .seq xfy xo4 from by kernel_rfl, seq_r, x12o call hs u, x12s call hs u]
theorem x12u (call : FCall) (hs : FHs) (u : Nat) :
  fxK Try.prog pol NN call xfw (AV × Mem) (x5d hs u) x37 eNil x37 = (fun s => xbp call hs u (s.sl 0) (s.sl 1) s.m s.fc) := by
  rw [show xfw = .seq x12l xo3 from by kernel_rfl, seq_r]; rw [show xo3 = .seq x12m xfx from by kernel_rfl, seq_r]; rw [x12t call hs u]; kernel_rfl
theorem x12v (call : FCall) (hs : FHs) (t0 t1 : AV) (m : Mem) : fxBody Try.prog pol NN call hs x1d [t0, t1] m = x6n call hs [t0, t1] m := by
  rw [fxBody_at (fn := Try.f20) (body := xfw) (nt := 27) (rs := [.tmp 4, .tmp 5]) (by kernel_rfl) (by kernel_rfl) (by kernel_rfl) (by kernel_rfl) (by kernel_rfl) (by kernel_rfl)]
  exact (congrFun (x12u call hs m.next) _).trans (by kernel_rfl)
theorem xtw (call : FCall) (hs : FHs) (args : List AV) (m : Mem) (r : AV × Mem) (h : x6n call hs args m = some r) : fxBody Try.prog pol NN call hs x1d args m = some r := by
  unfold x6n at h
  split at h
  · rw [x12v]; exact h
  · cases h

abbrev x22 (hs : FHs) (u : Nat) : FCtx := { f := xj, u := u, nt := 91, hs := hs }
noncomputable abbrev x1h : Fs → Option (AV × Mem) := fxRes Try.prog [.tmp 4, .tmp 5]
noncomputable def xg2 : Code := nav (bodyOf xj) []
noncomputable def x12w : Code := nav (bodyOf xj) [false]
noncomputable def xo6 : Code := nav (bodyOf xj) [true]
noncomputable def x12x : Code := nav (bodyOf xj) [true, false]
noncomputable def xo7 : Code := nav (bodyOf xj) [true, true]
noncomputable def x12y : Code := nav (bodyOf xj) [true, true, false]
noncomputable def xo8 : Code := nav (bodyOf xj) [true, true, true]
noncomputable def x12z : Code := nav (bodyOf xj) [true, true, true, false]
noncomputable def xg3 : Code := nav (bodyOf xj) [true, true, true, true]
noncomputable def xg4 : Code := nav (bodyOf xj) [true, true, true, true, false]
noncomputable def xg5 : Code := nav (bodyOf xj) [true, true, true, true, true]
noncomputable def xg6 : Code := nav (bodyOf xj) [true, true, true, true, true, false]
noncomputable def xo9 : Code := nav (bodyOf xj) [true, true, true, true, true, true]
noncomputable def x130 : Code := nav (bodyOf xj) [true, true, true, true, true, false, false]
noncomputable def xg7 : Code := nav (bodyOf xj) [true, true, true, true, true, false, true]
noncomputable def xg8 : Code := nav (bodyOf xj) [true, true, true, true, true, false, true, false]
noncomputable def xg9 : Code := nav (bodyOf xj) [true, true, true, true, true, false, true, false, false]
noncomputable def x131 : Code := nav (bodyOf xj) [true, true, true, true, false, false]
noncomputable def xga : Code := nav (bodyOf xj) [true, true, true, true, false, true]
noncomputable def xgb : Code := nav (bodyOf xj) [true, true, true, true, false, true, false]
noncomputable def xgc : Code := nav (bodyOf xj) [true, true, true, true, false, true, false, false]
theorem x132 (call : FCall) (hs : FHs) (u : Nat) :
  fxK Try.prog pol NN call xo9 (AV × Mem) (x22 hs u) x1h eNil x1h = (fun s => x45 call hs u (s.sl 7) s.m s.fc) := by
  kernel_rfl
theorem x133 (call : FCall) (hs : FHs) (u : Nat) (rec0 : AV → AV → AV → AV → Mem → Nat → Option (AV × Mem)) :
  fxK Try.prog pol NN call xg9 (AV × Mem) (x22 hs u) (fun s => rec0 (s.sl 2) (s.sl 6) (s.sl 7) (s.sl 10) s.m s.fc) (setE 2 (fun s => x45 call hs u (s.sl 7) s.m s.fc) eNil) x1h = (fun s => x9j call hs u rec0 (s.sl 2) (s.sl 6) (s.sl 7) (s.sl 10) s.m s.fc) := by
  kernel_rfl
theorem xoa (call : FCall) (hs : FHs) (u : Nat) : ∀ n : Nat,
  iter (fun rec => fxK Try.prog pol NN call xg9 (AV × Mem) (x22 hs u) rec (setE 2 (fun s => x45 call hs u (s.sl 7) s.m s.fc) eNil) x1h) n = (fun s => x46 call hs u n (s.sl 2) (s.sl 6) (s.sl 7) (s.sl 10) s.m s.fc)
  | 0 => rfl
  | n + 1 => by rw [iter_succ, xoa call hs u n, x133 call hs u (x46 call hs u n)]; kernel_rfl
theorem x134 (call : FCall) (hs : FHs) (u : Nat) :
  fxK Try.prog pol NN call xg8 (AV × Mem) (x22 hs u) (fun s => x45 call hs u (s.sl 7) s.m s.fc) (setE 2 (fun s => x45 call hs u (s.sl 7) s.m s.fc) eNil) x1h = (fun s => x46 call hs u NN (s.sl 2) (s.sl 6) (s.sl 7) (s.sl 10) s.m s.fc) := by
  rw [show xg8 = .loop xg9 from by kernel_rfl, loop_r, xoa call hs u NN]
theorem x135 (call : FCall) (hs : FHs) (u : Nat) :
  fxK Try.prog pol NN call xg7 (AV × Mem) (x22 hs u) (fun s => x45 call hs u (s.sl 7) s.m s.fc) eNil x1h = (fun s => x46 call hs u NN (s.sl 2) (s.sl 6) (s.sl 7) (s.sl 10) s.m s.fc) := by
  rw [show xg7 = .block 2 xg8 from by kernel_rfl, block_r, x134 call hs u]
theorem x136 (call : FCall) (hs : FHs) (u : Nat) :
  fxK Try.prog pol NN call xg6 (AV × Mem) (x22 hs u) (fun s => x45 call hs u (s.sl 7) s.m s.fc) eNil x1h = (fun s => x3o call hs u (s.sl 2) (s.sl 6) (s.sl 7) s.m s.fc) := by
  rw [show xg6 = .seq x130 xg7 from by kernel_rfl, seq_r]; rw [x135 call hs u]; kernel_rfl
theorem x137 (call : FCall) (hs : FHs) (u : Nat) :
  fxK Try.prog pol NN call xg5 (AV × Mem) (x22 hs u) x1h eNil x1h = (fun s => x3o call hs u (s.sl 2) (s.sl 6) (s.sl 7) s.m s.fc) := by
  rw [show xg5 = .seq xg6 xo9 from by kernel_rfl, seq_r, x132 call hs u, x136 call hs u]
theorem x138 (call : FCall) (hs : FHs) (u : Nat) (rec1 : AV → AV → AV → AV → AV → Mem → Nat → Option (AV × Mem)) :
  fxK Try.prog pol NN call xgc (AV × Mem) (x22 hs u) (fun s => rec1 (s.sl 1) (s.sl 2) (s.sl 6) (s.sl 7) (s.sl 8) s.m s.fc) (setE 0 (fun s => x3o call hs u (s.sl 2) (s.sl 6) (s.sl 7) s.m s.fc) eNil) x1h = (fun s => x9k call hs u rec1 (s.sl 1) (s.sl 2) (s.sl 6) (s.sl 7) (s.sl 8) s.m s.fc) := by
  kernel_rfl
theorem xob (call : FCall) (hs : FHs) (u : Nat) : ∀ n : Nat,
  iter (fun rec => fxK Try.prog pol NN call xgc (AV × Mem) (x22 hs u) rec (setE 0 (fun s => x3o call hs u (s.sl 2) (s.sl 6) (s.sl 7) s.m s.fc) eNil) x1h) n = (fun s => x47 call hs u n (s.sl 1) (s.sl 2) (s.sl 6) (s.sl 7) (s.sl 8) s.m s.fc)
  | 0 => rfl
  | n + 1 => by rw [iter_succ, xob call hs u n, x138 call hs u (x47 call hs u n)]; kernel_rfl
theorem x139 (call : FCall) (hs : FHs) (u : Nat) :
  fxK Try.prog pol NN call xgb (AV × Mem) (x22 hs u) (fun s => x3o call hs u (s.sl 2) (s.sl 6) (s.sl 7) s.m s.fc) (setE 0 (fun s => x3o call hs u (s.sl 2) (s.sl 6) (s.sl 7) s.m s.fc) eNil) x1h = (fun s => x47 call hs u NN (s.sl 1) (s.sl 2) (s.sl 6) (s.sl 7) (s.sl 8) s.m s.fc) := by
  rw [show xgb = .loop xgc from by kernel_rfl, loop_r, xob call hs u NN]
theorem x13a (call : FCall) (hs : FHs) (u : Nat) :
  fxK Try.prog pol NN call xga (AV × Mem) (x22 hs u) (fun s => x3o call hs u (s.sl 2) (s.sl 6) (s.sl 7) s.m s.fc) eNil x1h = (fun s => x47 call hs u NN (s.sl 1) (s.sl 2) (s.sl 6) (s.sl 7) (s.sl 8) s.m s.fc) := by
  rw [show xga = .block 0 xgb from by kernel_rfl, block_r, x139 call hs u]
theorem x13b (call : FCall) (hs : FHs) (u : Nat) :
  fxK Try.prog pol NN call xg4 (AV × Mem) (x22 hs u) (fun s => x3o call hs u (s.sl 2) (s.sl 6) (s.sl 7) s.m s.fc) eNil x1h = (fun s => x9l call hs u (s.sl 1) (s.sl 2) (s.sl 6) (s.sl 7) s.m s.fc) := by
  rw [show xg4 = .seq x131 xga from by kernel_rfl, seq_r]; rw [x13a call hs u]; kernel_rfl
theorem x13c (call : FCall) (hs : FHs) (u : Nat) :
  fxK Try.prog pol NN call xg3 (AV × Mem) (x22 hs u) x1h eNil x1h = (fun s => x9l call hs u (s.sl 1) (s.sl 2) (s.sl 6) (s.sl 7) s.m s.fc) := by
  rw [show xg3 = .seq xg4 xg5 from by kernel_rfl, seq_r, x137 call hs u, x13b call hs u]
theorem x13d (call : FCall) (hs : FHs) (u : Nat) :
  fxK Try.prog pol NN call xg2 (AV × Mem) (x22 hs u) x1h eNil x1h = (fun s => xbq call hs u (s.sl 0) (s.sl 1) s.m s.fc) := by
  rw [show xg2 = .seq x12w xo6 from by kernel_rfl, seq_r]; rw [show xo6 = .seq x12x xo7 from by kernel_rfl, seq_r]; rw [show xo7 = .seq x12y xo8 from by kernel_rfl, seq_r]; rw [show xo8 = .seq x12z xg3 from by kernel_rfl, seq_r]; rw [x13c call hs u]; kernel_rfl
theorem x13e (call : FCall) (hs : FHs) (t0 t1 : AV) (m : Mem) : fxBody Try.prog pol NN call hs xj [t0, t1] m = x6o call hs [t0, t1] m := by
  rw [fxBody_at (fn := Try.f21) (body := xg2) (nt := 91) (rs := [.tmp 4, .tmp 5]) (by kernel_rfl) (by kernel_rfl) (by kernel_rfl) (by kernel_rfl) (by kernel_rfl) (by kernel_rfl)]
  exact (congrFun (x13d call hs m.next) _).trans (by kernel_rfl)
theorem xtx (call : FCall) (hs : FHs) (args : List AV) (m : Mem) (r : AV × Mem) (h : x6o call hs args m = some r) : fxBody Try.prog pol NN call hs xj args m = some r := by
  unfold x6o at h
  split at h
  · rw [x13e]; exact h
  · cases h

abbrev x5e (hs : FHs) (u : Nat) : FCtx := { f := xm, u := u, nt := 67, hs := hs }
noncomputable abbrev x38 : Fs → Option (AV × Mem) := fxRes Try.prog [.tmp 2]
noncomputable def xgd : Code := nav (bodyOf xm) []
noncomputable def x13f : Code := nav (bodyOf xm) [false]
noncomputable def xoc : Code := nav (bodyOf xm) [true]
noncomputable def x13g : Code := nav (bodyOf xm) [true, false]
noncomputable def xod : Code := nav (bodyOf xm) [true, true]
noncomputable def x13h : Code := nav (bodyOf xm) [true, true, false]
noncomputable def xoe : Code := nav (bodyOf xm) [true, true, true]
noncomputable def x13i : Code := nav (bodyOf xm) [true, true, true, false]
noncomputable def xof : Code := nav (bodyOf xm) [true, true, true, true]
noncomputable def x13j : Code := nav (bodyOf xm) [true, true, true, true, false]
noncomputable def xog : Code := nav (bodyOf xm) [true, true, true, true, true]
noncomputable def x13k : Code := nav (bodyOf xm) [true, true, true, true, true, false]
noncomputable def xge : Code := nav (bodyOf xm) [true, true, true, true, true, true]
noncomputable def xgf : Code := nav (bodyOf xm) [true, true, true, true, true, true, false]
noncomputable def xoh : Code := nav (bodyOf xm) [true, true, true, true, true, true, true]
noncomputable def x13l : Code := nav (bodyOf xm) [true, true, true, true, true, true, false, false]
noncomputable def xgg : Code := nav (bodyOf xm) [true, true, true, true, true, true, false, true]
noncomputable def xgh : Code := nav (bodyOf xm) [true, true, true, true, true, true, false, true, false]
noncomputable def xgi : Code := nav (bodyOf xm) [true, true, true, true, true, true, false, true, false, false]
theorem x13m (call : FCall) (hs : FHs) (u : Nat) :
  fxK Try.prog pol NN call xoh (AV × Mem) (x5e hs u) x38 eNil x38 = (fun s => x52 call hs u s.m s.fc) := by
  kernel_rfl
theorem x13n (call : FCall) (hs : FHs) (u : Nat) (rec0 : AV → AV → AV → Mem → Nat → Option (AV × Mem)) :
  fxK Try.prog pol NN call xgi (AV × Mem) (x5e hs u) (fun s => rec0 (s.sl 57) (s.sl 58) (s.sl 59) s.m s.fc) (setE 0 (fun s => x52 call hs u s.m s.fc) eNil) x38 = (fun s => xjz call hs u rec0 (s.sl 57) (s.sl 58) (s.sl 59) s.m s.fc) := by
  kernel_rfl
theorem xoi (call : FCall) (hs : FHs) (u : Nat) : ∀ n : Nat,
  iter (fun rec => fxK Try.prog pol NN call xgi (AV × Mem) (x5e hs u) rec (setE 0 (fun s => x52 call hs u s.m s.fc) eNil) x38) n = (fun s => x7a call hs u n (s.sl 57) (s.sl 58) (s.sl 59) s.m s.fc)
  | 0 => rfl
  | n + 1 => by rw [iter_succ, xoi call hs u n, x13n call hs u (x7a call hs u n)]; kernel_rfl
theorem x13o (call : FCall) (hs : FHs) (u : Nat) :
  fxK Try.prog pol NN call xgh (AV × Mem) (x5e hs u) (fun s => x52 call hs u s.m s.fc) (setE 0 (fun s => x52 call hs u s.m s.fc) eNil) x38 = (fun s => x7a call hs u NN (s.sl 57) (s.sl 58) (s.sl 59) s.m s.fc) := by
  rw [show xgh = .loop xgi from by kernel_rfl, loop_r, xoi call hs u NN]
theorem x13p (call : FCall) (hs : FHs) (u : Nat) :
  fxK Try.prog pol NN call xgg (AV × Mem) (x5e hs u) (fun s => x52 call hs u s.m s.fc) eNil x38 = (fun s => x7a call hs u NN (s.sl 57) (s.sl 58) (s.sl 59) s.m s.fc) := by
  rw [show xgg = .block 0 xgh from by kernel_rfl, block_r, x13o call hs u]
theorem x13q (call : FCall) (hs : FHs) (u : Nat) :
  fxK Try.prog pol NN call xgf (AV × Mem) (x5e hs u) (fun s => x52 call hs u s.m s.fc) eNil x38 = (fun s => xbr call hs u (s.sl 1) s.m s.fc) := by
  rw [show xgf = .seq x13l xgg from by kernel_rfl, seq_r]; rw [x13p call hs u]; kernel_rfl
theorem x13r (call : FCall) (hs : FHs) (u : Nat) :
  fxK Try.prog pol NN call xge (AV × Mem) (x5e hs u) x38 eNil x38 = (fun s => xbr call hs u (s.sl 1) s.m s.fc) := by
  rw [show xge = .seq xgf xoh from by kernel_rfl, seq_r, x13m call hs u, x13q call hs u]
theorem x13s (call : FCall) (hs : FHs) (u : Nat) :
  fxK Try.prog pol NN call xgd (AV × Mem) (x5e hs u) x38 eNil x38 = (fun s => xk0 call hs u (s.sl 0) s.m s.fc) := by
  rw [show xgd = .seq x13f xoc from by kernel_rfl, seq_r]; rw [show xoc = .seq x13g xod from by kernel_rfl, seq_r]; rw [show xod = .seq x13h xoe from by kernel_rfl, seq_r]; rw [show xoe = .seq x13i xof from by kernel_rfl, seq_r]; rw [show xof = .seq x13j xog from by kernel_rfl, seq_r]; rw [show xog = .seq x13k xge from by kernel_rfl, seq_r]; rw [x13r call hs u]; kernel_rfl
theorem x13t (call : FCall) (hs : FHs) (t0 : AV) (m : Mem) : fxBody Try.prog pol NN call hs xm [t0] m = x82 call hs [t0] m := by
  rw [fxBody_at (fn := Try.f29) (body := xgd) (nt := 67) (rs := [.tmp 2]) (by kernel_rfl) (by kernel_rfl) (by kernel_rfl) (by kernel_rfl) (by kernel_rfl) (by kernel_rfl)]
  exact (congrFun (x13s call hs m.next) _).trans (by kernel_rfl)
theorem xty (call : FCall) (hs : FHs) (args : List AV) (m : Mem) (r : AV × Mem) (h : x82 call hs args m = some r) : fxBody Try.prog pol NN call hs xm args m = some r := by
  unfold x82 at h
  split at h
  · rw [x13t]; exact h
  · cases h

abbrev x13u (hs : FHs) (u : Nat) : FCtx := { f := x5q, u := u, nt := 66, hs := hs }
noncomputable abbrev xoj : Fs → Option (AV × Mem) := fxRes Try.prog [.cell 6 x9d, .tmp 7]
noncomputable def xok : Code := nav (bodyOf x5q) []
theorem x13v (call : FCall) (hs : FHs) (u : Nat) :
  fxK Try.prog pol NN call xok (AV × Mem) (x13u hs u) xoj eNil xoj = (fun s => xk1 call hs u (s.sl 0) (s.sl 1) (s.sl 2) s.m s.fc) := by
  kernel_rfl
theorem x13w (call : FCall) (hs : FHs) (t0 t1 t2 : AV) (m : Mem) : fxBody Try.prog pol NN call hs x5q [t0, t1, t2] m = x83 call hs [t0, t1, t2] m := by
  rw [fxBody_at (fn := Try.f32) (body := xok) (nt := 66) (rs := [.cell 6 x9d, .tmp 7]) (by kernel_rfl) (by kernel_rfl) (by kernel_rfl) (by kernel_rfl) (by kernel_rfl) (by kernel_rfl)]
  exact (congrFun (x13v call hs m.next) _).trans (by kernel_rfl)
theorem xtz (call : FCall) (hs : FHs) (args : List AV) (m : Mem) (r : AV × Mem) (h : x83 call hs args m = some r) : fxBody Try.prog pol NN call hs x5q args m = some r := by
  unfold x83 at h
  split at h
  · rw [x13w]; exact h
  · cases h

abbrev x5f (hs : FHs) (u : Nat) : FCtx := { f := x1e, u := u, nt := 26, hs := hs }
noncomputable abbrev x39 : Fs → Option (AV × Mem) := fxRes Try.prog [.tmp 4]
noncomputable def xgj : Code := nav (bodyOf x1e) []
noncomputable def x13x : Code := nav (bodyOf x1e) [false]
noncomputable def xol : Code := nav (bodyOf x1e) [true]
noncomputable def x13y : Code := nav (bodyOf x1e) [true, false]
noncomputable def xgk : Code := nav (bodyOf x1e) [true, true]
noncomputable def xgl : Code := nav (bodyOf x1e) [true, true, false]
noncomputable def xom : Code := nav (bodyOf x1e) [true, true, true]
noncomputable def x13z : Code := nav (bodyOf x1e) [true, true, false, false]
noncomputable def xgm : Code := nav (bodyOf x1e) [true, true, false, true]
noncomputable def xgn : Code := nav (bodyOf x1e) [true, true, false, true, false]
noncomputable def xgo : Code := nav (bodyOf x1e) [true, true, false, true, false, false]
theorem x140 (call : FCall) (hs : FHs) (u : Nat) :
  fxK Try.prog pol NN call xom (AV × Mem) (x5f hs u) x39 eNil x39 = (fun s => x53 call hs u s.m s.fc) := by
  kernel_rfl
theorem x141 (call : FCall) (hs : FHs) (u : Nat) (rec0 : AV → AV → AV → Mem → Nat → Option (AV × Mem)) :
  fxK Try.prog pol NN call xgo (AV × Mem) (x5f hs u) (fun s => rec0 (s.sl 0) (s.sl 1) (s.sl 5) s.m s.fc) (setE 0 (fun s => x53 call hs u s.m s.fc) eNil) x39 = (fun s => xk2 call hs u rec0 (s.sl 0) (s.sl 1) (s.sl 5) s.m s.fc) := by
  kernel_rfl
theorem xon (call : FCall) (hs : FHs) (u : Nat) : ∀ n : Nat,
  iter (fun rec => fxK Try.prog pol NN call xgo (AV × Mem) (x5f hs u) rec (setE 0 (fun s => x53 call hs u s.m s.fc) eNil) x39) n = (fun s => x7b call hs u n (s.sl 0) (s.sl 1) (s.sl 5) s.m s.fc)
  | 0 => rfl
  | n + 1 => by rw [iter_succ, xon call hs u n, x141 call hs u (x7b call hs u n)]; kernel_rfl
theorem x142 (call : FCall) (hs : FHs) (u : Nat) :
  fxK Try.prog pol NN call xgn (AV × Mem) (x5f hs u) (fun s => x53 call hs u s.m s.fc) (setE 0 (fun s => x53 call hs u s.m s.fc) eNil) x39 = (fun s => x7b call hs u NN (s.sl 0) (s.sl 1) (s.sl 5) s.m s.fc) := by
  rw [show xgn = .loop xgo from by kernel_rfl, loop_r, xon call hs u NN]
theorem x143 (call : FCall) (hs : FHs) (u : Nat) :
  fxK Try.prog pol NN call xgm (AV × Mem) (x5f hs u) (fun s => x53 call hs u s.m s.fc) eNil x39 = (fun s => x7b call hs u NN (s.sl 0) (s.sl 1) (s.sl 5) s.m s.fc) := by
  rw [show xgm = .block 0 xgn from by kernel_rfl, block_r, x142 call hs u]
theorem x144 (call : FCall) (hs : FHs) (u : Nat) :
  fxK Try.prog pol NN call xgl (AV × Mem) (x5f hs u) (fun s => x53 call hs u s.m s.fc) eNil x39 = (fun s => xbs call hs u (s.sl 0) (s.sl 1) s.m s.fc) := by
  rw [show xgl = .seq x13z xgm from by kernel_rfl, seq_r]; rw [x143 call hs u]; kernel_rfl
theorem x145 (call : FCall) (hs : FHs) (u : Nat) :
  fxK Try.prog pol NN call xgk (AV × Mem) (x5f hs u) x39 eNil x39 = (fun s => xbs call hs u (s.sl 0) (s.sl 1) s.m s.fc) := by
  rw [show xgk = .seq xgl xom from by kernel_rfl, seq_r, x140 call hs u, x144 call hs u]
theorem x146 (call : FCall) (hs : FHs) (u : Nat) :
  fxK Try.prog pol NN call xgj (AV × Mem) (x5f hs u) x39 eNil x39 = (fun s => xk3 call hs u (s.sl 0) (s.sl 1) s.m s.fc) := by
  rw [show xgj = .seq x13x xol from by kernel_rfl, seq_r]; rw [show xol = .seq x13y xgk from by kernel_rfl, seq_r]; rw [x145 call hs u]; kernel_rfl
theorem x147 (call : FCall) (hs : FHs) (t0 t1 : AV) (m : Mem) : fxBody Try.prog pol NN call hs x1e [t0, t1] m = x84 call hs [t0, t1] m := by
  rw [fxBody_at (fn := Try.f34) (body := xgj) (nt := 26) (rs := [.tmp 4]) (by kernel_rfl) (by kernel_rfl) (by kernel_rfl) (by kernel_rfl) (by kernel_rfl) (by kernel_rfl)]
  exact (congrFun (x146 call hs m.next) _).trans (by kernel_rfl)
theorem xu0 (call : FCall) (hs : FHs) (args : List AV) (m : Mem) (r : AV × Mem) (h : x84 call hs args m = some r) : fxBody Try.prog pol NN call hs x1e args m = some r := by
  unfold x84 at h
  split at h
  · rw [x147]; exact h
  · cases h

abbrev x148 (hs : FHs) (u : Nat) : FCtx := { f := x1n, u := u, nt := 15, hs := hs }
noncomputable abbrev xoo : Fs → Option (AV × Mem) := fxRes Try.prog [.tmp 6]
noncomputable def xop : Code := nav (bodyOf x1n) []
theorem x149 (call : FCall) (hs : FHs) (u : Nat) :
  fxK Try.prog pol NN call xop (AV × Mem) (x148 hs u) xoo eNil xoo = (fun s => xbt call hs u (s.sl 0) (s.sl 1) (s.sl 2) s.m s.fc) := by
  kernel_rfl
theorem x14a (call : FCall) (hs : FHs) (t0 t1 t2 : AV) (m : Mem) : fxBody Try.prog pol NN call hs x1n [t0, t1, t2] m = x6p call hs [t0, t1, t2] m := by
  rw [fxBody_at (fn := Try.f36) (body := xop) (nt := 15) (rs := [.tmp 6]) (by kernel_rfl) (by kernel_rfl) (by kernel_rfl) (by kernel_rfl) (by kernel_rfl) (by kernel_rfl)]
  exact (congrFun (x149 call hs m.next) _).trans (by kernel_rfl)
theorem xu1 (call : FCall) (hs : FHs) (args : List AV) (m : Mem) (r : AV × Mem) (h : x6p call hs args m = some r) : fxBody Try.prog pol NN call hs x1n args m = some r := by
  unfold x6p at h
  split at h
  · rw [x14a]; exact h
  · cases h

abbrev x14b (hs : FHs) (u : Nat) : FCtx := { f := x2o, u := u, nt := 29, hs := hs }
noncomputable abbrev xoq : Fs → Option (AV × Mem) := fxRes Try.prog [.tmp 4, .tmp 5]
noncomputable def xor : Code := nav (bodyOf x2o) []
theorem x14c (call : FCall) (hs : FHs) (u : Nat) :
  fxK Try.prog pol NN call xor (AV × Mem) (x14b hs u) xoq eNil xoq = (fun s => xbu call hs u (s.sl 0) (s.sl 1) s.m s.fc) := by
  kernel_rfl
theorem x14d (call : FCall) (hs : FHs) (t0 t1 : AV) (m : Mem) : fxBody Try.prog pol NN call hs x2o [t0, t1] m = x6q call hs [t0, t1] m := by
  rw [fxBody_at (fn := Try.f39) (body := xor) (nt := 29) (rs := [.tmp 4, .tmp 5]) (by kernel_rfl) (by kernel_rfl) (by kernel_rfl) (by kernel_rfl) (by kernel_rfl) (by kernel_rfl)]
  exact (congrFun (x14c call hs m.next) _).trans (by kernel_rfl)
theorem xu2 (call : FCall) (hs : FHs) (args : List AV) (m : Mem) (r : AV × Mem) (h : x6q call hs args m = some r) : fxBody Try.prog pol NN call hs x2o args m = some r := by
  unfold x6q at h
  split at h
  · rw [x14d]; exact h
  · cases h

abbrev x14e (hs : FHs) (u : Nat) : FCtx := { f := x2e, u := u, nt := 6, hs := hs }
noncomputable abbrev xos : Fs → Option (AV × Mem) := fxRes Try.prog [.tmp 2]
noncomputable def xot : Code := nav (bodyOf x2e) []
theorem x14f (call : FCall) (hs : FHs) (u : Nat) :
  fxK Try.prog pol NN call xot (AV × Mem) (x14e hs u) xos eNil xos = (fun s => x9m call hs u (s.sl 0) s.m s.fc) := by
  kernel_rfl
theorem x14g (call : FCall) (hs : FHs) (t0 : AV) (m : Mem) : fxBody Try.prog pol NN call hs x2e [t0] m = x5r call hs [t0] m := by
  rw [fxBody_at (fn := Try.f40) (body := xot) (nt := 6) (rs := [.tmp 2]) (by kernel_rfl) (by kernel_rfl) (by kernel_rfl) (by kernel_rfl) (by kernel_rfl) (by kernel_rfl)]
  exact (congrFun (x14f call hs m.next) _).trans (by kernel_rfl)
theorem xu3 (call : FCall) (hs : FHs) (args : List AV) (m : Mem) (r : AV × Mem) (h : x5r call hs args m = some r) : fxBody Try.prog pol NN call hs x2e args m = some r := by
  unfold x5r at h
  split at h
  · rw [x14g]; exact h
  · cases h

abbrev x14h (hs : FHs) (u : Nat) : FCtx := { f := x4x, u := u, nt := 10, hs := hs }
noncomputable abbrev xou : Fs → Option (AV × Mem) := fxRes Try.prog [.tmp 2]
noncomputable def xov : Code := nav (bodyOf x4x) []
theorem x14i (call : FCall) (hs : FHs) (u : Nat) :
  fxK Try.prog pol NN call xov (AV × Mem) (x14h hs u) xou eNil xou = (fun s => xbv call hs u (s.sl 0) s.m s.fc) := by
  kernel_rfl
theorem x14j (call : FCall) (hs : FHs) (t0 : AV) (m : Mem) : fxBody Try.prog pol NN call hs x4x [t0] m = x6r call hs [t0] m := by
  rw [fxBody_at (fn := Try.f41) (body := xov) (nt := 10) (rs := [.tmp 2]) (by kernel_rfl) (by kernel_rfl) (by kernel_rfl) (by kernel_rfl) (by kernel_rfl) (by kernel_rfl)]
  exact (congrFun (x14i call hs m.next) _).trans (by kernel_rfl)
theorem xu4 (call : FCall) (hs : FHs) (args : List AV) (m : Mem) (r : AV × Mem) (h : x6r call hs args m = some r) : fxBody Try.prog pol NN call hs x4x args m = some r := by
  unfold x6r at h
  split at h
  · rw [x14j]; exact h
  · cases h

abbrev x3a (hs : FHs) (u : Nat) : FCtx := { f := xh, u := u, nt := 72, hs := hs }
noncomputable abbrev x23 : Fs → Option (AV × Mem) := fxRes Try.prog [.cell 2 xd2, .tmp 3, .tmp 4, .tmp 5]
noncomputable def xgp : Code := nav (bodyOf xh) []
noncomputable def x14k : Code := nav (bodyOf xh) [false]
noncomputable def xow : Code := nav (bodyOf xh) [true]
noncomputable def x14l : Code := nav (bodyOf xh) [true, false]
noncomputable def xox : Code := nav (bodyOf xh) [true, true]
noncomputable def x14m : Code := nav (bodyOf xh) [true, true, false]
noncomputable def xoy : Code := nav (bodyOf xh) [true, true, true]
noncomputable def x14n : Code := nav (bodyOf xh) [true, true, true, false]
noncomputable def xoz : Code := nav (bodyOf xh) [true, true, true, true]
noncomputable def x14o : Code := nav (bodyOf xh) [true, true, true, true, false]
noncomputable def xgq : Code := nav (bodyOf xh) [true, true, true, true, true]
noncomputable def xgr : Code := nav (bodyOf xh) [true, true, true, true, true, false]
noncomputable def xp0 : Code := nav (bodyOf xh) [true, true, true, true, true, true]
noncomputable def x14p : Code := nav (bodyOf xh) [true, true, true, true, true, false, false]
noncomputable def xgs : Code := nav (bodyOf xh) [true, true, true, true, true, false, true]
noncomputable def xgt : Code := nav (bodyOf xh) [true, true, true, true, true, false, true, false]
noncomputable def xba : Code := nav (bodyOf xh) [true, true, true, true, true, false, true, false, false]
noncomputable def x14q : Code := nav (bodyOf xh) [true, true, true, true, true, false, true, false, false, false]
noncomputable def xp1 : Code := nav (bodyOf xh) [true, true, true, true, true, false, true, false, false, true]
noncomputable def x14r : Code := nav (bodyOf xh) [true, true, true, true, true, false, true, false, false, true, false]
noncomputable def xgu : Code := nav (bodyOf xh) [true, true, true, true, true, false, true, false, false, true, true]
noncomputable def xp2 : Code := nav (bodyOf xh) [true, true, true, true, true, false, true, false, false, true, true, false]
noncomputable def xp3 : Code := nav (bodyOf xh) [true, true, true, true, true, false, true, false, false, true, true, true]
theorem x14s (call : FCall) (hs : FHs) (u : Nat) :
  fxK Try.prog pol NN call xp0 (AV × Mem) (x3a hs u) x23 eNil x23 = (fun s => x2s call hs u (s.sl 2) (s.sl 7) (s.sl 8) (s.sl 9) s.m s.fc) := by
  kernel_rfl
theorem x14t (call : FCall) (hs : FHs) (u : Nat) (rec0 : AV → AV → AV → AV → AV → AV → AV → Mem → Nat → Option (AV × Mem)) :
  fxK Try.prog pol NN call xp3 (AV × Mem) (x3a hs u) (fun s => rec0 (s.sl 2) (s.sl 7) (s.sl 8) (s.sl 9) (s.sl 37) (s.sl 38) (s.sl 39) s.m s.fc) (setE 0 (fun s => x2s call hs u (s.sl 2) (s.sl 7) (s.sl 8) (s.sl 9) s.m s.fc) eNil) x23 = (fun s => x9n call hs u rec0 (s.sl 2) (s.sl 7) (s.sl 8) (s.sl 9) (s.sl 37) (s.sl 38) (s.sl 39) s.m s.fc) := by
  kernel_rfl
theorem x14u (call : FCall) (hs : FHs) (u : Nat) (rec0 : AV → AV → AV → AV → AV → AV → AV → Mem → Nat → Option (AV × Mem)) :
  fxK Try.prog pol NN call xp2 (AV × Mem) (x3a hs u) (fun s => x9n call hs u rec0 (s.sl 2) (s.sl 7) (s.sl 8) (s.sl 9) (s.sl 37) (s.sl 38) (s.sl 39) s.m s.fc) (setE 0 (fun s => x2s call hs u (s.sl 2) (s.sl 7) (s.sl 8) (s.sl 9) s.m s.fc) eNil) x23 = (fun s => xbw call hs u rec0 (s.sl 2) (s.sl 7) (s.sl 8) (s.sl 9) (s.sl 37) (s.sl 38) (s.sl 39) s.m s.fc) := by
  kernel_rfl
theorem x14v (call : FCall) (hs : FHs) (u : Nat) (rec0 : AV → AV → AV → AV → AV → AV → AV → Mem → Nat → Option (AV × Mem)) :
  fxK Try.prog pol NN call xgu (AV × Mem) (x3a hs u) (fun s => rec0 (s.sl 2) (s.sl 7) (s.sl 8) (s.sl 9) (s.sl 37) (s.sl 38) (s.sl 39) s.m s.fc) (setE 0 (fun s => x2s call hs u (s.sl 2) (s.sl 7) (s.sl 8) (s.sl 9) s.m s.fc) eNil) x23 = (fun s => xbw call hs u rec0 (s.sl 2) (s.sl 7) (s.sl 8) (s.sl 9) (s.sl 37) (s.sl 38) (s.sl 39) s.m s.fc) := by
  rw [show xgu = .seq xp2 xp3 from by kernel_rfl, seq_r, x14t call hs u rec0, x14u call hs u rec0]
theorem x14w (call : FCall) (hs : FHs) (u : Nat) (rec0 : AV → AV → AV → AV → AV → AV → AV → Mem → Nat → Option (AV × Mem)) :
  fxK Try.prog pol NN call xba (AV × Mem) (x3a hs u) (fun s => rec0 (s.sl 2) (s.sl 7) (s.sl 8) (s.sl 9) (s.sl 37) (s.sl 38) (s.sl 39) s.m s.fc) (setE 0 (fun s => x2s call hs u (s.sl 2) (s.sl 7) (s.sl 8) (s.sl 9) s.m s.fc) eNil) x23 = (fun s => xk4 call hs u rec0 (s.sl 2) (s.sl 7) (s.sl 8) (s.sl 9) (s.sl 37) (s.sl 38) (s.sl 39) s.m s.fc) := by
  rw [show xba = .seq x14q xp1 from by kernel_rfl, seq_r]; rw [show xp1 = .seq x14r xgu from by kernel_rfl, seq_r]; rw [x14v call hs u rec0]; kernel_rfl
theorem xp4 (call : FCall) (hs : FHs) (u : Nat) : ∀ n : Nat,
  iter (fun rec => fxK Try.prog pol NN call xba (AV × Mem) (x3a hs u) rec (setE 0 (fun s => x2s call hs u (s.sl 2) (s.sl 7) (s.sl 8) (s.sl 9) s.m s.fc) eNil) x23) n = (fun s => x7c call hs u n (s.sl 2) (s.sl 7) (s.sl 8) (s.sl 9) (s.sl 37) (s.sl 38) (s.sl 39) s.m s.fc)
  | 0 => rfl
  | n + 1 => by rw [iter_succ, xp4 call hs u n, x14w call hs u (x7c call hs u n)]; kernel_rfl
theorem x14x (call : FCall) (hs : FHs) (u : Nat) :
  fxK Try.prog pol NN call xgt (AV × Mem) (x3a hs u) (fun s => x2s call hs u (s.sl 2) (s.sl 7) (s.sl 8) (s.sl 9) s.m s.fc) (setE 0 (fun s => x2s call hs u (s.sl 2) (s.sl 7) (s.sl 8) (s.sl 9) s.m s.fc) eNil) x23 = (fun s => x7c call hs u NN (s.sl 2) (s.sl 7) (s.sl 8) (s.sl 9) (s.sl 37) (s.sl 38) (s.sl 39) s.m s.fc) := by
  rw [show xgt = .loop xba from by kernel_rfl, loop_r, xp4 call hs u NN]
theorem x14y (call : FCall) (hs : FHs) (u : Nat) :
  fxK Try.prog pol NN call xgs (AV × Mem) (x3a hs u) (fun s => x2s call hs u (s.sl 2) (s.sl 7) (s.sl 8) (s.sl 9) s.m s.fc) eNil x23 = (fun s => x7c call hs u NN (s.sl 2) (s.sl 7) (s.sl 8) (s.sl 9) (s.sl 37) (s.sl 38) (s.sl 39) s.m s.fc) := by
  rw [show xgs = .block 0 xgt from by kernel_rfl, block_r, x14x call hs u]
theorem x14z (call : FCall) (hs : FHs) (u : Nat) :
  fxK Try.prog pol NN call xgr (AV × Mem) (x3a hs u) (fun s => x2s call hs u (s.sl 2) (s.sl 7) (s.sl 8) (s.sl 9) s.m s.fc) eNil x23 = (fun s => xbx call hs u (s.sl 2) (s.sl 7) (s.sl 8) (s.sl 9) s.m s.fc) := by
  rw [show xgr = .seq x14p xgs from by kernel_rfl, seq_r]; rw [x14y call hs u]; kernel_rfl
theorem x150 (call : FCall) (hs : FHs) (u : Nat) :
  fxK Try.prog pol NN call xgq (AV × Mem) (x3a hs u) x23 eNil x23 = (fun s => xbx call hs u (s.sl 2) (s.sl 7) (s.sl 8) (s.sl 9) s.m s.fc) := by
  rw [show xgq = .seq xgr xp0 from by kernel_rfl, seq_r, x14s call hs u, x14z call hs u]
theorem x151 (call : FCall) (hs : FHs) (u : Nat) :
  fxK Try.prog pol NN call xgp (AV × Mem) (x3a hs u) x23 eNil x23 = (fun s => xk5 call hs u (s.sl 0) s.m s.fc) := by
  rw [show xgp = .seq x14k xow from by kernel_rfl, seq_r]; rw [show xow = .seq x14l xox from by kernel_rfl, seq_r]; rw [show xox = .seq x14m xoy from by kernel_rfl, seq_r]; rw [show xoy = .seq x14n xoz from by kernel_rfl, seq_r]; rw [show xoz = .seq x14o xgq from by kernel_rfl, seq_r]; rw [x150 call hs u]; kernel_rfl
theorem x152 (call : FCall) (hs : FHs) (t0 : AV) (m : Mem) : fxBody Try.prog pol NN call hs xh [t0] m = x85 call hs [t0] m := by
  rw [fxBody_at (fn := Try.f42) (body := xgp) (nt := 72) (rs := [.cell 2 xd2, .tmp 3, .tmp 4, .tmp 5]) (by kernel_rfl) (by kernel_rfl) (by kernel_rfl) (by kernel_rfl) (by kernel_rfl) (by kernel_rfl)]
  exact (congrFun (x151 call hs m.next) _).trans (by kernel_rfl)
theorem xu5 (call : FCall) (hs : FHs) (args : List AV) (m : Mem) (r : AV × Mem) (h : x85 call hs args m = some r) : fxBody Try.prog pol NN call hs xh args m = some r := by
  unfold x85 at h
  split at h
  · rw [x152]; exact h
  · cases h

abbrev x153 (hs : FHs) (u : Nat) : FCtx := { f := x3n, u := u, nt := 21, hs := hs }
noncomputable abbrev xp5 : Fs → Option (AV × Mem) := fxRes Try.prog [.tmp 4, .tmp 5]
noncomputable def xp6 : Code := nav (bodyOf x3n) []
theorem x154 (call : FCall) (hs : FHs) (u : Nat) :
  fxK Try.prog pol NN call xp6 (AV × Mem) (x153 hs u) xp5 eNil xp5 = (fun s => xby call hs u (s.sl 0) (s.sl 1) s.m s.fc) := by
  kernel_rfl
theorem x155 (call : FCall) (hs : FHs) (t0 t1 : AV) (m : Mem) : fxBody Try.prog pol NN call hs x3n [t0, t1] m = x6s call hs [t0, t1] m := by
  rw [fxBody_at (fn := Try.f46) (body := xp6) (nt := 21) (rs := [.tmp 4, .tmp 5]) (by kernel_rfl) (by kernel_rfl) (by kernel_rfl) (by kernel_rfl) (by kernel_rfl) (by kernel_rfl)]
  exact (congrFun (x154 call hs m.next) _).trans (by kernel_rfl)
theorem xu6 (call : FCall) (hs : FHs) (args : List AV) (m : Mem) (r : AV × Mem) (h : x6s call hs args m = some r) : fxBody Try.prog pol NN call hs x3n args m = some r := by
  unfold x6s at h
  split at h
  · rw [x155]; exact h
  · cases h

abbrev x5g (hs : FHs) (u : Nat) : FCtx := { f := x1f, u := u, nt := 32, hs := hs }
noncomputable abbrev x3b : Fs → Option (AV × Mem) := fxRes Try.prog [.tmp 4]
noncomputable def xgv : Code := nav (bodyOf x1f) []
noncomputable def x156 : Code := nav (bodyOf x1f) [false]
noncomputable def xp7 : Code := nav (bodyOf x1f) [true]
noncomputable def x157 : Code := nav (bodyOf x1f) [true, false]
noncomputable def xgw : Code := nav (bodyOf x1f) [true, true]
noncomputable def xgx : Code := nav (bodyOf x1f) [true, true, false]
noncomputable def xp8 : Code := nav (bodyOf x1f) [true, true, true]
noncomputable def x158 : Code := nav (bodyOf x1f) [true, true, false, false]
noncomputable def xgy : Code := nav (bodyOf x1f) [true, true, false, true]
noncomputable def xgz : Code := nav (bodyOf x1f) [true, true, false, true, false]
noncomputable def xh0 : Code := nav (bodyOf x1f) [true, true, false, true, false, false]
theorem x159 (call : FCall) (hs : FHs) (u : Nat) :
  fxK Try.prog pol NN call xp8 (AV × Mem) (x5g hs u) x3b eNil x3b = (fun s => x48 call hs u (s.sl 5) s.m s.fc) := by
  kernel_rfl
theorem x15a (call : FCall) (hs : FHs) (u : Nat) (rec0 : AV → AV → AV → AV → Mem → Nat → Option (AV × Mem)) :
  fxK Try.prog pol NN call xh0 (AV × Mem) (x5g hs u) (fun s => rec0 (s.sl 1) (s.sl 2) (s.sl 5) (s.sl 6) s.m s.fc) (setE 0 (fun s => x48 call hs u (s.sl 5) s.m s.fc) eNil) x3b = (fun s => x9o call hs u rec0 (s.sl 1) (s.sl 2) (s.sl 5) (s.sl 6) s.m s.fc) := by
  kernel_rfl
theorem xp9 (call : FCall) (hs : FHs) (u : Nat) : ∀ n : Nat,
  iter (fun rec => fxK Try.prog pol NN call xh0 (AV × Mem) (x5g hs u) rec (setE 0 (fun s => x48 call hs u (s.sl 5) s.m s.fc) eNil) x3b) n = (fun s => x49 call hs u n (s.sl 1) (s.sl 2) (s.sl 5) (s.sl 6) s.m s.fc)
  | 0 => rfl
  | n + 1 => by rw [iter_succ, xp9 call hs u n, x15a call hs u (x49 call hs u n)]; kernel_rfl
theorem x15b (call : FCall) (hs : FHs) (u : Nat) :
  fxK Try.prog pol NN call xgz (AV × Mem) (x5g hs u) (fun s => x48 call hs u (s.sl 5) s.m s.fc) (setE 0 (fun s => x48 call hs u (s.sl 5) s.m s.fc) eNil) x3b = (fun s => x49 call hs u NN (s.sl 1) (s.sl 2) (s.sl 5) (s.sl 6) s.m s.fc) := by
  rw [show xgz = .loop xh0 from by kernel_rfl, loop_r, xp9 call hs u NN]
theorem x15c (call : FCall) (hs : FHs) (u : Nat) :
  fxK Try.prog pol NN call xgy (AV × Mem) (x5g hs u) (fun s => x48 call hs u (s.sl 5) s.m s.fc) eNil x3b = (fun s => x49 call hs u NN (s.sl 1) (s.sl 2) (s.sl 5) (s.sl 6) s.m s.fc) := by
  rw [show xgy = .block 0 xgz from by kernel_rfl, block_r, x15b call hs u]
theorem x15d (call : FCall) (hs : FHs) (u : Nat) :
  fxK Try.prog pol NN call xgx (AV × Mem) (x5g hs u) (fun s => x48 call hs u (s.sl 5) s.m s.fc) eNil x3b = (fun s => x9p call hs u (s.sl 1) (s.sl 2) (s.sl 5) s.m s.fc) := by
  rw [show xgx = .seq x158 xgy from by kernel_rfl, seq_r]; rw [x15c call hs u]; kernel_rfl
theorem x15e (call : FCall) (hs : FHs) (u : Nat) :
  fxK Try.prog pol NN call xgw (AV × Mem) (x5g hs u) x3b eNil x3b = (fun s => x9p call hs u (s.sl 1) (s.sl 2) (s.sl 5) s.m s.fc) := by
  rw [show xgw = .seq xgx xp8 from by kernel_rfl, seq_r, x159 call hs u, x15d call hs u]
theorem x15f (call : FCall) (hs : FHs) (u : Nat) :
  fxK Try.prog pol NN call xgv (AV × Mem) (x5g hs u) x3b eNil x3b = (fun s => xbz call hs u (s.sl 0) (s.sl 1) s.m s.fc) := by
  rw [show xgv = .seq x156 xp7 from by kernel_rfl, seq_r]; rw [show xp7 = .seq x157 xgw from by kernel_rfl, seq_r]; rw [x15e call hs u]; kernel_rfl
theorem x15g (call : FCall) (hs : FHs) (t0 t1 : AV) (m : Mem) : fxBody Try.prog pol NN call hs x1f [t0, t1] m = x6t call hs [t0, t1] m := by
  rw [fxBody_at (fn := Try.f55) (body := xgv) (nt := 32) (rs := [.tmp 4]) (by kernel_rfl) (by kernel_rfl) (by kernel_rfl) (by kernel_rfl) (by kernel_rfl) (by kernel_rfl)]
  exact (congrFun (x15f call hs m.next) _).trans (by kernel_rfl)
theorem xu7 (call : FCall) (hs : FHs) (args : List AV) (m : Mem) (r : AV × Mem) (h : x6t call hs args m = some r) : fxBody Try.prog pol NN call hs x1f args m = some r := by
  unfold x6t at h
  split at h
  · rw [x15g]; exact h
  · cases h

abbrev x15h (hs : FHs) (u : Nat) : FCtx := { f := x5s, u := u, nt := 20, hs := hs }
noncomputable abbrev xpa : Fs → Option (AV × Mem) := fxRes Try.prog [.tmp 2, .tmp 3]
noncomputable def xpb : Code := nav (bodyOf x5s) []
theorem x15i (call : FCall) (hs : FHs) (u : Nat) :
  fxK Try.prog pol NN call xpb (AV × Mem) (x15h hs u) xpa eNil xpa = (fun s => xk6 call hs u (s.sl 0) s.m s.fc) := by
  kernel_rfl
theorem x15j (call : FCall) (hs : FHs) (t0 : AV) (m : Mem) : fxBody Try.prog pol NN call hs x5s [t0] m = x86 call hs [t0] m := by
  rw [fxBody_at (fn := Try.f58) (body := xpb) (nt := 20) (rs := [.tmp 2, .tmp 3]) (by kernel_rfl) (by kernel_rfl) (by kernel_rfl) (by kernel_rfl) (by kernel_rfl) (by kernel_rfl)]
  exact (congrFun (x15i call hs m.next) _).trans (by kernel_rfl)
theorem xu8 (call : FCall) (hs : FHs) (args : List AV) (m : Mem) (r : AV × Mem) (h : x86 call hs args m = some r) : fxBody Try.prog pol NN call hs x5s args m = some r := by
  unfold x86 at h
  split at h
  · rw [x15j]; exact h
  · cases h

abbrev x15k (hs : FHs) (u : Nat) : FCtx := { f := x4y, u := u, nt := 9, hs := hs }
noncomputable abbrev xpc : Fs → Option (AV × Mem) := fxRes Try.prog [.cell 2 x66]
noncomputable def xpd : Code := nav (bodyOf x4y) []
theorem x15l (call : FCall) (hs : FHs) (u : Nat) :
  fxK Try.prog pol NN call xpd (AV × Mem) (x15k hs u) xpc eNil xpc = (fun s => xk7 call hs u (s.sl 0) s.m s.fc) := by
  kernel_rfl
theorem x15m (call : FCall) (hs : FHs) (t0 : AV) (m : Mem) : fxBody Try.prog pol NN call hs x4y [t0] m = x87 call hs [t0] m := by
  rw [fxBody_at (fn := Try.f60) (body := xpd) (nt := 9) (rs := [.cell 2 x66]) (by kernel_rfl) (by kernel_rfl) (by kernel_rfl) (by kernel_rfl) (by kernel_rfl) (by kernel_rfl)]
  exact (congrFun (x15l call hs m.next) _).trans (by kernel_rfl)
theorem xu9 (call : FCall) (hs : FHs) (args : List AV) (m : Mem) (r : AV × Mem) (h : x87 call hs args m = some r) : fxBody Try.prog pol NN call hs x4y args m = some r := by
  unfold x87 at h
  split at h
  · rw [x15m]; exact h
  · cases h

abbrev xbb (hs : FHs) (u : Nat) : FCtx := { f := x21, u := u, nt := 20, hs := hs }
noncomputable abbrev x68 : Fs → Option (AV × Mem) := fxRes Try.prog [.cell 2 xd3]
noncomputable def xh1 : Code := nav (bodyOf x21) []
noncomputable def x15n : Code := nav (bodyOf x21) [false]
noncomputable def xpe : Code := nav (bodyOf x21) [true]
noncomputable def x15o : Code := nav (bodyOf x21) [true, false]
noncomputable def xh2 : Code := nav (bodyOf x21) [true, true]
noncomputable def xpf : Code := nav (bodyOf x21) [true, true, false]
noncomputable def xpg : Code := nav (bodyOf x21) [true, true, true]
theorem x15p (call : FCall) (hs : FHs) (u : Nat) :
  fxK Try.prog pol NN call xpg (AV × Mem) (xbb hs u) x68 eNil x68 = (fun s => x9q call hs u (s.sl 2) (s.sl 3) s.m s.fc) := by
  kernel_rfl
theorem x15q (call : FCall) (hs : FHs) (u : Nat) :
  fxK Try.prog pol NN call xpf (AV × Mem) (xbb hs u) (fun s => x9q call hs u (s.sl 2) (s.sl 3) s.m s.fc) eNil x68 = (fun s => xc0 call hs u (s.sl 0) (s.sl 2) (s.sl 3) s.m s.fc) := by
  kernel_rfl
theorem x15r (call : FCall) (hs : FHs) (u : Nat) :
  fxK Try.prog pol NN call xh2 (AV × Mem) (xbb hs u) x68 eNil x68 = (fun s => xc0 call hs u (s.sl 0) (s.sl 2) (s.sl 3) s.m s.fc) := by
  rw [show xh2 = .seq xpf xpg from by kernel_rfl, seq_r, x15p call hs u, x15q call hs u]
theorem x15s (call : FCall) (hs : FHs) (u : Nat) :
  fxK Try.prog pol NN call xh1 (AV × Mem) (xbb hs u) x68 eNil x68 = (fun s => xk8 call hs u (s.sl 0) s.m s.fc) := by
  rw [show xh1 = .seq x15n xpe from by kernel_rfl, seq_r]; rw [show xpe = .seq x15o xh2 from by kernel_rfl, seq_r]; rw [x15r call hs u]; kernel_rfl
theorem x15t (call : FCall) (hs : FHs) (t0 : AV) (m : Mem) : fxBody Try.prog pol NN call hs x21 [t0] m = x88 call hs [t0] m := by
  rw [fxBody_at (fn := Try.f61) (body := xh1) (nt := 20) (rs := [.cell 2 xd3]) (by kernel_rfl) (by kernel_rfl) (by kernel_rfl) (by kernel_rfl) (by kernel_rfl) (by kernel_rfl)]
  exact (congrFun (x15s call hs m.next) _).trans (by kernel_rfl)
theorem xua (call : FCall) (hs : FHs) (args : List AV) (m : Mem) (r : AV × Mem) (h : x88 call hs args m = some r) : fxBody Try.prog pol NN call hs x21 args m = some r := by
  unfold x88 at h
  split at h
  · rw [x15t]; exact h
  · cases h

abbrev x15u (hs : FHs) (u : Nat) : FCtx := { f := x3v, u := u, nt := 7, hs := hs }
noncomputable abbrev xph : Fs → Option (AV × Mem) := fxRes Try.prog [.tmp 2]
noncomputable def xpi : Code := nav (bodyOf x3v) []
theorem x15v (call : FCall) (hs : FHs) (u : Nat) :
  fxK Try.prog pol NN call xpi (AV × Mem) (x15u hs u) xph eNil xph = (fun s => xc2 call hs u (s.sl 0) s.m s.fc) := by
  kernel_rfl
theorem x15w (call : FCall) (hs : FHs) (t0 : AV) (m : Mem) : fxBody Try.prog pol NN call hs x3v [t0] m = x6u call hs [t0] m := by
  rw [fxBody_at (fn := Try.f62) (body := xpi) (nt := 7) (rs := [.tmp 2]) (by kernel_rfl) (by kernel_rfl) (by kernel_rfl) (by kernel_rfl) (by kernel_rfl) (by kernel_rfl)]
  exact (congrFun (x15v call hs m.next) _).trans (by kernel_rfl)
theorem xub (call : FCall) (hs : FHs) (args : List AV) (m : Mem) (r : AV × Mem) (h : x6u call hs args m = some r) : fxBody Try.prog pol NN call hs x3v args m = some r := by
  unfold x6u at h
  split at h
  · rw [x15w]; exact h
  · cases h

abbrev x15x (hs : FHs) (u : Nat) : FCtx := { f := x2p, u := u, nt := 14, hs := hs }
noncomputable abbrev xpj : Fs → Option (AV × Mem) := fxRes Try.prog [.cell 2 xd4, .tmp 3]
noncomputable def xpk : Code := nav (bodyOf x2p) []
theorem x15y (call : FCall) (hs : FHs) (u : Nat) :
  fxK Try.prog pol NN call xpk (AV × Mem) (x15x hs u) xpj eNil xpj = (fun s => xc3 call hs u (s.sl 0) s.m s.fc) := by
  kernel_rfl
theorem x15z (call : FCall) (hs : FHs) (t0 : AV) (m : Mem) : fxBody Try.prog pol NN call hs x2p [t0] m = x6v call hs [t0] m := by
  rw [fxBody_at (fn := Try.f63) (body := xpk) (nt := 14) (rs := [.cell 2 xd4, .tmp 3]) (by kernel_rfl) (by kernel_rfl) (by kernel_rfl) (by kernel_rfl) (by kernel_rfl) (by kernel_rfl)]
  exact (congrFun (x15y call hs m.next) _).trans (by kernel_rfl)
theorem xuc (call : FCall) (hs : FHs) (args : List AV) (m : Mem) (r : AV × Mem) (h : x6v call hs args m = some r) : fxBody Try.prog pol NN call hs x2p args m = some r := by
  unfold x6v at h
  split at h
  · rw [x15z]; exact h
  · cases h

abbrev x13 (hs : FHs) (u : Nat) : FCtx := { f := x8, u := u, nt := 64, hs := hs }
noncomputable abbrev xo : Fs → Option (AV × Mem) := fxRes Try.prog [.tmp 2]
noncomputable def xh3 : Code := nav (bodyOf x8) []
noncomputable def x160 : Code := nav (bodyOf x8) [false]
noncomputable def xpl : Code := nav (bodyOf x8) [true]
noncomputable def x161 : Code := nav (bodyOf x8) [true, false]
noncomputable def xh4 : Code := nav (bodyOf x8) [true, true]
noncomputable def xh5 : Code := nav (bodyOf x8) [true, true, false]
noncomputable def xh6 : Code := nav (bodyOf x8) [true, true, true]
noncomputable def x162 : Code := nav (bodyOf x8) [true, true, true, false]
noncomputable def xpm : Code := nav (bodyOf x8) [true, true, true, true]
noncomputable def x163 : Code := nav (bodyOf x8) [true, true, true, true, false]
noncomputable def xh7 : Code := nav (bodyOf x8) [true, true, true, true, true]
noncomputable def xh8 : Code := nav (bodyOf x8) [true, true, true, true, true, false]
noncomputable def xpn : Code := nav (bodyOf x8) [true, true, true, true, true, true]
noncomputable def x164 : Code := nav (bodyOf x8) [true, true, true, true, true, false, false]
noncomputable def xh9 : Code := nav (bodyOf x8) [true, true, true, true, true, false, true]
noncomputable def xha : Code := nav (bodyOf x8) [true, true, true, true, true, false, true, false]
noncomputable def xbc : Code := nav (bodyOf x8) [true, true, true, true, true, false, true, false, false]
noncomputable def x165 : Code := nav (bodyOf x8) [true, true, true, true, true, false, true, false, false, false]
noncomputable def xpo : Code := nav (bodyOf x8) [true, true, true, true, true, false, true, false, false, true]
noncomputable def x166 : Code := nav (bodyOf x8) [true, true, true, true, true, false, true, false, false, true, false]
noncomputable def xhb : Code := nav (bodyOf x8) [true, true, true, true, true, false, true, false, false, true, true]
noncomputable def xhc : Code := nav (bodyOf x8) [true, true, true, true, true, false, true, false, false, true, true, false]
noncomputable def xpp : Code := nav (bodyOf x8) [true, true, true, true, true, false, true, false, false, true, true, true]
noncomputable def xhd : Code := nav (bodyOf x8) [true, true, true, true, true, false, true, false, false, true, true, false, false]
noncomputable def x167 : Code := nav (bodyOf x8) [true, true, true, true, true, false, true, false, false, true, true, false, false, false]
noncomputable def xhe : Code := nav (bodyOf x8) [true, true, true, true, true, false, true, false, false, true, true, false, false, true]
noncomputable def xpq : Code := nav (bodyOf x8) [true, true, true, true, true, false, true, false, false, true, true, false, false, true, false]
noncomputable def xpr : Code := nav (bodyOf x8) [true, true, true, true, true, false, true, false, false, true, true, false, false, true, true]
noncomputable def xhf : Code := nav (bodyOf x8) [true, true, false, false]
noncomputable def xhg : Code := nav (bodyOf x8) [true, true, false, false, false]
theorem x168 (call : FCall) (hs : FHs) (u : Nat) :
  fxK Try.prog pol NN call xpn (AV × Mem) (x13 hs u) xo eNil xo = (fun s => x1o call hs u (s.sl 3) s.m s.fc) := by
  kernel_rfl
theorem x169 (call : FCall) (hs : FHs) (u : Nat) (rec0 : AV → AV → AV → AV → AV → Mem → Nat → Option (AV × Mem)) :
  fxK Try.prog pol NN call xpp (AV × Mem) (x13 hs u) (fun s => rec0 (s.sl 3) (s.sl 6) (s.sl 26) (s.sl 27) (s.sl 28) s.m s.fc) (setE 2 (fun s => x1o call hs u (s.sl 3) s.m s.fc) eNil) xo = (fun s => x2t call hs u rec0 (s.sl 3) (s.sl 6) (s.sl 26) (s.sl 27) (s.sl 28) s.m s.fc) := by
  kernel_rfl
theorem x16a (call : FCall) (hs : FHs) (u : Nat) (rec0 : AV → AV → AV → AV → AV → Mem → Nat → Option (AV × Mem)) :
  fxK Try.prog pol NN call xpr (AV × Mem) (x13 hs u) (fun s => x2t call hs u rec0 (s.sl 3) (s.sl 6) (s.sl 26) (s.sl 27) (s.sl 28) s.m s.fc) (setE 3 (fun s => x2t call hs u rec0 (s.sl 3) (s.sl 6) (s.sl 26) (s.sl 27) (s.sl 28) s.m s.fc) (setE 2 (fun s => x1o call hs u (s.sl 3) s.m s.fc) eNil)) xo = (fun s => x54 call hs u rec0 (s.sl 3) (s.sl 6) (s.sl 7) (s.sl 8) (s.sl 26) (s.sl 27) (s.sl 28) s.m s.fc) := by
  kernel_rfl
theorem x16b (call : FCall) (hs : FHs) (u : Nat) (rec0 : AV → AV → AV → AV → AV → Mem → Nat → Option (AV × Mem)) :
  fxK Try.prog pol NN call xpq (AV × Mem) (x13 hs u) (fun s => x54 call hs u rec0 (s.sl 3) (s.sl 6) (s.sl 7) (s.sl 8) (s.sl 26) (s.sl 27) (s.sl 28) s.m s.fc) (setE 3 (fun s => x2t call hs u rec0 (s.sl 3) (s.sl 6) (s.sl 26) (s.sl 27) (s.sl 28) s.m s.fc) (setE 2 (fun s => x1o call hs u (s.sl 3) s.m s.fc) eNil)) xo = (fun s => x9r call hs u rec0 (s.sl 3) (s.sl 6) (s.sl 7) (s.sl 8) (s.sl 26) (s.sl 27) (s.sl 28) s.m s.fc) := by
  kernel_rfl
theorem x16c (call : FCall) (hs : FHs) (u : Nat) (rec0 : AV → AV → AV → AV → AV → Mem → Nat → Option (AV × Mem)) :
  fxK Try.prog pol NN call xhe (AV × Mem) (x13 hs u) (fun s => x2t call hs u rec0 (s.sl 3) (s.sl 6) (s.sl 26) (s.sl 27) (s.sl 28) s.m s.fc) (setE 3 (fun s => x2t call hs u rec0 (s.sl 3) (s.sl 6) (s.sl 26) (s.sl 27) (s.sl 28) s.m s.fc) (setE 2 (fun s => x1o call hs u (s.sl 3) s.m s.fc) eNil)) xo = (fun s => x9r call hs u rec0 (s.sl 3) (s.sl 6) (s.sl 7) (s.sl 8) (s.sl 26) (s.sl 27) (s.sl 28) s.m s.fc) := by
  rw [show xhe = .seq xpq xpr from by kernel_rfl, seq_r, x16a call hs u rec0, x16b call hs u rec0]
theorem x16d (call : FCall) (hs : FHs) (u : Nat) (rec0 : AV → AV → AV → AV → AV → Mem → Nat → Option (AV × Mem)) :
  fxK Try.prog pol NN call xhd (AV × Mem) (x13 hs u) (fun s => x2t call hs u rec0 (s.sl 3) (s.sl 6) (s.sl 26) (s.sl 27) (s.sl 28) s.m s.fc) (setE 3 (fun s => x2t call hs u rec0 (s.sl 3) (s.sl 6) (s.sl 26) (s.sl 27) (s.sl 28) s.m s.fc) (setE 2 (fun s => x1o call hs u (s.sl 3) s.m s.fc) eNil)) xo = (fun s => x8s call hs u rec0 (s.sl 3) (s.sl 6) (s.sl 26) (s.sl 27) (s.sl 28) s.m s.fc) := by
  rw [show xhd = .seq x167 xhe from by kernel_rfl, seq_r]; rw [x16c call hs u rec0]; kernel_rfl
theorem x16e (call : FCall) (hs : FHs) (u : Nat) (rec0 : AV → AV → AV → AV → AV → Mem → Nat → Option (AV × Mem)) :
  fxK Try.prog pol NN call xhc (AV × Mem) (x13 hs u) (fun s => x2t call hs u rec0 (s.sl 3) (s.sl 6) (s.sl 26) (s.sl 27) (s.sl 28) s.m s.fc) (setE 2 (fun s => x1o call hs u (s.sl 3) s.m s.fc) eNil) xo = (fun s => x8s call hs u rec0 (s.sl 3) (s.sl 6) (s.sl 26) (s.sl 27) (s.sl 28) s.m s.fc) := by
  rw [show xhc = .block 3 xhd from by kernel_rfl, block_r, x16d call hs u rec0]
theorem x16f (call : FCall) (hs : FHs) (u : Nat) (rec0 : AV → AV → AV → AV → AV → Mem → Nat → Option (AV × Mem)) :
  fxK Try.prog pol NN call xhb (AV × Mem) (x13 hs u) (fun s => rec0 (s.sl 3) (s.sl 6) (s.sl 26) (s.sl 27) (s.sl 28) s.m s.fc) (setE 2 (fun s => x1o call hs u (s.sl 3) s.m s.fc) eNil) xo = (fun s => x8s call hs u rec0 (s.sl 3) (s.sl 6) (s.sl 26) (s.sl 27) (s.sl 28) s.m s.fc) := by
  rw [show xhb = .seq xhc xpp from by kernel_rfl, seq_r, x169 call hs u rec0, x16e call hs u rec0]
theorem x16g (call : FCall) (hs : FHs) (u : Nat) (rec0 : AV → AV → AV → AV → AV → Mem → Nat → Option (AV × Mem)) :
  fxK Try.prog pol NN call xbc (AV × Mem) (x13 hs u) (fun s => rec0 (s.sl 3) (s.sl 6) (s.sl 26) (s.sl 27) (s.sl 28) s.m s.fc) (setE 2 (fun s => x1o call hs u (s.sl 3) s.m s.fc) eNil) xo = (fun s => x9s call hs u rec0 (s.sl 3) (s.sl 6) (s.sl 26) (s.sl 27) (s.sl 28) s.m s.fc) := by
  rw [show xbc = .seq x165 xpo from by kernel_rfl, seq_r]; rw [show xpo = .seq x166 xhb from by kernel_rfl, seq_r]; rw [x16f call hs u rec0]; kernel_rfl
theorem xps (call : FCall) (hs : FHs) (u : Nat) : ∀ n : Nat,
  iter (fun rec => fxK Try.prog pol NN call xbc (AV × Mem) (x13 hs u) rec (setE 2 (fun s => x1o call hs u (s.sl 3) s.m s.fc) eNil) xo) n = (fun s => x27 call hs u n (s.sl 3) (s.sl 6) (s.sl 26) (s.sl 27) (s.sl 28) s.m s.fc)
  | 0 => rfl
  | n + 1 => by rw [iter_succ, xps call hs u n, x16g call hs u (x27 call hs u n)]; kernel_rfl
theorem x16h (call : FCall) (hs : FHs) (u : Nat) :
  fxK Try.prog pol NN call xha (AV × Mem) (x13 hs u) (fun s => x1o call hs u (s.sl 3) s.m s.fc) (setE 2 (fun s => x1o call hs u (s.sl 3) s.m s.fc) eNil) xo = (fun s => x27 call hs u NN (s.sl 3) (s.sl 6) (s.sl 26) (s.sl 27) (s.sl 28) s.m s.fc) := by
  rw [show xha = .loop xbc from by kernel_rfl, loop_r, xps call hs u NN]
theorem x16i (call : FCall) (hs : FHs) (u : Nat) :
  fxK Try.prog pol NN call xh9 (AV × Mem) (x13 hs u) (fun s => x1o call hs u (s.sl 3) s.m s.fc) eNil xo = (fun s => x27 call hs u NN (s.sl 3) (s.sl 6) (s.sl 26) (s.sl 27) (s.sl 28) s.m s.fc) := by
  rw [show xh9 = .block 2 xha from by kernel_rfl, block_r, x16h call hs u]
theorem x16j (call : FCall) (hs : FHs) (u : Nat) :
  fxK Try.prog pol NN call xh8 (AV × Mem) (x13 hs u) (fun s => x1o call hs u (s.sl 3) s.m s.fc) eNil xo = (fun s => x9t call hs u (s.sl 3) (s.sl 5) (s.sl 6) s.m s.fc) := by
  rw [show xh8 = .seq x164 xh9 from by kernel_rfl, seq_r]; rw [x16i call hs u]; kernel_rfl
theorem x16k (call : FCall) (hs : FHs) (u : Nat) :
  fxK Try.prog pol NN call xh7 (AV × Mem) (x13 hs u) xo eNil xo = (fun s => x9t call hs u (s.sl 3) (s.sl 5) (s.sl 6) s.m s.fc) := by
  rw [show xh7 = .seq xh8 xpn from by kernel_rfl, seq_r, x168 call hs u, x16j call hs u]
theorem x16l (call : FCall) (hs : FHs) (u : Nat) :
  fxK Try.prog pol NN call xh6 (AV × Mem) (x13 hs u) xo eNil xo = (fun s => x3p call hs u (s.sl 1) (s.sl 3) s.m s.fc) := by
  rw [show xh6 = .seq x162 xpm from by kernel_rfl, seq_r]; rw [show xpm = .seq x163 xh7 from by kernel_rfl, seq_r]; rw [x16k call hs u]; kernel_rfl
theorem x16m (call : FCall) (hs : FHs) (u : Nat) (rec1 : AV → AV → Mem → Nat → Option (AV × Mem)) :
  fxK Try.prog pol NN call xhg (AV × Mem) (x13 hs u) (fun s => rec1 (s.sl 1) (s.sl 3) s.m s.fc) (setE 0 (fun s => x3p call hs u (s.sl 1) (s.sl 3) s.m s.fc) eNil) xo = (fun s => xc4 call hs u rec1 (s.sl 1) (s.sl 3) s.m s.fc) := by
  kernel_rfl
theorem xpt (call : FCall) (hs : FHs) (u : Nat) : ∀ n : Nat,
  iter (fun rec => fxK Try.prog pol NN call xhg (AV × Mem) (x13 hs u) rec (setE 0 (fun s => x3p call hs u (s.sl 1) (s.sl 3) s.m s.fc) eNil) xo) n = (fun s => x2h call hs u n (s.sl 1) (s.sl 3) s.m s.fc)
  | 0 => rfl
  | n + 1 => by rw [iter_succ, xpt call hs u n, x16m call hs u (x2h call hs u n)]; kernel_rfl
theorem x16n (call : FCall) (hs : FHs) (u : Nat) :
  fxK Try.prog pol NN call xhf (AV × Mem) (x13 hs u) (fun s => x3p call hs u (s.sl 1) (s.sl 3) s.m s.fc) (setE 0 (fun s => x3p call hs u (s.sl 1) (s.sl 3) s.m s.fc) eNil) xo = (fun s => x2h call hs u NN (s.sl 1) (s.sl 3) s.m s.fc) := by
  rw [show xhf = .loop xhg from by kernel_rfl, loop_r, xpt call hs u NN]
theorem x16o (call : FCall) (hs : FHs) (u : Nat) :
  fxK Try.prog pol NN call xh5 (AV × Mem) (x13 hs u) (fun s => x3p call hs u (s.sl 1) (s.sl 3) s.m s.fc) eNil xo = (fun s => x2h call hs u NN (s.sl 1) (s.sl 3) s.m s.fc) := by
  rw [show xh5 = .block 0 xhf from by kernel_rfl, block_r, x16n call hs u]
theorem x16p (call : FCall) (hs : FHs) (u : Nat) :
  fxK Try.prog pol NN call xh4 (AV × Mem) (x13 hs u) xo eNil xo = (fun s => x2h call hs u NN (s.sl 1) (s.sl 3) s.m s.fc) := by
  rw [show xh4 = .seq xh5 xh6 from by kernel_rfl, seq_r, x16l call hs u, x16o call hs u]
theorem x16q (call : FCall) (hs : FHs) (u : Nat) :
  fxK Try.prog pol NN call xh3 (AV × Mem) (x13 hs u) xo eNil xo = (fun s => x9u call hs u (s.sl 0) s.m s.fc) := by
  rw [show xh3 = .seq x160 xpl from by kernel_rfl, seq_r]; rw [show xpl = .seq x161 xh4 from by kernel_rfl, seq_r]; rw [x16p call hs u]; kernel_rfl
theorem x16r (call : FCall) (hs : FHs) (t0 : AV) (m : Mem) : fxBody Try.prog pol NN call hs x8 [t0] m = x89 call hs [t0] m := by
  rw [fxBody_at (fn := Try.f64) (body := xh3) (nt := 64) (rs := [.tmp 2]) (by kernel_rfl) (by kernel_rfl) (by kernel_rfl) (by kernel_rfl) (by kernel_rfl) (by kernel_rfl)]
  exact (congrFun (x16q call hs m.next) _).trans (by kernel_rfl)
theorem xud (call : FCall) (hs : FHs) (args : List AV) (m : Mem) (r : AV × Mem) (h : x89 call hs args m = some r) : fxBody Try.prog pol NN call hs x8 args m = some r := by
  unfold x89 at h
  split at h
  · rw [x16r]; exact h
  · cases h

abbrev x5h (hs : FHs) (u : Nat) : FCtx := { f := xy, u := u, nt := 27, hs := hs }
noncomputable abbrev x3c : Fs → Option (AV × Mem) := fxRes Try.prog [.tmp 4]
noncomputable def xhh : Code := nav (bodyOf xy) []
noncomputable def x16s : Code := nav (bodyOf xy) [false]
noncomputable def xpu : Code := nav (bodyOf xy) [true]
noncomputable def x16t : Code := nav (bodyOf xy) [true, false]
noncomputable def xhi : Code := nav (bodyOf xy) [true, true]
noncomputable def xhj : Code := nav (bodyOf xy) [true, true, false]
noncomputable def xpv : Code := nav (bodyOf xy) [true, true, true]
noncomputable def x16u : Code := nav (bodyOf xy) [true, true, false, false]
noncomputable def xhk : Code := nav (bodyOf xy) [true, true, false, true]
noncomputable def xhl : Code := nav (bodyOf xy) [true, true, false, true, false]
noncomputable def xhm : Code := nav (bodyOf xy) [true, true, false, true, false, false]
theorem x16v (call : FCall) (hs : FHs) (u : Nat) :
  fxK Try.prog pol NN call xpv (AV × Mem) (x5h hs u) x3c eNil x3c = (fun s => x4a call hs u (s.sl 5) s.m s.fc) := by
  kernel_rfl
theorem x16w (call : FCall) (hs : FHs) (u : Nat) (rec0 : AV → AV → AV → AV → AV → Mem → Nat → Option (AV × Mem)) :
  fxK Try.prog pol NN call xhm (AV × Mem) (x5h hs u) (fun s => rec0 (s.sl 1) (s.sl 5) (s.sl 10) (s.sl 11) (s.sl 12) s.m s.fc) (setE 0 (fun s => x4a call hs u (s.sl 5) s.m s.fc) eNil) x3c = (fun s => x9v call hs u rec0 (s.sl 1) (s.sl 5) (s.sl 10) (s.sl 11) (s.sl 12) s.m s.fc) := by
  kernel_rfl
theorem xpw (call : FCall) (hs : FHs) (u : Nat) : ∀ n : Nat,
  iter (fun rec => fxK Try.prog pol NN call xhm (AV × Mem) (x5h hs u) rec (setE 0 (fun s => x4a call hs u (s.sl 5) s.m s.fc) eNil) x3c) n = (fun s => x4b call hs u n (s.sl 1) (s.sl 5) (s.sl 10) (s.sl 11) (s.sl 12) s.m s.fc)
  | 0 => rfl
  | n + 1 => by rw [iter_succ, xpw call hs u n, x16w call hs u (x4b call hs u n)]; kernel_rfl
theorem x16x (call : FCall) (hs : FHs) (u : Nat) :
  fxK Try.prog pol NN call xhl (AV × Mem) (x5h hs u) (fun s => x4a call hs u (s.sl 5) s.m s.fc) (setE 0 (fun s => x4a call hs u (s.sl 5) s.m s.fc) eNil) x3c = (fun s => x4b call hs u NN (s.sl 1) (s.sl 5) (s.sl 10) (s.sl 11) (s.sl 12) s.m s.fc) := by
  rw [show xhl = .loop xhm from by kernel_rfl, loop_r, xpw call hs u NN]
theorem x16y (call : FCall) (hs : FHs) (u : Nat) :
  fxK Try.prog pol NN call xhk (AV × Mem) (x5h hs u) (fun s => x4a call hs u (s.sl 5) s.m s.fc) eNil x3c = (fun s => x4b call hs u NN (s.sl 1) (s.sl 5) (s.sl 10) (s.sl 11) (s.sl 12) s.m s.fc) := by
  rw [show xhk = .block 0 xhl from by kernel_rfl, block_r, x16x call hs u]
theorem x16z (call : FCall) (hs : FHs) (u : Nat) :
  fxK Try.prog pol NN call xhj (AV × Mem) (x5h hs u) (fun s => x4a call hs u (s.sl 5) s.m s.fc) eNil x3c = (fun s => x8t call hs u (s.sl 1) (s.sl 2) (s.sl 5) s.m s.fc) := by
  rw [show xhj = .seq x16u xhk from by kernel_rfl, seq_r]; rw [x16y call hs u]; kernel_rfl
theorem x170 (call : FCall) (hs : FHs) (u : Nat) :
  fxK Try.prog pol NN call xhi (AV × Mem) (x5h hs u) x3c eNil x3c = (fun s => x8t call hs u (s.sl 1) (s.sl 2) (s.sl 5) s.m s.fc) := by
  rw [show xhi = .seq xhj xpv from by kernel_rfl, seq_r, x16v call hs u, x16z call hs u]
theorem x171 (call : FCall) (hs : FHs) (u : Nat) :
  fxK Try.prog pol NN call xhh (AV × Mem) (x5h hs u) x3c eNil x3c = (fun s => x9w call hs u (s.sl 0) (s.sl 1) s.m s.fc) := by
  rw [show xhh = .seq x16s xpu from by kernel_rfl, seq_r]; rw [show xpu = .seq x16t xhi from by kernel_rfl, seq_r]; rw [x170 call hs u]; kernel_rfl
theorem x172 (call : FCall) (hs : FHs) (t0 t1 : AV) (m : Mem) : fxBody Try.prog pol NN call hs xy [t0, t1] m = x5t call hs [t0, t1] m := by
  rw [fxBody_at (fn := Try.f65) (body := xhh) (nt := 27) (rs := [.tmp 4]) (by kernel_rfl) (by kernel_rfl) (by kernel_rfl) (by kernel_rfl) (by kernel_rfl) (by kernel_rfl)]
  exact (congrFun (x171 call hs m.next) _).trans (by kernel_rfl)
theorem xue (call : FCall) (hs : FHs) (args : List AV) (m : Mem) (r : AV × Mem) (h : x5t call hs args m = some r) : fxBody Try.prog pol NN call hs xy args m = some r := by
  unfold x5t at h
  split at h
  · rw [x172]; exact h
  · cases h

abbrev x5i (hs : FHs) (u : Nat) : FCtx := { f := x10, u := u, nt := 60, hs := hs }
noncomputable abbrev x3d : Fs → Option (AV × Mem) := fxRes Try.prog [.tmp 2, .tmp 3]
noncomputable def xhn : Code := nav (bodyOf x10) []
noncomputable def x173 : Code := nav (bodyOf x10) [false]
noncomputable def xpx : Code := nav (bodyOf x10) [true]
noncomputable def x174 : Code := nav (bodyOf x10) [true, false]
noncomputable def xpy : Code := nav (bodyOf x10) [true, true]
noncomputable def x175 : Code := nav (bodyOf x10) [true, true, false]
noncomputable def xho : Code := nav (bodyOf x10) [true, true, true]
noncomputable def xhp : Code := nav (bodyOf x10) [true, true, true, false]
noncomputable def xpz : Code := nav (bodyOf x10) [true, true, true, true]
noncomputable def x176 : Code := nav (bodyOf x10) [true, true, true, false, false]
noncomputable def xhq : Code := nav (bodyOf x10) [true, true, true, false, true]
noncomputable def xhr : Code := nav (bodyOf x10) [true, true, true, false, true, false]
noncomputable def xhs : Code := nav (bodyOf x10) [true, true, true, false, true, false, false]
theorem x177 (call : FCall) (hs : FHs) (u : Nat) :
  fxK Try.prog pol NN call xpz (AV × Mem) (x5i hs u) x3d eNil x3d = (fun s => x4c call hs u s.m s.fc) := by
  kernel_rfl
theorem x178 (call : FCall) (hs : FHs) (u : Nat) (rec0 : AV → AV → Mem → Nat → Option (AV × Mem)) :
  fxK Try.prog pol NN call xhs (AV × Mem) (x5i hs u) (fun s => rec0 (s.sl 1) (s.sl 4) s.m s.fc) (setE 0 (fun s => x4c call hs u s.m s.fc) eNil) x3d = (fun s => x9x call hs u rec0 (s.sl 1) (s.sl 4) s.m s.fc) := by
  kernel_rfl
theorem xq0 (call : FCall) (hs : FHs) (u : Nat) : ∀ n : Nat,
  iter (fun rec => fxK Try.prog pol NN call xhs (AV × Mem) (x5i hs u) rec (setE 0 (fun s => x4c call hs u s.m s.fc) eNil) x3d) n = (fun s => x4d call hs u n (s.sl 1) (s.sl 4) s.m s.fc)
  | 0 => rfl
  | n + 1 => by rw [iter_succ, xq0 call hs u n, x178 call hs u (x4d call hs u n)]; kernel_rfl
theorem x179 (call : FCall) (hs : FHs) (u : Nat) :
  fxK Try.prog pol NN call xhr (AV × Mem) (x5i hs u) (fun s => x4c call hs u s.m s.fc) (setE 0 (fun s => x4c call hs u s.m s.fc) eNil) x3d = (fun s => x4d call hs u NN (s.sl 1) (s.sl 4) s.m s.fc) := by
  rw [show xhr = .loop xhs from by kernel_rfl, loop_r, xq0 call hs u NN]
theorem x17a (call : FCall) (hs : FHs) (u : Nat) :
  fxK Try.prog pol NN call xhq (AV × Mem) (x5i hs u) (fun s => x4c call hs u s.m s.fc) eNil x3d = (fun s => x4d call hs u NN (s.sl 1) (s.sl 4) s.m s.fc) := by
  rw [show xhq = .block 0 xhr from by kernel_rfl, block_r, x179 call hs u]
theorem x17b (call : FCall) (hs : FHs) (u : Nat) :
  fxK Try.prog pol NN call xhp (AV × Mem) (x5i hs u) (fun s => x4c call hs u s.m s.fc) eNil x3d = (fun s => x9y call hs u (s.sl 1) s.m s.fc) := by
  rw [show xhp = .seq x176 xhq from by kernel_rfl, seq_r]; rw [x17a call hs u]; kernel_rfl
theorem x17c (call : FCall) (hs : FHs) (u : Nat) :
  fxK Try.prog pol NN call xho (AV × Mem) (x5i hs u) x3d eNil x3d = (fun s => x9y call hs u (s.sl 1) s.m s.fc) := by
  rw [show xho = .seq xhp xpz from by kernel_rfl, seq_r, x177 call hs u, x17b call hs u]
theorem x17d (call : FCall) (hs : FHs) (u : Nat) :
  fxK Try.prog pol NN call xhn (AV × Mem) (x5i hs u) x3d eNil x3d = (fun s => xc5 call hs u (s.sl 0) s.m s.fc) := by
  rw [show xhn = .seq x173 xpx from by kernel_rfl, seq_r]; rw [show xpx = .seq x174 xpy from by kernel_rfl, seq_r]; rw [show xpy = .seq x175 xho from by kernel_rfl, seq_r]; rw [x17c call hs u]; kernel_rfl
theorem x17e (call : FCall) (hs : FHs) (t0 : AV) (m : Mem) : fxBody Try.prog pol NN call hs x10 [t0] m = x6w call hs [t0] m := by
  rw [fxBody_at (fn := Try.f66) (body := xhn) (nt := 60) (rs := [.tmp 2, .tmp 3]) (by kernel_rfl) (by kernel_rfl) (by kernel_rfl) (by kernel_rfl) (by kernel_rfl) (by kernel_rfl)]
  exact (congrFun (x17d call hs m.next) _).trans (by kernel_rfl)
theorem xuf (call : FCall) (hs : FHs) (args : List AV) (m : Mem) (r : AV × Mem) (h : x6w call hs args m = some r) : fxBody Try.prog pol NN call hs x10 args m = some r := by
  unfold x6w at h
  split at h
  · rw [x17e]; exact h
  · cases h

abbrev x4r (hs : FHs) (u : Nat) : FCtx := { f := xt, u := u, nt := 71, hs := hs }
noncomputable abbrev x4s : Fs → Option (AV × Mem) := fxRes Try.prog [.cell 2 x66]
noncomputable def xht : Code := nav (bodyOf xt) []
noncomputable def x17f : Code := nav (bodyOf xt) [false]
noncomputable def xq1 : Code := nav (bodyOf xt) [true]
noncomputable def x17g : Code := nav (bodyOf xt) [true, false]
noncomputable def xq2 : Code := nav (bodyOf xt) [true, true]
noncomputable def x17h : Code := nav (bodyOf xt) [true, true, false]
noncomputable def xq3 : Code := nav (bodyOf xt) [true, true, true]
noncomputable def x17i : Code := nav (bodyOf xt) [true, true, true, false]
noncomputable def xhu : Code := nav (bodyOf xt) [true, true, true, true]
noncomputable def xhv : Code := nav (bodyOf xt) [true, true, true, true, false]
noncomputable def xq4 : Code := nav (bodyOf xt) [true, true, true, true, true]
noncomputable def x17j : Code := nav (bodyOf xt) [true, true, true, true, false, false]
noncomputable def xhw : Code := nav (bodyOf xt) [true, true, true, true, false, true]
noncomputable def xhx : Code := nav (bodyOf xt) [true, true, true, true, false, true, false]
noncomputable def xhy : Code := nav (bodyOf xt) [true, true, true, true, false, true, false, false]
noncomputable def xq5 : Code := nav (bodyOf xt) [true, true, true, true, false, true, false, true]
theorem x17k (call : FCall) (hs : FHs) (u : Nat) :
  fxK Try.prog pol NN call xq4 (AV × Mem) (x4r hs u) x4s eNil x4s = (fun s => x7d call hs u (s.sl 2) (s.sl 4) s.m s.fc) := by
  kernel_rfl
theorem x17l (call : FCall) (hs : FHs) (u : Nat) :
  fxK Try.prog pol NN call xq5 Mem (x4r hs u) (fun s => some s.m) eNil fNil = (fun s => xc6 call hs u (s.sl 3) (s.sl 4) (s.sl 5) (s.sl 6) (s.sl 7) s.m s.fc) := by
  kernel_rfl
theorem x17m (call : FCall) (hs : FHs) (u : Nat) :
  fxK Try.prog pol NN call xhy Mem (x4r hs u) (fun s => xc6 call hs u (s.sl 3) (s.sl 4) (s.sl 5) (s.sl 6) (s.sl 7) s.m s.fc) eNil fNil = (fun s => xc7 call hs u (s.sl 3) (s.sl 4) (s.sl 5) (s.sl 27) (s.sl 28) s.m s.fc) := by
  kernel_rfl
theorem x17n (call : FCall) (hs : FHs) (u : Nat) :
  fxK Try.prog pol NN call xhx (AV × Mem) (x4r hs u) (fun s => x7d call hs u (s.sl 2) (s.sl 4) s.m s.fc) (setE 0 (fun s => x7d call hs u (s.sl 2) (s.sl 4) s.m s.fc) eNil) x4s = (fun s => xc8 call hs u (s.sl 2) (s.sl 3) (s.sl 4) (s.sl 5) (s.sl 26) s.m s.fc) := by
  rw [show xhx = .rangeFunc (.tmp 26) #[27, 28] xhy xq5 from by kernel_rfl, rng_r (H := fun u s => xc7 call hs u (s.sl 3) (s.sl 4) (s.sl 5) (s.sl 27) (s.sl 28) s.m s.fc) (by intro u; exact (congrArg (fun Y => fxK Try.prog pol NN call xhy Mem (x4r hs u) Y eNil fNil) (x17l call hs u)).trans (x17m call hs u))]; kernel_rfl
theorem x17o (call : FCall) (hs : FHs) (u : Nat) :
  fxK Try.prog pol NN call xhw (AV × Mem) (x4r hs u) (fun s => x7d call hs u (s.sl 2) (s.sl 4) s.m s.fc) eNil x4s = (fun s => xc8 call hs u (s.sl 2) (s.sl 3) (s.sl 4) (s.sl 5) (s.sl 26) s.m s.fc) := by
  rw [show xhw = .block 0 xhx from by kernel_rfl, block_r, x17n call hs u]
theorem x17p (call : FCall) (hs : FHs) (u : Nat) :
  fxK Try.prog pol NN call xhv (AV × Mem) (x4r hs u) (fun s => x7d call hs u (s.sl 2) (s.sl 4) s.m s.fc) eNil x4s = (fun s => xc9 call hs u (s.sl 2) (s.sl 3) (s.sl 4) (s.sl 5) s.m s.fc) := by
  rw [show xhv = .seq x17j xhw from by kernel_rfl, seq_r]; rw [x17o call hs u]; kernel_rfl
theorem x17q (call : FCall) (hs : FHs) (u : Nat) :
  fxK Try.prog pol NN call xhu (AV × Mem) (x4r hs u) x4s eNil x4s = (fun s => xc9 call hs u (s.sl 2) (s.sl 3) (s.sl 4) (s.sl 5) s.m s.fc) := by
  rw [show xhu = .seq xhv xq4 from by kernel_rfl, seq_r, x17k call hs u, x17p call hs u]
theorem x17r (call : FCall) (hs : FHs) (u : Nat) :
  fxK Try.prog pol NN call xht (AV × Mem) (x4r hs u) x4s eNil x4s = (fun s => xk9 call hs u (s.sl 0) s.m s.fc) := by
  rw [show xht = .seq x17f xq1 from by kernel_rfl, seq_r]; rw [show xq1 = .seq x17g xq2 from by kernel_rfl, seq_r]; rw [show xq2 = .seq x17h xq3 from by kernel_rfl, seq_r]; rw [show xq3 = .seq x17i xhu from by kernel_rfl, seq_r]; rw [x17q call hs u]; kernel_rfl
theorem x17s (call : FCall) (hs : FHs) (t0 : AV) (m : Mem) : fxBody Try.prog pol NN call hs xt [t0] m = x8a call hs [t0] m := by
  rw [fxBody_at (fn := Try.f69) (body := xht) (nt := 71) (rs := [.cell 2 x66]) (by kernel_rfl) (by kernel_rfl) (by kernel_rfl) (by kernel_rfl) (by kernel_rfl) (by kernel_rfl)]
  exact (congrFun (x17r call hs m.next) _).trans (by kernel_rfl)
theorem xug (call : FCall) (hs : FHs) (args : List AV) (m : Mem) (r : AV × Mem) (h : x8a call hs args m = some r) : fxBody Try.prog pol NN call hs xt args m = some r := by
  unfold x8a at h
  split at h
  · rw [x17s]; exact h
  · cases h

abbrev x17t (hs : FHs) (u : Nat) : FCtx := { f := x5u, u := u, nt := 22, hs := hs }
noncomputable abbrev xq6 : Fs → Option (AV × Mem) := fxRes Try.prog [.tmp 6]
noncomputable def xq7 : Code := nav (bodyOf x5u) []
theorem x17u (call : FCall) (hs : FHs) (u : Nat) :
  fxK Try.prog pol NN call xq7 (AV × Mem) (x17t hs u) xq6 eNil xq6 = (fun s => xka call hs u (s.sl 0) (s.sl 1) (s.sl 2) s.m s.fc) := by
  kernel_rfl
theorem x17v (call : FCall) (hs : FHs) (t0 t1 t2 : AV) (m : Mem) : fxBody Try.prog pol NN call hs x5u [t0, t1, t2] m = x8b call hs [t0, t1, t2] m := by
  rw [fxBody_at (fn := Try.f72) (body := xq7) (nt := 22) (rs := [.tmp 6]) (by kernel_rfl) (by kernel_rfl) (by kernel_rfl) (by kernel_rfl) (by kernel_rfl) (by kernel_rfl)]
  exact (congrFun (x17u call hs m.next) _).trans (by kernel_rfl)
theorem xuh (call : FCall) (hs : FHs) (args : List AV) (m : Mem) (r : AV × Mem) (h : x8b call hs args m = some r) : fxBody Try.prog pol NN call hs x5u args m = some r := by
  unfold x8b at h
  split at h
  · rw [x17v]; exact h
  · cases h

abbrev x17w (hs : FHs) (u : Nat) : FCtx := { f := x5v, u := u, nt := 9, hs := hs }
noncomputable abbrev xq8 : Fs → Option (AV × Mem) := fxRes Try.prog [.tmp 4]
noncomputable def xq9 : Code := nav (bodyOf x5v) []
theorem x17x (call : FCall) (hs : FHs) (u : Nat) :
  fxK Try.prog pol NN call xq9 (AV × Mem) (x17w hs u) xq8 eNil xq8 = (fun s => xkb call hs u (s.sl 0) (s.sl 1) s.m s.fc) := by
  kernel_rfl
theorem x17y (call : FCall) (hs : FHs) (t0 t1 : AV) (m : Mem) : fxBody Try.prog pol NN call hs x5v [t0, t1] m = x8c call hs [t0, t1] m := by
  rw [fxBody_at (fn := Try.f73) (body := xq9) (nt := 9) (rs := [.tmp 4]) (by kernel_rfl) (by kernel_rfl) (by kernel_rfl) (by kernel_rfl) (by kernel_rfl) (by kernel_rfl)]
  exact (congrFun (x17x call hs m.next) _).trans (by kernel_rfl)
theorem xui (call : FCall) (hs : FHs) (args : List AV) (m : Mem) (r : AV × Mem) (h : x8c call hs args m = some r) : fxBody Try.prog pol NN call hs x5v args m = some r := by
  unfold x8c at h
  split at h
  · rw [x17y]; exact h
  · cases h

abbrev x17z (hs : FHs) (u : Nat) : FCtx := { f := x5w, u := u, nt := 7, hs := hs }
noncomputable abbrev xqa : Fs → Option (AV × Mem) := fxRes Try.prog [.tmp 2]
noncomputable def xqb : Code := nav (bodyOf x5w) []
theorem x180 (call : FCall) (hs : FHs) (u : Nat) :
  fxK Try.prog pol NN call xqb (AV × Mem) (x17z hs u) xqa eNil xqa = (fun s => xkc call hs u (s.sl 0) s.m s.fc) := by
  kernel_rfl
theorem x181 (call : FCall) (hs : FHs) (t0 : AV) (m : Mem) : fxBody Try.prog pol NN call hs x5w [t0] m = x8d call hs [t0] m := by
  rw [fxBody_at (fn := Try.f74) (body := xqb) (nt := 7) (rs := [.tmp 2]) (by kernel_rfl) (by kernel_rfl) (by kernel_rfl) (by kernel_rfl) (by kernel_rfl) (by kernel_rfl)]
  exact (congrFun (x180 call hs m.next) _).trans (by kernel_rfl)
theorem xuj (call : FCall) (hs : FHs) (args : List AV) (m : Mem) (r : AV × Mem) (h : x8d call hs args m = some r) : fxBody Try.prog pol NN call hs x5w args m = some r := by
  unfold x8d at h
  split at h
  · rw [x181]; exact h
  · cases h

abbrev x1i (hs : FHs) (u : Nat) : FCtx := { f := xc, u := u, nt := 36, hs := hs }
noncomputable abbrev xw : Fs → Option (AV × Mem) := fxRes Try.prog [.tmp 2]
noncomputable def xhz : Code := nav (bodyOf xc) []
noncomputable def x182 : Code := nav (bodyOf xc) [false]
noncomputable def xqc : Code := nav (bodyOf xc) [true]
noncomputable def x183 : Code := nav (bodyOf xc) [true, false]
noncomputable def xi0 : Code := nav (bodyOf xc) [true, true]
noncomputable def xi1 : Code := nav (bodyOf xc) [true, true, false]
noncomputable def xi2 : Code := nav (bodyOf xc) [true, true, true]
noncomputable def x184 : Code := nav (bodyOf xc) [true, true, true, false]
noncomputable def xi3 : Code := nav (bodyOf xc) [true, true, true, true]
noncomputable def xi4 : Code := nav (bodyOf xc) [true, true, true, true, false]
noncomputable def xqd : Code := nav (bodyOf xc) [true, true, true, true, true]
noncomputable def x185 : Code := nav (bodyOf xc) [true, true, true, true, false, false]
noncomputable def xi5 : Code := nav (bodyOf xc) [true, true, true, true, false, true]
noncomputable def xi6 : Code := nav (bodyOf xc) [true, true, true, true, false, true, false]
noncomputable def xi7 : Code := nav (bodyOf xc) [true, true, true, true, false, true, false, false]
noncomputable def x186 : Code := nav (bodyOf xc) [true, true, false, false]
noncomputable def xi8 : Code := nav (bodyOf xc) [true, true, false, true]
noncomputable def xi9 : Code := nav (bodyOf xc) [true, true, false, true, false]
noncomputable def xbd : Code := nav (bodyOf xc) [true, true, false, true, false, false]
noncomputable def x187 : Code := nav (bodyOf xc) [true, true, false, true, false, false, false]
noncomputable def xqe : Code := nav (bodyOf xc) [true, true, false, true, false, false, true]
noncomputable def x188 : Code := nav (bodyOf xc) [true, true, false, true, false, false, true, false]
noncomputable def xia : Code := nav (bodyOf xc) [true, true, false, true, false, false, true, true]
noncomputable def xqf : Code := nav (bodyOf xc) [true, true, false, true, false, false, true, true, false]
noncomputable def xqg : Code := nav (bodyOf xc) [true, true, false, true, false, false, true, true, true]
theorem x189 (call : FCall) (hs : FHs) (u : Nat) :
  fxK Try.prog pol NN call xqd (AV × Mem) (x1i hs u) xw eNil xw = (fun s => x3q call hs u (s.sl 6) s.m s.fc) := by
  kernel_rfl
theorem x18a (call : FCall) (hs : FHs) (u : Nat) (rec0 : AV → AV → AV → AV → Mem → Nat → Option (AV × Mem)) :
  fxK Try.prog pol NN call xi7 (AV × Mem) (x1i hs u) (fun s => rec0 (s.sl 6) (s.sl 25) (s.sl 26) (s.sl 27) s.m s.fc) (setE 2 (fun s => x3q call hs u (s.sl 6) s.m s.fc) eNil) xw = (fun s => x9z call hs u rec0 (s.sl 6) (s.sl 25) (s.sl 26) (s.sl 27) s.m s.fc) := by
  kernel_rfl
theorem xqh (call : FCall) (hs : FHs) (u : Nat) : ∀ n : Nat,
  iter (fun rec => fxK Try.prog pol NN call xi7 (AV × Mem) (x1i hs u) rec (setE 2 (fun s => x3q call hs u (s.sl 6) s.m s.fc) eNil) xw) n = (fun s => x56 call hs u n (s.sl 6) (s.sl 25) (s.sl 26) (s.sl 27) s.m s.fc)
  | 0 => rfl
  | n + 1 => by rw [iter_succ, xqh call hs u n, x18a call hs u (x56 call hs u n)]; kernel_rfl
theorem x18b (call : FCall) (hs : FHs) (u : Nat) :
  fxK Try.prog pol NN call xi6 (AV × Mem) (x1i hs u) (fun s => x3q call hs u (s.sl 6) s.m s.fc) (setE 2 (fun s => x3q call hs u (s.sl 6) s.m s.fc) eNil) xw = (fun s => x56 call hs u NN (s.sl 6) (s.sl 25) (s.sl 26) (s.sl 27) s.m s.fc) := by
  rw [show xi6 = .loop xi7 from by kernel_rfl, loop_r, xqh call hs u NN]
theorem x18c (call : FCall) (hs : FHs) (u : Nat) :
  fxK Try.prog pol NN call xi5 (AV × Mem) (x1i hs u) (fun s => x3q call hs u (s.sl 6) s.m s.fc) eNil xw = (fun s => x56 call hs u NN (s.sl 6) (s.sl 25) (s.sl 26) (s.sl 27) s.m s.fc) := by
  rw [show xi5 = .block 2 xi6 from by kernel_rfl, block_r, x18b call hs u]
theorem x18d (call : FCall) (hs : FHs) (u : Nat) :
  fxK Try.prog pol NN call xi4 (AV × Mem) (x1i hs u) (fun s => x3q call hs u (s.sl 6) s.m s.fc) eNil xw = (fun s => x8v call hs u (s.sl 0) (s.sl 6) s.m s.fc) := by
  rw [show xi4 = .seq x185 xi5 from by kernel_rfl, seq_r]; rw [x18c call hs u]; kernel_rfl
theorem x18e (call : FCall) (hs : FHs) (u : Nat) :
  fxK Try.prog pol NN call xi3 (AV × Mem) (x1i hs u) xw eNil xw = (fun s => x8v call hs u (s.sl 0) (s.sl 6) s.m s.fc) := by
  rw [show xi3 = .seq xi4 xqd from by kernel_rfl, seq_r, x189 call hs u, x18d call hs u]
theorem x18f (call : FCall) (hs : FHs) (u : Nat) :
  fxK Try.prog pol NN call xi2 (AV × Mem) (x1i hs u) xw eNil xw = (fun s => x28 call hs u (s.sl 0) (s.sl 3) s.m s.fc) := by
  rw [show xi2 = .seq x184 xi3 from by kernel_rfl, seq_r]; rw [x18e call hs u]; kernel_rfl
theorem x18g (call : FCall) (hs : FHs) (u : Nat) (rec1 : AV → AV → AV → AV → AV → Mem → Nat → Option (AV × Mem)) :
  fxK Try.prog pol NN call xqg (AV × Mem) (x1i hs u) (fun s => rec1 (s.sl 0) (s.sl 3) (s.sl 9) (s.sl 10) (s.sl 11) s.m s.fc) (setE 0 (fun s => x28 call hs u (s.sl 0) (s.sl 3) s.m s.fc) eNil) xw = (fun s => xa0 call hs u rec1 (s.sl 0) (s.sl 3) (s.sl 9) (s.sl 10) (s.sl 11) s.m s.fc) := by
  kernel_rfl
theorem x18h (call : FCall) (hs : FHs) (u : Nat) (rec1 : AV → AV → AV → AV → AV → Mem → Nat → Option (AV × Mem)) :
  fxK Try.prog pol NN call xqf (AV × Mem) (x1i hs u) (fun s => xa0 call hs u rec1 (s.sl 0) (s.sl 3) (s.sl 9) (s.sl 10) (s.sl 11) s.m s.fc) (setE 0 (fun s => x28 call hs u (s.sl 0) (s.sl 3) s.m s.fc) eNil) xw = (fun s => xa1 call hs u rec1 (s.sl 0) (s.sl 3) (s.sl 9) (s.sl 10) (s.sl 11) s.m s.fc) := by
  kernel_rfl
theorem x18i (call : FCall) (hs : FHs) (u : Nat) (rec1 : AV → AV → AV → AV → AV → Mem → Nat → Option (AV × Mem)) :
  fxK Try.prog pol NN call xia (AV × Mem) (x1i hs u) (fun s => rec1 (s.sl 0) (s.sl 3) (s.sl 9) (s.sl 10) (s.sl 11) s.m s.fc) (setE 0 (fun s => x28 call hs u (s.sl 0) (s.sl 3) s.m s.fc) eNil) xw = (fun s => xa1 call hs u rec1 (s.sl 0) (s.sl 3) (s.sl 9) (s.sl 10) (s.sl 11) s.m s.fc) := by
  rw [show xia = .seq xqf xqg from by kernel_rfl, seq_r, x18g call hs u rec1, x18h call hs u rec1]
theorem x18j (call : FCall) (hs : FHs) (u : Nat) (rec1 : AV → AV → AV → AV → AV → Mem → Nat → Option (AV × Mem)) :
  fxK Try.prog pol NN call xbd (AV × Mem) (x1i hs u) (fun s => rec1 (s.sl 0) (s.sl 3) (s.sl 9) (s.sl 10) (s.sl 11) s.m s.fc) (setE 0 (fun s => x28 call hs u (s.sl 0) (s.sl 3) s.m s.fc) eNil) xw = (fun s => xca call hs u rec1 (s.sl 0) (s.sl 3) (s.sl 9) (s.sl 10) (s.sl 11) s.m s.fc) := by
  rw [show xbd = .seq x187 xqe from by kernel_rfl, seq_r]; rw [show xqe = .seq x188 xia from by kernel_rfl, seq_r]; rw [x18i call hs u rec1]; kernel_rfl
theorem xqi (call : FCall) (hs : FHs) (u : Nat) : ∀ n : Nat,
  iter (fun rec => fxK Try.prog pol NN call xbd (AV × Mem) (x1i hs u) rec (setE 0 (fun s => x28 call hs u (s.sl 0) (s.sl 3) s.m s.fc) eNil) xw) n = (fun s => x65 call hs u n (s.sl 0) (s.sl 3) (s.sl 9) (s.sl 10) (s.sl 11) s.m s.fc)
  | 0 => rfl
  | n + 1 => by rw [iter_succ, xqi call hs u n, x18j call hs u (x65 call hs u n)]; kernel_rfl
theorem x18k (call : FCall) (hs : FHs) (u : Nat) :
  fxK Try.prog pol NN call xi9 (AV × Mem) (x1i hs u) (fun s => x28 call hs u (s.sl 0) (s.sl 3) s.m s.fc) (setE 0 (fun s => x28 call hs u (s.sl 0) (s.sl 3) s.m s.fc) eNil) xw = (fun s => x65 call hs u NN (s.sl 0) (s.sl 3) (s.sl 9) (s.sl 10) (s.sl 11) s.m s.fc) := by
  rw [show xi9 = .loop xbd from by kernel_rfl, loop_r, xqi call hs u NN]
theorem x18l (call : FCall) (hs : FHs) (u : Nat) :
  fxK Try.prog pol NN call xi8 (AV × Mem) (x1i hs u) (fun s => x28 call hs u (s.sl 0) (s.sl 3) s.m s.fc) eNil xw = (fun s => x65 call hs u NN (s.sl 0) (s.sl 3) (s.sl 9) (s.sl 10) (s.sl 11) s.m s.fc) := by
  rw [show xi8 = .block 0 xi9 from by kernel_rfl, block_r, x18k call hs u]
theorem x18m (call : FCall) (hs : FHs) (u : Nat) :
  fxK Try.prog pol NN call xi1 (AV × Mem) (x1i hs u) (fun s => x28 call hs u (s.sl 0) (s.sl 3) s.m s.fc) eNil xw = (fun s => xa2 call hs u (s.sl 0) (s.sl 3) s.m s.fc) := by
  rw [show xi1 = .seq x186 xi8 from by kernel_rfl, seq_r]; rw [x18l call hs u]; kernel_rfl
theorem x18n (call : FCall) (hs : FHs) (u : Nat) :
  fxK Try.prog pol NN call xi0 (AV × Mem) (x1i hs u) xw eNil xw = (fun s => xa2 call hs u (s.sl 0) (s.sl 3) s.m s.fc) := by
  rw [show xi0 = .seq xi1 xi2 from by kernel_rfl, seq_r, x18f call hs u, x18m call hs u]
theorem x18o (call : FCall) (hs : FHs) (u : Nat) :
  fxK Try.prog pol NN call xhz (AV × Mem) (x1i hs u) xw eNil xw = (fun s => xcb call hs u (s.sl 0) s.m s.fc) := by
  rw [show xhz = .seq x182 xqc from by kernel_rfl, seq_r]; rw [show xqc = .seq x183 xi0 from by kernel_rfl, seq_r]; rw [x18n call hs u]; kernel_rfl
theorem x18p (call : FCall) (hs : FHs) (t0 : AV) (m : Mem) : fxBody Try.prog pol NN call hs xc [t0] m = x6x call hs [t0] m := by
  rw [fxBody_at (fn := Try.f75) (body := xhz) (nt := 36) (rs := [.tmp 2]) (by kernel_rfl) (by kernel_rfl) (by kernel_rfl) (by kernel_rfl) (by kernel_rfl) (by kernel_rfl)]
  exact (congrFun (x18o call hs m.next) _).trans (by kernel_rfl)
theorem xuk (call : FCall) (hs : FHs) (args : List AV) (m : Mem) (r : AV × Mem) (h : x6x call hs args m = some r) : fxBody Try.prog pol NN call hs xc args m = some r := by
  unfold x6x at h
  split at h
  · rw [x18p]; exact h
  · cases h

abbrev x18q (hs : FHs) (u : Nat) : FCtx := { f := x3w, u := u, nt := 5, hs := hs }
noncomputable abbrev xqj : Fs → Option (AV × Mem) := fxRes Try.prog [.tmp 2]
noncomputable def xqk : Code := nav (bodyOf x3w) []
theorem x18r (call : FCall) (hs : FHs) (u : Nat) :
  fxK Try.prog pol NN call xqk (AV × Mem) (x18q hs u) xqj eNil xqj = (fun s => xcc call hs u (s.sl 0) s.m s.fc) := by
  kernel_rfl
theorem x18s (call : FCall) (hs : FHs) (t0 : AV) (m : Mem) : fxBody Try.prog pol NN call hs x3w [t0] m = x6y call hs [t0] m := by
  rw [fxBody_at (fn := Try.f76) (body := xqk) (nt := 5) (rs := [.tmp 2]) (by kernel_rfl) (by kernel_rfl) (by kernel_rfl) (by kernel_rfl) (by kernel_rfl) (by kernel_rfl)]
  exact (congrFun (x18r call hs m.next) _).trans (by kernel_rfl)
theorem xul (call : FCall) (hs : FHs) (args : List AV) (m : Mem) (r : AV × Mem) (h : x6y call hs args m = some r) : fxBody Try.prog pol NN call hs x3w args m = some r := by
  unfold x6y at h
  split at h
  · rw [x18s]; exact h
  · cases h

abbrev x18t (hs : FHs) (u : Nat) : FCtx := { f := x1c, u := u, nt := 15, hs := hs }
noncomputable abbrev xql : Fs → Option (AV × Mem) := fxRes Try.prog [.tmp 6]
noncomputable def xqm : Code := nav (bodyOf x1c) []
theorem x18u (call : FCall) (hs : FHs) (u : Nat) :
  fxK Try.prog pol NN call xqm (AV × Mem) (x18t hs u) xql eNil xql = (fun s => xcd call hs u (s.sl 0) (s.sl 1) (s.sl 2) s.m s.fc) := by
  kernel_rfl
theorem x18v (call : FCall) (hs : FHs) (t0 t1 t2 : AV) (m : Mem) : fxBody Try.prog pol NN call hs x1c [t0, t1, t2] m = x6b call hs [t0, t1, t2] m := by
  rw [fxBody_at (fn := Try.f78) (body := xqm) (nt := 15) (rs := [.tmp 6]) (by kernel_rfl) (by kernel_rfl) (by kernel_rfl) (by kernel_rfl) (by kernel_rfl) (by kernel_rfl)]
  exact (congrFun (x18u call hs m.next) _).trans (by kernel_rfl)
theorem xtb (call : FCall) (hs : FHs) (args : List AV) (m : Mem) (r : AV × Mem) (h : x6b call hs args m = some r) : fxBody Try.prog pol NN call hs x1c args m = some r := by
  unfold x6b at h
  split at h
  · rw [x18v]; exact h
  · cases h

abbrev x3e (hs : FHs) (u : Nat) : FCtx := { f := xp, u := u, nt := 53, hs := hs }
noncomputable abbrev x24 : Fs → Option (AV × Mem) := fxRes Try.prog [.tmp 2]
noncomputable def xib : Code := nav (bodyOf xp) []
noncomputable def x18w : Code := nav (bodyOf xp) [false]
noncomputable def xqn : Code := nav (bodyOf xp) [true]
noncomputable def x18x : Code := nav (bodyOf xp) [true, false]
noncomputable def xic : Code := nav (bodyOf xp) [true, true]
noncomputable def xid : Code := nav (bodyOf xp) [true, true, false]
noncomputable def xqo : Code := nav (bodyOf xp) [true, true, true]
noncomputable def x18y : Code := nav (bodyOf xp) [true, true, false, false]
noncomputable def xie : Code := nav (bodyOf xp) [true, true, false, true]
noncomputable def xif : Code := nav (bodyOf xp) [true, true, false, true, false]
noncomputable def xbe : Code := nav (bodyOf xp) [true, true, false, true, false, false]
noncomputable def x18z : Code := nav (bodyOf xp) [true, true, false, true, false, false, false]
noncomputable def xqp : Code := nav (bodyOf xp) [true, true, false, true, false, false, true]
noncomputable def x190 : Code := nav (bodyOf xp) [true, true, false, true, false, false, true, false]
noncomputable def xig : Code := nav (bodyOf xp) [true, true, false, true, false, false, true, true]
noncomputable def xqq : Code := nav (bodyOf xp) [true, true, false, true, false, false, true, true, false]
noncomputable def xqr : Code := nav (bodyOf xp) [true, true, false, true, false, false, true, true, true]
theorem x191 (call : FCall) (hs : FHs) (u : Nat) :
  fxK Try.prog pol NN call xqo (AV × Mem) (x3e hs u) x24 eNil x24 = (fun s => x29 call hs u (s.sl 1) (s.sl 3) s.m s.fc) := by
  kernel_rfl
theorem x192 (call : FCall) (hs : FHs) (u : Nat) (rec0 : AV → AV → AV → AV → AV → Mem → Nat → Option (AV × Mem)) :
  fxK Try.prog pol NN call xqr (AV × Mem) (x3e hs u) (fun s => rec0 (s.sl 1) (s.sl 3) (s.sl 12) (s.sl 13) (s.sl 14) s.m s.fc) (setE 0 (fun s => x29 call hs u (s.sl 1) (s.sl 3) s.m s.fc) eNil) x24 = (fun s => x7e call hs u rec0 (s.sl 1) (s.sl 3) (s.sl 12) (s.sl 13) (s.sl 14) s.m s.fc) := by
  kernel_rfl
theorem x193 (call : FCall) (hs : FHs) (u : Nat) (rec0 : AV → AV → AV → AV → AV → Mem → Nat → Option (AV × Mem)) :
  fxK Try.prog pol NN call xqq (AV × Mem) (x3e hs u) (fun s => x7e call hs u rec0 (s.sl 1) (s.sl 3) (s.sl 12) (s.sl 13) (s.sl 14) s.m s.fc) (setE 0 (fun s => x29 call hs u (s.sl 1) (s.sl 3) s.m s.fc) eNil) x24 = (fun s => x8x call hs u rec0 (s.sl 1) (s.sl 3) (s.sl 12) (s.sl 13) (s.sl 14) s.m s.fc) := by
  kernel_rfl
theorem x194 (call : FCall) (hs : FHs) (u : Nat) (rec0 : AV → AV → AV → AV → AV → Mem → Nat → Option (AV × Mem)) :
  fxK Try.prog pol NN call xig (AV × Mem) (x3e hs u) (fun s => rec0 (s.sl 1) (s.sl 3) (s.sl 12) (s.sl 13) (s.sl 14) s.m s.fc) (setE 0 (fun s => x29 call hs u (s.sl 1) (s.sl 3) s.m s.fc) eNil) x24 = (fun s => x8x call hs u rec0 (s.sl 1) (s.sl 3) (s.sl 12) (s.sl 13) (s.sl 14) s.m s.fc) := by
  rw [show xig = .seq xqq xqr from by kernel_rfl, seq_r, x192 call hs u rec0, x193 call hs u rec0]
theorem x195 (call : FCall) (hs : FHs) (u : Nat) (rec0 : AV → AV → AV → AV → AV → Mem → Nat → Option (AV × Mem)) :
  fxK Try.prog pol NN call xbe (AV × Mem) (x3e hs u) (fun s => rec0 (s.sl 1) (s.sl 3) (s.sl 12) (s.sl 13) (s.sl 14) s.m s.fc) (setE 0 (fun s => x29 call hs u (s.sl 1) (s.sl 3) s.m s.fc) eNil) x24 = (fun s => x8y call hs u rec0 (s.sl 1) (s.sl 3) (s.sl 12) (s.sl 13) (s.sl 14) s.m s.fc) := by
  rw [show xbe = .seq x18z xqp from by kernel_rfl, seq_r]; rw [show xqp = .seq x190 xig from by kernel_rfl, seq_r]; rw [x194 call hs u rec0]; kernel_rfl
theorem xqs (call : FCall) (hs : FHs) (u : Nat) : ∀ n : Nat,
  iter (fun rec => fxK Try.prog pol NN call xbe (AV × Mem) (x3e hs u) rec (setE 0 (fun s => x29 call hs u (s.sl 1) (s.sl 3) s.m s.fc) eNil) x24) n = (fun s => x2u call hs u n (s.sl 1) (s.sl 3) (s.sl 12) (s.sl 13) (s.sl 14) s.m s.fc)
  | 0 => rfl
  | n + 1 => by rw [iter_succ, xqs call hs u n, x195 call hs u (x2u call hs u n)]; kernel_rfl
theorem x196 (call : FCall) (hs : FHs) (u : Nat) :
  fxK Try.prog pol NN call xif (AV × Mem) (x3e hs u) (fun s => x29 call hs u (s.sl 1) (s.sl 3) s.m s.fc) (setE 0 (fun s => x29 call hs u (s.sl 1) (s.sl 3) s.m s.fc) eNil) x24 = (fun s => x2u call hs u NN (s.sl 1) (s.sl 3) (s.sl 12) (s.sl 13) (s.sl 14) s.m s.fc) := by
  rw [show xif = .loop xbe from by kernel_rfl, loop_r, xqs call hs u NN]
theorem x197 (call : FCall) (hs : FHs) (u : Nat) :
  fxK Try.prog pol NN call xie (AV × Mem) (x3e hs u) (fun s => x29 call hs u (s.sl 1) (s.sl 3) s.m s.fc) eNil x24 = (fun s => x2u call hs u NN (s.sl 1) (s.sl 3) (s.sl 12) (s.sl 13) (s.sl 14) s.m s.fc) := by
  rw [show xie = .block 0 xif from by kernel_rfl, block_r, x196 call hs u]
theorem x198 (call : FCall) (hs : FHs) (u : Nat) :
  fxK Try.prog pol NN call xid (AV × Mem) (x3e hs u) (fun s => x29 call hs u (s.sl 1) (s.sl 3) s.m s.fc) eNil x24 = (fun s => xa3 call hs u (s.sl 1) (s.sl 3) s.m s.fc) := by
  rw [show xid = .seq x18y xie from by kernel_rfl, seq_r]; rw [x197 call hs u]; kernel_rfl
theorem x199 (call : FCall) (hs : FHs) (u : Nat) :
  fxK Try.prog pol NN call xic (AV × Mem) (x3e hs u) x24 eNil x24 = (fun s => xa3 call hs u (s.sl 1) (s.sl 3) s.m s.fc) := by
  rw [show xic = .seq xid xqo from by kernel_rfl, seq_r, x191 call hs u, x198 call hs u]
theorem x19a (call : FCall) (hs : FHs) (u : Nat) :
  fxK Try.prog pol NN call xib (AV × Mem) (x3e hs u) x24 eNil x24 = (fun s => xa4 call hs u (s.sl 0) s.m s.fc) := by
  rw [show xib = .seq x18w xqn from by kernel_rfl, seq_r]; rw [show xqn = .seq x18x xic from by kernel_rfl, seq_r]; rw [x199 call hs u]; kernel_rfl
theorem x19b (call : FCall) (hs : FHs) (t0 : AV) (m : Mem) : fxBody Try.prog pol NN call hs xp [t0] m = x8e call hs [t0] m := by
  rw [fxBody_at (fn := Try.f79) (body := xib) (nt := 53) (rs := [.tmp 2]) (by kernel_rfl) (by kernel_rfl) (by kernel_rfl) (by kernel_rfl) (by kernel_rfl) (by kernel_rfl)]
  exact (congrFun (x19a call hs m.next) _).trans (by kernel_rfl)
theorem xum (call : FCall) (hs : FHs) (args : List AV) (m : Mem) (r : AV × Mem) (h : x8e call hs args m = some r) : fxBody Try.prog pol NN call hs xp args m = some r := by
  unfold x8e at h
  split at h
  · rw [x19b]; exact h
  · cases h

abbrev x3f (hs : FHs) (u : Nat) : FCtx := { f := xq, u := u, nt := 47, hs := hs }
noncomputable abbrev x25 : Fs → Option (AV × Mem) := fxRes Try.prog [.tmp 4]
noncomputable def xih : Code := nav (bodyOf xq) []
noncomputable def x19c : Code := nav (bodyOf xq) [false]
noncomputable def xqt : Code := nav (bodyOf xq) [true]
noncomputable def x19d : Code := nav (bodyOf xq) [true, false]
noncomputable def xii : Code := nav (bodyOf xq) [true, true]
noncomputable def xij : Code := nav (bodyOf xq) [true, true, false]
noncomputable def xqu : Code := nav (bodyOf xq) [true, true, true]
noncomputable def x19e : Code := nav (bodyOf xq) [true, true, false, false]
noncomputable def xik : Code := nav (bodyOf xq) [true, true, false, true]
noncomputable def xil : Code := nav (bodyOf xq) [true, true, false, true, false]
noncomputable def xbf : Code := nav (bodyOf xq) [true, true, false, true, false, false]
noncomputable def x19f : Code := nav (bodyOf xq) [true, true, false, true, false, false, false]
noncomputable def xqv : Code := nav (bodyOf xq) [true, true, false, true, false, false, true]
noncomputable def x19g : Code := nav (bodyOf xq) [true, true, false, true, false, false, true, false]
noncomputable def xim : Code := nav (bodyOf xq) [true, true, false, true, false, false, true, true]
noncomputable def xqw : Code := nav (bodyOf xq) [true, true, false, true, false, false, true, true, false]
noncomputable def xqx : Code := nav (bodyOf xq) [true, true, false, true, false, false, true, true, true]
theorem x19h (call : FCall) (hs : FHs) (u : Nat) :
  fxK Try.prog pol NN call xqu (AV × Mem) (x3f hs u) x25 eNil x25 = (fun s => x2v call hs u (s.sl 5) s.m s.fc) := by
  kernel_rfl
theorem x19i (call : FCall) (hs : FHs) (u : Nat) (rec0 : AV → AV → AV → AV → AV → Mem → Nat → Option (AV × Mem)) :
  fxK Try.prog pol NN call xqx (AV × Mem) (x3f hs u) (fun s => rec0 (s.sl 0) (s.sl 1) (s.sl 5) (s.sl 12) (s.sl 13) s.m s.fc) (setE 0 (fun s => x2v call hs u (s.sl 5) s.m s.fc) eNil) x25 = (fun s => xa5 call hs u rec0 (s.sl 0) (s.sl 1) (s.sl 5) (s.sl 12) (s.sl 13) s.m s.fc) := by
  kernel_rfl
theorem x19j (call : FCall) (hs : FHs) (u : Nat) (rec0 : AV → AV → AV → AV → AV → Mem → Nat → Option (AV × Mem)) :
  fxK Try.prog pol NN call xqw (AV × Mem) (x3f hs u) (fun s => xa5 call hs u rec0 (s.sl 0) (s.sl 1) (s.sl 5) (s.sl 12) (s.sl 13) s.m s.fc) (setE 0 (fun s => x2v call hs u (s.sl 5) s.m s.fc) eNil) x25 = (fun s => xcf call hs u rec0 (s.sl 0) (s.sl 1) (s.sl 5) (s.sl 12) (s.sl 13) s.m s.fc) := by
  kernel_rfl
theorem x19k (call : FCall) (hs : FHs) (u : Nat) (rec0 : AV → AV → AV → AV → AV → Mem → Nat → Option (AV × Mem)) :
  fxK Try.prog pol NN call xim (AV × Mem) (x3f hs u) (fun s => rec0 (s.sl 0) (s.sl 1) (s.sl 5) (s.sl 12) (s.sl 13) s.m s.fc) (setE 0 (fun s => x2v call hs u (s.sl 5) s.m s.fc) eNil) x25 = (fun s => xcf call hs u rec0 (s.sl 0) (s.sl 1) (s.sl 5) (s.sl 12) (s.sl 13) s.m s.fc) := by
  rw [show xim = .seq xqw xqx from by kernel_rfl, seq_r, x19i call hs u rec0, x19j call hs u rec0]
theorem x19l (call : FCall) (hs : FHs) (u : Nat) (rec0 : AV → AV → AV → AV → AV → Mem → Nat → Option (AV × Mem)) :
  fxK Try.prog pol NN call xbf (AV × Mem) (x3f hs u) (fun s => rec0 (s.sl 0) (s.sl 1) (s.sl 5) (s.sl 12) (s.sl 13) s.m s.fc) (setE 0 (fun s => x2v call hs u (s.sl 5) s.m s.fc) eNil) x25 = (fun s => xkd call hs u rec0 (s.sl 0) (s.sl 1) (s.sl 5) (s.sl 12) (s.sl 13) s.m s.fc) := by
  rw [show xbf = .seq x19f xqv from by kernel_rfl, seq_r]; rw [show xqv = .seq x19g xim from by kernel_rfl, seq_r]; rw [x19k call hs u rec0]; kernel_rfl
theorem xqy (call : FCall) (hs : FHs) (u : Nat) : ∀ n : Nat,
  iter (fun rec => fxK Try.prog pol NN call xbf (AV × Mem) (x3f hs u) rec (setE 0 (fun s => x2v call hs u (s.sl 5) s.m s.fc) eNil) x25) n = (fun s => x7f call hs u n (s.sl 0) (s.sl 1) (s.sl 5) (s.sl 12) (s.sl 13) s.m s.fc)
  | 0 => rfl
  | n + 1 => by rw [iter_succ, xqy call hs u n, x19l call hs u (x7f call hs u n)]; kernel_rfl
theorem x19m (call : FCall) (hs : FHs) (u : Nat) :
  fxK Try.prog pol NN call xil (AV × Mem) (x3f hs u) (fun s => x2v call hs u (s.sl 5) s.m s.fc) (setE 0 (fun s => x2v call hs u (s.sl 5) s.m s.fc) eNil) x25 = (fun s => x7f call hs u NN (s.sl 0) (s.sl 1) (s.sl 5) (s.sl 12) (s.sl 13) s.m s.fc) := by
  rw [show xil = .loop xbf from by kernel_rfl, loop_r, xqy call hs u NN]
theorem x19n (call : FCall) (hs : FHs) (u : Nat) :
  fxK Try.prog pol NN call xik (AV × Mem) (x3f hs u) (fun s => x2v call hs u (s.sl 5) s.m s.fc) eNil x25 = (fun s => x7f call hs u NN (s.sl 0) (s.sl 1) (s.sl 5) (s.sl 12) (s.sl 13) s.m s.fc) := by
  rw [show xik = .block 0 xil from by kernel_rfl, block_r, x19m call hs u]
theorem x19o (call : FCall) (hs : FHs) (u : Nat) :
  fxK Try.prog pol NN call xij (AV × Mem) (x3f hs u) (fun s => x2v call hs u (s.sl 5) s.m s.fc) eNil x25 = (fun s => xcg call hs u (s.sl 0) (s.sl 1) (s.sl 5) s.m s.fc) := by
  rw [show xij = .seq x19e xik from by kernel_rfl, seq_r]; rw [x19n call hs u]; kernel_rfl
theorem x19p (call : FCall) (hs : FHs) (u : Nat) :
  fxK Try.prog pol NN call xii (AV × Mem) (x3f hs u) x25 eNil x25 = (fun s => xcg call hs u (s.sl 0) (s.sl 1) (s.sl 5) s.m s.fc) := by
  rw [show xii = .seq xij xqu from by kernel_rfl, seq_r, x19h call hs u, x19o call hs u]
theorem x19q (call : FCall) (hs : FHs) (u : Nat) :
  fxK Try.prog pol NN call xih (AV × Mem) (x3f hs u) x25 eNil x25 = (fun s => xke call hs u (s.sl 0) (s.sl 1) s.m s.fc) := by
  rw [show xih = .seq x19c xqt from by kernel_rfl, seq_r]; rw [show xqt = .seq x19d xii from by kernel_rfl, seq_r]; rw [x19p call hs u]; kernel_rfl
theorem x19r (call : FCall) (hs : FHs) (t0 t1 : AV) (m : Mem) : fxBody Try.prog pol NN call hs xq [t0, t1] m = x8f call hs [t0, t1] m := by
  rw [fxBody_at (fn := Try.f80) (body := xih) (nt := 47) (rs := [.tmp 4]) (by kernel_rfl) (by kernel_rfl) (by kernel_rfl) (by kernel_rfl) (by kernel_rfl) (by kernel_rfl)]
  exact (congrFun (x19q call hs m.next) _).trans (by kernel_rfl)
theorem xun (call : FCall) (hs : FHs) (args : List AV) (m : Mem) (r : AV × Mem) (h : x8f call hs args m = some r) : fxBody Try.prog pol NN call hs xq args m = some r := by
  unfold x8f at h
  split at h
  · rw [x19r]; exact h
  · cases h

abbrev x5j (hs : FHs) (u : Nat) : FCtx := { f := x18, u := u, nt := 26, hs := hs }
noncomputable abbrev x3g : Fs → Option (AV × Mem) := fxRes Try.prog [.tmp 2]
noncomputable def xin : Code := nav (bodyOf x18) []
noncomputable def x19s : Code := nav (bodyOf x18) [false]
noncomputable def xqz : Code := nav (bodyOf x18) [true]
noncomputable def x19t : Code := nav (bodyOf x18) [true, false]
noncomputable def xr0 : Code := nav (bodyOf x18) [true, true]
noncomputable def x19u : Code := nav (bodyOf x18) [true, true, false]
noncomputable def xio : Code := nav (bodyOf x18) [true, true, true]
noncomputable def xip : Code := nav (bodyOf x18) [true, true, true, false]
noncomputable def xr1 : Code := nav (bodyOf x18) [true, true, true, true]
noncomputable def x19v : Code := nav (bodyOf x18) [true, true, true, false, false]
noncomputable def xiq : Code := nav (bodyOf x18) [true, true, true, false, true]
noncomputable def xir : Code := nav (bodyOf x18) [true, true, true, false, true, false]
noncomputable def xis : Code := nav (bodyOf x18) [true, true, true, false, true, false, false]
theorem x19w (call : FCall) (hs : FHs) (u : Nat) :
  fxK Try.prog pol NN call xr1 (AV × Mem) (x5j hs u) x3g eNil x3g = (fun s => x57 call hs u (s.sl 1) (s.sl 4) s.m s.fc) := by
  kernel_rfl
theorem x19x (call : FCall) (hs : FHs) (u : Nat) (rec0 : AV → AV → AV → AV → AV → Mem → Nat → Option (AV × Mem)) :
  fxK Try.prog pol NN call xis (AV × Mem) (x5j hs u) (fun s => rec0 (s.sl 1) (s.sl 3) (s.sl 4) (s.sl 10) (s.sl 11) s.m s.fc) (setE 0 (fun s => x57 call hs u (s.sl 1) (s.sl 4) s.m s.fc) eNil) x3g = (fun s => xkf call hs u rec0 (s.sl 1) (s.sl 3) (s.sl 4) (s.sl 10) (s.sl 11) s.m s.fc) := by
  kernel_rfl
theorem xr2 (call : FCall) (hs : FHs) (u : Nat) : ∀ n : Nat,
  iter (fun rec => fxK Try.prog pol NN call xis (AV × Mem) (x5j hs u) rec (setE 0 (fun s => x57 call hs u (s.sl 1) (s.sl 4) s.m s.fc) eNil) x3g) n = (fun s => x7h call hs u n (s.sl 1) (s.sl 3) (s.sl 4) (s.sl 10) (s.sl 11) s.m s.fc)
  | 0 => rfl
  | n + 1 => by rw [iter_succ, xr2 call hs u n, x19x call hs u (x7h call hs u n)]; kernel_rfl
theorem x19y (call : FCall) (hs : FHs) (u : Nat) :
  fxK Try.prog pol NN call xir (AV × Mem) (x5j hs u) (fun s => x57 call hs u (s.sl 1) (s.sl 4) s.m s.fc) (setE 0 (fun s => x57 call hs u (s.sl 1) (s.sl 4) s.m s.fc) eNil) x3g = (fun s => x7h call hs u NN (s.sl 1) (s.sl 3) (s.sl 4) (s.sl 10) (s.sl 11) s.m s.fc) := by
  rw [show xir = .loop xis from by kernel_rfl, loop_r, xr2 call hs u NN]
theorem x19z (call : FCall) (hs : FHs) (u : Nat) :
  fxK Try.prog pol NN call xiq (AV × Mem) (x5j hs u) (fun s => x57 call hs u (s.sl 1) (s.sl 4) s.m s.fc) eNil x3g = (fun s => x7h call hs u NN (s.sl 1) (s.sl 3) (s.sl 4) (s.sl 10) (s.sl 11) s.m s.fc) := by
  rw [show xiq = .block 0 xir from by kernel_rfl, block_r, x19y call hs u]
theorem x1a0 (call : FCall) (hs : FHs) (u : Nat) :
  fxK Try.prog pol NN call xip (AV × Mem) (x5j hs u) (fun s => x57 call hs u (s.sl 1) (s.sl 4) s.m s.fc) eNil x3g = (fun s => xch call hs u (s.sl 1) (s.sl 3) (s.sl 4) s.m s.fc) := by
  rw [show xip = .seq x19v xiq from by kernel_rfl, seq_r]; rw [x19z call hs u]; kernel_rfl
theorem x1a1 (call : FCall) (hs : FHs) (u : Nat) :
  fxK Try.prog pol NN call xio (AV × Mem) (x5j hs u) x3g eNil x3g = (fun s => xch call hs u (s.sl 1) (s.sl 3) (s.sl 4) s.m s.fc) := by
  rw [show xio = .seq xip xr1 from by kernel_rfl, seq_r, x19w call hs u, x1a0 call hs u]
theorem x1a2 (call : FCall) (hs : FHs) (u : Nat) :
  fxK Try.prog pol NN call xin (AV × Mem) (x5j hs u) x3g eNil x3g = (fun s => xkg call hs u (s.sl 0) s.m s.fc) := by
  rw [show xin = .seq x19s xqz from by kernel_rfl, seq_r]; rw [show xqz = .seq x19t xr0 from by kernel_rfl, seq_r]; rw [show xr0 = .seq x19u xio from by kernel_rfl, seq_r]; rw [x1a1 call hs u]; kernel_rfl
theorem x1a3 (call : FCall) (hs : FHs) (t0 : AV) (m : Mem) : fxBody Try.prog pol NN call hs x18 [t0] m = x8g call hs [t0] m := by
  rw [fxBody_at (fn := Try.f81) (body := xin) (nt := 26) (rs := [.tmp 2]) (by kernel_rfl) (by kernel_rfl) (by kernel_rfl) (by kernel_rfl) (by kernel_rfl) (by kernel_rfl)]
  exact (congrFun (x1a2 call hs m.next) _).trans (by kernel_rfl)
theorem xuo (call : FCall) (hs : FHs) (args : List AV) (m : Mem) (r : AV × Mem) (h : x8g call hs args m = some r) : fxBody Try.prog pol NN call hs x18 args m = some r := by
  unfold x8g at h
  split at h
  · rw [x1a3]; exact h
  · cases h

abbrev x1a4 (hs : FHs) (u : Nat) : FCtx := { f := x2f, u := u, nt := 9, hs := hs }
noncomputable abbrev xr3 : Fs → Option (AV × Mem) := fxRes Try.prog [.tmp 4]
noncomputable def xr4 : Code := nav (bodyOf x2f) []
theorem x1a5 (call : FCall) (hs : FHs) (u : Nat) :
  fxK Try.prog pol NN call xr4 (AV × Mem) (x1a4 hs u) xr3 eNil xr3 = (fun s => xa6 call hs u (s.sl 0) (s.sl 1) s.m s.fc) := by
  kernel_rfl
theorem x1a6 (call : FCall) (hs : FHs) (t0 t1 : AV) (m : Mem) : fxBody Try.prog pol NN call hs x2f [t0, t1] m = x5x call hs [t0, t1] m := by
  rw [fxBody_at (fn := Try.f84) (body := xr4) (nt := 9) (rs := [.tmp 4]) (by kernel_rfl) (by kernel_rfl) (by kernel_rfl) (by kernel_rfl) (by kernel_rfl) (by kernel_rfl)]
  exact (congrFun (x1a5 call hs m.next) _).trans (by kernel_rfl)
theorem xup (call : FCall) (hs : FHs) (args : List AV) (m : Mem) (r : AV × Mem) (h : x5x call hs args m = some r) : fxBody Try.prog pol NN call hs x2f args m = some r := by
  unfold x5x at h
  split at h
  · rw [x1a6]; exact h
  · cases h

abbrev x1a7 (hs : FHs) (u : Nat) : FCtx := { f := x3x, u := u, nt := 6, hs := hs }
noncomputable abbrev xr5 : Fs → Option (AV × Mem) := fxRes Try.prog [.tmp 2]
noncomputable def xr6 : Code := nav (bodyOf x3x) []
theorem x1a8 (call : FCall) (hs : FHs) (u : Nat) :
  fxK Try.prog pol NN call xr6 (AV × Mem) (x1a7 hs u) xr5 eNil xr5 = (fun s => xci call hs u (s.sl 0) s.m s.fc) := by
  kernel_rfl
theorem x1a9 (call : FCall) (hs : FHs) (t0 : AV) (m : Mem) : fxBody Try.prog pol NN call hs x3x [t0] m = x6z call hs [t0] m := by
  rw [fxBody_at (fn := Try.f85) (body := xr6) (nt := 6) (rs := [.tmp 2]) (by kernel_rfl) (by kernel_rfl) (by kernel_rfl) (by kernel_rfl) (by kernel_rfl) (by kernel_rfl)]
  exact (congrFun (x1a8 call hs m.next) _).trans (by kernel_rfl)
theorem xuq (call : FCall) (hs : FHs) (args : List AV) (m : Mem) (r : AV × Mem) (h : x6z call hs args m = some r) : fxBody Try.prog pol NN call hs x3x args m = some r := by
  unfold x6z at h
  split at h
  · rw [x1a9]; exact h
  · cases h

abbrev x1aa (hs : FHs) (u : Nat) : FCtx := { f := x5y, u := u, nt := 8, hs := hs }
noncomputable abbrev xr7 : Fs → Option (AV × Mem) := fxRes Try.prog [.tmp 2]
noncomputable def xr8 : Code := nav (bodyOf x5y) []
theorem x1ab (call : FCall) (hs : FHs) (u : Nat) :
  fxK Try.prog pol NN call xr8 (AV × Mem) (x1aa hs u) xr7 eNil xr7 = (fun s => xkh call hs u (s.sl 0) s.m s.fc) := by
  kernel_rfl
theorem x1ac (call : FCall) (hs : FHs) (t0 : AV) (m : Mem) : fxBody Try.prog pol NN call hs x5y [t0] m = x8h call hs [t0] m := by
  rw [fxBody_at (fn := Try.f86) (body := xr8) (nt := 8) (rs := [.tmp 2]) (by kernel_rfl) (by kernel_rfl) (by kernel_rfl) (by kernel_rfl) (by kernel_rfl) (by kernel_rfl)]
  exact (congrFun (x1ab call hs m.next) _).trans (by kernel_rfl)
theorem xur (call : FCall) (hs : FHs) (args : List AV) (m : Mem) (r : AV × Mem) (h : x8h call hs args m = some r) : fxBody Try.prog pol NN call hs x5y args m = some r := by
  unfold x8h at h
  split at h
  · rw [x1ac]; exact h
  · cases h

abbrev x1ad (hs : FHs) (u : Nat) : FCtx := { f := x3l, u := u, nt := 5, hs := hs }
noncomputable abbrev xr9 : Fs → Option (AV × Mem) := fxRes Try.prog [.tmp 2]
noncomputable def xra : Code := nav (bodyOf x3l) []
theorem x1ae (call : FCall) (hs : FHs) (u : Nat) :
  fxK Try.prog pol NN call xra (AV × Mem) (x1ad hs u) xr9 eNil xr9 = (fun s => xki call hs u (s.sl 0) s.m s.fc) := by
  kernel_rfl
theorem x1af (call : FCall) (hs : FHs) (t0 : AV) (m : Mem) : fxBody Try.prog pol NN call hs x3l [t0] m = x80 call hs [t0] m := by
  rw [fxBody_at (fn := Try.f87) (body := xra) (nt := 5) (rs := [.tmp 2]) (by kernel_rfl) (by kernel_rfl) (by kernel_rfl) (by kernel_rfl) (by kernel_rfl) (by kernel_rfl)]
  exact (congrFun (x1ae call hs m.next) _).trans (by kernel_rfl)
theorem xtj (call : FCall) (hs : FHs) (args : List AV) (m : Mem) (r : AV × Mem) (h : x80 call hs args m = some r) : fxBody Try.prog pol NN call hs x3l args m = some r := by
  unfold x80 at h
  split at h
  · rw [x1af]; exact h
  · cases h

abbrev x5k (hs : FHs) (u : Nat) : FCtx := { f := x14, u := u, nt := 76, hs := hs }
noncomputable abbrev x3h : Fs → Option (AV × Mem) := fxRes Try.prog [.tmp 4, .tmp 5]
noncomputable def xit : Code := nav (bodyOf x14) []
noncomputable def x1ag : Code := nav (bodyOf x14) [false]
noncomputable def xrb : Code := nav (bodyOf x14) [true]
noncomputable def x1ah : Code := nav (bodyOf x14) [true, false]
noncomputable def xrc : Code := nav (bodyOf x14) [true, true]
noncomputable def x1ai : Code := nav (bodyOf x14) [true, true, false]
noncomputable def xiu : Code := nav (bodyOf x14) [true, true, true]
noncomputable def xiv : Code := nav (bodyOf x14) [true, true, true, false]
noncomputable def xrd : Code := nav (bodyOf x14) [true, true, true, true]
noncomputable def x1aj : Code := nav (bodyOf x14) [true, true, true, false, false]
noncomputable def xiw : Code := nav (bodyOf x14) [true, true, true, false, true]
noncomputable def xix : Code := nav (bodyOf x14) [true, true, true, false, true, false]
noncomputable def xiy : Code := nav (bodyOf x14) [true, true, true, false, true, false, false]
theorem x1ak (call : FCall) (hs : FHs) (u : Nat) :
  fxK Try.prog pol NN call xrd (AV × Mem) (x5k hs u) x3h eNil x3h = (fun s => x4e call hs u (s.sl 6) (s.sl 7) s.m s.fc) := by
  kernel_rfl
theorem x1al (call : FCall) (hs : FHs) (u : Nat) (rec0 : AV → AV → AV → AV → AV → AV → Mem → Nat → Option (AV × Mem)) :
  fxK Try.prog pol NN call xiy (AV × Mem) (x5k hs u) (fun s => rec0 (s.sl 1) (s.sl 6) (s.sl 7) (s.sl 23) (s.sl 24) (s.sl 25) s.m s.fc) (setE 0 (fun s => x4e call hs u (s.sl 6) (s.sl 7) s.m s.fc) eNil) x3h = (fun s => xa7 call hs u rec0 (s.sl 1) (s.sl 6) (s.sl 7) (s.sl 23) (s.sl 24) (s.sl 25) s.m s.fc) := by
  kernel_rfl
theorem xre (call : FCall) (hs : FHs) (u : Nat) : ∀ n : Nat,
  iter (fun rec => fxK Try.prog pol NN call xiy (AV × Mem) (x5k hs u) rec (setE 0 (fun s => x4e call hs u (s.sl 6) (s.sl 7) s.m s.fc) eNil) x3h) n = (fun s => x4f call hs u n (s.sl 1) (s.sl 6) (s.sl 7) (s.sl 23) (s.sl 24) (s.sl 25) s.m s.fc)
  | 0 => rfl
  | n + 1 => by rw [iter_succ, xre call hs u n, x1al call hs u (x4f call hs u n)]; kernel_rfl
theorem x1am (call : FCall) (hs : FHs) (u : Nat) :
  fxK Try.prog pol NN call xix (AV × Mem) (x5k hs u) (fun s => x4e call hs u (s.sl 6) (s.sl 7) s.m s.fc) (setE 0 (fun s => x4e call hs u (s.sl 6) (s.sl 7) s.m s.fc) eNil) x3h = (fun s => x4f call hs u NN (s.sl 1) (s.sl 6) (s.sl 7) (s.sl 23) (s.sl 24) (s.sl 25) s.m s.fc) := by
  rw [show xix = .loop xiy from by kernel_rfl, loop_r, xre call hs u NN]
theorem x1an (call : FCall) (hs : FHs) (u : Nat) :
  fxK Try.prog pol NN call xiw (AV × Mem) (x5k hs u) (fun s => x4e call hs u (s.sl 6) (s.sl 7) s.m s.fc) eNil x3h = (fun s => x4f call hs u NN (s.sl 1) (s.sl 6) (s.sl 7) (s.sl 23) (s.sl 24) (s.sl 25) s.m s.fc) := by
  rw [show xiw = .block 0 xix from by kernel_rfl, block_r, x1am call hs u]
theorem x1ao (call : FCall) (hs : FHs) (u : Nat) :
  fxK Try.prog pol NN call xiv (AV × Mem) (x5k hs u) (fun s => x4e call hs u (s.sl 6) (s.sl 7) s.m s.fc) eNil x3h = (fun s => xa8 call hs u (s.sl 1) (s.sl 2) (s.sl 6) (s.sl 7) s.m s.fc) := by
  rw [show xiv = .seq x1aj xiw from by kernel_rfl, seq_r]; rw [x1an call hs u]; kernel_rfl
theorem x1ap (call : FCall) (hs : FHs) (u : Nat) :
  fxK Try.prog pol NN call xiu (AV × Mem) (x5k hs u) x3h eNil x3h = (fun s => xa8 call hs u (s.sl 1) (s.sl 2) (s.sl 6) (s.sl 7) s.m s.fc) := by
  rw [show xiu = .seq xiv xrd from by kernel_rfl, seq_r, x1ak call hs u, x1ao call hs u]
theorem x1aq (call : FCall) (hs : FHs) (u : Nat) :
  fxK Try.prog pol NN call xit (AV × Mem) (x5k hs u) x3h eNil x3h = (fun s => xcj call hs u (s.sl 0) (s.sl 1) s.m s.fc) := by
  rw [show xit = .seq x1ag xrb from by kernel_rfl, seq_r]; rw [show xrb = .seq x1ah xrc from by kernel_rfl, seq_r]; rw [show xrc = .seq x1ai xiu from by kernel_rfl, seq_r]; rw [x1ap call hs u]; kernel_rfl
theorem x1ar (call : FCall) (hs : FHs) (t0 t1 : AV) (m : Mem) : fxBody Try.prog pol NN call hs x14 [t0, t1] m = x70 call hs [t0, t1] m := by
  rw [fxBody_at (fn := Try.f88) (body := xit) (nt := 76) (rs := [.tmp 4, .tmp 5]) (by kernel_rfl) (by kernel_rfl) (by kernel_rfl) (by kernel_rfl) (by kernel_rfl) (by kernel_rfl)]
  exact (congrFun (x1aq call hs m.next) _).trans (by kernel_rfl)
theorem xus (call : FCall) (hs : FHs) (args : List AV) (m : Mem) (r : AV × Mem) (h : x70 call hs args m = some r) : fxBody Try.prog pol NN call hs x14 args m = some r := by
  unfold x70 at h
  split at h
  · rw [x1ar]; exact h
  · cases h

abbrev xbg (hs : FHs) (u : Nat) : FCtx := { f := x20, u := u, nt := 12, hs := hs }
noncomputable abbrev x69 : Fs → Option (AV × Mem) := fxRes Try.prog [.tmp 2]
noncomputable def xiz : Code := nav (bodyOf x20) []
noncomputable def x1as : Code := nav (bodyOf x20) [false]
noncomputable def xrf : Code := nav (bodyOf x20) [true]
noncomputable def x1at : Code := nav (bodyOf x20) [true, false]
noncomputable def xj0 : Code := nav (bodyOf x20) [true, true]
noncomputable def xrg : Code := nav (bodyOf x20) [true, true, false]
noncomputable def xrh : Code := nav (bodyOf x20) [true, true, true]
theorem x1au (call : FCall) (hs : FHs) (u : Nat) :
  fxK Try.prog pol NN call xrh (AV × Mem) (xbg hs u) x69 eNil x69 = (fun s => xa9 call hs u (s.sl 0) s.m s.fc) := by
  kernel_rfl
theorem x1av (call : FCall) (hs : FHs) (u : Nat) :
  fxK Try.prog pol NN call xrg (AV × Mem) (xbg hs u) (fun s => xa9 call hs u (s.sl 0) s.m s.fc) eNil x69 = (fun s => xck call hs u (s.sl 0) s.m s.fc) := by
  kernel_rfl
theorem x1aw (call : FCall) (hs : FHs) (u : Nat) :
  fxK Try.prog pol NN call xj0 (AV × Mem) (xbg hs u) x69 eNil x69 = (fun s => xck call hs u (s.sl 0) s.m s.fc) := by
  rw [show xj0 = .seq xrg xrh from by kernel_rfl, seq_r, x1au call hs u, x1av call hs u]
theorem x1ax (call : FCall) (hs : FHs) (u : Nat) :
  fxK Try.prog pol NN call xiz (AV × Mem) (xbg hs u) x69 eNil x69 = (fun s => xkj call hs u (s.sl 0) s.m s.fc) := by
  rw [show xiz = .seq x1as xrf from by kernel_rfl, seq_r]; rw [show xrf = .seq x1at xj0 from by kernel_rfl, seq_r]; rw [x1aw call hs u]; kernel_rfl
theorem x1ay (call : FCall) (hs : FHs) (t0 : AV) (m : Mem) : fxBody Try.prog pol NN call hs x20 [t0] m = x7z call hs [t0] m := by
  rw [fxBody_at (fn := Try.f91) (body := xiz) (nt := 12) (rs := [.tmp 2]) (by kernel_rfl) (by kernel_rfl) (by kernel_rfl) (by kernel_rfl) (by kernel_rfl) (by kernel_rfl)]
  exact (congrFun (x1ax call hs m.next) _).trans (by kernel_rfl)
theorem xti (call : FCall) (hs : FHs) (args : List AV) (m : Mem) (r : AV × Mem) (h : x7z call hs args m = some r) : fxBody Try.prog pol NN call hs x20 args m = some r := by
  unfold x7z at h
  split at h
  · rw [x1ay]; exact h
  · cases h

abbrev x3i (hs : FHs) (u : Nat) : FCtx := { f := xu, u := u, nt := 29, hs := hs }
noncomputable abbrev x26 : Fs → Option (AV × Mem) := fxRes Try.prog [.tmp 4]
noncomputable def xj1 : Code := nav (bodyOf xu) []
noncomputable def x1az : Code := nav (bodyOf xu) [false]
noncomputable def xri : Code := nav (bodyOf xu) [true]
noncomputable def x1b0 : Code := nav (bodyOf xu) [true, false]
noncomputable def xj2 : Code := nav (bodyOf xu) [true, true]
noncomputable def xj3 : Code := nav (bodyOf xu) [true, true, false]
noncomputable def xrj : Code := nav (bodyOf xu) [true, true, true]
noncomputable def x1b1 : Code := nav (bodyOf xu) [true, true, false, false]
noncomputable def xj4 : Code := nav (bodyOf xu) [true, true, false, true]
noncomputable def xj5 : Code := nav (bodyOf xu) [true, true, false, true, false]
noncomputable def xbh : Code := nav (bodyOf xu) [true, true, false, true, false, false]
noncomputable def x1b2 : Code := nav (bodyOf xu) [true, true, false, true, false, false, false]
noncomputable def xrk : Code := nav (bodyOf xu) [true, true, false, true, false, false, true]
noncomputable def x1b3 : Code := nav (bodyOf xu) [true, true, false, true, false, false, true, false]
noncomputable def xj6 : Code := nav (bodyOf xu) [true, true, false, true, false, false, true, true]
noncomputable def xrl : Code := nav (bodyOf xu) [true, true, false, true, false, false, true, true, false]
noncomputable def xrm : Code := nav (bodyOf xu) [true, true, false, true, false, false, true, true, true]
theorem x1b4 (call : FCall) (hs : FHs) (u : Nat) :
  fxK Try.prog pol NN call xrj (AV × Mem) (x3i hs u) x26 eNil x26 = (fun s => x2w call hs u (s.sl 5) s.m s.fc) := by
  kernel_rfl
theorem x1b5 (call : FCall) (hs : FHs) (u : Nat) (rec0 : AV → AV → AV → AV → AV → Mem → Nat → Option (AV × Mem)) :
  fxK Try.prog pol NN call xrm (AV × Mem) (x3i hs u) (fun s => rec0 (s.sl 1) (s.sl 5) (s.sl 10) (s.sl 11) (s.sl 12) s.m s.fc) (setE 0 (fun s => x2w call hs u (s.sl 5) s.m s.fc) eNil) x26 = (fun s => xaa call hs u rec0 (s.sl 1) (s.sl 5) (s.sl 10) (s.sl 11) (s.sl 12) s.m s.fc) := by
  kernel_rfl
theorem x1b6 (call : FCall) (hs : FHs) (u : Nat) (rec0 : AV → AV → AV → AV → AV → Mem → Nat → Option (AV × Mem)) :
  fxK Try.prog pol NN call xrl (AV × Mem) (x3i hs u) (fun s => xaa call hs u rec0 (s.sl 1) (s.sl 5) (s.sl 10) (s.sl 11) (s.sl 12) s.m s.fc) (setE 0 (fun s => x2w call hs u (s.sl 5) s.m s.fc) eNil) x26 = (fun s => xcl call hs u rec0 (s.sl 1) (s.sl 5) (s.sl 10) (s.sl 11) (s.sl 12) s.m s.fc) := by
  kernel_rfl
theorem x1b7 (call : FCall) (hs : FHs) (u : Nat) (rec0 : AV → AV → AV → AV → AV → Mem → Nat → Option (AV × Mem)) :
  fxK Try.prog pol NN call xj6 (AV × Mem) (x3i hs u) (fun s => rec0 (s.sl 1) (s.sl 5) (s.sl 10) (s.sl 11) (s.sl 12) s.m s.fc) (setE 0 (fun s => x2w call hs u (s.sl 5) s.m s.fc) eNil) x26 = (fun s => xcl call hs u rec0 (s.sl 1) (s.sl 5) (s.sl 10) (s.sl 11) (s.sl 12) s.m s.fc) := by
  rw [show xj6 = .seq xrl xrm from by kernel_rfl, seq_r, x1b5 call hs u rec0, x1b6 call hs u rec0]
theorem x1b8 (call : FCall) (hs : FHs) (u : Nat) (rec0 : AV → AV → AV → AV → AV → Mem → Nat → Option (AV × Mem)) :
  fxK Try.prog pol NN call xbh (AV × Mem) (x3i hs u) (fun s => rec0 (s.sl 1) (s.sl 5) (s.sl 10) (s.sl 11) (s.sl 12) s.m s.fc) (setE 0 (fun s => x2w call hs u (s.sl 5) s.m s.fc) eNil) x26 = (fun s => xkk call hs u rec0 (s.sl 1) (s.sl 5) (s.sl 10) (s.sl 11) (s.sl 12) s.m s.fc) := by
  rw [show xbh = .seq x1b2 xrk from by kernel_rfl, seq_r]; rw [show xrk = .seq x1b3 xj6 from by kernel_rfl, seq_r]; rw [x1b7 call hs u rec0]; kernel_rfl
theorem xrn (call : FCall) (hs : FHs) (u : Nat) : ∀ n : Nat,
  iter (fun rec => fxK Try.prog pol NN call xbh (AV × Mem) (x3i hs u) rec (setE 0 (fun s => x2w call hs u (s.sl 5) s.m s.fc) eNil) x26) n = (fun s => x7i call hs u n (s.sl 1) (s.sl 5) (s.sl 10) (s.sl 11) (s.sl 12) s.m s.fc)
  | 0 => rfl
  | n + 1 => by rw [iter_succ, xrn call hs u n, x1b8 call hs u (x7i call hs u n)]; kernel_rfl
theorem x1b9 (call : FCall) (hs : FHs) (u : Nat) :
  fxK Try.prog pol NN call xj5 (AV × Mem) (x3i hs u) (fun s => x2w call hs u (s.sl 5) s.m s.fc) (setE 0 (fun s => x2w call hs u (s.sl 5) s.m s.fc) eNil) x26 = (fun s => x7i call hs u NN (s.sl 1) (s.sl 5) (s.sl 10) (s.sl 11) (s.sl 12) s.m s.fc) := by
  rw [show xj5 = .loop xbh from by kernel_rfl, loop_r, xrn call hs u NN]
theorem x1ba (call : FCall) (hs : FHs) (u : Nat) :
  fxK Try.prog pol NN call xj4 (AV × Mem) (x3i hs u) (fun s => x2w call hs u (s.sl 5) s.m s.fc) eNil x26 = (fun s => x7i call hs u NN (s.sl 1) (s.sl 5) (s.sl 10) (s.sl 11) (s.sl 12) s.m s.fc) := by
  rw [show xj4 = .block 0 xj5 from by kernel_rfl, block_r, x1b9 call hs u]
theorem x1bb (call : FCall) (hs : FHs) (u : Nat) :
  fxK Try.prog pol NN call xj3 (AV × Mem) (x3i hs u) (fun s => x2w call hs u (s.sl 5) s.m s.fc) eNil x26 = (fun s => xcm call hs u (s.sl 1) (s.sl 2) (s.sl 5) s.m s.fc) := by
  rw [show xj3 = .seq x1b1 xj4 from by kernel_rfl, seq_r]; rw [x1ba call hs u]; kernel_rfl
theorem x1bc (call : FCall) (hs : FHs) (u : Nat) :
  fxK Try.prog pol NN call xj2 (AV × Mem) (x3i hs u) x26 eNil x26 = (fun s => xcm call hs u (s.sl 1) (s.sl 2) (s.sl 5) s.m s.fc) := by
  rw [show xj2 = .seq xj3 xrj from by kernel_rfl, seq_r, x1b4 call hs u, x1bb call hs u]
theorem x1bd (call : FCall) (hs : FHs) (u : Nat) :
  fxK Try.prog pol NN call xj1 (AV × Mem) (x3i hs u) x26 eNil x26 = (fun s => xkl call hs u (s.sl 0) (s.sl 1) s.m s.fc) := by
  rw [show xj1 = .seq x1az xri from by kernel_rfl, seq_r]; rw [show xri = .seq x1b0 xj2 from by kernel_rfl, seq_r]; rw [x1bc call hs u]; kernel_rfl
theorem x1be (call : FCall) (hs : FHs) (t0 t1 : AV) (m : Mem) : fxBody Try.prog pol NN call hs xu [t0, t1] m = x8i call hs [t0, t1] m := by
  rw [fxBody_at (fn := Try.f95) (body := xj1) (nt := 29) (rs := [.tmp 4]) (by kernel_rfl) (by kernel_rfl) (by kernel_rfl) (by kernel_rfl) (by kernel_rfl) (by kernel_rfl)]
  exact (congrFun (x1bd call hs m.next) _).trans (by kernel_rfl)
theorem xut (call : FCall) (hs : FHs) (args : List AV) (m : Mem) (r : AV × Mem) (h : x8i call hs args m = some r) : fxBody Try.prog pol NN call hs xu args m = some r := by
  unfold x8i at h
  split at h
  · rw [x1be]; exact h
  · cases h

abbrev x1bf (hs : FHs) (u : Nat) : FCtx := { f := x4u, u := u, nt := 19, hs := hs }
noncomputable abbrev xro : Fs → Option (AV × Mem) := fxRes Try.prog [.tmp 4]
noncomputable def xrp : Code := nav (bodyOf x4u) []
theorem x1bg (call : FCall) (hs : FHs) (u : Nat) :
  fxK Try.prog pol NN call xrp (AV × Mem) (x1bf hs u) xro eNil xro = (fun s => xcn call hs u (s.sl 0) (s.sl 1) s.m s.fc) := by
  kernel_rfl
theorem x1bh (call : FCall) (hs : FHs) (t0 t1 : AV) (m : Mem) : fxBody Try.prog pol NN call hs x4u [t0, t1] m = x6e call hs [t0, t1] m := by
  rw [fxBody_at (fn := Try.f97) (body := xrp) (nt := 19) (rs := [.tmp 4]) (by kernel_rfl) (by kernel_rfl) (by kernel_rfl) (by kernel_rfl) (by kernel_rfl) (by kernel_rfl)]
  exact (congrFun (x1bg call hs m.next) _).trans (by kernel_rfl)
theorem xtk (call : FCall) (hs : FHs) (args : List AV) (m : Mem) (r : AV × Mem) (h : x6e call hs args m = some r) : fxBody Try.prog pol NN call hs x4u args m = some r := by
  unfold x6e at h
  split at h
  · rw [x1bh]; exact h
  · cases h

abbrev x1bi (hs : FHs) (u : Nat) : FCtx := { f := x4z, u := u, nt := 19, hs := hs }
noncomputable abbrev xrq : Fs → Option (AV × Mem) := fxRes Try.prog [.tmp 4]
noncomputable def xrr : Code := nav (bodyOf x4z) []
theorem x1bj (call : FCall) (hs : FHs) (u : Nat) :
  fxK Try.prog pol NN call xrr (AV × Mem) (x1bi hs u) xrq eNil xrq = (fun s => xco call hs u (s.sl 0) (s.sl 1) s.m s.fc) := by
  kernel_rfl
theorem x1bk (call : FCall) (hs : FHs) (t0 t1 : AV) (m : Mem) : fxBody Try.prog pol NN call hs x4z [t0, t1] m = x71 call hs [t0, t1] m := by
  rw [fxBody_at (fn := Try.f100) (body := xrr) (nt := 19) (rs := [.tmp 4]) (by kernel_rfl) (by kernel_rfl) (by kernel_rfl) (by kernel_rfl) (by kernel_rfl) (by kernel_rfl)]
  exact (congrFun (x1bj call hs m.next) _).trans (by kernel_rfl)
theorem xuu (call : FCall) (hs : FHs) (args : List AV) (m : Mem) (r : AV × Mem) (h : x71 call hs args m = some r) : fxBody Try.prog pol NN call hs x4z args m = some r := by
  unfold x71 at h
  split at h
  · rw [x1bk]; exact h
  · cases h

abbrev x1bl (hs : FHs) (u : Nat) : FCtx := { f := x5z, u := u, nt := 15, hs := hs }
noncomputable abbrev xrs : Fs → Option (AV × Mem) := fxRes Try.prog [.tmp 3]
noncomputable def xrt : Code := nav (bodyOf x5z) []
theorem x1bm (call : FCall) (hs : FHs) (u : Nat) :
  fxK Try.prog pol NN call xrt (AV × Mem) (x1bl hs u) xrs eNil xrs = (fun s => xkm call hs u (s.sl 0) (s.sl 1) s.m s.fc) := by
  kernel_rfl
theorem x1bn (call : FCall) (hs : FHs) (t0 t1 : AV) (m : Mem) : fxBody Try.prog pol NN call hs x5z [t0, t1] m = x8j call hs [t0, t1] m := by
  rw [fxBody_at (fn := Try.f101) (body := xrt) (nt := 15) (rs := [.tmp 3]) (by kernel_rfl) (by kernel_rfl) (by kernel_rfl) (by kernel_rfl) (by kernel_rfl) (by kernel_rfl)]
  exact (congrFun (x1bm call hs m.next) _).trans (by kernel_rfl)
theorem xuv (call : FCall) (hs : FHs) (args : List AV) (m : Mem) (r : AV × Mem) (h : x8j call hs args m = some r) : fxBody Try.prog pol NN call hs x5z args m = some r := by
  unfold x8j at h
  split at h
  · rw [x1bn]; exact h
  · cases h

abbrev x5l (hs : FHs) (u : Nat) : FCtx := { f := x19, u := u, nt := 62, hs := hs }
noncomputable abbrev x3j : Fs → Option (AV × Mem) := fxRes Try.prog [.tmp 2, .tmp 3]
noncomputable def xj7 : Code := nav (bodyOf x19) []
noncomputable def x1bo : Code := nav (bodyOf x19) [false]
noncomputable def xru : Code := nav (bodyOf x19) [true]
noncomputable def x1bp : Code := nav (bodyOf x19) [true, false]
noncomputable def xj8 : Code := nav (bodyOf x19) [true, true]
noncomputable def xj9 : Code := nav (bodyOf x19) [true, true, false]
noncomputable def xrv : Code := nav (bodyOf x19) [true, true, true]
noncomputable def x1bq : Code := nav (bodyOf x19) [true, true, false, false]
noncomputable def xja : Code := nav (bodyOf x19) [true, true, false, true]
noncomputable def xjb : Code := nav (bodyOf x19) [true, true, false, true, false]
noncomputable def xjc : Code := nav (bodyOf x19) [true, true, false, true, false, false]
theorem x1br (call : FCall) (hs : FHs) (u : Nat) :
  fxK Try.prog pol NN call xrv (AV × Mem) (x5l hs u) x3j eNil x3j = (fun s => x4g call hs u s.m s.fc) := by
  kernel_rfl
theorem x1bs (call : FCall) (hs : FHs) (u : Nat) (rec0 : AV → AV → AV → AV → Mem → Nat → Option (AV × Mem)) :
  fxK Try.prog pol NN call xjc (AV × Mem) (x5l hs u) (fun s => rec0 (s.sl 1) (s.sl 17) (s.sl 18) (s.sl 19) s.m s.fc) (setE 1 (fun s => x4g call hs u s.m s.fc) eNil) x3j = (fun s => xab call hs u rec0 (s.sl 1) (s.sl 17) (s.sl 18) (s.sl 19) s.m s.fc) := by
  kernel_rfl
theorem xrw (call : FCall) (hs : FHs) (u : Nat) : ∀ n : Nat,
  iter (fun rec => fxK Try.prog pol NN call xjc (AV × Mem) (x5l hs u) rec (setE 1 (fun s => x4g call hs u s.m s.fc) eNil) x3j) n = (fun s => x4h call hs u n (s.sl 1) (s.sl 17) (s.sl 18) (s.sl 19) s.m s.fc)
  | 0 => rfl
  | n + 1 => by rw [iter_succ, xrw call hs u n, x1bs call hs u (x4h call hs u n)]; kernel_rfl
theorem x1bt (call : FCall) (hs : FHs) (u : Nat) :
  fxK Try.prog pol NN call xjb (AV × Mem) (x5l hs u) (fun s => x4g call hs u s.m s.fc) (setE 1 (fun s => x4g call hs u s.m s.fc) eNil) x3j = (fun s => x4h call hs u NN (s.sl 1) (s.sl 17) (s.sl 18) (s.sl 19) s.m s.fc) := by
  rw [show xjb = .loop xjc from by kernel_rfl, loop_r, xrw call hs u NN]
theorem x1bu (call : FCall) (hs : FHs) (u : Nat) :
  fxK Try.prog pol NN call xja (AV × Mem) (x5l hs u) (fun s => x4g call hs u s.m s.fc) eNil x3j = (fun s => x4h call hs u NN (s.sl 1) (s.sl 17) (s.sl 18) (s.sl 19) s.m s.fc) := by
  rw [show xja = .block 1 xjb from by kernel_rfl, block_r, x1bt call hs u]
theorem x1bv (call : FCall) (hs : FHs) (u : Nat) :
  fxK Try.prog pol NN call xj9 (AV × Mem) (x5l hs u) (fun s => x4g call hs u s.m s.fc) eNil x3j = (fun s => xac call hs u (s.sl 1) s.m s.fc) := by
  rw [show xj9 = .seq x1bq xja from by kernel_rfl, seq_r]; rw [x1bu call hs u]; kernel_rfl
theorem x1bw (call : FCall) (hs : FHs) (u : Nat) :
  fxK Try.prog pol NN call xj8 (AV × Mem) (x5l hs u) x3j eNil x3j = (fun s => xac call hs u (s.sl 1) s.m s.fc) := by
  rw [show xj8 = .seq xj9 xrv from by kernel_rfl, seq_r, x1br call hs u, x1bv call hs u]
theorem x1bx (call : FCall) (hs : FHs) (u : Nat) :
  fxK Try.prog pol NN call xj7 (AV × Mem) (x5l hs u) x3j eNil x3j = (fun s => xcp call hs u (s.sl 0) s.m s.fc) := by
  rw [show xj7 = .seq x1bo xru from by kernel_rfl, seq_r]; rw [show xru = .seq x1bp xj8 from by kernel_rfl, seq_r]; rw [x1bw call hs u]; kernel_rfl
theorem x1by (call : FCall) (hs : FHs) (t0 : AV) (m : Mem) : fxBody Try.prog pol NN call hs x19 [t0] m = x72 call hs [t0] m := by
  rw [fxBody_at (fn := Try.f102) (body := xj7) (nt := 62) (rs := [.tmp 2, .tmp 3]) (by kernel_rfl) (by kernel_rfl) (by kernel_rfl) (by kernel_rfl) (by kernel_rfl) (by kernel_rfl)]
  exact (congrFun (x1bx call hs m.next) _).trans (by kernel_rfl)
theorem xuw (call : FCall) (hs : FHs) (args : List AV) (m : Mem) (r : AV × Mem) (h : x72 call hs args m = some r) : fxBody Try.prog pol NN call hs x19 args m = some r := by
  unfold x72 at h
  split at h
  · rw [x1by]; exact h
  · cases h

abbrev x1y (hs : FHs) (u : Nat) : FCtx := { f := xg, u := u, nt := 132, hs := hs }
noncomputable abbrev x1j : Fs → Option (AV × Mem) := fxRes Try.prog [.tmp 2]
noncomputable def xjd : Code := nav (bodyOf xg) []
noncomputable def x1bz : Code := nav (bodyOf xg) [false]
noncomputable def xrx : Code := nav (bodyOf xg) [true]
noncomputable def x1c0 : Code := nav (bodyOf xg) [true, false]
noncomputable def xje : Code := nav (bodyOf xg) [true, true]
noncomputable def xjf : Code := nav (bodyOf xg) [true, true, false]
noncomputable def xry : Code := nav (bodyOf xg) [true, true, true]
noncomputable def x1c1 : Code := nav (bodyOf xg) [true, true, false, false]
noncomputable def xjg : Code := nav (bodyOf xg) [true, true, false, true]
noncomputable def xjh : Code := nav (bodyOf xg) [true, true, false, true, false]
noncomputable def xbi : Code := nav (bodyOf xg) [true, true, false, true, false, false]
noncomputable def x1c2 : Code := nav (bodyOf xg) [true, true, false, true, false, false, false]
noncomputable def xrz : Code := nav (bodyOf xg) [true, true, false, true, false, false, true]
noncomputable def x1c3 : Code := nav (bodyOf xg) [true, true, false, true, false, false, true, false]
noncomputable def xji : Code := nav (bodyOf xg) [true, true, false, true, false, false, true, true]
noncomputable def xjj : Code := nav (bodyOf xg) [true, true, false, true, false, false, true, true, false]
noncomputable def xs0 : Code := nav (bodyOf xg) [true, true, false, true, false, false, true, true, true]
noncomputable def xjk : Code := nav (bodyOf xg) [true, true, false, true, false, false, true, true, false, false]
noncomputable def x1c4 : Code := nav (bodyOf xg) [true, true, false, true, false, false, true, true, false, false, false]
noncomputable def xjl : Code := nav (bodyOf xg) [true, true, false, true, false, false, true, true, false, false, true]
noncomputable def xs1 : Code := nav (bodyOf xg) [true, true, false, true, false, false, true, true, false, false, true, false]
noncomputable def xs2 : Code := nav (bodyOf xg) [true, true, false, true, false, false, true, true, false, false, true, true]
theorem x1c5 (call : FCall) (hs : FHs) (u : Nat) :
  fxK Try.prog pol NN call xry (AV × Mem) (x1y hs u) x1j eNil x1j = (fun s => x1p call hs u (s.sl 3) s.m s.fc) := by
  kernel_rfl
theorem x1c6 (call : FCall) (hs : FHs) (u : Nat) (rec0 : AV → AV → AV → AV → Mem → Nat → Option (AV × Mem)) :
  fxK Try.prog pol NN call xs0 (AV × Mem) (x1y hs u) (fun s => rec0 (s.sl 3) (s.sl 28) (s.sl 29) (s.sl 30) s.m s.fc) (setE 0 (fun s => x1p call hs u (s.sl 3) s.m s.fc) eNil) x1j = (fun s => x2x call hs u rec0 (s.sl 3) (s.sl 28) (s.sl 29) (s.sl 30) s.m s.fc) := by
  kernel_rfl
theorem x1c7 (call : FCall) (hs : FHs) (u : Nat) (rec0 : AV → AV → AV → AV → Mem → Nat → Option (AV × Mem)) :
  fxK Try.prog pol NN call xs2 (AV × Mem) (x1y hs u) (fun s => x2x call hs u rec0 (s.sl 3) (s.sl 28) (s.sl 29) (s.sl 30) s.m s.fc) (setE 1 (fun s => x2x call hs u rec0 (s.sl 3) (s.sl 28) (s.sl 29) (s.sl 30) s.m s.fc) (setE 0 (fun s => x1p call hs u (s.sl 3) s.m s.fc) eNil)) x1j = (fun s => x58 call hs u rec0 (s.sl 3) (s.sl 4) (s.sl 5) (s.sl 28) (s.sl 29) (s.sl 30) s.m s.fc) := by
  kernel_rfl
theorem x1c8 (call : FCall) (hs : FHs) (u : Nat) (rec0 : AV → AV → AV → AV → Mem → Nat → Option (AV × Mem)) :
  fxK Try.prog pol NN call xs1 (AV × Mem) (x1y hs u) (fun s => x58 call hs u rec0 (s.sl 3) (s.sl 4) (s.sl 5) (s.sl 28) (s.sl 29) (s.sl 30) s.m s.fc) (setE 1 (fun s => x2x call hs u rec0 (s.sl 3) (s.sl 28) (s.sl 29) (s.sl 30) s.m s.fc) (setE 0 (fun s => x1p call hs u (s.sl 3) s.m s.fc) eNil)) x1j = (fun s => xad call hs u rec0 (s.sl 3) (s.sl 4) (s.sl 5) (s.sl 28) (s.sl 29) (s.sl 30) s.m s.fc) := by
  kernel_rfl
theorem x1c9 (call : FCall) (hs : FHs) (u : Nat) (rec0 : AV → AV → AV → AV → Mem → Nat → Option (AV × Mem)) :
  fxK Try.prog pol NN call xjl (AV × Mem) (x1y hs u) (fun s => x2x call hs u rec0 (s.sl 3) (s.sl 28) (s.sl 29) (s.sl 30) s.m s.fc) (setE 1 (fun s => x2x call hs u rec0 (s.sl 3) (s.sl 28) (s.sl 29) (s.sl 30) s.m s.fc) (setE 0 (fun s => x1p call hs u (s.sl 3) s.m s.fc) eNil)) x1j = (fun s => xad call hs u rec0 (s.sl 3) (s.sl 4) (s.sl 5) (s.sl 28) (s.sl 29) (s.sl 30) s.m s.fc) := by
  rw [show xjl = .seq xs1 xs2 from by kernel_rfl, seq_r, x1c7 call hs u rec0, x1c8 call hs u rec0]
theorem x1ca (call : FCall) (hs : FHs) (u : Nat) (rec0 : AV → AV → AV → AV → Mem → Nat → Option (AV × Mem)) :
  fxK Try.prog pol NN call xjk (AV × Mem) (x1y hs u) (fun s => x2x call hs u rec0 (s.sl 3) (s.sl 28) (s.sl 29) (s.sl 30) s.m s.fc) (setE 1 (fun s => x2x call hs u rec0 (s.sl 3) (s.sl 28) (s.sl 29) (s.sl 30) s.m s.fc) (setE 0 (fun s => x1p call hs u (s.sl 3) s.m s.fc) eNil)) x1j = (fun s => x8z call hs u rec0 (s.sl 3) (s.sl 28) (s.sl 29) (s.sl 30) s.m s.fc) := by
  rw [show xjk = .seq x1c4 xjl from by kernel_rfl, seq_r]; rw [x1c9 call hs u rec0]; kernel_rfl
theorem x1cb (call : FCall) (hs : FHs) (u : Nat) (rec0 : AV → AV → AV → AV → Mem → Nat → Option (AV × Mem)) :
  fxK Try.prog pol NN call xjj (AV × Mem) (x1y hs u) (fun s => x2x call hs u rec0 (s.sl 3) (s.sl 28) (s.sl 29) (s.sl 30) s.m s.fc) (setE 0 (fun s => x1p call hs u (s.sl 3) s.m s.fc) eNil) x1j = (fun s => x8z call hs u rec0 (s.sl 3) (s.sl 28) (s.sl 29) (s.sl 30) s.m s.fc) := by
  rw [show xjj = .block 1 xjk from by kernel_rfl, block_r, x1ca call hs u rec0]
theorem x1cc (call : FCall) (hs : FHs) (u : Nat) (rec0 : AV → AV → AV → AV → Mem → Nat → Option (AV × Mem)) :
  fxK Try.prog pol NN call xji (AV × Mem) (x1y hs u) (fun s => rec0 (s.sl 3) (s.sl 28) (s.sl 29) (s.sl 30) s.m s.fc) (setE 0 (fun s => x1p call hs u (s.sl 3) s.m s.fc) eNil) x1j = (fun s => x8z call hs u rec0 (s.sl 3) (s.sl 28) (s.sl 29) (s.sl 30) s.m s.fc) := by
  rw [show xji = .seq xjj xs0 from by kernel_rfl, seq_r, x1c6 call hs u rec0, x1cb call hs u rec0]
theorem x1cd (call : FCall) (hs : FHs) (u : Nat) (rec0 : AV → AV → AV → AV → Mem → Nat → Option (AV × Mem)) :
  fxK Try.prog pol NN call xbi (AV × Mem) (x1y hs u) (fun s => rec0 (s.sl 3) (s.sl 28) (s.sl 29) (s.sl 30) s.m s.fc) (setE 0 (fun s => x1p call hs u (s.sl 3) s.m s.fc) eNil) x1j = (fun s => xae call hs u rec0 (s.sl 3) (s.sl 28) (s.sl 29) (s.sl 30) s.m s.fc) := by
  rw [show xbi = .seq x1c2 xrz from by kernel_rfl, seq_r]; rw [show xrz = .seq x1c3 xji from by kernel_rfl, seq_r]; rw [x1cc call hs u rec0]; kernel_rfl
theorem xs3 (call : FCall) (hs : FHs) (u : Nat) : ∀ n : Nat,
  iter (fun rec => fxK Try.prog pol NN call xbi (AV × Mem) (x1y hs u) rec (setE 0 (fun s => x1p call hs u (s.sl 3) s.m s.fc) eNil) x1j) n = (fun s => x2y call hs u n (s.sl 3) (s.sl 28) (s.sl 29) (s.sl 30) s.m s.fc)
  | 0 => rfl
  | n + 1 => by rw [iter_succ, xs3 call hs u n, x1cd call hs u (x2y call hs u n)]; kernel_rfl
theorem x1ce (call : FCall) (hs : FHs) (u : Nat) :
  fxK Try.prog pol NN call xjh (AV × Mem) (x1y hs u) (fun s => x1p call hs u (s.sl 3) s.m s.fc) (setE 0 (fun s => x1p call hs u (s.sl 3) s.m s.fc) eNil) x1j = (fun s => x2y call hs u NN (s.sl 3) (s.sl 28) (s.sl 29) (s.sl 30) s.m s.fc) := by
  rw [show xjh = .loop xbi from by kernel_rfl, loop_r, xs3 call hs u NN]
theorem x1cf (call : FCall) (hs : FHs) (u : Nat) :
  fxK Try.prog pol NN call xjg (AV × Mem) (x1y hs u) (fun s => x1p call hs u (s.sl 3) s.m s.fc) eNil x1j = (fun s => x2y call hs u NN (s.sl 3) (s.sl 28) (s.sl 29) (s.sl 30) s.m s.fc) := by
  rw [show xjg = .block 0 xjh from by kernel_rfl, block_r, x1ce call hs u]
theorem x1cg (call : FCall) (hs : FHs) (u : Nat) :
  fxK Try.prog pol NN call xjf (AV × Mem) (x1y hs u) (fun s => x1p call hs u (s.sl 3) s.m s.fc) eNil x1j = (fun s => xaf call hs u (s.sl 1) (s.sl 3) s.m s.fc) := by
  rw [show xjf = .seq x1c1 xjg from by kernel_rfl, seq_r]; rw [x1cf call hs u]; kernel_rfl
theorem x1ch (call : FCall) (hs : FHs) (u : Nat) :
  fxK Try.prog pol NN call xje (AV × Mem) (x1y hs u) x1j eNil x1j = (fun s => xaf call hs u (s.sl 1) (s.sl 3) s.m s.fc) := by
  rw [show xje = .seq xjf xry from by kernel_rfl, seq_r, x1c5 call hs u, x1cg call hs u]
theorem x1ci (call : FCall) (hs : FHs) (u : Nat) :
  fxK Try.prog pol NN call xjd (AV × Mem) (x1y hs u) x1j eNil x1j = (fun s => xcq call hs u (s.sl 0) s.m s.fc) := by
  rw [show xjd = .seq x1bz xrx from by kernel_rfl, seq_r]; rw [show xrx = .seq x1c0 xje from by kernel_rfl, seq_r]; rw [x1ch call hs u]; kernel_rfl
theorem x1cj (call : FCall) (hs : FHs) (t0 : AV) (m : Mem) : fxBody Try.prog pol NN call hs xg [t0] m = x73 call hs [t0] m := by
  rw [fxBody_at (fn := Try.f103) (body := xjd) (nt := 132) (rs := [.tmp 2]) (by kernel_rfl) (by kernel_rfl) (by kernel_rfl) (by kernel_rfl) (by kernel_rfl) (by kernel_rfl)]
  exact (congrFun (x1ci call hs m.next) _).trans (by kernel_rfl)
theorem xux (call : FCall) (hs : FHs) (args : List AV) (m : Mem) (r : AV × Mem) (h : x73 call hs args m = some r) : fxBody Try.prog pol NN call hs xg args m = some r := by
  unfold x73 at h
  split at h
  · rw [x1cj]; exact h
  · cases h

abbrev x5m (hs : FHs) (u : Nat) : FCtx := { f := x17, u := u, nt := 19, hs := hs }
noncomputable abbrev x3k : Fs → Option (AV × Mem) := fxRes Try.prog [.tmp 4]
noncomputable def xjm : Code := nav (bodyOf x17) []
noncomputable def x1ck : Code := nav (bodyOf x17) [false]
noncomputable def xjn : Code := nav (bodyOf x17) [true]
noncomputable def xjo : Code := nav (bodyOf x17) [true, false]
noncomputable def xs4 : Code := nav (bodyOf x17) [true, true]
noncomputable def x1cl : Code := nav (bodyOf x17) [true, false, false]
noncomputable def xjp : Code := nav (bodyOf x17) [true, false, true]
noncomputable def xjq : Code := nav (bodyOf x17) [true, false, true, false]
noncomputable def xjr : Code := nav (bodyOf x17) [true, false, true, false, false]
theorem x1cm (call : FCall) (hs : FHs) (u : Nat) :
  fxK Try.prog pol NN call xs4 (AV × Mem) (x5m hs u) x3k eNil x3k = (fun s => x2z call hs u s.m s.fc) := by
  kernel_rfl
theorem x1cn (call : FCall) (hs : FHs) (u : Nat) (rec0 : AV → AV → AV → AV → Mem → Nat → Option (AV × Mem)) :
  fxK Try.prog pol NN call xjr (AV × Mem) (x5m hs u) (fun s => rec0 (s.sl 0) (s.sl 1) (s.sl 7) (s.sl 8) s.m s.fc) (setE 0 (fun s => x2z call hs u s.m s.fc) eNil) x3k = (fun s => x4i call hs u rec0 (s.sl 0) (s.sl 1) (s.sl 7) (s.sl 8) s.m s.fc) := by
  kernel_rfl
theorem xs5 (call : FCall) (hs : FHs) (u : Nat) : ∀ n : Nat,
  iter (fun rec => fxK Try.prog pol NN call xjr (AV × Mem) (x5m hs u) rec (setE 0 (fun s => x2z call hs u s.m s.fc) eNil) x3k) n = (fun s => x1q call hs u n (s.sl 0) (s.sl 1) (s.sl 7) (s.sl 8) s.m s.fc)
  | 0 => rfl
  | n + 1 => by rw [iter_succ, xs5 call hs u n, x1cn call hs u (x1q call hs u n)]; kernel_rfl
theorem x1co (call : FCall) (hs : FHs) (u : Nat) :
  fxK Try.prog pol NN call xjq (AV × Mem) (x5m hs u) (fun s => x2z call hs u s.m s.fc) (setE 0 (fun s => x2z call hs u s.m s.fc) eNil) x3k = (fun s => x1q call hs u NN (s.sl 0) (s.sl 1) (s.sl 7) (s.sl 8) s.m s.fc) := by
  rw [show xjq = .loop xjr from by kernel_rfl, loop_r, xs5 call hs u NN]
theorem x1cp (call : FCall) (hs : FHs) (u : Nat) :
  fxK Try.prog pol NN call xjp (AV × Mem) (x5m hs u) (fun s => x2z call hs u s.m s.fc) eNil x3k = (fun s => x1q call hs u NN (s.sl 0) (s.sl 1) (s.sl 7) (s.sl 8) s.m s.fc) := by
  rw [show xjp = .block 0 xjq from by kernel_rfl, block_r, x1co call hs u]
theorem x1cq (call : FCall) (hs : FHs) (u : Nat) :
  fxK Try.prog pol NN call xjo (AV × Mem) (x5m hs u) (fun s => x2z call hs u s.m s.fc) eNil x3k = (fun s => x7j call hs u (s.sl 0) (s.sl 1) s.m s.fc) := by
  rw [show xjo = .seq x1cl xjp from by kernel_rfl, seq_r]; rw [x1cp call hs u]; kernel_rfl
theorem x1cr (call : FCall) (hs : FHs) (u : Nat) :
  fxK Try.prog pol NN call xjn (AV × Mem) (x5m hs u) x3k eNil x3k = (fun s => x7j call hs u (s.sl 0) (s.sl 1) s.m s.fc) := by
  rw [show xjn = .seq xjo xs4 from by kernel_rfl, seq_r, x1cm call hs u, x1cq call hs u]
theorem x1cs (call : FCall) (hs : FHs) (u : Nat) :
  fxK Try.prog pol NN call xjm (AV × Mem) (x5m hs u) x3k eNil x3k = (fun s => x90 call hs u (s.sl 0) (s.sl 1) s.m s.fc) := by
  rw [show xjm = .seq x1ck xjn from by kernel_rfl, seq_r]; rw [x1cr call hs u]; kernel_rfl
theorem x1ct (call : FCall) (hs : FHs) (t0 t1 : AV) (m : Mem) : fxBody Try.prog pol NN call hs x17 [t0, t1] m = x4w call hs [t0, t1] m := by
  rw [fxBody_at (fn := Try.f104) (body := xjm) (nt := 19) (rs := [.tmp 4]) (by kernel_rfl) (by kernel_rfl) (by kernel_rfl) (by kernel_rfl) (by kernel_rfl) (by kernel_rfl)]
  exact (congrFun (x1cs call hs m.next) _).trans (by kernel_rfl)
theorem xtm (call : FCall) (hs : FHs) (args : List AV) (m : Mem) (r : AV × Mem) (h : x4w call hs args m = some r) : fxBody Try.prog pol NN call hs x17 args m = some r := by
  unfold x4w at h
  split at h
  · rw [x1ct]; exact h
  · cases h

abbrev x1cu (hs : FHs) (u : Nat) : FCtx := { f := x2m, u := u, nt := 5, hs := hs }
noncomputable abbrev xs6 : Fs → Option (AV × Mem) := fxRes Try.prog [.tmp 2]
noncomputable def xs7 : Code := nav (bodyOf x2m) []
theorem x1cv (call : FCall) (hs : FHs) (u : Nat) :
  fxK Try.prog pol NN call xs7 (AV × Mem) (x1cu hs u) xs6 eNil xs6 = (fun s => xcr call hs u (s.sl 0) s.m s.fc) := by
  kernel_rfl
theorem x1cw (call : FCall) (hs : FHs) (t0 : AV) (m : Mem) : fxBody Try.prog pol NN call hs x2m [t0] m = x6g call hs [t0] m := by
  rw [fxBody_at (fn := Try.f105) (body := xs7) (nt := 5) (rs := [.tmp 2]) (by kernel_rfl) (by kernel_rfl) (by kernel_rfl) (by kernel_rfl) (by kernel_rfl) (by kernel_rfl)]
  exact (congrFun (x1cv call hs m.next) _).trans (by kernel_rfl)
theorem xtn (call : FCall) (hs : FHs) (args : List AV) (m : Mem) (r : AV × Mem) (h : x6g call hs args m = some r) : fxBody Try.prog pol NN call hs x2m args m = some r := by
  unfold x6g at h
  split at h
  · rw [x1cw]; exact h
  · cases h

end Go.Ix
