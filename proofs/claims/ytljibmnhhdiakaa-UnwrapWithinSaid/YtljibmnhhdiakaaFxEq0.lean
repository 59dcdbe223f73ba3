import Derived.Test.YtljibmnhhdiakaaFxText0
import Derived.Test.YtljibmnhhdiakaaFxRules
import Derived.ProofKit
set_option linter.unusedVariables false
namespace Go.Ix
open Go.Proofs

abbrev x38 (hs : FHs) (u : Nat) : FCtx := { f := xe, u := u, nt := 95, hs := hs }
noncomputable abbrev x1x : Fs → Option (AV × Mem) := fxRes Try.prog [.tmp 6]
noncomputable def xfo : Code := nav (bodyOf xe) []
noncomputable def x118 : Code := nav (bodyOf xe) [false]
noncomputable def xnd : Code := nav (bodyOf xe) [true]
noncomputable def x119 : Code := nav (bodyOf xe) [true, false]
noncomputable def xne : Code := nav (bodyOf xe) [true, true]
noncomputable def x11a : Code := nav (bodyOf xe) [true, true, false]
noncomputable def xnf : Code := nav (bodyOf xe) [true, true, true]
noncomputable def x11b : Code := nav (bodyOf xe) [true, true, true, false]
noncomputable def xng : Code := nav (bodyOf xe) [true, true, true, true]
noncomputable def x11c : Code := nav (bodyOf xe) [true, true, true, true, false]
noncomputable def xnh : Code := nav (bodyOf xe) [true, true, true, true, true]
noncomputable def x11d : Code := nav (bodyOf xe) [true, true, true, true, true, false]
noncomputable def xfp : Code := nav (bodyOf xe) [true, true, true, true, true, true]
noncomputable def xni : Code := nav (bodyOf xe) [true, true, true, true, true, true, false]
noncomputable def xfq : Code := nav (bodyOf xe) [true, true, true, true, true, true, true]
noncomputable def x11e : Code := nav (bodyOf xe) [true, true, true, true, true, true, true, false]
noncomputable def xnj : Code := nav (bodyOf xe) [true, true, true, true, true, true, true, true]
noncomputable def x11f : Code := nav (bodyOf xe) [true, true, true, true, true, true, true, true, false]
noncomputable def xnk : Code := nav (bodyOf xe) [true, true, true, true, true, true, true, true, true]
noncomputable def x11g : Code := nav (bodyOf xe) [true, true, true, true, true, true, true, true, true, false]
noncomputable def xfr : Code := nav (bodyOf xe) [true, true, true, true, true, true, true, true, true, true]
noncomputable def xfs : Code := nav (bodyOf xe) [true, true, true, true, true, true, true, true, true, true, false]
noncomputable def xnl : Code := nav (bodyOf xe) [true, true, true, true, true, true, true, true, true, true, true]
noncomputable def x11h : Code := nav (bodyOf xe) [true, true, true, true, true, true, true, true, true, true, false, false]
noncomputable def xft : Code := nav (bodyOf xe) [true, true, true, true, true, true, true, true, true, true, false, true]
noncomputable def xfu : Code := nav (bodyOf xe) [true, true, true, true, true, true, true, true, true, true, false, true, false]
noncomputable def xfv : Code := nav (bodyOf xe) [true, true, true, true, true, true, true, true, true, true, false, true, false, false]
theorem x11i (call : FCall) (hs : FHs) (u : Nat) :
  fxK Try.prog pol NN call xnl (AV × Mem) (x38 hs u) x1x eNil x1x = (fun s => x44 call hs u (s.sl 3) (s.sl 7) (s.sl 11) s.m s.fc) := by
  kernel_rfl
theorem x11j (call : FCall) (hs : FHs) (u : Nat) (rec0 : AV → AV → AV → AV → AV → AV → Mem → Nat → Option (AV × Mem)) :
  fxK Try.prog pol NN call xfv (AV × Mem) (x38 hs u) (fun s => rec0 (s.sl 1) (s.sl 2) (s.sl 3) (s.sl 7) (s.sl 11) (s.sl 12) s.m s.fc) (setE 0 (fun s => x44 call hs u (s.sl 3) (s.sl 7) (s.sl 11) s.m s.fc) eNil) x1x = (fun s => x9i call hs u rec0 (s.sl 1) (s.sl 2) (s.sl 3) (s.sl 7) (s.sl 11) (s.sl 12) s.m s.fc) := by
  kernel_rfl
theorem xnm (call : FCall) (hs : FHs) (u : Nat) : ∀ n : Nat,
  iter (fun rec => fxK Try.prog pol NN call xfv (AV × Mem) (x38 hs u) rec (setE 0 (fun s => x44 call hs u (s.sl 3) (s.sl 7) (s.sl 11) s.m s.fc) eNil) x1x) n = (fun s => x45 call hs u n (s.sl 1) (s.sl 2) (s.sl 3) (s.sl 7) (s.sl 11) (s.sl 12) s.m s.fc)
  | 0 => rfl
  | n + 1 => by rw [iter_succ, xnm call hs u n, x11j call hs u (x45 call hs u n)]; kernel_rfl
theorem x11k (call : FCall) (hs : FHs) (u : Nat) :
  fxK Try.prog pol NN call xfu (AV × Mem) (x38 hs u) (fun s => x44 call hs u (s.sl 3) (s.sl 7) (s.sl 11) s.m s.fc) (setE 0 (fun s => x44 call hs u (s.sl 3) (s.sl 7) (s.sl 11) s.m s.fc) eNil) x1x = (fun s => x45 call hs u NN (s.sl 1) (s.sl 2) (s.sl 3) (s.sl 7) (s.sl 11) (s.sl 12) s.m s.fc) := by
  rw [show xfu = .loop xfv from by kernel_rfl, loop_r, xnm call hs u NN]
theorem x11l (call : FCall) (hs : FHs) (u : Nat) :
  fxK Try.prog pol NN call xft (AV × Mem) (x38 hs u) (fun s => x44 call hs u (s.sl 3) (s.sl 7) (s.sl 11) s.m s.fc) eNil x1x = (fun s => x45 call hs u NN (s.sl 1) (s.sl 2) (s.sl 3) (s.sl 7) (s.sl 11) (s.sl 12) s.m s.fc) := by
  rw [show xft = .block 0 xfu from by kernel_rfl, block_r, x11k call hs u]
theorem x11m (call : FCall) (hs : FHs) (u : Nat) :
  fxK Try.prog pol NN call xfs (AV × Mem) (x38 hs u) (fun s => x44 call hs u (s.sl 3) (s.sl 7) (s.sl 11) s.m s.fc) eNil x1x = (fun s => x9j call hs u (s.sl 1) (s.sl 2) (s.sl 3) (s.sl 7) (s.sl 11) s.m s.fc) := by
  rw [show xfs = .seq x11h xft from by kernel_rfl, seq_r]; rw [x11l call hs u]; kernel_rfl
theorem x11n (call : FCall) (hs : FHs) (u : Nat) :
  fxK Try.prog pol NN call xfr (AV × Mem) (x38 hs u) x1x eNil x1x = (fun s => x9j call hs u (s.sl 1) (s.sl 2) (s.sl 3) (s.sl 7) (s.sl 11) s.m s.fc) := by
  rw [show xfr = .seq xfs xnl from by kernel_rfl, seq_r, x11i call hs u, x11m call hs u]
theorem x11o (call : FCall) (hs : FHs) (u : Nat) :
  fxK Try.prog pol NN call xfq (AV × Mem) (x38 hs u) x1x eNil x1x = (fun s => x7d call hs u (s.sl 1) (s.sl 2) (s.sl 3) (s.sl 7) (s.sl 8) (s.sl 9) (s.sl 10) s.m s.fc) := by
  rw [show xfq = .seq x11e xnj from by kernel_rfl, seq_r]; rw [show xnj = .seq x11f xnk from by kernel_rfl, seq_r]; rw [show xnk = .seq x11g xfr from by kernel_rfl, seq_r]; rw [x11n call hs u]; kernel_rfl
theorem x11p (call : FCall) (hs : FHs) (u : Nat) :
  fxK Try.prog pol NN call xni (AV × Mem) (x38 hs u) (fun s => x7d call hs u (s.sl 1) (s.sl 2) (s.sl 3) (s.sl 7) (s.sl 8) (s.sl 9) (s.sl 10) s.m s.fc) eNil x1x = (fun s => x8t call hs u (s.sl 1) (s.sl 2) (s.sl 3) (s.sl 7) (s.sl 8) (s.sl 9) (s.sl 10) s.m s.fc) := by
  kernel_rfl
theorem x11q (call : FCall) (hs : FHs) (u : Nat) :
  fxK Try.prog pol NN call xfp (AV × Mem) (x38 hs u) x1x eNil x1x = (fun s => x8t call hs u (s.sl 1) (s.sl 2) (s.sl 3) (s.sl 7) (s.sl 8) (s.sl 9) (s.sl 10) s.m s.fc) := by
  rw [show xfp = .seq xni xfq from by kernel_rfl, seq_r, x11o call hs u, x11p call hs u]
theorem x11r (call : FCall) (hs : FHs) (u : Nat) :
  fxK Try.prog pol NN call xfo (AV × Mem) (x38 hs u) x1x eNil x1x = (fun s => xbt call hs u (s.sl 0) (s.sl 1) (s.sl 2) s.m s.fc) := by
  rw [show xfo = .seq x118 xnd from by kernel_rfl, seq_r]; rw [show xnd = .seq x119 xne from by kernel_rfl, seq_r]; rw [show xne = .seq x11a xnf from by kernel_rfl, seq_r]; rw [show xnf = .seq x11b xng from by kernel_rfl, seq_r]; rw [show xng = .seq x11c xnh from by kernel_rfl, seq_r]; rw [show xnh = .seq x11d xfp from by kernel_rfl, seq_r]; rw [x11q call hs u]; kernel_rfl
theorem x11s (call : FCall) (hs : FHs) (t0 t1 t2 : AV) (m : Mem) : fxBody Try.prog pol NN call hs xe [t0, t1, t2] m = x6l call hs [t0, t1, t2] m := by
  rw [fxBody_at (fn := Try.f6) (body := xfo) (nt := 95) (rs := [.tmp 6]) (by kernel_rfl) (by kernel_rfl) (by kernel_rfl) (by kernel_rfl) (by kernel_rfl) (by kernel_rfl)]
  exact (congrFun (x11r call hs m.next) _).trans (by kernel_rfl)
theorem xtx (call : FCall) (hs : FHs) (args : List AV) (m : Mem) (r : AV × Mem) (h : x6l call hs args m = some r) : fxBody Try.prog pol NN call hs xe args m = some r := by
  unfold x6l at h
  split at h
  · rw [x11s]; exact h
  · cases h

abbrev x11t (hs : FHs) (u : Nat) : FCtx := { f := x5t, u := u, nt := 124, hs := hs }
noncomputable abbrev xnn : Fs → Option (AV × Mem) := fxRes Try.prog [.tmp 6]
noncomputable def xno : Code := nav (bodyOf x5t) []
theorem x11u (call : FCall) (hs : FHs) (u : Nat) :
  fxK Try.prog pol NN call xno (AV × Mem) (x11t hs u) xnn eNil xnn = (fun s => xbu call hs u (s.sl 0) (s.sl 1) (s.sl 2) s.m s.fc) := by
  kernel_rfl
theorem x11v (call : FCall) (hs : FHs) (t0 t1 t2 : AV) (m : Mem) : fxBody Try.prog pol NN call hs x5t [t0, t1, t2] m = x6m call hs [t0, t1, t2] m := by
  rw [fxBody_at (fn := Try.f7) (body := xno) (nt := 124) (rs := [.tmp 6]) (by kernel_rfl) (by kernel_rfl) (by kernel_rfl) (by kernel_rfl) (by kernel_rfl) (by kernel_rfl)]
  exact (congrFun (x11u call hs m.next) _).trans (by kernel_rfl)
theorem xty (call : FCall) (hs : FHs) (args : List AV) (m : Mem) (r : AV × Mem) (h : x6m call hs args m = some r) : fxBody Try.prog pol NN call hs x5t args m = some r := by
  unfold x6m at h
  split at h
  · rw [x11v]; exact h
  · cases h

abbrev xbh (hs : FHs) (u : Nat) : FCtx := { f := x10, u := u, nt := 45, hs := hs }
noncomputable abbrev x6b : Fs → Option (AV × Mem) := fxRes Try.prog [.tmp 4]
noncomputable def xfw : Code := nav (bodyOf x10) []
noncomputable def x11w : Code := nav (bodyOf x10) [false]
noncomputable def xnp : Code := nav (bodyOf x10) [true]
noncomputable def x11x : Code := nav (bodyOf x10) [true, false]
noncomputable def xnq : Code := nav (bodyOf x10) [true, true]
noncomputable def x11y : Code := nav (bodyOf x10) [true, true, false]
noncomputable def xnr : Code := nav (bodyOf x10) [true, true, true]
noncomputable def x11z : Code := nav (bodyOf x10) [true, true, true, false]
noncomputable def xns : Code := nav (bodyOf x10) [true, true, true, true]
noncomputable def x120 : Code := nav (bodyOf x10) [true, true, true, true, false]
noncomputable def xnt : Code := nav (bodyOf x10) [true, true, true, true, true]
noncomputable def x121 : Code := nav (bodyOf x10) [true, true, true, true, true, false]
noncomputable def xfx : Code := nav (bodyOf x10) [true, true, true, true, true, true]
noncomputable def xnu : Code := nav (bodyOf x10) [true, true, true, true, true, true, false]
noncomputable def xnv : Code := nav (bodyOf x10) [true, true, true, true, true, true, true]
theorem x122 (call : FCall) (hs : FHs) (u : Nat) :
  fxK Try.prog pol NN call xnv (AV × Mem) (xbh hs u) x6b eNil x6b = (fun s => x7e call hs u (s.sl 5) (s.sl 6) (s.sl 7) (s.sl 8) s.m s.fc) := by
  kernel_rfl
theorem x123 (call : FCall) (hs : FHs) (u : Nat) :
  fxK Try.prog pol NN call xnu (AV × Mem) (xbh hs u) (fun s => x7e call hs u (s.sl 5) (s.sl 6) (s.sl 7) (s.sl 8) s.m s.fc) eNil x6b = (fun s => x8u call hs u (s.sl 1) (s.sl 2) (s.sl 5) (s.sl 6) (s.sl 7) (s.sl 8) s.m s.fc) := by
  kernel_rfl
theorem x124 (call : FCall) (hs : FHs) (u : Nat) :
  fxK Try.prog pol NN call xfx (AV × Mem) (xbh hs u) x6b eNil x6b = (fun s => x8u call hs u (s.sl 1) (s.sl 2) (s.sl 5) (s.sl 6) (s.sl 7) (s.sl 8) s.m s.fc) := by
  rw [show xfx = .seq xnu xnv from by kernel_rfl, seq_r, x122 call hs u, x123 call hs u]
theorem x125 (call : FCall) (hs : FHs) (u : Nat) :
  fxK Try.prog pol NN call xfw (AV × Mem) (xbh hs u) x6b eNil x6b = (fun s => xbv call hs u (s.sl 0) (s.sl 1) s.m s.fc) := by
  rw [show xfw = .seq x11w xnp from by kernel_rfl, seq_r]; rw [show xnp = .seq x11x xnq from by kernel_rfl, seq_r]; rw [show xnq = .seq x11y xnr from by kernel_rfl, seq_r]; rw [show xnr = .seq x11z xns from by kernel_rfl, seq_r]; rw [show xns = .seq x120 xnt from by kernel_rfl, seq_r]; rw [show xnt = .seq x121 xfx from by kernel_rfl, seq_r]; rw [x124 call hs u]; kernel_rfl
theorem x126 (call : FCall) (hs : FHs) (t0 t1 : AV) (m : Mem) : fxBody Try.prog pol NN call hs x10 [t0, t1] m = x6n call hs [t0, t1] m := by
  rw [fxBody_at (fn := Try.f9) (body := xfw) (nt := 45) (rs := [.tmp 4]) (by kernel_rfl) (by kernel_rfl) (by kernel_rfl) (by kernel_rfl) (by kernel_rfl) (by kernel_rfl)]
  exact (congrFun (x125 call hs m.next) _).trans (by kernel_rfl)
theorem xtz (call : FCall) (hs : FHs) (args : List AV) (m : Mem) (r : AV × Mem) (h : x6n call hs args m = some r) : fxBody Try.prog pol NN call hs x10 args m = some r := by
  unfold x6n at h
  split at h
  · rw [x126]; exact h
  · cases h

abbrev x127 (hs : FHs) (u : Nat) : FCtx := { f := x5u, u := u, nt := 100, hs := hs }
noncomputable abbrev xnw : Fs → Option (AV × Mem) := fxRes Try.prog [.tmp 6]
noncomputable def xnx : Code := nav (bodyOf x5u) []
theorem x128 (call : FCall) (hs : FHs) (u : Nat) :
  fxK Try.prog pol NN call xnx (AV × Mem) (x127 hs u) xnw eNil xnw = (fun s => xbw call hs u (s.sl 0) (s.sl 1) (s.sl 2) s.m s.fc) := by
  kernel_rfl
theorem x129 (call : FCall) (hs : FHs) (t0 t1 t2 : AV) (m : Mem) : fxBody Try.prog pol NN call hs x5u [t0, t1, t2] m = x6o call hs [t0, t1, t2] m := by
  rw [fxBody_at (fn := Try.f10) (body := xnx) (nt := 100) (rs := [.tmp 6]) (by kernel_rfl) (by kernel_rfl) (by kernel_rfl) (by kernel_rfl) (by kernel_rfl) (by kernel_rfl)]
  exact (congrFun (x128 call hs m.next) _).trans (by kernel_rfl)
theorem xu0 (call : FCall) (hs : FHs) (args : List AV) (m : Mem) (r : AV × Mem) (h : x6o call hs args m = some r) : fxBody Try.prog pol NN call hs x5u args m = some r := by
  unfold x6o at h
  split at h
  · rw [x129]; exact h
  · cases h

abbrev x12a (hs : FHs) (u : Nat) : FCtx := { f := x2g, u := u, nt := 79, hs := hs }
noncomputable abbrev xny : Fs → Option (AV × Mem) := fxRes Try.prog [.tmp 0]
noncomputable def xnz : Code := nav (bodyOf x2g) []
theorem x12b (call : FCall) (hs : FHs) (u : Nat) :
  fxK Try.prog pol NN call xnz (AV × Mem) (x12a hs u) xny eNil xny = (fun s => xk6 call hs u s.m s.fc) := by
  kernel_rfl
theorem x12c (call : FCall) (hs : FHs) (m : Mem) : fxBody Try.prog pol NN call hs x2g [] m = x86 call hs [] m := by
  rw [fxBody_at (fn := Try.f15) (body := xnz) (nt := 79) (rs := [.tmp 0]) (by kernel_rfl) (by kernel_rfl) (by kernel_rfl) (by kernel_rfl) (by kernel_rfl) (by kernel_rfl)]
  exact (congrFun (x12b call hs m.next) _).trans (by kernel_rfl)
theorem xu1 (call : FCall) (hs : FHs) (args : List AV) (m : Mem) (r : AV × Mem) (h : x86 call hs args m = some r) : fxBody Try.prog pol NN call hs x2g args m = some r := by
  unfold x86 at h
  split at h
  · rw [x12c]; exact h
  · cases h

abbrev x5h (hs : FHs) (u : Nat) : FCtx := { f := xy, u := u, nt := 56, hs := hs }
noncomputable abbrev x39 : Fs → Option (AV × Mem) := fxRes Try.prog [.tmp 2]
noncomputable def xfy : Code := nav (bodyOf xy) []
noncomputable def x12d : Code := nav (bodyOf xy) [false]
noncomputable def xo0 : Code := nav (bodyOf xy) [true]
noncomputable def x12e : Code := nav (bodyOf xy) [true, false]
noncomputable def xo1 : Code := nav (bodyOf xy) [true, true]
noncomputable def x12f : Code := nav (bodyOf xy) [true, true, false]
noncomputable def xfz : Code := nav (bodyOf xy) [true, true, true]
noncomputable def xg0 : Code := nav (bodyOf xy) [true, true, true, false]
noncomputable def xo2 : Code := nav (bodyOf xy) [true, true, true, true]
noncomputable def x12g : Code := nav (bodyOf xy) [true, true, true, false, false]
noncomputable def xg1 : Code := nav (bodyOf xy) [true, true, true, false, true]
noncomputable def xg2 : Code := nav (bodyOf xy) [true, true, true, false, true, false]
noncomputable def xg3 : Code := nav (bodyOf xy) [true, true, true, false, true, false, false]
theorem x12h (call : FCall) (hs : FHs) (u : Nat) :
  fxK Try.prog pol NN call xo2 (AV × Mem) (x5h hs u) x39 eNil x39 = (fun s => x46 call hs u s.m s.fc) := by
  kernel_rfl
theorem x12i (call : FCall) (hs : FHs) (u : Nat) (rec0 : AV → AV → Mem → Nat → Option (AV × Mem)) :
  fxK Try.prog pol NN call xg3 (AV × Mem) (x5h hs u) (fun s => rec0 (s.sl 1) (s.sl 3) s.m s.fc) (setE 0 (fun s => x46 call hs u s.m s.fc) eNil) x39 = (fun s => x9l call hs u rec0 (s.sl 1) (s.sl 3) s.m s.fc) := by
  kernel_rfl
theorem xo3 (call : FCall) (hs : FHs) (u : Nat) : ∀ n : Nat,
  iter (fun rec => fxK Try.prog pol NN call xg3 (AV × Mem) (x5h hs u) rec (setE 0 (fun s => x46 call hs u s.m s.fc) eNil) x39) n = (fun s => x47 call hs u n (s.sl 1) (s.sl 3) s.m s.fc)
  | 0 => rfl
  | n + 1 => by rw [iter_succ, xo3 call hs u n, x12i call hs u (x47 call hs u n)]; kernel_rfl
theorem x12j (call : FCall) (hs : FHs) (u : Nat) :
  fxK Try.prog pol NN call xg2 (AV × Mem) (x5h hs u) (fun s => x46 call hs u s.m s.fc) (setE 0 (fun s => x46 call hs u s.m s.fc) eNil) x39 = (fun s => x47 call hs u NN (s.sl 1) (s.sl 3) s.m s.fc) := by
  rw [show xg2 = .loop xg3 from by kernel_rfl, loop_r, xo3 call hs u NN]
theorem x12k (call : FCall) (hs : FHs) (u : Nat) :
  fxK Try.prog pol NN call xg1 (AV × Mem) (x5h hs u) (fun s => x46 call hs u s.m s.fc) eNil x39 = (fun s => x47 call hs u NN (s.sl 1) (s.sl 3) s.m s.fc) := by
  rw [show xg1 = .block 0 xg2 from by kernel_rfl, block_r, x12j call hs u]
theorem x12l (call : FCall) (hs : FHs) (u : Nat) :
  fxK Try.prog pol NN call xg0 (AV × Mem) (x5h hs u) (fun s => x46 call hs u s.m s.fc) eNil x39 = (fun s => x9m call hs u (s.sl 1) s.m s.fc) := by
  rw [show xg0 = .seq x12g xg1 from by kernel_rfl, seq_r]; rw [x12k call hs u]; kernel_rfl
theorem x12m (call : FCall) (hs : FHs) (u : Nat) :
  fxK Try.prog pol NN call xfz (AV × Mem) (x5h hs u) x39 eNil x39 = (fun s => x9m call hs u (s.sl 1) s.m s.fc) := by
  rw [show xfz = .seq xg0 xo2 from by kernel_rfl, seq_r, x12h call hs u, x12l call hs u]
theorem x12n (call : FCall) (hs : FHs) (u : Nat) :
  fxK Try.prog pol NN call xfy (AV × Mem) (x5h hs u) x39 eNil x39 = (fun s => xbx call hs u (s.sl 0) s.m s.fc) := by
  rw [show xfy = .seq x12d xo0 from by kernel_rfl, seq_r]; rw [show xo0 = .seq x12e xo1 from by kernel_rfl, seq_r]; rw [show xo1 = .seq x12f xfz from by kernel_rfl, seq_r]; rw [x12m call hs u]; kernel_rfl
theorem x12o (call : FCall) (hs : FHs) (t0 : AV) (m : Mem) : fxBody Try.prog pol NN call hs xy [t0] m = x6p call hs [t0] m := by
  rw [fxBody_at (fn := Try.f16) (body := xfy) (nt := 56) (rs := [.tmp 2]) (by kernel_rfl) (by kernel_rfl) (by kernel_rfl) (by kernel_rfl) (by kernel_rfl) (by kernel_rfl)]
  exact (congrFun (x12n call hs m.next) _).trans (by kernel_rfl)
theorem xu2 (call : FCall) (hs : FHs) (args : List AV) (m : Mem) (r : AV × Mem) (h : x6p call hs args m = some r) : fxBody Try.prog pol NN call hs xy args m = some r := by
  unfold x6p at h
  split at h
  · rw [x12o]; exact h
  · cases h

abbrev x12p (hs : FHs) (u : Nat) : FCtx := { f := x2s, u := u, nt := 33, hs := hs }
noncomputable abbrev xo4 : Fs → Option (AV × Mem) := fxRes Try.prog [.tmp 2, .tmp 3, .tmp 4, .tmp 5]
noncomputable def xo5 : Code := nav (bodyOf x2s) []
theorem x12q (call : FCall) (hs : FHs) (u : Nat) :
  fxK Try.prog pol NN call xo5 (AV × Mem) (x12p hs u) xo4 eNil xo4 = (fun s => x8v call hs u (s.sl 0) s.m s.fc) := by
  kernel_rfl
theorem x12r (call : FCall) (hs : FHs) (t0 : AV) (m : Mem) : fxBody Try.prog pol NN call hs x2s [t0] m = x6q call hs [t0] m := by
  rw [fxBody_at (fn := Try.f17) (body := xo5) (nt := 33) (rs := [.tmp 2, .tmp 3, .tmp 4, .tmp 5]) (by kernel_rfl) (by kernel_rfl) (by kernel_rfl) (by kernel_rfl) (by kernel_rfl) (by kernel_rfl)]
  exact (congrFun (x12q call hs m.next) _).trans (by kernel_rfl)
theorem xu3 (call : FCall) (hs : FHs) (args : List AV) (m : Mem) (r : AV × Mem) (h : x6q call hs args m = some r) : fxBody Try.prog pol NN call hs x2s args m = some r := by
  unfold x6q at h
  split at h
  · rw [x12r]; exact h
  · cases h

abbrev x12s (hs : FHs) (u : Nat) : FCtx := { f := x1f, u := u, nt := 10, hs := hs }
noncomputable abbrev xo6 : Fs → Option (AV × Mem) := fxRes Try.prog [.cell 2 x6a]
noncomputable def xo7 : Code := nav (bodyOf x1f) []
theorem x12t (call : FCall) (hs : FHs) (u : Nat) :
  fxK Try.prog pol NN call xo7 (AV × Mem) (x12s hs u) xo6 eNil xo6 = (fun s => x9n call hs u (s.sl 0) s.m s.fc) := by
  kernel_rfl
theorem x12u (call : FCall) (hs : FHs) (t0 : AV) (m : Mem) : fxBody Try.prog pol NN call hs x1f [t0] m = x5v call hs [t0] m := by
  rw [fxBody_at (fn := Try.f18) (body := xo7) (nt := 10) (rs := [.cell 2 x6a]) (by kernel_rfl) (by kernel_rfl) (by kernel_rfl) (by kernel_rfl) (by kernel_rfl) (by kernel_rfl)]
  exact (congrFun (x12t call hs m.next) _).trans (by kernel_rfl)
theorem xu4 (call : FCall) (hs : FHs) (args : List AV) (m : Mem) (r : AV × Mem) (h : x5v call hs args m = some r) : fxBody Try.prog pol NN call hs x1f args m = some r := by
  unfold x5v at h
  split at h
  · rw [x12u]; exact h
  · cases h

abbrev x12v (hs : FHs) (u : Nat) : FCtx := { f := x2h, u := u, nt := 11, hs := hs }
noncomputable abbrev xo8 : Fs → Option (AV × Mem) := fxRes Try.prog [.tmp 2]
noncomputable def xo9 : Code := nav (bodyOf x2h) []
theorem x12w (call : FCall) (hs : FHs) (u : Nat) :
  fxK Try.prog pol NN call xo9 (AV × Mem) (x12v hs u) xo8 eNil xo8 = (fun s => xby call hs u (s.sl 0) s.m s.fc) := by
  kernel_rfl
theorem x12x (call : FCall) (hs : FHs) (t0 : AV) (m : Mem) : fxBody Try.prog pol NN call hs x2h [t0] m = x6r call hs [t0] m := by
  rw [fxBody_at (fn := Try.f19) (body := xo9) (nt := 11) (rs := [.tmp 2]) (by kernel_rfl) (by kernel_rfl) (by kernel_rfl) (by kernel_rfl) (by kernel_rfl) (by kernel_rfl)]
  exact (congrFun (x12w call hs m.next) _).trans (by kernel_rfl)
theorem xu5 (call : FCall) (hs : FHs) (args : List AV) (m : Mem) (r : AV × Mem) (h : x6r call hs args m = some r) : fxBody Try.prog pol NN call hs x2h args m = some r := by
  unfold x6r at h
  split at h
  · rw [x12x]; exact h
  · cases h

abbrev x5i (hs : FHs) (u : Nat) : FCtx := { f := x1g, u := u, nt := 27, hs := hs }
noncomputable abbrev x3a : Fs → Option (AV × Mem) := fxRes Try.prog [.tmp 4, .tmp 5]
noncomputable def xg4 : Code := nav (bodyOf x1g) []
noncomputable def x12y : Code := nav (bodyOf x1g) [false]
noncomputable def xoa : Code := nav (bodyOf x1g) [true]
noncomputable def x12z : Code := nav (bodyOf x1g) [true, false]
noncomputable def xg5 : Code := nav (bodyOf x1g) [true, true]
noncomputable def xg6 : Code := nav (bodyOf x1g) [true, true, false]
noncomputable def xob : Code := nav (bodyOf x1g) [true, true, true]
noncomputable def x130 : Code := nav (bodyOf x1g) [true, true, false, false]
noncomputable def xg7 : Code := nav (bodyOf x1g) [true, true, false, true]
noncomputable def xg8 : Code := nav (bodyOf x1g) [true, true, false, true, false]
noncomputable def xg9 : Code := nav (bodyOf x1g) [true, true, false, true, false, false]
theorem x131 (call : FCall) (hs : FHs) (u : Nat) :
  fxK Try.prog pol NN call xob (AV × Mem) (x5i hs u) x3a eNil x3a = (fun s => x48 call hs u (s.sl 1) (s.sl 2) s.m s.fc) := by
  kernel_rfl
theorem x132 (call : FCall) (hs : FHs) (u : Nat) (rec0 : AV → AV → AV → Mem → Nat → Option (AV × Mem)) :
  fxK Try.prog pol NN call xg9 (AV × Mem) (x5i hs u) (fun s => rec0 (s.sl 1) (s.sl 2) (s.sl 6) s.m s.fc) (setE 0 (fun s => x48 call hs u (s.sl 1) (s.sl 2) s.m s.fc) eNil) x3a = (fun s => x9o call hs u rec0 (s.sl 1) (s.sl 2) (s.sl 6) s.m s.fc) := by
  kernel_rfl
theorem xoc (call : FCall) (hs : FHs) (u : Nat) : ∀ n : Nat,
  iter (fun rec => fxK Try.prog pol NN call xg9 (AV × Mem) (x5i hs u) rec (setE 0 (fun s => x48 call hs u (s.sl 1) (s.sl 2) s.m s.fc) eNil) x3a) n = (fun s => x49 call hs u n (s.sl 1) (s.sl 2) (s.sl 6) s.m s.fc)
  | 0 => rfl
  | n + 1 => by rw [iter_succ, xoc call hs u n, x132 call hs u (x49 call hs u n)]; kernel_rfl
theorem x133 (call : FCall) (hs : FHs) (u : Nat) :
  fxK Try.prog pol NN call xg8 (AV × Mem) (x5i hs u) (fun s => x48 call hs u (s.sl 1) (s.sl 2) s.m s.fc) (setE 0 (fun s => x48 call hs u (s.sl 1) (s.sl 2) s.m s.fc) eNil) x3a = (fun s => x49 call hs u NN (s.sl 1) (s.sl 2) (s.sl 6) s.m s.fc) := by
  rw [show xg8 = .loop xg9 from by kernel_rfl, loop_r, xoc call hs u NN]
theorem x134 (call : FCall) (hs : FHs) (u : Nat) :
  fxK Try.prog pol NN call xg7 (AV × Mem) (x5i hs u) (fun s => x48 call hs u (s.sl 1) (s.sl 2) s.m s.fc) eNil x3a = (fun s => x49 call hs u NN (s.sl 1) (s.sl 2) (s.sl 6) s.m s.fc) := by
  rw [show xg7 = .block 0 xg8 from by kernel_rfl, block_r, x133 call hs u]
theorem x135 (call : FCall) (hs : FHs) (u : Nat) :
  fxK Try.prog pol NN call xg6 (AV × Mem) (x5i hs u) (fun s => x48 call hs u (s.sl 1) (s.sl 2) s.m s.fc) eNil x3a = (fun s => x9p call hs u (s.sl 1) (s.sl 2) s.m s.fc) := by
  rw [show xg6 = .seq x130 xg7 from by kernel_rfl, seq_r]; rw [x134 call hs u]; kernel_rfl
theorem x136 (call : FCall) (hs : FHs) (u : Nat) :
  fxK Try.prog pol NN call xg5 (AV × Mem) (x5i hs u) x3a eNil x3a = (fun s => x9p call hs u (s.sl 1) (s.sl 2) s.m s.fc) := by
  rw [show xg5 = .seq xg6 xob from by kernel_rfl, seq_r, x131 call hs u, x135 call hs u]
theorem x137 (call : FCall) (hs : FHs) (u : Nat) :
  fxK Try.prog pol NN call xg4 (AV × Mem) (x5i hs u) x3a eNil x3a = (fun s => xbz call hs u (s.sl 0) (s.sl 1) s.m s.fc) := by
  rw [show xg4 = .seq x12y xoa from by kernel_rfl, seq_r]; rw [show xoa = .seq x12z xg5 from by kernel_rfl, seq_r]; rw [x136 call hs u]; kernel_rfl
theorem x138 (call : FCall) (hs : FHs) (t0 t1 : AV) (m : Mem) : fxBody Try.prog pol NN call hs x1g [t0, t1] m = x6s call hs [t0, t1] m := by
  rw [fxBody_at (fn := Try.f20) (body := xg4) (nt := 27) (rs := [.tmp 4, .tmp 5]) (by kernel_rfl) (by kernel_rfl) (by kernel_rfl) (by kernel_rfl) (by kernel_rfl) (by kernel_rfl)]
  exact (congrFun (x137 call hs m.next) _).trans (by kernel_rfl)
theorem xu6 (call : FCall) (hs : FHs) (args : List AV) (m : Mem) (r : AV × Mem) (h : x6s call hs args m = some r) : fxBody Try.prog pol NN call hs x1g args m = some r := by
  unfold x6s at h
  split at h
  · rw [x138]; exact h
  · cases h

abbrev x23 (hs : FHs) (u : Nat) : FCtx := { f := xl, u := u, nt := 91, hs := hs }
noncomputable abbrev x1k : Fs → Option (AV × Mem) := fxRes Try.prog [.tmp 4, .tmp 5]
noncomputable def xga : Code := nav (bodyOf xl) []
noncomputable def x139 : Code := nav (bodyOf xl) [false]
noncomputable def xod : Code := nav (bodyOf xl) [true]
noncomputable def x13a : Code := nav (bodyOf xl) [true, false]
noncomputable def xoe : Code := nav (bodyOf xl) [true, true]
noncomputable def x13b : Code := nav (bodyOf xl) [true, true, false]
noncomputable def xof : Code := nav (bodyOf xl) [true, true, true]
noncomputable def x13c : Code := nav (bodyOf xl) [true, true, true, false]
noncomputable def xgb : Code := nav (bodyOf xl) [true, true, true, true]
noncomputable def xgc : Code := nav (bodyOf xl) [true, true, true, true, false]
noncomputable def xgd : Code := nav (bodyOf xl) [true, true, true, true, true]
noncomputable def xge : Code := nav (bodyOf xl) [true, true, true, true, true, false]
noncomputable def xog : Code := nav (bodyOf xl) [true, true, true, true, true, true]
noncomputable def x13d : Code := nav (bodyOf xl) [true, true, true, true, true, false, false]
noncomputable def xgf : Code := nav (bodyOf xl) [true, true, true, true, true, false, true]
noncomputable def xgg : Code := nav (bodyOf xl) [true, true, true, true, true, false, true, false]
noncomputable def xgh : Code := nav (bodyOf xl) [true, true, true, true, true, false, true, false, false]
noncomputable def x13e : Code := nav (bodyOf xl) [true, true, true, true, false, false]
noncomputable def xgi : Code := nav (bodyOf xl) [true, true, true, true, false, true]
noncomputable def xgj : Code := nav (bodyOf xl) [true, true, true, true, false, true, false]
noncomputable def xgk : Code := nav (bodyOf xl) [true, true, true, true, false, true, false, false]
theorem x13f (call : FCall) (hs : FHs) (u : Nat) :
  fxK Try.prog pol NN call xog (AV × Mem) (x23 hs u) x1k eNil x1k = (fun s => x4a call hs u (s.sl 7) s.m s.fc) := by
  kernel_rfl
theorem x13g (call : FCall) (hs : FHs) (u : Nat) (rec0 : AV → AV → AV → AV → Mem → Nat → Option (AV × Mem)) :
  fxK Try.prog pol NN call xgh (AV × Mem) (x23 hs u) (fun s => rec0 (s.sl 2) (s.sl 6) (s.sl 7) (s.sl 10) s.m s.fc) (setE 2 (fun s => x4a call hs u (s.sl 7) s.m s.fc) eNil) x1k = (fun s => x9q call hs u rec0 (s.sl 2) (s.sl 6) (s.sl 7) (s.sl 10) s.m s.fc) := by
  kernel_rfl
theorem xoh (call : FCall) (hs : FHs) (u : Nat) : ∀ n : Nat,
  iter (fun rec => fxK Try.prog pol NN call xgh (AV × Mem) (x23 hs u) rec (setE 2 (fun s => x4a call hs u (s.sl 7) s.m s.fc) eNil) x1k) n = (fun s => x4b call hs u n (s.sl 2) (s.sl 6) (s.sl 7) (s.sl 10) s.m s.fc)
  | 0 => rfl
  | n + 1 => by rw [iter_succ, xoh call hs u n, x13g call hs u (x4b call hs u n)]; kernel_rfl
theorem x13h (call : FCall) (hs : FHs) (u : Nat) :
  fxK Try.prog pol NN call xgg (AV × Mem) (x23 hs u) (fun s => x4a call hs u (s.sl 7) s.m s.fc) (setE 2 (fun s => x4a call hs u (s.sl 7) s.m s.fc) eNil) x1k = (fun s => x4b call hs u NN (s.sl 2) (s.sl 6) (s.sl 7) (s.sl 10) s.m s.fc) := by
  rw [show xgg = .loop xgh from by kernel_rfl, loop_r, xoh call hs u NN]
theorem x13i (call : FCall) (hs : FHs) (u : Nat) :
  fxK Try.prog pol NN call xgf (AV × Mem) (x23 hs u) (fun s => x4a call hs u (s.sl 7) s.m s.fc) eNil x1k = (fun s => x4b call hs u NN (s.sl 2) (s.sl 6) (s.sl 7) (s.sl 10) s.m s.fc) := by
  rw [show xgf = .block 2 xgg from by kernel_rfl, block_r, x13h call hs u]
theorem x13j (call : FCall) (hs : FHs) (u : Nat) :
  fxK Try.prog pol NN call xge (AV × Mem) (x23 hs u) (fun s => x4a call hs u (s.sl 7) s.m s.fc) eNil x1k = (fun s => x3r call hs u (s.sl 2) (s.sl 6) (s.sl 7) s.m s.fc) := by
  rw [show xge = .seq x13d xgf from by kernel_rfl, seq_r]; rw [x13i call hs u]; kernel_rfl
theorem x13k (call : FCall) (hs : FHs) (u : Nat) :
  fxK Try.prog pol NN call xgd (AV × Mem) (x23 hs u) x1k eNil x1k = (fun s => x3r call hs u (s.sl 2) (s.sl 6) (s.sl 7) s.m s.fc) := by
  rw [show xgd = .seq xge xog from by kernel_rfl, seq_r, x13f call hs u, x13j call hs u]
theorem x13l (call : FCall) (hs : FHs) (u : Nat) (rec1 : AV → AV → AV → AV → AV → Mem → Nat → Option (AV × Mem)) :
  fxK Try.prog pol NN call xgk (AV × Mem) (x23 hs u) (fun s => rec1 (s.sl 1) (s.sl 2) (s.sl 6) (s.sl 7) (s.sl 8) s.m s.fc) (setE 0 (fun s => x3r call hs u (s.sl 2) (s.sl 6) (s.sl 7) s.m s.fc) eNil) x1k = (fun s => x9r call hs u rec1 (s.sl 1) (s.sl 2) (s.sl 6) (s.sl 7) (s.sl 8) s.m s.fc) := by
  kernel_rfl
theorem xoi (call : FCall) (hs : FHs) (u : Nat) : ∀ n : Nat,
  iter (fun rec => fxK Try.prog pol NN call xgk (AV × Mem) (x23 hs u) rec (setE 0 (fun s => x3r call hs u (s.sl 2) (s.sl 6) (s.sl 7) s.m s.fc) eNil) x1k) n = (fun s => x4c call hs u n (s.sl 1) (s.sl 2) (s.sl 6) (s.sl 7) (s.sl 8) s.m s.fc)
  | 0 => rfl
  | n + 1 => by rw [iter_succ, xoi call hs u n, x13l call hs u (x4c call hs u n)]; kernel_rfl
theorem x13m (call : FCall) (hs : FHs) (u : Nat) :
  fxK Try.prog pol NN call xgj (AV × Mem) (x23 hs u) (fun s => x3r call hs u (s.sl 2) (s.sl 6) (s.sl 7) s.m s.fc) (setE 0 (fun s => x3r call hs u (s.sl 2) (s.sl 6) (s.sl 7) s.m s.fc) eNil) x1k = (fun s => x4c call hs u NN (s.sl 1) (s.sl 2) (s.sl 6) (s.sl 7) (s.sl 8) s.m s.fc) := by
  rw [show xgj = .loop xgk from by kernel_rfl, loop_r, xoi call hs u NN]
theorem x13n (call : FCall) (hs : FHs) (u : Nat) :
  fxK Try.prog pol NN call xgi (AV × Mem) (x23 hs u) (fun s => x3r call hs u (s.sl 2) (s.sl 6) (s.sl 7) s.m s.fc) eNil x1k = (fun s => x4c call hs u NN (s.sl 1) (s.sl 2) (s.sl 6) (s.sl 7) (s.sl 8) s.m s.fc) := by
  rw [show xgi = .block 0 xgj from by kernel_rfl, block_r, x13m call hs u]
theorem x13o (call : FCall) (hs : FHs) (u : Nat) :
  fxK Try.prog pol NN call xgc (AV × Mem) (x23 hs u) (fun s => x3r call hs u (s.sl 2) (s.sl 6) (s.sl 7) s.m s.fc) eNil x1k = (fun s => x9s call hs u (s.sl 1) (s.sl 2) (s.sl 6) (s.sl 7) s.m s.fc) := by
  rw [show xgc = .seq x13e xgi from by kernel_rfl, seq_r]; rw [x13n call hs u]; kernel_rfl
theorem x13p (call : FCall) (hs : FHs) (u : Nat) :
  fxK Try.prog pol NN call xgb (AV × Mem) (x23 hs u) x1k eNil x1k = (fun s => x9s call hs u (s.sl 1) (s.sl 2) (s.sl 6) (s.sl 7) s.m s.fc) := by
  rw [show xgb = .seq xgc xgd from by kernel_rfl, seq_r, x13k call hs u, x13o call hs u]
theorem x13q (call : FCall) (hs : FHs) (u : Nat) :
  fxK Try.prog pol NN call xga (AV × Mem) (x23 hs u) x1k eNil x1k = (fun s => xc0 call hs u (s.sl 0) (s.sl 1) s.m s.fc) := by
  rw [show xga = .seq x139 xod from by kernel_rfl, seq_r]; rw [show xod = .seq x13a xoe from by kernel_rfl, seq_r]; rw [show xoe = .seq x13b xof from by kernel_rfl, seq_r]; rw [show xof = .seq x13c xgb from by kernel_rfl, seq_r]; rw [x13p call hs u]; kernel_rfl
theorem x13r (call : FCall) (hs : FHs) (t0 t1 : AV) (m : Mem) : fxBody Try.prog pol NN call hs xl [t0, t1] m = x6t call hs [t0, t1] m := by
  rw [fxBody_at (fn := Try.f21) (body := xga) (nt := 91) (rs := [.tmp 4, .tmp 5]) (by kernel_rfl) (by kernel_rfl) (by kernel_rfl) (by kernel_rfl) (by kernel_rfl) (by kernel_rfl)]
  exact (congrFun (x13q call hs m.next) _).trans (by kernel_rfl)
theorem xu7 (call : FCall) (hs : FHs) (args : List AV) (m : Mem) (r : AV × Mem) (h : x6t call hs args m = some r) : fxBody Try.prog pol NN call hs xl args m = some r := by
  unfold x6t at h
  split at h
  · rw [x13r]; exact h
  · cases h

abbrev x5j (hs : FHs) (u : Nat) : FCtx := { f := xp, u := u, nt := 67, hs := hs }
noncomputable abbrev x3b : Fs → Option (AV × Mem) := fxRes Try.prog [.tmp 2]
noncomputable def xgl : Code := nav (bodyOf xp) []
noncomputable def x13s : Code := nav (bodyOf xp) [false]
noncomputable def xoj : Code := nav (bodyOf xp) [true]
noncomputable def x13t : Code := nav (bodyOf xp) [true, false]
noncomputable def xok : Code := nav (bodyOf xp) [true, true]
noncomputable def x13u : Code := nav (bodyOf xp) [true, true, false]
noncomputable def xol : Code := nav (bodyOf xp) [true, true, true]
noncomputable def x13v : Code := nav (bodyOf xp) [true, true, true, false]
noncomputable def xom : Code := nav (bodyOf xp) [true, true, true, true]
noncomputable def x13w : Code := nav (bodyOf xp) [true, true, true, true, false]
noncomputable def xon : Code := nav (bodyOf xp) [true, true, true, true, true]
noncomputable def x13x : Code := nav (bodyOf xp) [true, true, true, true, true, false]
noncomputable def xgm : Code := nav (bodyOf xp) [true, true, true, true, true, true]
noncomputable def xgn : Code := nav (bodyOf xp) [true, true, true, true, true, true, false]
noncomputable def xoo : Code := nav (bodyOf xp) [true, true, true, true, true, true, true]
noncomputable def x13y : Code := nav (bodyOf xp) [true, true, true, true, true, true, false, false]
noncomputable def xgo : Code := nav (bodyOf xp) [true, true, true, true, true, true, false, true]
noncomputable def xgp : Code := nav (bodyOf xp) [true, true, true, true, true, true, false, true, false]
noncomputable def xgq : Code := nav (bodyOf xp) [true, true, true, true, true, true, false, true, false, false]
theorem x13z (call : FCall) (hs : FHs) (u : Nat) :
  fxK Try.prog pol NN call xoo (AV × Mem) (x5j hs u) x3b eNil x3b = (fun s => x57 call hs u s.m s.fc) := by
  kernel_rfl
theorem x140 (call : FCall) (hs : FHs) (u : Nat) (rec0 : AV → AV → AV → Mem → Nat → Option (AV × Mem)) :
  fxK Try.prog pol NN call xgq (AV × Mem) (x5j hs u) (fun s => rec0 (s.sl 57) (s.sl 58) (s.sl 59) s.m s.fc) (setE 0 (fun s => x57 call hs u s.m s.fc) eNil) x3b = (fun s => xk7 call hs u rec0 (s.sl 57) (s.sl 58) (s.sl 59) s.m s.fc) := by
  kernel_rfl
theorem xop (call : FCall) (hs : FHs) (u : Nat) : ∀ n : Nat,
  iter (fun rec => fxK Try.prog pol NN call xgq (AV × Mem) (x5j hs u) rec (setE 0 (fun s => x57 call hs u s.m s.fc) eNil) x3b) n = (fun s => x7f call hs u n (s.sl 57) (s.sl 58) (s.sl 59) s.m s.fc)
  | 0 => rfl
  | n + 1 => by rw [iter_succ, xop call hs u n, x140 call hs u (x7f call hs u n)]; kernel_rfl
theorem x141 (call : FCall) (hs : FHs) (u : Nat) :
  fxK Try.prog pol NN call xgp (AV × Mem) (x5j hs u) (fun s => x57 call hs u s.m s.fc) (setE 0 (fun s => x57 call hs u s.m s.fc) eNil) x3b = (fun s => x7f call hs u NN (s.sl 57) (s.sl 58) (s.sl 59) s.m s.fc) := by
  rw [show xgp = .loop xgq from by kernel_rfl, loop_r, xop call hs u NN]
theorem x142 (call : FCall) (hs : FHs) (u : Nat) :
  fxK Try.prog pol NN call xgo (AV × Mem) (x5j hs u) (fun s => x57 call hs u s.m s.fc) eNil x3b = (fun s => x7f call hs u NN (s.sl 57) (s.sl 58) (s.sl 59) s.m s.fc) := by
  rw [show xgo = .block 0 xgp from by kernel_rfl, block_r, x141 call hs u]
theorem x143 (call : FCall) (hs : FHs) (u : Nat) :
  fxK Try.prog pol NN call xgn (AV × Mem) (x5j hs u) (fun s => x57 call hs u s.m s.fc) eNil x3b = (fun s => xc1 call hs u (s.sl 1) s.m s.fc) := by
  rw [show xgn = .seq x13y xgo from by kernel_rfl, seq_r]; rw [x142 call hs u]; kernel_rfl
theorem x144 (call : FCall) (hs : FHs) (u : Nat) :
  fxK Try.prog pol NN call xgm (AV × Mem) (x5j hs u) x3b eNil x3b = (fun s => xc1 call hs u (s.sl 1) s.m s.fc) := by
  rw [show xgm = .seq xgn xoo from by kernel_rfl, seq_r, x13z call hs u, x143 call hs u]
theorem x145 (call : FCall) (hs : FHs) (u : Nat) :
  fxK Try.prog pol NN call xgl (AV × Mem) (x5j hs u) x3b eNil x3b = (fun s => xk8 call hs u (s.sl 0) s.m s.fc) := by
  rw [show xgl = .seq x13s xoj from by kernel_rfl, seq_r]; rw [show xoj = .seq x13t xok from by kernel_rfl, seq_r]; rw [show xok = .seq x13u xol from by kernel_rfl, seq_r]; rw [show xol = .seq x13v xom from by kernel_rfl, seq_r]; rw [show xom = .seq x13w xon from by kernel_rfl, seq_r]; rw [show xon = .seq x13x xgm from by kernel_rfl, seq_r]; rw [x144 call hs u]; kernel_rfl
theorem x146 (call : FCall) (hs : FHs) (t0 : AV) (m : Mem) : fxBody Try.prog pol NN call hs xp [t0] m = x87 call hs [t0] m := by
  rw [fxBody_at (fn := Try.f29) (body := xgl) (nt := 67) (rs := [.tmp 2]) (by kernel_rfl) (by kernel_rfl) (by kernel_rfl) (by kernel_rfl) (by kernel_rfl) (by kernel_rfl)]
  exact (congrFun (x145 call hs m.next) _).trans (by kernel_rfl)
theorem xu8 (call : FCall) (hs : FHs) (args : List AV) (m : Mem) (r : AV × Mem) (h : x87 call hs args m = some r) : fxBody Try.prog pol NN call hs xp args m = some r := by
  unfold x87 at h
  split at h
  · rw [x146]; exact h
  · cases h

abbrev x147 (hs : FHs) (u : Nat) : FCtx := { f := x28, u := u, nt := 66, hs := hs }
noncomputable abbrev xoq : Fs → Option (AV × Mem) := fxRes Try.prog [.cell 6 x9k, .tmp 7]
noncomputable def xor : Code := nav (bodyOf x28) []
theorem x148 (call : FCall) (hs : FHs) (u : Nat) :
  fxK Try.prog pol NN call xor (AV × Mem) (x147 hs u) xoq eNil xoq = (fun s => x8w call hs u (s.sl 0) (s.sl 1) (s.sl 2) s.m s.fc) := by
  kernel_rfl
theorem x149 (call : FCall) (hs : FHs) (t0 t1 t2 : AV) (m : Mem) : fxBody Try.prog pol NN call hs x28 [t0, t1, t2] m = x52 call hs [t0, t1, t2] m := by
  rw [fxBody_at (fn := Try.f32) (body := xor) (nt := 66) (rs := [.cell 6 x9k, .tmp 7]) (by kernel_rfl) (by kernel_rfl) (by kernel_rfl) (by kernel_rfl) (by kernel_rfl) (by kernel_rfl)]
  exact (congrFun (x148 call hs m.next) _).trans (by kernel_rfl)
theorem xu9 (call : FCall) (hs : FHs) (args : List AV) (m : Mem) (r : AV × Mem) (h : x52 call hs args m = some r) : fxBody Try.prog pol NN call hs x28 args m = some r := by
  unfold x52 at h
  split at h
  · rw [x149]; exact h
  · cases h

abbrev x5k (hs : FHs) (u : Nat) : FCtx := { f := x1h, u := u, nt := 26, hs := hs }
noncomputable abbrev x3c : Fs → Option (AV × Mem) := fxRes Try.prog [.tmp 4]
noncomputable def xgr : Code := nav (bodyOf x1h) []
noncomputable def x14a : Code := nav (bodyOf x1h) [false]
noncomputable def xos : Code := nav (bodyOf x1h) [true]
noncomputable def x14b : Code := nav (bodyOf x1h) [true, false]
noncomputable def xgs : Code := nav (bodyOf x1h) [true, true]
noncomputable def xgt : Code := nav (bodyOf x1h) [true, true, false]
noncomputable def xot : Code := nav (bodyOf x1h) [true, true, true]
noncomputable def x14c : Code := nav (bodyOf x1h) [true, true, false, false]
noncomputable def xgu : Code := nav (bodyOf x1h) [true, true, false, true]
noncomputable def xgv : Code := nav (bodyOf x1h) [true, true, false, true, false]
noncomputable def xgw : Code := nav (bodyOf x1h) [true, true, false, true, false, false]
theorem x14d (call : FCall) (hs : FHs) (u : Nat) :
  fxK Try.prog pol NN call xot (AV × Mem) (x5k hs u) x3c eNil x3c = (fun s => x58 call hs u s.m s.fc) := by
  kernel_rfl
theorem x14e (call : FCall) (hs : FHs) (u : Nat) (rec0 : AV → AV → AV → Mem → Nat → Option (AV × Mem)) :
  fxK Try.prog pol NN call xgw (AV × Mem) (x5k hs u) (fun s => rec0 (s.sl 0) (s.sl 1) (s.sl 5) s.m s.fc) (setE 0 (fun s => x58 call hs u s.m s.fc) eNil) x3c = (fun s => xk9 call hs u rec0 (s.sl 0) (s.sl 1) (s.sl 5) s.m s.fc) := by
  kernel_rfl
theorem xou (call : FCall) (hs : FHs) (u : Nat) : ∀ n : Nat,
  iter (fun rec => fxK Try.prog pol NN call xgw (AV × Mem) (x5k hs u) rec (setE 0 (fun s => x58 call hs u s.m s.fc) eNil) x3c) n = (fun s => x7g call hs u n (s.sl 0) (s.sl 1) (s.sl 5) s.m s.fc)
  | 0 => rfl
  | n + 1 => by rw [iter_succ, xou call hs u n, x14e call hs u (x7g call hs u n)]; kernel_rfl
theorem x14f (call : FCall) (hs : FHs) (u : Nat) :
  fxK Try.prog pol NN call xgv (AV × Mem) (x5k hs u) (fun s => x58 call hs u s.m s.fc) (setE 0 (fun s => x58 call hs u s.m s.fc) eNil) x3c = (fun s => x7g call hs u NN (s.sl 0) (s.sl 1) (s.sl 5) s.m s.fc) := by
  rw [show xgv = .loop xgw from by kernel_rfl, loop_r, xou call hs u NN]
theorem x14g (call : FCall) (hs : FHs) (u : Nat) :
  fxK Try.prog pol NN call xgu (AV × Mem) (x5k hs u) (fun s => x58 call hs u s.m s.fc) eNil x3c = (fun s => x7g call hs u NN (s.sl 0) (s.sl 1) (s.sl 5) s.m s.fc) := by
  rw [show xgu = .block 0 xgv from by kernel_rfl, block_r, x14f call hs u]
theorem x14h (call : FCall) (hs : FHs) (u : Nat) :
  fxK Try.prog pol NN call xgt (AV × Mem) (x5k hs u) (fun s => x58 call hs u s.m s.fc) eNil x3c = (fun s => xc2 call hs u (s.sl 0) (s.sl 1) s.m s.fc) := by
  rw [show xgt = .seq x14c xgu from by kernel_rfl, seq_r]; rw [x14g call hs u]; kernel_rfl
theorem x14i (call : FCall) (hs : FHs) (u : Nat) :
  fxK Try.prog pol NN call xgs (AV × Mem) (x5k hs u) x3c eNil x3c = (fun s => xc2 call hs u (s.sl 0) (s.sl 1) s.m s.fc) := by
  rw [show xgs = .seq xgt xot from by kernel_rfl, seq_r, x14d call hs u, x14h call hs u]
theorem x14j (call : FCall) (hs : FHs) (u : Nat) :
  fxK Try.prog pol NN call xgr (AV × Mem) (x5k hs u) x3c eNil x3c = (fun s => xka call hs u (s.sl 0) (s.sl 1) s.m s.fc) := by
  rw [show xgr = .seq x14a xos from by kernel_rfl, seq_r]; rw [show xos = .seq x14b xgs from by kernel_rfl, seq_r]; rw [x14i call hs u]; kernel_rfl
theorem x14k (call : FCall) (hs : FHs) (t0 t1 : AV) (m : Mem) : fxBody Try.prog pol NN call hs x1h [t0, t1] m = x88 call hs [t0, t1] m := by
  rw [fxBody_at (fn := Try.f34) (body := xgr) (nt := 26) (rs := [.tmp 4]) (by kernel_rfl) (by kernel_rfl) (by kernel_rfl) (by kernel_rfl) (by kernel_rfl) (by kernel_rfl)]
  exact (congrFun (x14j call hs m.next) _).trans (by kernel_rfl)
theorem xua (call : FCall) (hs : FHs) (args : List AV) (m : Mem) (r : AV × Mem) (h : x88 call hs args m = some r) : fxBody Try.prog pol NN call hs x1h args m = some r := by
  unfold x88 at h
  split at h
  · rw [x14k]; exact h
  · cases h

abbrev x14l (hs : FHs) (u : Nat) : FCtx := { f := x15, u := u, nt := 15, hs := hs }
noncomputable abbrev xov : Fs → Option (AV × Mem) := fxRes Try.prog [.tmp 6]
noncomputable def xow : Code := nav (bodyOf x15) []
theorem x14m (call : FCall) (hs : FHs) (u : Nat) :
  fxK Try.prog pol NN call xow (AV × Mem) (x14l hs u) xov eNil xov = (fun s => xc3 call hs u (s.sl 0) (s.sl 1) (s.sl 2) s.m s.fc) := by
  kernel_rfl
theorem x14n (call : FCall) (hs : FHs) (t0 t1 t2 : AV) (m : Mem) : fxBody Try.prog pol NN call hs x15 [t0, t1, t2] m = x6u call hs [t0, t1, t2] m := by
  rw [fxBody_at (fn := Try.f36) (body := xow) (nt := 15) (rs := [.tmp 6]) (by kernel_rfl) (by kernel_rfl) (by kernel_rfl) (by kernel_rfl) (by kernel_rfl) (by kernel_rfl)]
  exact (congrFun (x14m call hs m.next) _).trans (by kernel_rfl)
theorem xub (call : FCall) (hs : FHs) (args : List AV) (m : Mem) (r : AV × Mem) (h : x6u call hs args m = some r) : fxBody Try.prog pol NN call hs x15 args m = some r := by
  unfold x6u at h
  split at h
  · rw [x14n]; exact h
  · cases h

abbrev x14o (hs : FHs) (u : Nat) : FCtx := { f := x2i, u := u, nt := 29, hs := hs }
noncomputable abbrev xox : Fs → Option (AV × Mem) := fxRes Try.prog [.tmp 4, .tmp 5]
noncomputable def xoy : Code := nav (bodyOf x2i) []
theorem x14p (call : FCall) (hs : FHs) (u : Nat) :
  fxK Try.prog pol NN call xoy (AV × Mem) (x14o hs u) xox eNil xox = (fun s => xc4 call hs u (s.sl 0) (s.sl 1) s.m s.fc) := by
  kernel_rfl
theorem x14q (call : FCall) (hs : FHs) (t0 t1 : AV) (m : Mem) : fxBody Try.prog pol NN call hs x2i [t0, t1] m = x6v call hs [t0, t1] m := by
  rw [fxBody_at (fn := Try.f39) (body := xoy) (nt := 29) (rs := [.tmp 4, .tmp 5]) (by kernel_rfl) (by kernel_rfl) (by kernel_rfl) (by kernel_rfl) (by kernel_rfl) (by kernel_rfl)]
  exact (congrFun (x14p call hs m.next) _).trans (by kernel_rfl)
theorem xuc (call : FCall) (hs : FHs) (args : List AV) (m : Mem) (r : AV × Mem) (h : x6v call hs args m = some r) : fxBody Try.prog pol NN call hs x2i args m = some r := by
  unfold x6v at h
  split at h
  · rw [x14q]; exact h
  · cases h

abbrev x14r (hs : FHs) (u : Nat) : FCtx := { f := x29, u := u, nt := 6, hs := hs }
noncomputable abbrev xoz : Fs → Option (AV × Mem) := fxRes Try.prog [.tmp 2]
noncomputable def xp0 : Code := nav (bodyOf x29) []
theorem x14s (call : FCall) (hs : FHs) (u : Nat) :
  fxK Try.prog pol NN call xp0 (AV × Mem) (x14r hs u) xoz eNil xoz = (fun s => x9t call hs u (s.sl 0) s.m s.fc) := by
  kernel_rfl
theorem x14t (call : FCall) (hs : FHs) (t0 : AV) (m : Mem) : fxBody Try.prog pol NN call hs x29 [t0] m = x5w call hs [t0] m := by
  rw [fxBody_at (fn := Try.f40) (body := xp0) (nt := 6) (rs := [.tmp 2]) (by kernel_rfl) (by kernel_rfl) (by kernel_rfl) (by kernel_rfl) (by kernel_rfl) (by kernel_rfl)]
  exact (congrFun (x14s call hs m.next) _).trans (by kernel_rfl)
theorem xud (call : FCall) (hs : FHs) (args : List AV) (m : Mem) (r : AV × Mem) (h : x5w call hs args m = some r) : fxBody Try.prog pol NN call hs x29 args m = some r := by
  unfold x5w at h
  split at h
  · rw [x14t]; exact h
  · cases h

abbrev x14u (hs : FHs) (u : Nat) : FCtx := { f := x3z, u := u, nt := 10, hs := hs }
noncomputable abbrev xp1 : Fs → Option (AV × Mem) := fxRes Try.prog [.tmp 2]
noncomputable def xp2 : Code := nav (bodyOf x3z) []
theorem x14v (call : FCall) (hs : FHs) (u : Nat) :
  fxK Try.prog pol NN call xp2 (AV × Mem) (x14u hs u) xp1 eNil xp1 = (fun s => xc5 call hs u (s.sl 0) s.m s.fc) := by
  kernel_rfl
theorem x14w (call : FCall) (hs : FHs) (t0 : AV) (m : Mem) : fxBody Try.prog pol NN call hs x3z [t0] m = x6w call hs [t0] m := by
  rw [fxBody_at (fn := Try.f41) (body := xp2) (nt := 10) (rs := [.tmp 2]) (by kernel_rfl) (by kernel_rfl) (by kernel_rfl) (by kernel_rfl) (by kernel_rfl) (by kernel_rfl)]
  exact (congrFun (x14v call hs m.next) _).trans (by kernel_rfl)
theorem xue (call : FCall) (hs : FHs) (args : List AV) (m : Mem) (r : AV × Mem) (h : x6w call hs args m = some r) : fxBody Try.prog pol NN call hs x3z args m = some r := by
  unfold x6w at h
  split at h
  · rw [x14w]; exact h
  · cases h

abbrev x3d (hs : FHs) (u : Nat) : FCtx := { f := xj, u := u, nt := 72, hs := hs }
noncomputable abbrev x24 : Fs → Option (AV × Mem) := fxRes Try.prog [.cell 2 xda, .tmp 3, .tmp 4, .tmp 5]
noncomputable def xgx : Code := nav (bodyOf xj) []
noncomputable def x14x : Code := nav (bodyOf xj) [false]
noncomputable def xp3 : Code := nav (bodyOf xj) [true]
noncomputable def x14y : Code := nav (bodyOf xj) [true, false]
noncomputable def xp4 : Code := nav (bodyOf xj) [true, true]
noncomputable def x14z : Code := nav (bodyOf xj) [true, true, false]
noncomputable def xp5 : Code := nav (bodyOf xj) [true, true, true]
noncomputable def x150 : Code := nav (bodyOf xj) [true, true, true, false]
noncomputable def xp6 : Code := nav (bodyOf xj) [true, true, true, true]
noncomputable def x151 : Code := nav (bodyOf xj) [true, true, true, true, false]
noncomputable def xgy : Code := nav (bodyOf xj) [true, true, true, true, true]
noncomputable def xgz : Code := nav (bodyOf xj) [true, true, true, true, true, false]
noncomputable def xp7 : Code := nav (bodyOf xj) [true, true, true, true, true, true]
noncomputable def x152 : Code := nav (bodyOf xj) [true, true, true, true, true, false, false]
noncomputable def xh0 : Code := nav (bodyOf xj) [true, true, true, true, true, false, true]
noncomputable def xh1 : Code := nav (bodyOf xj) [true, true, true, true, true, false, true, false]
noncomputable def xbi : Code := nav (bodyOf xj) [true, true, true, true, true, false, true, false, false]
noncomputable def x153 : Code := nav (bodyOf xj) [true, true, true, true, true, false, true, false, false, false]
noncomputable def xp8 : Code := nav (bodyOf xj) [true, true, true, true, true, false, true, false, false, true]
noncomputable def x154 : Code := nav (bodyOf xj) [true, true, true, true, true, false, true, false, false, true, false]
noncomputable def xh2 : Code := nav (bodyOf xj) [true, true, true, true, true, false, true, false, false, true, true]
noncomputable def xp9 : Code := nav (bodyOf xj) [true, true, true, true, true, false, true, false, false, true, true, false]
noncomputable def xpa : Code := nav (bodyOf xj) [true, true, true, true, true, false, true, false, false, true, true, true]
theorem x155 (call : FCall) (hs : FHs) (u : Nat) :
  fxK Try.prog pol NN call xp7 (AV × Mem) (x3d hs u) x24 eNil x24 = (fun s => x2w call hs u (s.sl 2) (s.sl 7) (s.sl 8) (s.sl 9) s.m s.fc) := by
  kernel_rfl
theorem x156 (call : FCall) (hs : FHs) (u : Nat) (rec0 : AV → AV → AV → AV → AV → AV → AV → Mem → Nat → Option (AV × Mem)) :
  fxK Try.prog pol NN call xpa (AV × Mem) (x3d hs u) (fun s => rec0 (s.sl 2) (s.sl 7) (s.sl 8) (s.sl 9) (s.sl 37) (s.sl 38) (s.sl 39) s.m s.fc) (setE 0 (fun s => x2w call hs u (s.sl 2) (s.sl 7) (s.sl 8) (s.sl 9) s.m s.fc) eNil) x24 = (fun s => x9u call hs u rec0 (s.sl 2) (s.sl 7) (s.sl 8) (s.sl 9) (s.sl 37) (s.sl 38) (s.sl 39) s.m s.fc) := by
  kernel_rfl
theorem x157 (call : FCall) (hs : FHs) (u : Nat) (rec0 : AV → AV → AV → AV → AV → AV → AV → Mem → Nat → Option (AV × Mem)) :
  fxK Try.prog pol NN call xp9 (AV × Mem) (x3d hs u) (fun s => x9u call hs u rec0 (s.sl 2) (s.sl 7) (s.sl 8) (s.sl 9) (s.sl 37) (s.sl 38) (s.sl 39) s.m s.fc) (setE 0 (fun s => x2w call hs u (s.sl 2) (s.sl 7) (s.sl 8) (s.sl 9) s.m s.fc) eNil) x24 = (fun s => xc6 call hs u rec0 (s.sl 2) (s.sl 7) (s.sl 8) (s.sl 9) (s.sl 37) (s.sl 38) (s.sl 39) s.m s.fc) := by
  kernel_rfl
theorem x158 (call : FCall) (hs : FHs) (u : Nat) (rec0 : AV → AV → AV → AV → AV → AV → AV → Mem → Nat → Option (AV × Mem)) :
  fxK Try.prog pol NN call xh2 (AV × Mem) (x3d hs u) (fun s => rec0 (s.sl 2) (s.sl 7) (s.sl 8) (s.sl 9) (s.sl 37) (s.sl 38) (s.sl 39) s.m s.fc) (setE 0 (fun s => x2w call hs u (s.sl 2) (s.sl 7) (s.sl 8) (s.sl 9) s.m s.fc) eNil) x24 = (fun s => xc6 call hs u rec0 (s.sl 2) (s.sl 7) (s.sl 8) (s.sl 9) (s.sl 37) (s.sl 38) (s.sl 39) s.m s.fc) := by
  rw [show xh2 = .seq xp9 xpa from by kernel_rfl, seq_r, x156 call hs u rec0, x157 call hs u rec0]
theorem x159 (call : FCall) (hs : FHs) (u : Nat) (rec0 : AV → AV → AV → AV → AV → AV → AV → Mem → Nat → Option (AV × Mem)) :
  fxK Try.prog pol NN call xbi (AV × Mem) (x3d hs u) (fun s => rec0 (s.sl 2) (s.sl 7) (s.sl 8) (s.sl 9) (s.sl 37) (s.sl 38) (s.sl 39) s.m s.fc) (setE 0 (fun s => x2w call hs u (s.sl 2) (s.sl 7) (s.sl 8) (s.sl 9) s.m s.fc) eNil) x24 = (fun s => xkb call hs u rec0 (s.sl 2) (s.sl 7) (s.sl 8) (s.sl 9) (s.sl 37) (s.sl 38) (s.sl 39) s.m s.fc) := by
  rw [show xbi = .seq x153 xp8 from by kernel_rfl, seq_r]; rw [show xp8 = .seq x154 xh2 from by kernel_rfl, seq_r]; rw [x158 call hs u rec0]; kernel_rfl
theorem xpb (call : FCall) (hs : FHs) (u : Nat) : ∀ n : Nat,
  iter (fun rec => fxK Try.prog pol NN call xbi (AV × Mem) (x3d hs u) rec (setE 0 (fun s => x2w call hs u (s.sl 2) (s.sl 7) (s.sl 8) (s.sl 9) s.m s.fc) eNil) x24) n = (fun s => x7h call hs u n (s.sl 2) (s.sl 7) (s.sl 8) (s.sl 9) (s.sl 37) (s.sl 38) (s.sl 39) s.m s.fc)
  | 0 => rfl
  | n + 1 => by rw [iter_succ, xpb call hs u n, x159 call hs u (x7h call hs u n)]; kernel_rfl
theorem x15a (call : FCall) (hs : FHs) (u : Nat) :
  fxK Try.prog pol NN call xh1 (AV × Mem) (x3d hs u) (fun s => x2w call hs u (s.sl 2) (s.sl 7) (s.sl 8) (s.sl 9) s.m s.fc) (setE 0 (fun s => x2w call hs u (s.sl 2) (s.sl 7) (s.sl 8) (s.sl 9) s.m s.fc) eNil) x24 = (fun s => x7h call hs u NN (s.sl 2) (s.sl 7) (s.sl 8) (s.sl 9) (s.sl 37) (s.sl 38) (s.sl 39) s.m s.fc) := by
  rw [show xh1 = .loop xbi from by kernel_rfl, loop_r, xpb call hs u NN]
theorem x15b (call : FCall) (hs : FHs) (u : Nat) :
  fxK Try.prog pol NN call xh0 (AV × Mem) (x3d hs u) (fun s => x2w call hs u (s.sl 2) (s.sl 7) (s.sl 8) (s.sl 9) s.m s.fc) eNil x24 = (fun s => x7h call hs u NN (s.sl 2) (s.sl 7) (s.sl 8) (s.sl 9) (s.sl 37) (s.sl 38) (s.sl 39) s.m s.fc) := by
  rw [show xh0 = .block 0 xh1 from by kernel_rfl, block_r, x15a call hs u]
theorem x15c (call : FCall) (hs : FHs) (u : Nat) :
  fxK Try.prog pol NN call xgz (AV × Mem) (x3d hs u) (fun s => x2w call hs u (s.sl 2) (s.sl 7) (s.sl 8) (s.sl 9) s.m s.fc) eNil x24 = (fun s => xc7 call hs u (s.sl 2) (s.sl 7) (s.sl 8) (s.sl 9) s.m s.fc) := by
  rw [show xgz = .seq x152 xh0 from by kernel_rfl, seq_r]; rw [x15b call hs u]; kernel_rfl
theorem x15d (call : FCall) (hs : FHs) (u : Nat) :
  fxK Try.prog pol NN call xgy (AV × Mem) (x3d hs u) x24 eNil x24 = (fun s => xc7 call hs u (s.sl 2) (s.sl 7) (s.sl 8) (s.sl 9) s.m s.fc) := by
  rw [show xgy = .seq xgz xp7 from by kernel_rfl, seq_r, x155 call hs u, x15c call hs u]
theorem x15e (call : FCall) (hs : FHs) (u : Nat) :
  fxK Try.prog pol NN call xgx (AV × Mem) (x3d hs u) x24 eNil x24 = (fun s => xkc call hs u (s.sl 0) s.m s.fc) := by
  rw [show xgx = .seq x14x xp3 from by kernel_rfl, seq_r]; rw [show xp3 = .seq x14y xp4 from by kernel_rfl, seq_r]; rw [show xp4 = .seq x14z xp5 from by kernel_rfl, seq_r]; rw [show xp5 = .seq x150 xp6 from by kernel_rfl, seq_r]; rw [show xp6 = .seq x151 xgy from by kernel_rfl, seq_r]; rw [x15d call hs u]; kernel_rfl
theorem x15f (call : FCall) (hs : FHs) (t0 : AV) (m : Mem) : fxBody Try.prog pol NN call hs xj [t0] m = x89 call hs [t0] m := by
  rw [fxBody_at (fn := Try.f42) (body := xgx) (nt := 72) (rs := [.cell 2 xda, .tmp 3, .tmp 4, .tmp 5]) (by kernel_rfl) (by kernel_rfl) (by kernel_rfl) (by kernel_rfl) (by kernel_rfl) (by kernel_rfl)]
  exact (congrFun (x15e call hs m.next) _).trans (by kernel_rfl)
theorem xuf (call : FCall) (hs : FHs) (args : List AV) (m : Mem) (r : AV × Mem) (h : x89 call hs args m = some r) : fxBody Try.prog pol NN call hs xj args m = some r := by
  unfold x89 at h
  split at h
  · rw [x15f]; exact h
  · cases h

abbrev x15g (hs : FHs) (u : Nat) : FCtx := { f := x3p, u := u, nt := 21, hs := hs }
noncomputable abbrev xpc : Fs → Option (AV × Mem) := fxRes Try.prog [.tmp 4, .tmp 5]
noncomputable def xpd : Code := nav (bodyOf x3p) []
theorem x15h (call : FCall) (hs : FHs) (u : Nat) :
  fxK Try.prog pol NN call xpd (AV × Mem) (x15g hs u) xpc eNil xpc = (fun s => xc8 call hs u (s.sl 0) (s.sl 1) s.m s.fc) := by
  kernel_rfl
theorem x15i (call : FCall) (hs : FHs) (t0 t1 : AV) (m : Mem) : fxBody Try.prog pol NN call hs x3p [t0, t1] m = x6x call hs [t0, t1] m := by
  rw [fxBody_at (fn := Try.f46) (body := xpd) (nt := 21) (rs := [.tmp 4, .tmp 5]) (by kernel_rfl) (by kernel_rfl) (by kernel_rfl) (by kernel_rfl) (by kernel_rfl) (by kernel_rfl)]
  exact (congrFun (x15h call hs m.next) _).trans (by kernel_rfl)
theorem xug (call : FCall) (hs : FHs) (args : List AV) (m : Mem) (r : AV × Mem) (h : x6x call hs args m = some r) : fxBody Try.prog pol NN call hs x3p args m = some r := by
  unfold x6x at h
  split at h
  · rw [x15i]; exact h
  · cases h

abbrev x5l (hs : FHs) (u : Nat) : FCtx := { f := x1i, u := u, nt := 32, hs := hs }
noncomputable abbrev x3e : Fs → Option (AV × Mem) := fxRes Try.prog [.tmp 4]
noncomputable def xh3 : Code := nav (bodyOf x1i) []
noncomputable def x15j : Code := nav (bodyOf x1i) [false]
noncomputable def xpe : Code := nav (bodyOf x1i) [true]
noncomputable def x15k : Code := nav (bodyOf x1i) [true, false]
noncomputable def xh4 : Code := nav (bodyOf x1i) [true, true]
noncomputable def xh5 : Code := nav (bodyOf x1i) [true, true, false]
noncomputable def xpf : Code := nav (bodyOf x1i) [true, true, true]
noncomputable def x15l : Code := nav (bodyOf x1i) [true, true, false, false]
noncomputable def xh6 : Code := nav (bodyOf x1i) [true, true, false, true]
noncomputable def xh7 : Code := nav (bodyOf x1i) [true, true, false, true, false]
noncomputable def xh8 : Code := nav (bodyOf x1i) [true, true, false, true, false, false]
theorem x15m (call : FCall) (hs : FHs) (u : Nat) :
  fxK Try.prog pol NN call xpf (AV × Mem) (x5l hs u) x3e eNil x3e = (fun s => x4d call hs u (s.sl 5) s.m s.fc) := by
  kernel_rfl
theorem x15n (call : FCall) (hs : FHs) (u : Nat) (rec0 : AV → AV → AV → AV → Mem → Nat → Option (AV × Mem)) :
  fxK Try.prog pol NN call xh8 (AV × Mem) (x5l hs u) (fun s => rec0 (s.sl 1) (s.sl 2) (s.sl 5) (s.sl 6) s.m s.fc) (setE 0 (fun s => x4d call hs u (s.sl 5) s.m s.fc) eNil) x3e = (fun s => x9v call hs u rec0 (s.sl 1) (s.sl 2) (s.sl 5) (s.sl 6) s.m s.fc) := by
  kernel_rfl
theorem xpg (call : FCall) (hs : FHs) (u : Nat) : ∀ n : Nat,
  iter (fun rec => fxK Try.prog pol NN call xh8 (AV × Mem) (x5l hs u) rec (setE 0 (fun s => x4d call hs u (s.sl 5) s.m s.fc) eNil) x3e) n = (fun s => x4e call hs u n (s.sl 1) (s.sl 2) (s.sl 5) (s.sl 6) s.m s.fc)
  | 0 => rfl
  | n + 1 => by rw [iter_succ, xpg call hs u n, x15n call hs u (x4e call hs u n)]; kernel_rfl
theorem x15o (call : FCall) (hs : FHs) (u : Nat) :
  fxK Try.prog pol NN call xh7 (AV × Mem) (x5l hs u) (fun s => x4d call hs u (s.sl 5) s.m s.fc) (setE 0 (fun s => x4d call hs u (s.sl 5) s.m s.fc) eNil) x3e = (fun s => x4e call hs u NN (s.sl 1) (s.sl 2) (s.sl 5) (s.sl 6) s.m s.fc) := by
  rw [show xh7 = .loop xh8 from by kernel_rfl, loop_r, xpg call hs u NN]
theorem x15p (call : FCall) (hs : FHs) (u : Nat) :
  fxK Try.prog pol NN call xh6 (AV × Mem) (x5l hs u) (fun s => x4d call hs u (s.sl 5) s.m s.fc) eNil x3e = (fun s => x4e call hs u NN (s.sl 1) (s.sl 2) (s.sl 5) (s.sl 6) s.m s.fc) := by
  rw [show xh6 = .block 0 xh7 from by kernel_rfl, block_r, x15o call hs u]
theorem x15q (call : FCall) (hs : FHs) (u : Nat) :
  fxK Try.prog pol NN call xh5 (AV × Mem) (x5l hs u) (fun s => x4d call hs u (s.sl 5) s.m s.fc) eNil x3e = (fun s => x9w call hs u (s.sl 1) (s.sl 2) (s.sl 5) s.m s.fc) := by
  rw [show xh5 = .seq x15l xh6 from by kernel_rfl, seq_r]; rw [x15p call hs u]; kernel_rfl
theorem x15r (call : FCall) (hs : FHs) (u : Nat) :
  fxK Try.prog pol NN call xh4 (AV × Mem) (x5l hs u) x3e eNil x3e = (fun s => x9w call hs u (s.sl 1) (s.sl 2) (s.sl 5) s.m s.fc) := by
  rw [show xh4 = .seq xh5 xpf from by kernel_rfl, seq_r, x15m call hs u, x15q call hs u]
theorem x15s (call : FCall) (hs : FHs) (u : Nat) :
  fxK Try.prog pol NN call xh3 (AV × Mem) (x5l hs u) x3e eNil x3e = (fun s => xc9 call hs u (s.sl 0) (s.sl 1) s.m s.fc) := by
  rw [show xh3 = .seq x15j xpe from by kernel_rfl, seq_r]; rw [show xpe = .seq x15k xh4 from by kernel_rfl, seq_r]; rw [x15r call hs u]; kernel_rfl
theorem x15t (call : FCall) (hs : FHs) (t0 t1 : AV) (m : Mem) : fxBody Try.prog pol NN call hs x1i [t0, t1] m = x6y call hs [t0, t1] m := by
  rw [fxBody_at (fn := Try.f55) (body := xh3) (nt := 32) (rs := [.tmp 4]) (by kernel_rfl) (by kernel_rfl) (by kernel_rfl) (by kernel_rfl) (by kernel_rfl) (by kernel_rfl)]
  exact (congrFun (x15s call hs m.next) _).trans (by kernel_rfl)
theorem xuh (call : FCall) (hs : FHs) (args : List AV) (m : Mem) (r : AV × Mem) (h : x6y call hs args m = some r) : fxBody Try.prog pol NN call hs x1i args m = some r := by
  unfold x6y at h
  split at h
  · rw [x15t]; exact h
  · cases h

abbrev x15u (hs : FHs) (u : Nat) : FCtx := { f := x5x, u := u, nt := 20, hs := hs }
noncomputable abbrev xph : Fs → Option (AV × Mem) := fxRes Try.prog [.tmp 2, .tmp 3]
noncomputable def xpi : Code := nav (bodyOf x5x) []
theorem x15v (call : FCall) (hs : FHs) (u : Nat) :
  fxK Try.prog pol NN call xpi (AV × Mem) (x15u hs u) xph eNil xph = (fun s => xkd call hs u (s.sl 0) s.m s.fc) := by
  kernel_rfl
theorem x15w (call : FCall) (hs : FHs) (t0 : AV) (m : Mem) : fxBody Try.prog pol NN call hs x5x [t0] m = x8a call hs [t0] m := by
  rw [fxBody_at (fn := Try.f58) (body := xpi) (nt := 20) (rs := [.tmp 2, .tmp 3]) (by kernel_rfl) (by kernel_rfl) (by kernel_rfl) (by kernel_rfl) (by kernel_rfl) (by kernel_rfl)]
  exact (congrFun (x15v call hs m.next) _).trans (by kernel_rfl)
theorem xui (call : FCall) (hs : FHs) (args : List AV) (m : Mem) (r : AV × Mem) (h : x8a call hs args m = some r) : fxBody Try.prog pol NN call hs x5x args m = some r := by
  unfold x8a at h
  split at h
  · rw [x15w]; exact h
  · cases h

abbrev x15x (hs : FHs) (u : Nat) : FCtx := { f := x53, u := u, nt := 9, hs := hs }
noncomputable abbrev xpj : Fs → Option (AV × Mem) := fxRes Try.prog [.cell 2 x6a]
noncomputable def xpk : Code := nav (bodyOf x53) []
theorem x15y (call : FCall) (hs : FHs) (u : Nat) :
  fxK Try.prog pol NN call xpk (AV × Mem) (x15x hs u) xpj eNil xpj = (fun s => xke call hs u (s.sl 0) s.m s.fc) := by
  kernel_rfl
theorem x15z (call : FCall) (hs : FHs) (t0 : AV) (m : Mem) : fxBody Try.prog pol NN call hs x53 [t0] m = x8b call hs [t0] m := by
  rw [fxBody_at (fn := Try.f60) (body := xpk) (nt := 9) (rs := [.cell 2 x6a]) (by kernel_rfl) (by kernel_rfl) (by kernel_rfl) (by kernel_rfl) (by kernel_rfl) (by kernel_rfl)]
  exact (congrFun (x15y call hs m.next) _).trans (by kernel_rfl)
theorem xuj (call : FCall) (hs : FHs) (args : List AV) (m : Mem) (r : AV × Mem) (h : x8b call hs args m = some r) : fxBody Try.prog pol NN call hs x53 args m = some r := by
  unfold x8b at h
  split at h
  · rw [x15z]; exact h
  · cases h

abbrev xbj (hs : FHs) (u : Nat) : FCtx := { f := x22, u := u, nt := 20, hs := hs }
noncomputable abbrev x6c : Fs → Option (AV × Mem) := fxRes Try.prog [.cell 2 xdb]
noncomputable def xh9 : Code := nav (bodyOf x22) []
noncomputable def x160 : Code := nav (bodyOf x22) [false]
noncomputable def xpl : Code := nav (bodyOf x22) [true]
noncomputable def x161 : Code := nav (bodyOf x22) [true, false]
noncomputable def xha : Code := nav (bodyOf x22) [true, true]
noncomputable def xpm : Code := nav (bodyOf x22) [true, true, false]
noncomputable def xpn : Code := nav (bodyOf x22) [true, true, true]
theorem x162 (call : FCall) (hs : FHs) (u : Nat) :
  fxK Try.prog pol NN call xpn (AV × Mem) (xbj hs u) x6c eNil x6c = (fun s => x9x call hs u (s.sl 2) (s.sl 3) s.m s.fc) := by
  kernel_rfl
theorem x163 (call : FCall) (hs : FHs) (u : Nat) :
  fxK Try.prog pol NN call xpm (AV × Mem) (xbj hs u) (fun s => x9x call hs u (s.sl 2) (s.sl 3) s.m s.fc) eNil x6c = (fun s => xca call hs u (s.sl 0) (s.sl 2) (s.sl 3) s.m s.fc) := by
  kernel_rfl
theorem x164 (call : FCall) (hs : FHs) (u : Nat) :
  fxK Try.prog pol NN call xha (AV × Mem) (xbj hs u) x6c eNil x6c = (fun s => xca call hs u (s.sl 0) (s.sl 2) (s.sl 3) s.m s.fc) := by
  rw [show xha = .seq xpm xpn from by kernel_rfl, seq_r, x162 call hs u, x163 call hs u]
theorem x165 (call : FCall) (hs : FHs) (u : Nat) :
  fxK Try.prog pol NN call xh9 (AV × Mem) (xbj hs u) x6c eNil x6c = (fun s => xkf call hs u (s.sl 0) s.m s.fc) := by
  rw [show xh9 = .seq x160 xpl from by kernel_rfl, seq_r]; rw [show xpl = .seq x161 xha from by kernel_rfl, seq_r]; rw [x164 call hs u]; kernel_rfl
theorem x166 (call : FCall) (hs : FHs) (t0 : AV) (m : Mem) : fxBody Try.prog pol NN call hs x22 [t0] m = x8c call hs [t0] m := by
  rw [fxBody_at (fn := Try.f61) (body := xh9) (nt := 20) (rs := [.cell 2 xdb]) (by kernel_rfl) (by kernel_rfl) (by kernel_rfl) (by kernel_rfl) (by kernel_rfl) (by kernel_rfl)]
  exact (congrFun (x165 call hs m.next) _).trans (by kernel_rfl)
theorem xuk (call : FCall) (hs : FHs) (args : List AV) (m : Mem) (r : AV × Mem) (h : x8c call hs args m = some r) : fxBody Try.prog pol NN call hs x22 args m = some r := by
  unfold x8c at h
  split at h
  · rw [x166]; exact h
  · cases h

abbrev x167 (hs : FHs) (u : Nat) : FCtx := { f := x40, u := u, nt := 7, hs := hs }
noncomputable abbrev xpo : Fs → Option (AV × Mem) := fxRes Try.prog [.tmp 2]
noncomputable def xpp : Code := nav (bodyOf x40) []
theorem x168 (call : FCall) (hs : FHs) (u : Nat) :
  fxK Try.prog pol NN call xpp (AV × Mem) (x167 hs u) xpo eNil xpo = (fun s => xcc call hs u (s.sl 0) s.m s.fc) := by
  kernel_rfl
theorem x169 (call : FCall) (hs : FHs) (t0 : AV) (m : Mem) : fxBody Try.prog pol NN call hs x40 [t0] m = x6z call hs [t0] m := by
  rw [fxBody_at (fn := Try.f62) (body := xpp) (nt := 7) (rs := [.tmp 2]) (by kernel_rfl) (by kernel_rfl) (by kernel_rfl) (by kernel_rfl) (by kernel_rfl) (by kernel_rfl)]
  exact (congrFun (x168 call hs m.next) _).trans (by kernel_rfl)
theorem xul (call : FCall) (hs : FHs) (args : List AV) (m : Mem) (r : AV × Mem) (h : x6z call hs args m = some r) : fxBody Try.prog pol NN call hs x40 args m = some r := by
  unfold x6z at h
  split at h
  · rw [x169]; exact h
  · cases h

abbrev x16a (hs : FHs) (u : Nat) : FCtx := { f := x2t, u := u, nt := 14, hs := hs }
noncomputable abbrev xpq : Fs → Option (AV × Mem) := fxRes Try.prog [.cell 2 xdc, .tmp 3]
noncomputable def xpr : Code := nav (bodyOf x2t) []
theorem x16b (call : FCall) (hs : FHs) (u : Nat) :
  fxK Try.prog pol NN call xpr (AV × Mem) (x16a hs u) xpq eNil xpq = (fun s => xcd call hs u (s.sl 0) s.m s.fc) := by
  kernel_rfl
theorem x16c (call : FCall) (hs : FHs) (t0 : AV) (m : Mem) : fxBody Try.prog pol NN call hs x2t [t0] m = x70 call hs [t0] m := by
  rw [fxBody_at (fn := Try.f63) (body := xpr) (nt := 14) (rs := [.cell 2 xdc, .tmp 3]) (by kernel_rfl) (by kernel_rfl) (by kernel_rfl) (by kernel_rfl) (by kernel_rfl) (by kernel_rfl)]
  exact (congrFun (x16b call hs m.next) _).trans (by kernel_rfl)
theorem xum (call : FCall) (hs : FHs) (args : List AV) (m : Mem) (r : AV × Mem) (h : x70 call hs args m = some r) : fxBody Try.prog pol NN call hs x2t args m = some r := by
  unfold x70 at h
  split at h
  · rw [x16c]; exact h
  · cases h

abbrev x14 (hs : FHs) (u : Nat) : FCtx := { f := x9, u := u, nt := 64, hs := hs }
noncomputable abbrev xq : Fs → Option (AV × Mem) := fxRes Try.prog [.tmp 2]
noncomputable def xhb : Code := nav (bodyOf x9) []
noncomputable def x16d : Code := nav (bodyOf x9) [false]
noncomputable def xps : Code := nav (bodyOf x9) [true]
noncomputable def x16e : Code := nav (bodyOf x9) [true, false]
noncomputable def xhc : Code := nav (bodyOf x9) [true, true]
noncomputable def xhd : Code := nav (bodyOf x9) [true, true, false]
noncomputable def xhe : Code := nav (bodyOf x9) [true, true, true]
noncomputable def x16f : Code := nav (bodyOf x9) [true, true, true, false]
noncomputable def xpt : Code := nav (bodyOf x9) [true, true, true, true]
noncomputable def x16g : Code := nav (bodyOf x9) [true, true, true, true, false]
noncomputable def xhf : Code := nav (bodyOf x9) [true, true, true, true, true]
noncomputable def xhg : Code := nav (bodyOf x9) [true, true, true, true, true, false]
noncomputable def xpu : Code := nav (bodyOf x9) [true, true, true, true, true, true]
noncomputable def x16h : Code := nav (bodyOf x9) [true, true, true, true, true, false, false]
noncomputable def xhh : Code := nav (bodyOf x9) [true, true, true, true, true, false, true]
noncomputable def xhi : Code := nav (bodyOf x9) [true, true, true, true, true, false, true, false]
noncomputable def xbk : Code := nav (bodyOf x9) [true, true, true, true, true, false, true, false, false]
noncomputable def x16i : Code := nav (bodyOf x9) [true, true, true, true, true, false, true, false, false, false]
noncomputable def xpv : Code := nav (bodyOf x9) [true, true, true, true, true, false, true, false, false, true]
noncomputable def x16j : Code := nav (bodyOf x9) [true, true, true, true, true, false, true, false, false, true, false]
noncomputable def xhj : Code := nav (bodyOf x9) [true, true, true, true, true, false, true, false, false, true, true]
noncomputable def xhk : Code := nav (bodyOf x9) [true, true, true, true, true, false, true, false, false, true, true, false]
noncomputable def xpw : Code := nav (bodyOf x9) [true, true, true, true, true, false, true, false, false, true, true, true]
noncomputable def xhl : Code := nav (bodyOf x9) [true, true, true, true, true, false, true, false, false, true, true, false, false]
noncomputable def x16k : Code := nav (bodyOf x9) [true, true, true, true, true, false, true, false, false, true, true, false, false, false]
noncomputable def xhm : Code := nav (bodyOf x9) [true, true, true, true, true, false, true, false, false, true, true, false, false, true]
noncomputable def xpx : Code := nav (bodyOf x9) [true, true, true, true, true, false, true, false, false, true, true, false, false, true, false]
noncomputable def xpy : Code := nav (bodyOf x9) [true, true, true, true, true, false, true, false, false, true, true, false, false, true, true]
noncomputable def xhn : Code := nav (bodyOf x9) [true, true, false, false]
noncomputable def xho : Code := nav (bodyOf x9) [true, true, false, false, false]
theorem x16l (call : FCall) (hs : FHs) (u : Nat) :
  fxK Try.prog pol NN call xpu (AV × Mem) (x14 hs u) xq eNil xq = (fun s => x1q call hs u (s.sl 3) s.m s.fc) := by
  kernel_rfl
theorem x16m (call : FCall) (hs : FHs) (u : Nat) (rec0 : AV → AV → AV → AV → AV → Mem → Nat → Option (AV × Mem)) :
  fxK Try.prog pol NN call xpw (AV × Mem) (x14 hs u) (fun s => rec0 (s.sl 3) (s.sl 6) (s.sl 26) (s.sl 27) (s.sl 28) s.m s.fc) (setE 2 (fun s => x1q call hs u (s.sl 3) s.m s.fc) eNil) xq = (fun s => x2x call hs u rec0 (s.sl 3) (s.sl 6) (s.sl 26) (s.sl 27) (s.sl 28) s.m s.fc) := by
  kernel_rfl
theorem x16n (call : FCall) (hs : FHs) (u : Nat) (rec0 : AV → AV → AV → AV → AV → Mem → Nat → Option (AV × Mem)) :
  fxK Try.prog pol NN call xpy (AV × Mem) (x14 hs u) (fun s => x2x call hs u rec0 (s.sl 3) (s.sl 6) (s.sl 26) (s.sl 27) (s.sl 28) s.m s.fc) (setE 3 (fun s => x2x call hs u rec0 (s.sl 3) (s.sl 6) (s.sl 26) (s.sl 27) (s.sl 28) s.m s.fc) (setE 2 (fun s => x1q call hs u (s.sl 3) s.m s.fc) eNil)) xq = (fun s => x59 call hs u rec0 (s.sl 3) (s.sl 6) (s.sl 7) (s.sl 8) (s.sl 26) (s.sl 27) (s.sl 28) s.m s.fc) := by
  kernel_rfl
theorem x16o (call : FCall) (hs : FHs) (u : Nat) (rec0 : AV → AV → AV → AV → AV → Mem → Nat → Option (AV × Mem)) :
  fxK Try.prog pol NN call xpx (AV × Mem) (x14 hs u) (fun s => x59 call hs u rec0 (s.sl 3) (s.sl 6) (s.sl 7) (s.sl 8) (s.sl 26) (s.sl 27) (s.sl 28) s.m s.fc) (setE 3 (fun s => x2x call hs u rec0 (s.sl 3) (s.sl 6) (s.sl 26) (s.sl 27) (s.sl 28) s.m s.fc) (setE 2 (fun s => x1q call hs u (s.sl 3) s.m s.fc) eNil)) xq = (fun s => x9y call hs u rec0 (s.sl 3) (s.sl 6) (s.sl 7) (s.sl 8) (s.sl 26) (s.sl 27) (s.sl 28) s.m s.fc) := by
  kernel_rfl
theorem x16p (call : FCall) (hs : FHs) (u : Nat) (rec0 : AV → AV → AV → AV → AV → Mem → Nat → Option (AV × Mem)) :
  fxK Try.prog pol NN call xhm (AV × Mem) (x14 hs u) (fun s => x2x call hs u rec0 (s.sl 3) (s.sl 6) (s.sl 26) (s.sl 27) (s.sl 28) s.m s.fc) (setE 3 (fun s => x2x call hs u rec0 (s.sl 3) (s.sl 6) (s.sl 26) (s.sl 27) (s.sl 28) s.m s.fc) (setE 2 (fun s => x1q call hs u (s.sl 3) s.m s.fc) eNil)) xq = (fun s => x9y call hs u rec0 (s.sl 3) (s.sl 6) (s.sl 7) (s.sl 8) (s.sl 26) (s.sl 27) (s.sl 28) s.m s.fc) := by
  rw [show xhm = .seq xpx xpy from by kernel_rfl, seq_r, x16n call hs u rec0, x16o call hs u rec0]
theorem x16q (call : FCall) (hs : FHs) (u : Nat) (rec0 : AV → AV → AV → AV → AV → Mem → Nat → Option (AV × Mem)) :
  fxK Try.prog pol NN call xhl (AV × Mem) (x14 hs u) (fun s => x2x call hs u rec0 (s.sl 3) (s.sl 6) (s.sl 26) (s.sl 27) (s.sl 28) s.m s.fc) (setE 3 (fun s => x2x call hs u rec0 (s.sl 3) (s.sl 6) (s.sl 26) (s.sl 27) (s.sl 28) s.m s.fc) (setE 2 (fun s => x1q call hs u (s.sl 3) s.m s.fc) eNil)) xq = (fun s => x8x call hs u rec0 (s.sl 3) (s.sl 6) (s.sl 26) (s.sl 27) (s.sl 28) s.m s.fc) := by
  rw [show xhl = .seq x16k xhm from by kernel_rfl, seq_r]; rw [x16p call hs u rec0]; kernel_rfl
theorem x16r (call : FCall) (hs : FHs) (u : Nat) (rec0 : AV → AV → AV → AV → AV → Mem → Nat → Option (AV × Mem)) :
  fxK Try.prog pol NN call xhk (AV × Mem) (x14 hs u) (fun s => x2x call hs u rec0 (s.sl 3) (s.sl 6) (s.sl 26) (s.sl 27) (s.sl 28) s.m s.fc) (setE 2 (fun s => x1q call hs u (s.sl 3) s.m s.fc) eNil) xq = (fun s => x8x call hs u rec0 (s.sl 3) (s.sl 6) (s.sl 26) (s.sl 27) (s.sl 28) s.m s.fc) := by
  rw [show xhk = .block 3 xhl from by kernel_rfl, block_r, x16q call hs u rec0]
theorem x16s (call : FCall) (hs : FHs) (u : Nat) (rec0 : AV → AV → AV → AV → AV → Mem → Nat → Option (AV × Mem)) :
  fxK Try.prog pol NN call xhj (AV × Mem) (x14 hs u) (fun s => rec0 (s.sl 3) (s.sl 6) (s.sl 26) (s.sl 27) (s.sl 28) s.m s.fc) (setE 2 (fun s => x1q call hs u (s.sl 3) s.m s.fc) eNil) xq = (fun s => x8x call hs u rec0 (s.sl 3) (s.sl 6) (s.sl 26) (s.sl 27) (s.sl 28) s.m s.fc) := by
  rw [show xhj = .seq xhk xpw from by kernel_rfl, seq_r, x16m call hs u rec0, x16r call hs u rec0]
theorem x16t (call : FCall) (hs : FHs) (u : Nat) (rec0 : AV → AV → AV → AV → AV → Mem → Nat → Option (AV × Mem)) :
  fxK Try.prog pol NN call xbk (AV × Mem) (x14 hs u) (fun s => rec0 (s.sl 3) (s.sl 6) (s.sl 26) (s.sl 27) (s.sl 28) s.m s.fc) (setE 2 (fun s => x1q call hs u (s.sl 3) s.m s.fc) eNil) xq = (fun s => x9z call hs u rec0 (s.sl 3) (s.sl 6) (s.sl 26) (s.sl 27) (s.sl 28) s.m s.fc) := by
  rw [show xbk = .seq x16i xpv from by kernel_rfl, seq_r]; rw [show xpv = .seq x16j xhj from by kernel_rfl, seq_r]; rw [x16s call hs u rec0]; kernel_rfl
theorem xpz (call : FCall) (hs : FHs) (u : Nat) : ∀ n : Nat,
  iter (fun rec => fxK Try.prog pol NN call xbk (AV × Mem) (x14 hs u) rec (setE 2 (fun s => x1q call hs u (s.sl 3) s.m s.fc) eNil) xq) n = (fun s => x2a call hs u n (s.sl 3) (s.sl 6) (s.sl 26) (s.sl 27) (s.sl 28) s.m s.fc)
  | 0 => rfl
  | n + 1 => by rw [iter_succ, xpz call hs u n, x16t call hs u (x2a call hs u n)]; kernel_rfl
theorem x16u (call : FCall) (hs : FHs) (u : Nat) :
  fxK Try.prog pol NN call xhi (AV × Mem) (x14 hs u) (fun s => x1q call hs u (s.sl 3) s.m s.fc) (setE 2 (fun s => x1q call hs u (s.sl 3) s.m s.fc) eNil) xq = (fun s => x2a call hs u NN (s.sl 3) (s.sl 6) (s.sl 26) (s.sl 27) (s.sl 28) s.m s.fc) := by
  rw [show xhi = .loop xbk from by kernel_rfl, loop_r, xpz call hs u NN]
theorem x16v (call : FCall) (hs : FHs) (u : Nat) :
  fxK Try.prog pol NN call xhh (AV × Mem) (x14 hs u) (fun s => x1q call hs u (s.sl 3) s.m s.fc) eNil xq = (fun s => x2a call hs u NN (s.sl 3) (s.sl 6) (s.sl 26) (s.sl 27) (s.sl 28) s.m s.fc) := by
  rw [show xhh = .block 2 xhi from by kernel_rfl, block_r, x16u call hs u]
theorem x16w (call : FCall) (hs : FHs) (u : Nat) :
  fxK Try.prog pol NN call xhg (AV × Mem) (x14 hs u) (fun s => x1q call hs u (s.sl 3) s.m s.fc) eNil xq = (fun s => xa0 call hs u (s.sl 3) (s.sl 5) (s.sl 6) s.m s.fc) := by
  rw [show xhg = .seq x16h xhh from by kernel_rfl, seq_r]; rw [x16v call hs u]; kernel_rfl
theorem x16x (call : FCall) (hs : FHs) (u : Nat) :
  fxK Try.prog pol NN call xhf (AV × Mem) (x14 hs u) xq eNil xq = (fun s => xa0 call hs u (s.sl 3) (s.sl 5) (s.sl 6) s.m s.fc) := by
  rw [show xhf = .seq xhg xpu from by kernel_rfl, seq_r, x16l call hs u, x16w call hs u]
theorem x16y (call : FCall) (hs : FHs) (u : Nat) :
  fxK Try.prog pol NN call xhe (AV × Mem) (x14 hs u) xq eNil xq = (fun s => x3s call hs u (s.sl 1) (s.sl 3) s.m s.fc) := by
  rw [show xhe = .seq x16f xpt from by kernel_rfl, seq_r]; rw [show xpt = .seq x16g xhf from by kernel_rfl, seq_r]; rw [x16x call hs u]; kernel_rfl
theorem x16z (call : FCall) (hs : FHs) (u : Nat) (rec1 : AV → AV → Mem → Nat → Option (AV × Mem)) :
  fxK Try.prog pol NN call xho (AV × Mem) (x14 hs u) (fun s => rec1 (s.sl 1) (s.sl 3) s.m s.fc) (setE 0 (fun s => x3s call hs u (s.sl 1) (s.sl 3) s.m s.fc) eNil) xq = (fun s => xce call hs u rec1 (s.sl 1) (s.sl 3) s.m s.fc) := by
  kernel_rfl
theorem xq0 (call : FCall) (hs : FHs) (u : Nat) : ∀ n : Nat,
  iter (fun rec => fxK Try.prog pol NN call xho (AV × Mem) (x14 hs u) rec (setE 0 (fun s => x3s call hs u (s.sl 1) (s.sl 3) s.m s.fc) eNil) xq) n = (fun s => x2l call hs u n (s.sl 1) (s.sl 3) s.m s.fc)
  | 0 => rfl
  | n + 1 => by rw [iter_succ, xq0 call hs u n, x16z call hs u (x2l call hs u n)]; kernel_rfl
theorem x170 (call : FCall) (hs : FHs) (u : Nat) :
  fxK Try.prog pol NN call xhn (AV × Mem) (x14 hs u) (fun s => x3s call hs u (s.sl 1) (s.sl 3) s.m s.fc) (setE 0 (fun s => x3s call hs u (s.sl 1) (s.sl 3) s.m s.fc) eNil) xq = (fun s => x2l call hs u NN (s.sl 1) (s.sl 3) s.m s.fc) := by
  rw [show xhn = .loop xho from by kernel_rfl, loop_r, xq0 call hs u NN]
theorem x171 (call : FCall) (hs : FHs) (u : Nat) :
  fxK Try.prog pol NN call xhd (AV × Mem) (x14 hs u) (fun s => x3s call hs u (s.sl 1) (s.sl 3) s.m s.fc) eNil xq = (fun s => x2l call hs u NN (s.sl 1) (s.sl 3) s.m s.fc) := by
  rw [show xhd = .block 0 xhn from by kernel_rfl, block_r, x170 call hs u]
theorem x172 (call : FCall) (hs : FHs) (u : Nat) :
  fxK Try.prog pol NN call xhc (AV × Mem) (x14 hs u) xq eNil xq = (fun s => x2l call hs u NN (s.sl 1) (s.sl 3) s.m s.fc) := by
  rw [show xhc = .seq xhd xhe from by kernel_rfl, seq_r, x16y call hs u, x171 call hs u]
theorem x173 (call : FCall) (hs : FHs) (u : Nat) :
  fxK Try.prog pol NN call xhb (AV × Mem) (x14 hs u) xq eNil xq = (fun s => xa1 call hs u (s.sl 0) s.m s.fc) := by
  rw [show xhb = .seq x16d xps from by kernel_rfl, seq_r]; rw [show xps = .seq x16e xhc from by kernel_rfl, seq_r]; rw [x172 call hs u]; kernel_rfl
theorem x174 (call : FCall) (hs : FHs) (t0 : AV) (m : Mem) : fxBody Try.prog pol NN call hs x9 [t0] m = x8d call hs [t0] m := by
  rw [fxBody_at (fn := Try.f64) (body := xhb) (nt := 64) (rs := [.tmp 2]) (by kernel_rfl) (by kernel_rfl) (by kernel_rfl) (by kernel_rfl) (by kernel_rfl) (by kernel_rfl)]
  exact (congrFun (x173 call hs m.next) _).trans (by kernel_rfl)
theorem xun (call : FCall) (hs : FHs) (args : List AV) (m : Mem) (r : AV × Mem) (h : x8d call hs args m = some r) : fxBody Try.prog pol NN call hs x9 args m = some r := by
  unfold x8d at h
  split at h
  · rw [x174]; exact h
  · cases h

abbrev x5m (hs : FHs) (u : Nat) : FCtx := { f := xz, u := u, nt := 27, hs := hs }
noncomputable abbrev x3f : Fs → Option (AV × Mem) := fxRes Try.prog [.tmp 4]
noncomputable def xhp : Code := nav (bodyOf xz) []
noncomputable def x175 : Code := nav (bodyOf xz) [false]
noncomputable def xq1 : Code := nav (bodyOf xz) [true]
noncomputable def x176 : Code := nav (bodyOf xz) [true, false]
noncomputable def xhq : Code := nav (bodyOf xz) [true, true]
noncomputable def xhr : Code := nav (bodyOf xz) [true, true, false]
noncomputable def xq2 : Code := nav (bodyOf xz) [true, true, true]
noncomputable def x177 : Code := nav (bodyOf xz) [true, true, false, false]
noncomputable def xhs : Code := nav (bodyOf xz) [true, true, false, true]
noncomputable def xht : Code := nav (bodyOf xz) [true, true, false, true, false]
noncomputable def xhu : Code := nav (bodyOf xz) [true, true, false, true, false, false]
theorem x178 (call : FCall) (hs : FHs) (u : Nat) :
  fxK Try.prog pol NN call xq2 (AV × Mem) (x5m hs u) x3f eNil x3f = (fun s => x4f call hs u (s.sl 5) s.m s.fc) := by
  kernel_rfl
theorem x179 (call : FCall) (hs : FHs) (u : Nat) (rec0 : AV → AV → AV → AV → AV → Mem → Nat → Option (AV × Mem)) :
  fxK Try.prog pol NN call xhu (AV × Mem) (x5m hs u) (fun s => rec0 (s.sl 1) (s.sl 5) (s.sl 10) (s.sl 11) (s.sl 12) s.m s.fc) (setE 0 (fun s => x4f call hs u (s.sl 5) s.m s.fc) eNil) x3f = (fun s => xa2 call hs u rec0 (s.sl 1) (s.sl 5) (s.sl 10) (s.sl 11) (s.sl 12) s.m s.fc) := by
  kernel_rfl
theorem xq3 (call : FCall) (hs : FHs) (u : Nat) : ∀ n : Nat,
  iter (fun rec => fxK Try.prog pol NN call xhu (AV × Mem) (x5m hs u) rec (setE 0 (fun s => x4f call hs u (s.sl 5) s.m s.fc) eNil) x3f) n = (fun s => x4g call hs u n (s.sl 1) (s.sl 5) (s.sl 10) (s.sl 11) (s.sl 12) s.m s.fc)
  | 0 => rfl
  | n + 1 => by rw [iter_succ, xq3 call hs u n, x179 call hs u (x4g call hs u n)]; kernel_rfl
theorem x17a (call : FCall) (hs : FHs) (u : Nat) :
  fxK Try.prog pol NN call xht (AV × Mem) (x5m hs u) (fun s => x4f call hs u (s.sl 5) s.m s.fc) (setE 0 (fun s => x4f call hs u (s.sl 5) s.m s.fc) eNil) x3f = (fun s => x4g call hs u NN (s.sl 1) (s.sl 5) (s.sl 10) (s.sl 11) (s.sl 12) s.m s.fc) := by
  rw [show xht = .loop xhu from by kernel_rfl, loop_r, xq3 call hs u NN]
theorem x17b (call : FCall) (hs : FHs) (u : Nat) :
  fxK Try.prog pol NN call xhs (AV × Mem) (x5m hs u) (fun s => x4f call hs u (s.sl 5) s.m s.fc) eNil x3f = (fun s => x4g call hs u NN (s.sl 1) (s.sl 5) (s.sl 10) (s.sl 11) (s.sl 12) s.m s.fc) := by
  rw [show xhs = .block 0 xht from by kernel_rfl, block_r, x17a call hs u]
theorem x17c (call : FCall) (hs : FHs) (u : Nat) :
  fxK Try.prog pol NN call xhr (AV × Mem) (x5m hs u) (fun s => x4f call hs u (s.sl 5) s.m s.fc) eNil x3f = (fun s => x8y call hs u (s.sl 1) (s.sl 2) (s.sl 5) s.m s.fc) := by
  rw [show xhr = .seq x177 xhs from by kernel_rfl, seq_r]; rw [x17b call hs u]; kernel_rfl
theorem x17d (call : FCall) (hs : FHs) (u : Nat) :
  fxK Try.prog pol NN call xhq (AV × Mem) (x5m hs u) x3f eNil x3f = (fun s => x8y call hs u (s.sl 1) (s.sl 2) (s.sl 5) s.m s.fc) := by
  rw [show xhq = .seq xhr xq2 from by kernel_rfl, seq_r, x178 call hs u, x17c call hs u]
theorem x17e (call : FCall) (hs : FHs) (u : Nat) :
  fxK Try.prog pol NN call xhp (AV × Mem) (x5m hs u) x3f eNil x3f = (fun s => xa3 call hs u (s.sl 0) (s.sl 1) s.m s.fc) := by
  rw [show xhp = .seq x175 xq1 from by kernel_rfl, seq_r]; rw [show xq1 = .seq x176 xhq from by kernel_rfl, seq_r]; rw [x17d call hs u]; kernel_rfl
theorem x17f (call : FCall) (hs : FHs) (t0 t1 : AV) (m : Mem) : fxBody Try.prog pol NN call hs xz [t0, t1] m = x5y call hs [t0, t1] m := by
  rw [fxBody_at (fn := Try.f65) (body := xhp) (nt := 27) (rs := [.tmp 4]) (by kernel_rfl) (by kernel_rfl) (by kernel_rfl) (by kernel_rfl) (by kernel_rfl) (by kernel_rfl)]
  exact (congrFun (x17e call hs m.next) _).trans (by kernel_rfl)
theorem xuo (call : FCall) (hs : FHs) (args : List AV) (m : Mem) (r : AV × Mem) (h : x5y call hs args m = some r) : fxBody Try.prog pol NN call hs xz args m = some r := by
  unfold x5y at h
  split at h
  · rw [x17f]; exact h
  · cases h

abbrev x5n (hs : FHs) (u : Nat) : FCtx := { f := x11, u := u, nt := 60, hs := hs }
noncomputable abbrev x3g : Fs → Option (AV × Mem) := fxRes Try.prog [.tmp 2, .tmp 3]
noncomputable def xhv : Code := nav (bodyOf x11) []
noncomputable def x17g : Code := nav (bodyOf x11) [false]
noncomputable def xq4 : Code := nav (bodyOf x11) [true]
noncomputable def x17h : Code := nav (bodyOf x11) [true, false]
noncomputable def xq5 : Code := nav (bodyOf x11) [true, true]
noncomputable def x17i : Code := nav (bodyOf x11) [true, true, false]
noncomputable def xhw : Code := nav (bodyOf x11) [true, true, true]
noncomputable def xhx : Code := nav (bodyOf x11) [true, true, true, false]
noncomputable def xq6 : Code := nav (bodyOf x11) [true, true, true, true]
noncomputable def x17j : Code := nav (bodyOf x11) [true, true, true, false, false]
noncomputable def xhy : Code := nav (bodyOf x11) [true, true, true, false, true]
noncomputable def xhz : Code := nav (bodyOf x11) [true, true, true, false, true, false]
noncomputable def xi0 : Code := nav (bodyOf x11) [true, true, true, false, true, false, false]
theorem x17k (call : FCall) (hs : FHs) (u : Nat) :
  fxK Try.prog pol NN call xq6 (AV × Mem) (x5n hs u) x3g eNil x3g = (fun s => x4h call hs u s.m s.fc) := by
  kernel_rfl
theorem x17l (call : FCall) (hs : FHs) (u : Nat) (rec0 : AV → AV → Mem → Nat → Option (AV × Mem)) :
  fxK Try.prog pol NN call xi0 (AV × Mem) (x5n hs u) (fun s => rec0 (s.sl 1) (s.sl 4) s.m s.fc) (setE 0 (fun s => x4h call hs u s.m s.fc) eNil) x3g = (fun s => xa4 call hs u rec0 (s.sl 1) (s.sl 4) s.m s.fc) := by
  kernel_rfl
theorem xq7 (call : FCall) (hs : FHs) (u : Nat) : ∀ n : Nat,
  iter (fun rec => fxK Try.prog pol NN call xi0 (AV × Mem) (x5n hs u) rec (setE 0 (fun s => x4h call hs u s.m s.fc) eNil) x3g) n = (fun s => x4i call hs u n (s.sl 1) (s.sl 4) s.m s.fc)
  | 0 => rfl
  | n + 1 => by rw [iter_succ, xq7 call hs u n, x17l call hs u (x4i call hs u n)]; kernel_rfl
theorem x17m (call : FCall) (hs : FHs) (u : Nat) :
  fxK Try.prog pol NN call xhz (AV × Mem) (x5n hs u) (fun s => x4h call hs u s.m s.fc) (setE 0 (fun s => x4h call hs u s.m s.fc) eNil) x3g = (fun s => x4i call hs u NN (s.sl 1) (s.sl 4) s.m s.fc) := by
  rw [show xhz = .loop xi0 from by kernel_rfl, loop_r, xq7 call hs u NN]
theorem x17n (call : FCall) (hs : FHs) (u : Nat) :
  fxK Try.prog pol NN call xhy (AV × Mem) (x5n hs u) (fun s => x4h call hs u s.m s.fc) eNil x3g = (fun s => x4i call hs u NN (s.sl 1) (s.sl 4) s.m s.fc) := by
  rw [show xhy = .block 0 xhz from by kernel_rfl, block_r, x17m call hs u]
theorem x17o (call : FCall) (hs : FHs) (u : Nat) :
  fxK Try.prog pol NN call xhx (AV × Mem) (x5n hs u) (fun s => x4h call hs u s.m s.fc) eNil x3g = (fun s => xa5 call hs u (s.sl 1) s.m s.fc) := by
  rw [show xhx = .seq x17j xhy from by kernel_rfl, seq_r]; rw [x17n call hs u]; kernel_rfl
theorem x17p (call : FCall) (hs : FHs) (u : Nat) :
  fxK Try.prog pol NN call xhw (AV × Mem) (x5n hs u) x3g eNil x3g = (fun s => xa5 call hs u (s.sl 1) s.m s.fc) := by
  rw [show xhw = .seq xhx xq6 from by kernel_rfl, seq_r, x17k call hs u, x17o call hs u]
theorem x17q (call : FCall) (hs : FHs) (u : Nat) :
  fxK Try.prog pol NN call xhv (AV × Mem) (x5n hs u) x3g eNil x3g = (fun s => xcf call hs u (s.sl 0) s.m s.fc) := by
  rw [show xhv = .seq x17g xq4 from by kernel_rfl, seq_r]; rw [show xq4 = .seq x17h xq5 from by kernel_rfl, seq_r]; rw [show xq5 = .seq x17i xhw from by kernel_rfl, seq_r]; rw [x17p call hs u]; kernel_rfl
theorem x17r (call : FCall) (hs : FHs) (t0 : AV) (m : Mem) : fxBody Try.prog pol NN call hs x11 [t0] m = x71 call hs [t0] m := by
  rw [fxBody_at (fn := Try.f66) (body := xhv) (nt := 60) (rs := [.tmp 2, .tmp 3]) (by kernel_rfl) (by kernel_rfl) (by kernel_rfl) (by kernel_rfl) (by kernel_rfl) (by kernel_rfl)]
  exact (congrFun (x17q call hs m.next) _).trans (by kernel_rfl)
theorem xup (call : FCall) (hs : FHs) (args : List AV) (m : Mem) (r : AV × Mem) (h : x71 call hs args m = some r) : fxBody Try.prog pol NN call hs x11 args m = some r := by
  unfold x71 at h
  split at h
  · rw [x17r]; exact h
  · cases h

abbrev x4w (hs : FHs) (u : Nat) : FCtx := { f := xu, u := u, nt := 71, hs := hs }
noncomputable abbrev x4x : Fs → Option (AV × Mem) := fxRes Try.prog [.cell 2 x6a]
noncomputable def xi1 : Code := nav (bodyOf xu) []
noncomputable def x17s : Code := nav (bodyOf xu) [false]
noncomputable def xq8 : Code := nav (bodyOf xu) [true]
noncomputable def x17t : Code := nav (bodyOf xu) [true, false]
noncomputable def xq9 : Code := nav (bodyOf xu) [true, true]
noncomputable def x17u : Code := nav (bodyOf xu) [true, true, false]
noncomputable def xqa : Code := nav (bodyOf xu) [true, true, true]
noncomputable def x17v : Code := nav (bodyOf xu) [true, true, true, false]
noncomputable def xi2 : Code := nav (bodyOf xu) [true, true, true, true]
noncomputable def xi3 : Code := nav (bodyOf xu) [true, true, true, true, false]
noncomputable def xqb : Code := nav (bodyOf xu) [true, true, true, true, true]
noncomputable def x17w : Code := nav (bodyOf xu) [true, true, true, true, false, false]
noncomputable def xi4 : Code := nav (bodyOf xu) [true, true, true, true, false, true]
noncomputable def xi5 : Code := nav (bodyOf xu) [true, true, true, true, false, true, false]
noncomputable def xi6 : Code := nav (bodyOf xu) [true, true, true, true, false, true, false, false]
noncomputable def xqc : Code := nav (bodyOf xu) [true, true, true, true, false, true, false, true]
theorem x17x (call : FCall) (hs : FHs) (u : Nat) :
  fxK Try.prog pol NN call xqb (AV × Mem) (x4w hs u) x4x eNil x4x = (fun s => x7i call hs u (s.sl 2) (s.sl 4) s.m s.fc) := by
  kernel_rfl
theorem x17y (call : FCall) (hs : FHs) (u : Nat) :
  fxK Try.prog pol NN call xqc Mem (x4w hs u) (fun s => some s.m) eNil fNil = (fun s => xcg call hs u (s.sl 3) (s.sl 4) (s.sl 5) (s.sl 6) (s.sl 7) s.m s.fc) := by
  kernel_rfl
theorem x17z (call : FCall) (hs : FHs) (u : Nat) :
  fxK Try.prog pol NN call xi6 Mem (x4w hs u) (fun s => xcg call hs u (s.sl 3) (s.sl 4) (s.sl 5) (s.sl 6) (s.sl 7) s.m s.fc) eNil fNil = (fun s => xch call hs u (s.sl 3) (s.sl 4) (s.sl 5) (s.sl 27) (s.sl 28) s.m s.fc) := by
  kernel_rfl
theorem x180 (call : FCall) (hs : FHs) (u : Nat) :
  fxK Try.prog pol NN call xi5 (AV × Mem) (x4w hs u) (fun s => x7i call hs u (s.sl 2) (s.sl 4) s.m s.fc) (setE 0 (fun s => x7i call hs u (s.sl 2) (s.sl 4) s.m s.fc) eNil) x4x = (fun s => xci call hs u (s.sl 2) (s.sl 3) (s.sl 4) (s.sl 5) (s.sl 26) s.m s.fc) := by
  rw [show xi5 = .rangeFunc (.tmp 26) #[27, 28] xi6 xqc from by kernel_rfl, rng_r (H := fun u s => xch call hs u (s.sl 3) (s.sl 4) (s.sl 5) (s.sl 27) (s.sl 28) s.m s.fc) (by intro u; exact (congrArg (fun Y => fxK Try.prog pol NN call xi6 Mem (x4w hs u) Y eNil fNil) (x17y call hs u)).trans (x17z call hs u))]; kernel_rfl
theorem x181 (call : FCall) (hs : FHs) (u : Nat) :
  fxK Try.prog pol NN call xi4 (AV × Mem) (x4w hs u) (fun s => x7i call hs u (s.sl 2) (s.sl 4) s.m s.fc) eNil x4x = (fun s => xci call hs u (s.sl 2) (s.sl 3) (s.sl 4) (s.sl 5) (s.sl 26) s.m s.fc) := by
  rw [show xi4 = .block 0 xi5 from by kernel_rfl, block_r, x180 call hs u]
theorem x182 (call : FCall) (hs : FHs) (u : Nat) :
  fxK Try.prog pol NN call xi3 (AV × Mem) (x4w hs u) (fun s => x7i call hs u (s.sl 2) (s.sl 4) s.m s.fc) eNil x4x = (fun s => xcj call hs u (s.sl 2) (s.sl 3) (s.sl 4) (s.sl 5) s.m s.fc) := by
  rw [show xi3 = .seq x17w xi4 from by kernel_rfl, seq_r]; rw [x181 call hs u]; kernel_rfl
theorem x183 (call : FCall) (hs : FHs) (u : Nat) :
  fxK Try.prog pol NN call xi2 (AV × Mem) (x4w hs u) x4x eNil x4x = (fun s => xcj call hs u (s.sl 2) (s.sl 3) (s.sl 4) (s.sl 5) s.m s.fc) := by
  rw [show xi2 = .seq xi3 xqb from by kernel_rfl, seq_r, x17x call hs u, x182 call hs u]
theorem x184 (call : FCall) (hs : FHs) (u : Nat) :
  fxK Try.prog pol NN call xi1 (AV × Mem) (x4w hs u) x4x eNil x4x = (fun s => xkg call hs u (s.sl 0) s.m s.fc) := by
  rw [show xi1 = .seq x17s xq8 from by kernel_rfl, seq_r]; rw [show xq8 = .seq x17t xq9 from by kernel_rfl, seq_r]; rw [show xq9 = .seq x17u xqa from by kernel_rfl, seq_r]; rw [show xqa = .seq x17v xi2 from by kernel_rfl, seq_r]; rw [x183 call hs u]; kernel_rfl
theorem x185 (call : FCall) (hs : FHs) (t0 : AV) (m : Mem) : fxBody Try.prog pol NN call hs xu [t0] m = x8e call hs [t0] m := by
  rw [fxBody_at (fn := Try.f69) (body := xi1) (nt := 71) (rs := [.cell 2 x6a]) (by kernel_rfl) (by kernel_rfl) (by kernel_rfl) (by kernel_rfl) (by kernel_rfl) (by kernel_rfl)]
  exact (congrFun (x184 call hs m.next) _).trans (by kernel_rfl)
theorem xuq (call : FCall) (hs : FHs) (args : List AV) (m : Mem) (r : AV × Mem) (h : x8e call hs args m = some r) : fxBody Try.prog pol NN call hs xu args m = some r := by
  unfold x8e at h
  split at h
  · rw [x185]; exact h
  · cases h

abbrev x186 (hs : FHs) (u : Nat) : FCtx := { f := x5z, u := u, nt := 22, hs := hs }
noncomputable abbrev xqd : Fs → Option (AV × Mem) := fxRes Try.prog [.tmp 6]
noncomputable def xqe : Code := nav (bodyOf x5z) []
theorem x187 (call : FCall) (hs : FHs) (u : Nat) :
  fxK Try.prog pol NN call xqe (AV × Mem) (x186 hs u) xqd eNil xqd = (fun s => xkh call hs u (s.sl 0) (s.sl 1) (s.sl 2) s.m s.fc) := by
  kernel_rfl
theorem x188 (call : FCall) (hs : FHs) (t0 t1 t2 : AV) (m : Mem) : fxBody Try.prog pol NN call hs x5z [t0, t1, t2] m = x8f call hs [t0, t1, t2] m := by
  rw [fxBody_at (fn := Try.f72) (body := xqe) (nt := 22) (rs := [.tmp 6]) (by kernel_rfl) (by kernel_rfl) (by kernel_rfl) (by kernel_rfl) (by kernel_rfl) (by kernel_rfl)]
  exact (congrFun (x187 call hs m.next) _).trans (by kernel_rfl)
theorem xur (call : FCall) (hs : FHs) (args : List AV) (m : Mem) (r : AV × Mem) (h : x8f call hs args m = some r) : fxBody Try.prog pol NN call hs x5z args m = some r := by
  unfold x8f at h
  split at h
  · rw [x188]; exact h
  · cases h

abbrev x189 (hs : FHs) (u : Nat) : FCtx := { f := x60, u := u, nt := 9, hs := hs }
noncomputable abbrev xqf : Fs → Option (AV × Mem) := fxRes Try.prog [.tmp 4]
noncomputable def xqg : Code := nav (bodyOf x60) []
theorem x18a (call : FCall) (hs : FHs) (u : Nat) :
  fxK Try.prog pol NN call xqg (AV × Mem) (x189 hs u) xqf eNil xqf = (fun s => xki call hs u (s.sl 0) (s.sl 1) s.m s.fc) := by
  kernel_rfl
theorem x18b (call : FCall) (hs : FHs) (t0 t1 : AV) (m : Mem) : fxBody Try.prog pol NN call hs x60 [t0, t1] m = x8g call hs [t0, t1] m := by
  rw [fxBody_at (fn := Try.f73) (body := xqg) (nt := 9) (rs := [.tmp 4]) (by kernel_rfl) (by kernel_rfl) (by kernel_rfl) (by kernel_rfl) (by kernel_rfl) (by kernel_rfl)]
  exact (congrFun (x18a call hs m.next) _).trans (by kernel_rfl)
theorem xus (call : FCall) (hs : FHs) (args : List AV) (m : Mem) (r : AV × Mem) (h : x8g call hs args m = some r) : fxBody Try.prog pol NN call hs x60 args m = some r := by
  unfold x8g at h
  split at h
  · rw [x18b]; exact h
  · cases h

abbrev x18c (hs : FHs) (u : Nat) : FCtx := { f := x61, u := u, nt := 7, hs := hs }
noncomputable abbrev xqh : Fs → Option (AV × Mem) := fxRes Try.prog [.tmp 2]
noncomputable def xqi : Code := nav (bodyOf x61) []
theorem x18d (call : FCall) (hs : FHs) (u : Nat) :
  fxK Try.prog pol NN call xqi (AV × Mem) (x18c hs u) xqh eNil xqh = (fun s => xkj call hs u (s.sl 0) s.m s.fc) := by
  kernel_rfl
theorem x18e (call : FCall) (hs : FHs) (t0 : AV) (m : Mem) : fxBody Try.prog pol NN call hs x61 [t0] m = x8h call hs [t0] m := by
  rw [fxBody_at (fn := Try.f74) (body := xqi) (nt := 7) (rs := [.tmp 2]) (by kernel_rfl) (by kernel_rfl) (by kernel_rfl) (by kernel_rfl) (by kernel_rfl) (by kernel_rfl)]
  exact (congrFun (x18d call hs m.next) _).trans (by kernel_rfl)
theorem xut (call : FCall) (hs : FHs) (args : List AV) (m : Mem) (r : AV × Mem) (h : x8h call hs args m = some r) : fxBody Try.prog pol NN call hs x61 args m = some r := by
  unfold x8h at h
  split at h
  · rw [x18e]; exact h
  · cases h

abbrev x1l (hs : FHs) (u : Nat) : FCtx := { f := xd, u := u, nt := 36, hs := hs }
noncomputable abbrev xx : Fs → Option (AV × Mem) := fxRes Try.prog [.tmp 2]
noncomputable def xi7 : Code := nav (bodyOf xd) []
noncomputable def x18f : Code := nav (bodyOf xd) [false]
noncomputable def xqj : Code := nav (bodyOf xd) [true]
noncomputable def x18g : Code := nav (bodyOf xd) [true, false]
noncomputable def xi8 : Code := nav (bodyOf xd) [true, true]
noncomputable def xi9 : Code := nav (bodyOf xd) [true, true, false]
noncomputable def xia : Code := nav (bodyOf xd) [true, true, true]
noncomputable def x18h : Code := nav (bodyOf xd) [true, true, true, false]
noncomputable def xib : Code := nav (bodyOf xd) [true, true, true, true]
noncomputable def xic : Code := nav (bodyOf xd) [true, true, true, true, false]
noncomputable def xqk : Code := nav (bodyOf xd) [true, true, true, true, true]
noncomputable def x18i : Code := nav (bodyOf xd) [true, true, true, true, false, false]
noncomputable def xid : Code := nav (bodyOf xd) [true, true, true, true, false, true]
noncomputable def xie : Code := nav (bodyOf xd) [true, true, true, true, false, true, false]
noncomputable def xif : Code := nav (bodyOf xd) [true, true, true, true, false, true, false, false]
noncomputable def x18j : Code := nav (bodyOf xd) [true, true, false, false]
noncomputable def xig : Code := nav (bodyOf xd) [true, true, false, true]
noncomputable def xih : Code := nav (bodyOf xd) [true, true, false, true, false]
noncomputable def xbl : Code := nav (bodyOf xd) [true, true, false, true, false, false]
noncomputable def x18k : Code := nav (bodyOf xd) [true, true, false, true, false, false, false]
noncomputable def xql : Code := nav (bodyOf xd) [true, true, false, true, false, false, true]
noncomputable def x18l : Code := nav (bodyOf xd) [true, true, false, true, false, false, true, false]
noncomputable def xii : Code := nav (bodyOf xd) [true, true, false, true, false, false, true, true]
noncomputable def xqm : Code := nav (bodyOf xd) [true, true, false, true, false, false, true, true, false]
noncomputable def xqn : Code := nav (bodyOf xd) [true, true, false, true, false, false, true, true, true]
theorem x18m (call : FCall) (hs : FHs) (u : Nat) :
  fxK Try.prog pol NN call xqk (AV × Mem) (x1l hs u) xx eNil xx = (fun s => x3t call hs u (s.sl 6) s.m s.fc) := by
  kernel_rfl
theorem x18n (call : FCall) (hs : FHs) (u : Nat) (rec0 : AV → AV → AV → AV → Mem → Nat → Option (AV × Mem)) :
  fxK Try.prog pol NN call xif (AV × Mem) (x1l hs u) (fun s => rec0 (s.sl 6) (s.sl 25) (s.sl 26) (s.sl 27) s.m s.fc) (setE 2 (fun s => x3t call hs u (s.sl 6) s.m s.fc) eNil) xx = (fun s => xa6 call hs u rec0 (s.sl 6) (s.sl 25) (s.sl 26) (s.sl 27) s.m s.fc) := by
  kernel_rfl
theorem xqo (call : FCall) (hs : FHs) (u : Nat) : ∀ n : Nat,
  iter (fun rec => fxK Try.prog pol NN call xif (AV × Mem) (x1l hs u) rec (setE 2 (fun s => x3t call hs u (s.sl 6) s.m s.fc) eNil) xx) n = (fun s => x5b call hs u n (s.sl 6) (s.sl 25) (s.sl 26) (s.sl 27) s.m s.fc)
  | 0 => rfl
  | n + 1 => by rw [iter_succ, xqo call hs u n, x18n call hs u (x5b call hs u n)]; kernel_rfl
theorem x18o (call : FCall) (hs : FHs) (u : Nat) :
  fxK Try.prog pol NN call xie (AV × Mem) (x1l hs u) (fun s => x3t call hs u (s.sl 6) s.m s.fc) (setE 2 (fun s => x3t call hs u (s.sl 6) s.m s.fc) eNil) xx = (fun s => x5b call hs u NN (s.sl 6) (s.sl 25) (s.sl 26) (s.sl 27) s.m s.fc) := by
  rw [show xie = .loop xif from by kernel_rfl, loop_r, xqo call hs u NN]
theorem x18p (call : FCall) (hs : FHs) (u : Nat) :
  fxK Try.prog pol NN call xid (AV × Mem) (x1l hs u) (fun s => x3t call hs u (s.sl 6) s.m s.fc) eNil xx = (fun s => x5b call hs u NN (s.sl 6) (s.sl 25) (s.sl 26) (s.sl 27) s.m s.fc) := by
  rw [show xid = .block 2 xie from by kernel_rfl, block_r, x18o call hs u]
theorem x18q (call : FCall) (hs : FHs) (u : Nat) :
  fxK Try.prog pol NN call xic (AV × Mem) (x1l hs u) (fun s => x3t call hs u (s.sl 6) s.m s.fc) eNil xx = (fun s => x90 call hs u (s.sl 0) (s.sl 6) s.m s.fc) := by
  rw [show xic = .seq x18i xid from by kernel_rfl, seq_r]; rw [x18p call hs u]; kernel_rfl
theorem x18r (call : FCall) (hs : FHs) (u : Nat) :
  fxK Try.prog pol NN call xib (AV × Mem) (x1l hs u) xx eNil xx = (fun s => x90 call hs u (s.sl 0) (s.sl 6) s.m s.fc) := by
  rw [show xib = .seq xic xqk from by kernel_rfl, seq_r, x18m call hs u, x18q call hs u]
theorem x18s (call : FCall) (hs : FHs) (u : Nat) :
  fxK Try.prog pol NN call xia (AV × Mem) (x1l hs u) xx eNil xx = (fun s => x2b call hs u (s.sl 0) (s.sl 3) s.m s.fc) := by
  rw [show xia = .seq x18h xib from by kernel_rfl, seq_r]; rw [x18r call hs u]; kernel_rfl
theorem x18t (call : FCall) (hs : FHs) (u : Nat) (rec1 : AV → AV → AV → AV → AV → Mem → Nat → Option (AV × Mem)) :
  fxK Try.prog pol NN call xqn (AV × Mem) (x1l hs u) (fun s => rec1 (s.sl 0) (s.sl 3) (s.sl 9) (s.sl 10) (s.sl 11) s.m s.fc) (setE 0 (fun s => x2b call hs u (s.sl 0) (s.sl 3) s.m s.fc) eNil) xx = (fun s => xa7 call hs u rec1 (s.sl 0) (s.sl 3) (s.sl 9) (s.sl 10) (s.sl 11) s.m s.fc) := by
  kernel_rfl
theorem x18u (call : FCall) (hs : FHs) (u : Nat) (rec1 : AV → AV → AV → AV → AV → Mem → Nat → Option (AV × Mem)) :
  fxK Try.prog pol NN call xqm (AV × Mem) (x1l hs u) (fun s => xa7 call hs u rec1 (s.sl 0) (s.sl 3) (s.sl 9) (s.sl 10) (s.sl 11) s.m s.fc) (setE 0 (fun s => x2b call hs u (s.sl 0) (s.sl 3) s.m s.fc) eNil) xx = (fun s => xa8 call hs u rec1 (s.sl 0) (s.sl 3) (s.sl 9) (s.sl 10) (s.sl 11) s.m s.fc) := by
  kernel_rfl
theorem x18v (call : FCall) (hs : FHs) (u : Nat) (rec1 : AV → AV → AV → AV → AV → Mem → Nat → Option (AV × Mem)) :
  fxK Try.prog pol NN call xii (AV × Mem) (x1l hs u) (fun s => rec1 (s.sl 0) (s.sl 3) (s.sl 9) (s.sl 10) (s.sl 11) s.m s.fc) (setE 0 (fun s => x2b call hs u (s.sl 0) (s.sl 3) s.m s.fc) eNil) xx = (fun s => xa8 call hs u rec1 (s.sl 0) (s.sl 3) (s.sl 9) (s.sl 10) (s.sl 11) s.m s.fc) := by
  rw [show xii = .seq xqm xqn from by kernel_rfl, seq_r, x18t call hs u rec1, x18u call hs u rec1]
theorem x18w (call : FCall) (hs : FHs) (u : Nat) (rec1 : AV → AV → AV → AV → AV → Mem → Nat → Option (AV × Mem)) :
  fxK Try.prog pol NN call xbl (AV × Mem) (x1l hs u) (fun s => rec1 (s.sl 0) (s.sl 3) (s.sl 9) (s.sl 10) (s.sl 11) s.m s.fc) (setE 0 (fun s => x2b call hs u (s.sl 0) (s.sl 3) s.m s.fc) eNil) xx = (fun s => xck call hs u rec1 (s.sl 0) (s.sl 3) (s.sl 9) (s.sl 10) (s.sl 11) s.m s.fc) := by
  rw [show xbl = .seq x18k xql from by kernel_rfl, seq_r]; rw [show xql = .seq x18l xii from by kernel_rfl, seq_r]; rw [x18v call hs u rec1]; kernel_rfl
theorem xqp (call : FCall) (hs : FHs) (u : Nat) : ∀ n : Nat,
  iter (fun rec => fxK Try.prog pol NN call xbl (AV × Mem) (x1l hs u) rec (setE 0 (fun s => x2b call hs u (s.sl 0) (s.sl 3) s.m s.fc) eNil) xx) n = (fun s => x69 call hs u n (s.sl 0) (s.sl 3) (s.sl 9) (s.sl 10) (s.sl 11) s.m s.fc)
  | 0 => rfl
  | n + 1 => by rw [iter_succ, xqp call hs u n, x18w call hs u (x69 call hs u n)]; kernel_rfl
theorem x18x (call : FCall) (hs : FHs) (u : Nat) :
  fxK Try.prog pol NN call xih (AV × Mem) (x1l hs u) (fun s => x2b call hs u (s.sl 0) (s.sl 3) s.m s.fc) (setE 0 (fun s => x2b call hs u (s.sl 0) (s.sl 3) s.m s.fc) eNil) xx = (fun s => x69 call hs u NN (s.sl 0) (s.sl 3) (s.sl 9) (s.sl 10) (s.sl 11) s.m s.fc) := by
  rw [show xih = .loop xbl from by kernel_rfl, loop_r, xqp call hs u NN]
theorem x18y (call : FCall) (hs : FHs) (u : Nat) :
  fxK Try.prog pol NN call xig (AV × Mem) (x1l hs u) (fun s => x2b call hs u (s.sl 0) (s.sl 3) s.m s.fc) eNil xx = (fun s => x69 call hs u NN (s.sl 0) (s.sl 3) (s.sl 9) (s.sl 10) (s.sl 11) s.m s.fc) := by
  rw [show xig = .block 0 xih from by kernel_rfl, block_r, x18x call hs u]
theorem x18z (call : FCall) (hs : FHs) (u : Nat) :
  fxK Try.prog pol NN call xi9 (AV × Mem) (x1l hs u) (fun s => x2b call hs u (s.sl 0) (s.sl 3) s.m s.fc) eNil xx = (fun s => xa9 call hs u (s.sl 0) (s.sl 3) s.m s.fc) := by
  rw [show xi9 = .seq x18j xig from by kernel_rfl, seq_r]; rw [x18y call hs u]; kernel_rfl
theorem x190 (call : FCall) (hs : FHs) (u : Nat) :
  fxK Try.prog pol NN call xi8 (AV × Mem) (x1l hs u) xx eNil xx = (fun s => xa9 call hs u (s.sl 0) (s.sl 3) s.m s.fc) := by
  rw [show xi8 = .seq xi9 xia from by kernel_rfl, seq_r, x18s call hs u, x18z call hs u]
theorem x191 (call : FCall) (hs : FHs) (u : Nat) :
  fxK Try.prog pol NN call xi7 (AV × Mem) (x1l hs u) xx eNil xx = (fun s => xcl call hs u (s.sl 0) s.m s.fc) := by
  rw [show xi7 = .seq x18f xqj from by kernel_rfl, seq_r]; rw [show xqj = .seq x18g xi8 from by kernel_rfl, seq_r]; rw [x190 call hs u]; kernel_rfl
theorem x192 (call : FCall) (hs : FHs) (t0 : AV) (m : Mem) : fxBody Try.prog pol NN call hs xd [t0] m = x72 call hs [t0] m := by
  rw [fxBody_at (fn := Try.f75) (body := xi7) (nt := 36) (rs := [.tmp 2]) (by kernel_rfl) (by kernel_rfl) (by kernel_rfl) (by kernel_rfl) (by kernel_rfl) (by kernel_rfl)]
  exact (congrFun (x191 call hs m.next) _).trans (by kernel_rfl)
theorem xuu (call : FCall) (hs : FHs) (args : List AV) (m : Mem) (r : AV × Mem) (h : x72 call hs args m = some r) : fxBody Try.prog pol NN call hs xd args m = some r := by
  unfold x72 at h
  split at h
  · rw [x192]; exact h
  · cases h

abbrev x193 (hs : FHs) (u : Nat) : FCtx := { f := x41, u := u, nt := 5, hs := hs }
noncomputable abbrev xqq : Fs → Option (AV × Mem) := fxRes Try.prog [.tmp 2]
noncomputable def xqr : Code := nav (bodyOf x41) []
theorem x194 (call : FCall) (hs : FHs) (u : Nat) :
  fxK Try.prog pol NN call xqr (AV × Mem) (x193 hs u) xqq eNil xqq = (fun s => xcm call hs u (s.sl 0) s.m s.fc) := by
  kernel_rfl
theorem x195 (call : FCall) (hs : FHs) (t0 : AV) (m : Mem) : fxBody Try.prog pol NN call hs x41 [t0] m = x73 call hs [t0] m := by
  rw [fxBody_at (fn := Try.f76) (body := xqr) (nt := 5) (rs := [.tmp 2]) (by kernel_rfl) (by kernel_rfl) (by kernel_rfl) (by kernel_rfl) (by kernel_rfl) (by kernel_rfl)]
  exact (congrFun (x194 call hs m.next) _).trans (by kernel_rfl)
theorem xuv (call : FCall) (hs : FHs) (args : List AV) (m : Mem) (r : AV × Mem) (h : x73 call hs args m = some r) : fxBody Try.prog pol NN call hs x41 args m = some r := by
  unfold x73 at h
  split at h
  · rw [x195]; exact h
  · cases h

abbrev x196 (hs : FHs) (u : Nat) : FCtx := { f := x1e, u := u, nt := 15, hs := hs }
noncomputable abbrev xqs : Fs → Option (AV × Mem) := fxRes Try.prog [.tmp 6]
noncomputable def xqt : Code := nav (bodyOf x1e) []
theorem x197 (call : FCall) (hs : FHs) (u : Nat) :
  fxK Try.prog pol NN call xqt (AV × Mem) (x196 hs u) xqs eNil xqs = (fun s => xcn call hs u (s.sl 0) (s.sl 1) (s.sl 2) s.m s.fc) := by
  kernel_rfl
theorem x198 (call : FCall) (hs : FHs) (t0 t1 t2 : AV) (m : Mem) : fxBody Try.prog pol NN call hs x1e [t0, t1, t2] m = x6f call hs [t0, t1, t2] m := by
  rw [fxBody_at (fn := Try.f78) (body := xqt) (nt := 15) (rs := [.tmp 6]) (by kernel_rfl) (by kernel_rfl) (by kernel_rfl) (by kernel_rfl) (by kernel_rfl) (by kernel_rfl)]
  exact (congrFun (x197 call hs m.next) _).trans (by kernel_rfl)
theorem xtk (call : FCall) (hs : FHs) (args : List AV) (m : Mem) (r : AV × Mem) (h : x6f call hs args m = some r) : fxBody Try.prog pol NN call hs x1e args m = some r := by
  unfold x6f at h
  split at h
  · rw [x198]; exact h
  · cases h

abbrev x3h (hs : FHs) (u : Nat) : FCtx := { f := xr, u := u, nt := 53, hs := hs }
noncomputable abbrev x25 : Fs → Option (AV × Mem) := fxRes Try.prog [.tmp 2]
noncomputable def xij : Code := nav (bodyOf xr) []
noncomputable def x199 : Code := nav (bodyOf xr) [false]
noncomputable def xqu : Code := nav (bodyOf xr) [true]
noncomputable def x19a : Code := nav (bodyOf xr) [true, false]
noncomputable def xik : Code := nav (bodyOf xr) [true, true]
noncomputable def xil : Code := nav (bodyOf xr) [true, true, false]
noncomputable def xqv : Code := nav (bodyOf xr) [true, true, true]
noncomputable def x19b : Code := nav (bodyOf xr) [true, true, false, false]
noncomputable def xim : Code := nav (bodyOf xr) [true, true, false, true]
noncomputable def xin : Code := nav (bodyOf xr) [true, true, false, true, false]
noncomputable def xbm : Code := nav (bodyOf xr) [true, true, false, true, false, false]
noncomputable def x19c : Code := nav (bodyOf xr) [true, true, false, true, false, false, false]
noncomputable def xqw : Code := nav (bodyOf xr) [true, true, false, true, false, false, true]
noncomputable def x19d : Code := nav (bodyOf xr) [true, true, false, true, false, false, true, false]
noncomputable def xio : Code := nav (bodyOf xr) [true, true, false, true, false, false, true, true]
noncomputable def xqx : Code := nav (bodyOf xr) [true, true, false, true, false, false, true, true, false]
noncomputable def xqy : Code := nav (bodyOf xr) [true, true, false, true, false, false, true, true, true]
theorem x19e (call : FCall) (hs : FHs) (u : Nat) :
  fxK Try.prog pol NN call xqv (AV × Mem) (x3h hs u) x25 eNil x25 = (fun s => x2c call hs u (s.sl 1) (s.sl 3) s.m s.fc) := by
  kernel_rfl
theorem x19f (call : FCall) (hs : FHs) (u : Nat) (rec0 : AV → AV → AV → AV → AV → Mem → Nat → Option (AV × Mem)) :
  fxK Try.prog pol NN call xqy (AV × Mem) (x3h hs u) (fun s => rec0 (s.sl 1) (s.sl 3) (s.sl 12) (s.sl 13) (s.sl 14) s.m s.fc) (setE 0 (fun s => x2c call hs u (s.sl 1) (s.sl 3) s.m s.fc) eNil) x25 = (fun s => x7j call hs u rec0 (s.sl 1) (s.sl 3) (s.sl 12) (s.sl 13) (s.sl 14) s.m s.fc) := by
  kernel_rfl
theorem x19g (call : FCall) (hs : FHs) (u : Nat) (rec0 : AV → AV → AV → AV → AV → Mem → Nat → Option (AV × Mem)) :
  fxK Try.prog pol NN call xqx (AV × Mem) (x3h hs u) (fun s => x7j call hs u rec0 (s.sl 1) (s.sl 3) (s.sl 12) (s.sl 13) (s.sl 14) s.m s.fc) (setE 0 (fun s => x2c call hs u (s.sl 1) (s.sl 3) s.m s.fc) eNil) x25 = (fun s => x92 call hs u rec0 (s.sl 1) (s.sl 3) (s.sl 12) (s.sl 13) (s.sl 14) s.m s.fc) := by
  kernel_rfl
theorem x19h (call : FCall) (hs : FHs) (u : Nat) (rec0 : AV → AV → AV → AV → AV → Mem → Nat → Option (AV × Mem)) :
  fxK Try.prog pol NN call xio (AV × Mem) (x3h hs u) (fun s => rec0 (s.sl 1) (s.sl 3) (s.sl 12) (s.sl 13) (s.sl 14) s.m s.fc) (setE 0 (fun s => x2c call hs u (s.sl 1) (s.sl 3) s.m s.fc) eNil) x25 = (fun s => x92 call hs u rec0 (s.sl 1) (s.sl 3) (s.sl 12) (s.sl 13) (s.sl 14) s.m s.fc) := by
  rw [show xio = .seq xqx xqy from by kernel_rfl, seq_r, x19f call hs u rec0, x19g call hs u rec0]
theorem x19i (call : FCall) (hs : FHs) (u : Nat) (rec0 : AV → AV → AV → AV → AV → Mem → Nat → Option (AV × Mem)) :
  fxK Try.prog pol NN call xbm (AV × Mem) (x3h hs u) (fun s => rec0 (s.sl 1) (s.sl 3) (s.sl 12) (s.sl 13) (s.sl 14) s.m s.fc) (setE 0 (fun s => x2c call hs u (s.sl 1) (s.sl 3) s.m s.fc) eNil) x25 = (fun s => x93 call hs u rec0 (s.sl 1) (s.sl 3) (s.sl 12) (s.sl 13) (s.sl 14) s.m s.fc) := by
  rw [show xbm = .seq x19c xqw from by kernel_rfl, seq_r]; rw [show xqw = .seq x19d xio from by kernel_rfl, seq_r]; rw [x19h call hs u rec0]; kernel_rfl
theorem xqz (call : FCall) (hs : FHs) (u : Nat) : ∀ n : Nat,
  iter (fun rec => fxK Try.prog pol NN call xbm (AV × Mem) (x3h hs u) rec (setE 0 (fun s => x2c call hs u (s.sl 1) (s.sl 3) s.m s.fc) eNil) x25) n = (fun s => x2y call hs u n (s.sl 1) (s.sl 3) (s.sl 12) (s.sl 13) (s.sl 14) s.m s.fc)
  | 0 => rfl
  | n + 1 => by rw [iter_succ, xqz call hs u n, x19i call hs u (x2y call hs u n)]; kernel_rfl
theorem x19j (call : FCall) (hs : FHs) (u : Nat) :
  fxK Try.prog pol NN call xin (AV × Mem) (x3h hs u) (fun s => x2c call hs u (s.sl 1) (s.sl 3) s.m s.fc) (setE 0 (fun s => x2c call hs u (s.sl 1) (s.sl 3) s.m s.fc) eNil) x25 = (fun s => x2y call hs u NN (s.sl 1) (s.sl 3) (s.sl 12) (s.sl 13) (s.sl 14) s.m s.fc) := by
  rw [show xin = .loop xbm from by kernel_rfl, loop_r, xqz call hs u NN]
theorem x19k (call : FCall) (hs : FHs) (u : Nat) :
  fxK Try.prog pol NN call xim (AV × Mem) (x3h hs u) (fun s => x2c call hs u (s.sl 1) (s.sl 3) s.m s.fc) eNil x25 = (fun s => x2y call hs u NN (s.sl 1) (s.sl 3) (s.sl 12) (s.sl 13) (s.sl 14) s.m s.fc) := by
  rw [show xim = .block 0 xin from by kernel_rfl, block_r, x19j call hs u]
theorem x19l (call : FCall) (hs : FHs) (u : Nat) :
  fxK Try.prog pol NN call xil (AV × Mem) (x3h hs u) (fun s => x2c call hs u (s.sl 1) (s.sl 3) s.m s.fc) eNil x25 = (fun s => xaa call hs u (s.sl 1) (s.sl 3) s.m s.fc) := by
  rw [show xil = .seq x19b xim from by kernel_rfl, seq_r]; rw [x19k call hs u]; kernel_rfl
theorem x19m (call : FCall) (hs : FHs) (u : Nat) :
  fxK Try.prog pol NN call xik (AV × Mem) (x3h hs u) x25 eNil x25 = (fun s => xaa call hs u (s.sl 1) (s.sl 3) s.m s.fc) := by
  rw [show xik = .seq xil xqv from by kernel_rfl, seq_r, x19e call hs u, x19l call hs u]
theorem x19n (call : FCall) (hs : FHs) (u : Nat) :
  fxK Try.prog pol NN call xij (AV × Mem) (x3h hs u) x25 eNil x25 = (fun s => xab call hs u (s.sl 0) s.m s.fc) := by
  rw [show xij = .seq x199 xqu from by kernel_rfl, seq_r]; rw [show xqu = .seq x19a xik from by kernel_rfl, seq_r]; rw [x19m call hs u]; kernel_rfl
theorem x19o (call : FCall) (hs : FHs) (t0 : AV) (m : Mem) : fxBody Try.prog pol NN call hs xr [t0] m = x8i call hs [t0] m := by
  rw [fxBody_at (fn := Try.f79) (body := xij) (nt := 53) (rs := [.tmp 2]) (by kernel_rfl) (by kernel_rfl) (by kernel_rfl) (by kernel_rfl) (by kernel_rfl) (by kernel_rfl)]
  exact (congrFun (x19n call hs m.next) _).trans (by kernel_rfl)
theorem xuw (call : FCall) (hs : FHs) (args : List AV) (m : Mem) (r : AV × Mem) (h : x8i call hs args m = some r) : fxBody Try.prog pol NN call hs xr args m = some r := by
  unfold x8i at h
  split at h
  · rw [x19o]; exact h
  · cases h

abbrev x3i (hs : FHs) (u : Nat) : FCtx := { f := xh, u := u, nt := 47, hs := hs }
noncomputable abbrev x26 : Fs → Option (AV × Mem) := fxRes Try.prog [.tmp 4]
noncomputable def xip : Code := nav (bodyOf xh) []
noncomputable def x19p : Code := nav (bodyOf xh) [false]
noncomputable def xr0 : Code := nav (bodyOf xh) [true]
noncomputable def x19q : Code := nav (bodyOf xh) [true, false]
noncomputable def xiq : Code := nav (bodyOf xh) [true, true]
noncomputable def xir : Code := nav (bodyOf xh) [true, true, false]
noncomputable def xr1 : Code := nav (bodyOf xh) [true, true, true]
noncomputable def x19r : Code := nav (bodyOf xh) [true, true, false, false]
noncomputable def xis : Code := nav (bodyOf xh) [true, true, false, true]
noncomputable def xit : Code := nav (bodyOf xh) [true, true, false, true, false]
noncomputable def xbn : Code := nav (bodyOf xh) [true, true, false, true, false, false]
noncomputable def x19s : Code := nav (bodyOf xh) [true, true, false, true, false, false, false]
noncomputable def xr2 : Code := nav (bodyOf xh) [true, true, false, true, false, false, true]
noncomputable def x19t : Code := nav (bodyOf xh) [true, true, false, true, false, false, true, false]
noncomputable def xiu : Code := nav (bodyOf xh) [true, true, false, true, false, false, true, true]
noncomputable def xr3 : Code := nav (bodyOf xh) [true, true, false, true, false, false, true, true, false]
noncomputable def xr4 : Code := nav (bodyOf xh) [true, true, false, true, false, false, true, true, true]
theorem x19u (call : FCall) (hs : FHs) (u : Nat) :
  fxK Try.prog pol NN call xr1 (AV × Mem) (x3i hs u) x26 eNil x26 = (fun s => x2m call hs u (s.sl 5) s.m s.fc) := by
  kernel_rfl
theorem x19v (call : FCall) (hs : FHs) (u : Nat) (rec0 : AV → AV → AV → AV → AV → Mem → Nat → Option (AV × Mem)) :
  fxK Try.prog pol NN call xr4 (AV × Mem) (x3i hs u) (fun s => rec0 (s.sl 0) (s.sl 1) (s.sl 5) (s.sl 12) (s.sl 13) s.m s.fc) (setE 0 (fun s => x2m call hs u (s.sl 5) s.m s.fc) eNil) x26 = (fun s => x7k call hs u rec0 (s.sl 0) (s.sl 1) (s.sl 5) (s.sl 12) (s.sl 13) s.m s.fc) := by
  kernel_rfl
theorem x19w (call : FCall) (hs : FHs) (u : Nat) (rec0 : AV → AV → AV → AV → AV → Mem → Nat → Option (AV × Mem)) :
  fxK Try.prog pol NN call xr3 (AV × Mem) (x3i hs u) (fun s => x7k call hs u rec0 (s.sl 0) (s.sl 1) (s.sl 5) (s.sl 12) (s.sl 13) s.m s.fc) (setE 0 (fun s => x2m call hs u (s.sl 5) s.m s.fc) eNil) x26 = (fun s => x94 call hs u rec0 (s.sl 0) (s.sl 1) (s.sl 5) (s.sl 12) (s.sl 13) s.m s.fc) := by
  kernel_rfl
theorem x19x (call : FCall) (hs : FHs) (u : Nat) (rec0 : AV → AV → AV → AV → AV → Mem → Nat → Option (AV × Mem)) :
  fxK Try.prog pol NN call xiu (AV × Mem) (x3i hs u) (fun s => rec0 (s.sl 0) (s.sl 1) (s.sl 5) (s.sl 12) (s.sl 13) s.m s.fc) (setE 0 (fun s => x2m call hs u (s.sl 5) s.m s.fc) eNil) x26 = (fun s => x94 call hs u rec0 (s.sl 0) (s.sl 1) (s.sl 5) (s.sl 12) (s.sl 13) s.m s.fc) := by
  rw [show xiu = .seq xr3 xr4 from by kernel_rfl, seq_r, x19v call hs u rec0, x19w call hs u rec0]
theorem x19y (call : FCall) (hs : FHs) (u : Nat) (rec0 : AV → AV → AV → AV → AV → Mem → Nat → Option (AV × Mem)) :
  fxK Try.prog pol NN call xbn (AV × Mem) (x3i hs u) (fun s => rec0 (s.sl 0) (s.sl 1) (s.sl 5) (s.sl 12) (s.sl 13) s.m s.fc) (setE 0 (fun s => x2m call hs u (s.sl 5) s.m s.fc) eNil) x26 = (fun s => x95 call hs u rec0 (s.sl 0) (s.sl 1) (s.sl 5) (s.sl 12) (s.sl 13) s.m s.fc) := by
  rw [show xbn = .seq x19s xr2 from by kernel_rfl, seq_r]; rw [show xr2 = .seq x19t xiu from by kernel_rfl, seq_r]; rw [x19x call hs u rec0]; kernel_rfl
theorem xr5 (call : FCall) (hs : FHs) (u : Nat) : ∀ n : Nat,
  iter (fun rec => fxK Try.prog pol NN call xbn (AV × Mem) (x3i hs u) rec (setE 0 (fun s => x2m call hs u (s.sl 5) s.m s.fc) eNil) x26) n = (fun s => x3u call hs u n (s.sl 0) (s.sl 1) (s.sl 5) (s.sl 12) (s.sl 13) s.m s.fc)
  | 0 => rfl
  | n + 1 => by rw [iter_succ, xr5 call hs u n, x19y call hs u (x3u call hs u n)]; kernel_rfl
theorem x19z (call : FCall) (hs : FHs) (u : Nat) :
  fxK Try.prog pol NN call xit (AV × Mem) (x3i hs u) (fun s => x2m call hs u (s.sl 5) s.m s.fc) (setE 0 (fun s => x2m call hs u (s.sl 5) s.m s.fc) eNil) x26 = (fun s => x3u call hs u NN (s.sl 0) (s.sl 1) (s.sl 5) (s.sl 12) (s.sl 13) s.m s.fc) := by
  rw [show xit = .loop xbn from by kernel_rfl, loop_r, xr5 call hs u NN]
theorem x1a0 (call : FCall) (hs : FHs) (u : Nat) :
  fxK Try.prog pol NN call xis (AV × Mem) (x3i hs u) (fun s => x2m call hs u (s.sl 5) s.m s.fc) eNil x26 = (fun s => x3u call hs u NN (s.sl 0) (s.sl 1) (s.sl 5) (s.sl 12) (s.sl 13) s.m s.fc) := by
  rw [show xis = .block 0 xit from by kernel_rfl, block_r, x19z call hs u]
theorem x1a1 (call : FCall) (hs : FHs) (u : Nat) :
  fxK Try.prog pol NN call xir (AV × Mem) (x3i hs u) (fun s => x2m call hs u (s.sl 5) s.m s.fc) eNil x26 = (fun s => xac call hs u (s.sl 0) (s.sl 1) (s.sl 5) s.m s.fc) := by
  rw [show xir = .seq x19r xis from by kernel_rfl, seq_r]; rw [x1a0 call hs u]; kernel_rfl
theorem x1a2 (call : FCall) (hs : FHs) (u : Nat) :
  fxK Try.prog pol NN call xiq (AV × Mem) (x3i hs u) x26 eNil x26 = (fun s => xac call hs u (s.sl 0) (s.sl 1) (s.sl 5) s.m s.fc) := by
  rw [show xiq = .seq xir xr1 from by kernel_rfl, seq_r, x19u call hs u, x1a1 call hs u]
theorem x1a3 (call : FCall) (hs : FHs) (u : Nat) :
  fxK Try.prog pol NN call xip (AV × Mem) (x3i hs u) x26 eNil x26 = (fun s => xad call hs u (s.sl 0) (s.sl 1) s.m s.fc) := by
  rw [show xip = .seq x19p xr0 from by kernel_rfl, seq_r]; rw [show xr0 = .seq x19q xiq from by kernel_rfl, seq_r]; rw [x1a2 call hs u]; kernel_rfl
theorem x1a4 (call : FCall) (hs : FHs) (t0 t1 : AV) (m : Mem) : fxBody Try.prog pol NN call hs xh [t0, t1] m = x8j call hs [t0, t1] m := by
  rw [fxBody_at (fn := Try.f80) (body := xip) (nt := 47) (rs := [.tmp 4]) (by kernel_rfl) (by kernel_rfl) (by kernel_rfl) (by kernel_rfl) (by kernel_rfl) (by kernel_rfl)]
  exact (congrFun (x1a3 call hs m.next) _).trans (by kernel_rfl)
theorem xux (call : FCall) (hs : FHs) (args : List AV) (m : Mem) (r : AV × Mem) (h : x8j call hs args m = some r) : fxBody Try.prog pol NN call hs xh args m = some r := by
  unfold x8j at h
  split at h
  · rw [x1a4]; exact h
  · cases h

abbrev x5o (hs : FHs) (u : Nat) : FCtx := { f := x1a, u := u, nt := 26, hs := hs }
noncomputable abbrev x3j : Fs → Option (AV × Mem) := fxRes Try.prog [.tmp 2]
noncomputable def xiv : Code := nav (bodyOf x1a) []
noncomputable def x1a5 : Code := nav (bodyOf x1a) [false]
noncomputable def xr6 : Code := nav (bodyOf x1a) [true]
noncomputable def x1a6 : Code := nav (bodyOf x1a) [true, false]
noncomputable def xr7 : Code := nav (bodyOf x1a) [true, true]
noncomputable def x1a7 : Code := nav (bodyOf x1a) [true, true, false]
noncomputable def xiw : Code := nav (bodyOf x1a) [true, true, true]
noncomputable def xix : Code := nav (bodyOf x1a) [true, true, true, false]
noncomputable def xr8 : Code := nav (bodyOf x1a) [true, true, true, true]
noncomputable def x1a8 : Code := nav (bodyOf x1a) [true, true, true, false, false]
noncomputable def xiy : Code := nav (bodyOf x1a) [true, true, true, false, true]
noncomputable def xiz : Code := nav (bodyOf x1a) [true, true, true, false, true, false]
noncomputable def xj0 : Code := nav (bodyOf x1a) [true, true, true, false, true, false, false]
theorem x1a9 (call : FCall) (hs : FHs) (u : Nat) :
  fxK Try.prog pol NN call xr8 (AV × Mem) (x5o hs u) x3j eNil x3j = (fun s => x5c call hs u (s.sl 1) (s.sl 4) s.m s.fc) := by
  kernel_rfl
theorem x1aa (call : FCall) (hs : FHs) (u : Nat) (rec0 : AV → AV → AV → AV → AV → Mem → Nat → Option (AV × Mem)) :
  fxK Try.prog pol NN call xj0 (AV × Mem) (x5o hs u) (fun s => rec0 (s.sl 1) (s.sl 3) (s.sl 4) (s.sl 10) (s.sl 11) s.m s.fc) (setE 0 (fun s => x5c call hs u (s.sl 1) (s.sl 4) s.m s.fc) eNil) x3j = (fun s => xkk call hs u rec0 (s.sl 1) (s.sl 3) (s.sl 4) (s.sl 10) (s.sl 11) s.m s.fc) := by
  kernel_rfl
theorem xr9 (call : FCall) (hs : FHs) (u : Nat) : ∀ n : Nat,
  iter (fun rec => fxK Try.prog pol NN call xj0 (AV × Mem) (x5o hs u) rec (setE 0 (fun s => x5c call hs u (s.sl 1) (s.sl 4) s.m s.fc) eNil) x3j) n = (fun s => x7m call hs u n (s.sl 1) (s.sl 3) (s.sl 4) (s.sl 10) (s.sl 11) s.m s.fc)
  | 0 => rfl
  | n + 1 => by rw [iter_succ, xr9 call hs u n, x1aa call hs u (x7m call hs u n)]; kernel_rfl
theorem x1ab (call : FCall) (hs : FHs) (u : Nat) :
  fxK Try.prog pol NN call xiz (AV × Mem) (x5o hs u) (fun s => x5c call hs u (s.sl 1) (s.sl 4) s.m s.fc) (setE 0 (fun s => x5c call hs u (s.sl 1) (s.sl 4) s.m s.fc) eNil) x3j = (fun s => x7m call hs u NN (s.sl 1) (s.sl 3) (s.sl 4) (s.sl 10) (s.sl 11) s.m s.fc) := by
  rw [show xiz = .loop xj0 from by kernel_rfl, loop_r, xr9 call hs u NN]
theorem x1ac (call : FCall) (hs : FHs) (u : Nat) :
  fxK Try.prog pol NN call xiy (AV × Mem) (x5o hs u) (fun s => x5c call hs u (s.sl 1) (s.sl 4) s.m s.fc) eNil x3j = (fun s => x7m call hs u NN (s.sl 1) (s.sl 3) (s.sl 4) (s.sl 10) (s.sl 11) s.m s.fc) := by
  rw [show xiy = .block 0 xiz from by kernel_rfl, block_r, x1ab call hs u]
theorem x1ad (call : FCall) (hs : FHs) (u : Nat) :
  fxK Try.prog pol NN call xix (AV × Mem) (x5o hs u) (fun s => x5c call hs u (s.sl 1) (s.sl 4) s.m s.fc) eNil x3j = (fun s => xcp call hs u (s.sl 1) (s.sl 3) (s.sl 4) s.m s.fc) := by
  rw [show xix = .seq x1a8 xiy from by kernel_rfl, seq_r]; rw [x1ac call hs u]; kernel_rfl
theorem x1ae (call : FCall) (hs : FHs) (u : Nat) :
  fxK Try.prog pol NN call xiw (AV × Mem) (x5o hs u) x3j eNil x3j = (fun s => xcp call hs u (s.sl 1) (s.sl 3) (s.sl 4) s.m s.fc) := by
  rw [show xiw = .seq xix xr8 from by kernel_rfl, seq_r, x1a9 call hs u, x1ad call hs u]
theorem x1af (call : FCall) (hs : FHs) (u : Nat) :
  fxK Try.prog pol NN call xiv (AV × Mem) (x5o hs u) x3j eNil x3j = (fun s => xkl call hs u (s.sl 0) s.m s.fc) := by
  rw [show xiv = .seq x1a5 xr6 from by kernel_rfl, seq_r]; rw [show xr6 = .seq x1a6 xr7 from by kernel_rfl, seq_r]; rw [show xr7 = .seq x1a7 xiw from by kernel_rfl, seq_r]; rw [x1ae call hs u]; kernel_rfl
theorem x1ag (call : FCall) (hs : FHs) (t0 : AV) (m : Mem) : fxBody Try.prog pol NN call hs x1a [t0] m = x8k call hs [t0] m := by
  rw [fxBody_at (fn := Try.f81) (body := xiv) (nt := 26) (rs := [.tmp 2]) (by kernel_rfl) (by kernel_rfl) (by kernel_rfl) (by kernel_rfl) (by kernel_rfl) (by kernel_rfl)]
  exact (congrFun (x1af call hs m.next) _).trans (by kernel_rfl)
theorem xuy (call : FCall) (hs : FHs) (args : List AV) (m : Mem) (r : AV × Mem) (h : x8k call hs args m = some r) : fxBody Try.prog pol NN call hs x1a args m = some r := by
  unfold x8k at h
  split at h
  · rw [x1ag]; exact h
  · cases h

abbrev x1ah (hs : FHs) (u : Nat) : FCtx := { f := x2j, u := u, nt := 9, hs := hs }
noncomputable abbrev xra : Fs → Option (AV × Mem) := fxRes Try.prog [.tmp 4]
noncomputable def xrb : Code := nav (bodyOf x2j) []
theorem x1ai (call : FCall) (hs : FHs) (u : Nat) :
  fxK Try.prog pol NN call xrb (AV × Mem) (x1ah hs u) xra eNil xra = (fun s => xae call hs u (s.sl 0) (s.sl 1) s.m s.fc) := by
  kernel_rfl
theorem x1aj (call : FCall) (hs : FHs) (t0 t1 : AV) (m : Mem) : fxBody Try.prog pol NN call hs x2j [t0, t1] m = x62 call hs [t0, t1] m := by
  rw [fxBody_at (fn := Try.f84) (body := xrb) (nt := 9) (rs := [.tmp 4]) (by kernel_rfl) (by kernel_rfl) (by kernel_rfl) (by kernel_rfl) (by kernel_rfl) (by kernel_rfl)]
  exact (congrFun (x1ai call hs m.next) _).trans (by kernel_rfl)
theorem xuz (call : FCall) (hs : FHs) (args : List AV) (m : Mem) (r : AV × Mem) (h : x62 call hs args m = some r) : fxBody Try.prog pol NN call hs x2j args m = some r := by
  unfold x62 at h
  split at h
  · rw [x1aj]; exact h
  · cases h

abbrev x1ak (hs : FHs) (u : Nat) : FCtx := { f := x42, u := u, nt := 6, hs := hs }
noncomputable abbrev xrc : Fs → Option (AV × Mem) := fxRes Try.prog [.tmp 2]
noncomputable def xrd : Code := nav (bodyOf x42) []
theorem x1al (call : FCall) (hs : FHs) (u : Nat) :
  fxK Try.prog pol NN call xrd (AV × Mem) (x1ak hs u) xrc eNil xrc = (fun s => xcq call hs u (s.sl 0) s.m s.fc) := by
  kernel_rfl
theorem x1am (call : FCall) (hs : FHs) (t0 : AV) (m : Mem) : fxBody Try.prog pol NN call hs x42 [t0] m = x74 call hs [t0] m := by
  rw [fxBody_at (fn := Try.f85) (body := xrd) (nt := 6) (rs := [.tmp 2]) (by kernel_rfl) (by kernel_rfl) (by kernel_rfl) (by kernel_rfl) (by kernel_rfl) (by kernel_rfl)]
  exact (congrFun (x1al call hs m.next) _).trans (by kernel_rfl)
theorem xv0 (call : FCall) (hs : FHs) (args : List AV) (m : Mem) (r : AV × Mem) (h : x74 call hs args m = some r) : fxBody Try.prog pol NN call hs x42 args m = some r := by
  unfold x74 at h
  split at h
  · rw [x1am]; exact h
  · cases h

abbrev x1an (hs : FHs) (u : Nat) : FCtx := { f := x63, u := u, nt := 8, hs := hs }
noncomputable abbrev xre : Fs → Option (AV × Mem) := fxRes Try.prog [.tmp 2]
noncomputable def xrf : Code := nav (bodyOf x63) []
theorem x1ao (call : FCall) (hs : FHs) (u : Nat) :
  fxK Try.prog pol NN call xrf (AV × Mem) (x1an hs u) xre eNil xre = (fun s => xkm call hs u (s.sl 0) s.m s.fc) := by
  kernel_rfl
theorem x1ap (call : FCall) (hs : FHs) (t0 : AV) (m : Mem) : fxBody Try.prog pol NN call hs x63 [t0] m = x8l call hs [t0] m := by
  rw [fxBody_at (fn := Try.f86) (body := xrf) (nt := 8) (rs := [.tmp 2]) (by kernel_rfl) (by kernel_rfl) (by kernel_rfl) (by kernel_rfl) (by kernel_rfl) (by kernel_rfl)]
  exact (congrFun (x1ao call hs m.next) _).trans (by kernel_rfl)
theorem xv1 (call : FCall) (hs : FHs) (args : List AV) (m : Mem) (r : AV × Mem) (h : x8l call hs args m = some r) : fxBody Try.prog pol NN call hs x63 args m = some r := by
  unfold x8l at h
  split at h
  · rw [x1ap]; exact h
  · cases h

abbrev x1aq (hs : FHs) (u : Nat) : FCtx := { f := x3o, u := u, nt := 5, hs := hs }
noncomputable abbrev xrg : Fs → Option (AV × Mem) := fxRes Try.prog [.tmp 2]
noncomputable def xrh : Code := nav (bodyOf x3o) []
theorem x1ar (call : FCall) (hs : FHs) (u : Nat) :
  fxK Try.prog pol NN call xrh (AV × Mem) (x1aq hs u) xrg eNil xrg = (fun s => xkn call hs u (s.sl 0) s.m s.fc) := by
  kernel_rfl
theorem x1as (call : FCall) (hs : FHs) (t0 : AV) (m : Mem) : fxBody Try.prog pol NN call hs x3o [t0] m = x85 call hs [t0] m := by
  rw [fxBody_at (fn := Try.f87) (body := xrh) (nt := 5) (rs := [.tmp 2]) (by kernel_rfl) (by kernel_rfl) (by kernel_rfl) (by kernel_rfl) (by kernel_rfl) (by kernel_rfl)]
  exact (congrFun (x1ar call hs m.next) _).trans (by kernel_rfl)
theorem xts (call : FCall) (hs : FHs) (args : List AV) (m : Mem) (r : AV × Mem) (h : x85 call hs args m = some r) : fxBody Try.prog pol NN call hs x3o args m = some r := by
  unfold x85 at h
  split at h
  · rw [x1as]; exact h
  · cases h

abbrev x5p (hs : FHs) (u : Nat) : FCtx := { f := x16, u := u, nt := 76, hs := hs }
noncomputable abbrev x3k : Fs → Option (AV × Mem) := fxRes Try.prog [.tmp 4, .tmp 5]
noncomputable def xj1 : Code := nav (bodyOf x16) []
noncomputable def x1at : Code := nav (bodyOf x16) [false]
noncomputable def xri : Code := nav (bodyOf x16) [true]
noncomputable def x1au : Code := nav (bodyOf x16) [true, false]
noncomputable def xrj : Code := nav (bodyOf x16) [true, true]
noncomputable def x1av : Code := nav (bodyOf x16) [true, true, false]
noncomputable def xj2 : Code := nav (bodyOf x16) [true, true, true]
noncomputable def xj3 : Code := nav (bodyOf x16) [true, true, true, false]
noncomputable def xrk : Code := nav (bodyOf x16) [true, true, true, true]
noncomputable def x1aw : Code := nav (bodyOf x16) [true, true, true, false, false]
noncomputable def xj4 : Code := nav (bodyOf x16) [true, true, true, false, true]
noncomputable def xj5 : Code := nav (bodyOf x16) [true, true, true, false, true, false]
noncomputable def xj6 : Code := nav (bodyOf x16) [true, true, true, false, true, false, false]
theorem x1ax (call : FCall) (hs : FHs) (u : Nat) :
  fxK Try.prog pol NN call xrk (AV × Mem) (x5p hs u) x3k eNil x3k = (fun s => x4j call hs u (s.sl 6) (s.sl 7) s.m s.fc) := by
  kernel_rfl
theorem x1ay (call : FCall) (hs : FHs) (u : Nat) (rec0 : AV → AV → AV → AV → AV → AV → Mem → Nat → Option (AV × Mem)) :
  fxK Try.prog pol NN call xj6 (AV × Mem) (x5p hs u) (fun s => rec0 (s.sl 1) (s.sl 6) (s.sl 7) (s.sl 23) (s.sl 24) (s.sl 25) s.m s.fc) (setE 0 (fun s => x4j call hs u (s.sl 6) (s.sl 7) s.m s.fc) eNil) x3k = (fun s => xaf call hs u rec0 (s.sl 1) (s.sl 6) (s.sl 7) (s.sl 23) (s.sl 24) (s.sl 25) s.m s.fc) := by
  kernel_rfl
theorem xrl (call : FCall) (hs : FHs) (u : Nat) : ∀ n : Nat,
  iter (fun rec => fxK Try.prog pol NN call xj6 (AV × Mem) (x5p hs u) rec (setE 0 (fun s => x4j call hs u (s.sl 6) (s.sl 7) s.m s.fc) eNil) x3k) n = (fun s => x4k call hs u n (s.sl 1) (s.sl 6) (s.sl 7) (s.sl 23) (s.sl 24) (s.sl 25) s.m s.fc)
  | 0 => rfl
  | n + 1 => by rw [iter_succ, xrl call hs u n, x1ay call hs u (x4k call hs u n)]; kernel_rfl
theorem x1az (call : FCall) (hs : FHs) (u : Nat) :
  fxK Try.prog pol NN call xj5 (AV × Mem) (x5p hs u) (fun s => x4j call hs u (s.sl 6) (s.sl 7) s.m s.fc) (setE 0 (fun s => x4j call hs u (s.sl 6) (s.sl 7) s.m s.fc) eNil) x3k = (fun s => x4k call hs u NN (s.sl 1) (s.sl 6) (s.sl 7) (s.sl 23) (s.sl 24) (s.sl 25) s.m s.fc) := by
  rw [show xj5 = .loop xj6 from by kernel_rfl, loop_r, xrl call hs u NN]
theorem x1b0 (call : FCall) (hs : FHs) (u : Nat) :
  fxK Try.prog pol NN call xj4 (AV × Mem) (x5p hs u) (fun s => x4j call hs u (s.sl 6) (s.sl 7) s.m s.fc) eNil x3k = (fun s => x4k call hs u NN (s.sl 1) (s.sl 6) (s.sl 7) (s.sl 23) (s.sl 24) (s.sl 25) s.m s.fc) := by
  rw [show xj4 = .block 0 xj5 from by kernel_rfl, block_r, x1az call hs u]
theorem x1b1 (call : FCall) (hs : FHs) (u : Nat) :
  fxK Try.prog pol NN call xj3 (AV × Mem) (x5p hs u) (fun s => x4j call hs u (s.sl 6) (s.sl 7) s.m s.fc) eNil x3k = (fun s => xag call hs u (s.sl 1) (s.sl 2) (s.sl 6) (s.sl 7) s.m s.fc) := by
  rw [show xj3 = .seq x1aw xj4 from by kernel_rfl, seq_r]; rw [x1b0 call hs u]; kernel_rfl
theorem x1b2 (call : FCall) (hs : FHs) (u : Nat) :
  fxK Try.prog pol NN call xj2 (AV × Mem) (x5p hs u) x3k eNil x3k = (fun s => xag call hs u (s.sl 1) (s.sl 2) (s.sl 6) (s.sl 7) s.m s.fc) := by
  rw [show xj2 = .seq xj3 xrk from by kernel_rfl, seq_r, x1ax call hs u, x1b1 call hs u]
theorem x1b3 (call : FCall) (hs : FHs) (u : Nat) :
  fxK Try.prog pol NN call xj1 (AV × Mem) (x5p hs u) x3k eNil x3k = (fun s => xcr call hs u (s.sl 0) (s.sl 1) s.m s.fc) := by
  rw [show xj1 = .seq x1at xri from by kernel_rfl, seq_r]; rw [show xri = .seq x1au xrj from by kernel_rfl, seq_r]; rw [show xrj = .seq x1av xj2 from by kernel_rfl, seq_r]; rw [x1b2 call hs u]; kernel_rfl
theorem x1b4 (call : FCall) (hs : FHs) (t0 t1 : AV) (m : Mem) : fxBody Try.prog pol NN call hs x16 [t0, t1] m = x75 call hs [t0, t1] m := by
  rw [fxBody_at (fn := Try.f88) (body := xj1) (nt := 76) (rs := [.tmp 4, .tmp 5]) (by kernel_rfl) (by kernel_rfl) (by kernel_rfl) (by kernel_rfl) (by kernel_rfl) (by kernel_rfl)]
  exact (congrFun (x1b3 call hs m.next) _).trans (by kernel_rfl)
theorem xv2 (call : FCall) (hs : FHs) (args : List AV) (m : Mem) (r : AV × Mem) (h : x75 call hs args m = some r) : fxBody Try.prog pol NN call hs x16 args m = some r := by
  unfold x75 at h
  split at h
  · rw [x1b4]; exact h
  · cases h

abbrev xbo (hs : FHs) (u : Nat) : FCtx := { f := x21, u := u, nt := 12, hs := hs }
noncomputable abbrev x6d : Fs → Option (AV × Mem) := fxRes Try.prog [.tmp 2]
noncomputable def xj7 : Code := nav (bodyOf x21) []
noncomputable def x1b5 : Code := nav (bodyOf x21) [false]
noncomputable def xrm : Code := nav (bodyOf x21) [true]
noncomputable def x1b6 : Code := nav (bodyOf x21) [true, false]
noncomputable def xj8 : Code := nav (bodyOf x21) [true, true]
noncomputable def xrn : Code := nav (bodyOf x21) [true, true, false]
noncomputable def xro : Code := nav (bodyOf x21) [true, true, true]
theorem x1b7 (call : FCall) (hs : FHs) (u : Nat) :
  fxK Try.prog pol NN call xro (AV × Mem) (xbo hs u) x6d eNil x6d = (fun s => xah call hs u (s.sl 0) s.m s.fc) := by
  kernel_rfl
theorem x1b8 (call : FCall) (hs : FHs) (u : Nat) :
  fxK Try.prog pol NN call xrn (AV × Mem) (xbo hs u) (fun s => xah call hs u (s.sl 0) s.m s.fc) eNil x6d = (fun s => xcs call hs u (s.sl 0) s.m s.fc) := by
  kernel_rfl
theorem x1b9 (call : FCall) (hs : FHs) (u : Nat) :
  fxK Try.prog pol NN call xj8 (AV × Mem) (xbo hs u) x6d eNil x6d = (fun s => xcs call hs u (s.sl 0) s.m s.fc) := by
  rw [show xj8 = .seq xrn xro from by kernel_rfl, seq_r, x1b7 call hs u, x1b8 call hs u]
theorem x1ba (call : FCall) (hs : FHs) (u : Nat) :
  fxK Try.prog pol NN call xj7 (AV × Mem) (xbo hs u) x6d eNil x6d = (fun s => xko call hs u (s.sl 0) s.m s.fc) := by
  rw [show xj7 = .seq x1b5 xrm from by kernel_rfl, seq_r]; rw [show xrm = .seq x1b6 xj8 from by kernel_rfl, seq_r]; rw [x1b9 call hs u]; kernel_rfl
theorem x1bb (call : FCall) (hs : FHs) (t0 : AV) (m : Mem) : fxBody Try.prog pol NN call hs x21 [t0] m = x84 call hs [t0] m := by
  rw [fxBody_at (fn := Try.f91) (body := xj7) (nt := 12) (rs := [.tmp 2]) (by kernel_rfl) (by kernel_rfl) (by kernel_rfl) (by kernel_rfl) (by kernel_rfl) (by kernel_rfl)]
  exact (congrFun (x1ba call hs m.next) _).trans (by kernel_rfl)
theorem xtr (call : FCall) (hs : FHs) (args : List AV) (m : Mem) (r : AV × Mem) (h : x84 call hs args m = some r) : fxBody Try.prog pol NN call hs x21 args m = some r := by
  unfold x84 at h
  split at h
  · rw [x1bb]; exact h
  · cases h

abbrev x3l (hs : FHs) (u : Nat) : FCtx := { f := xv, u := u, nt := 29, hs := hs }
noncomputable abbrev x27 : Fs → Option (AV × Mem) := fxRes Try.prog [.tmp 4]
noncomputable def xj9 : Code := nav (bodyOf xv) []
noncomputable def x1bc : Code := nav (bodyOf xv) [false]
noncomputable def xrp : Code := nav (bodyOf xv) [true]
noncomputable def x1bd : Code := nav (bodyOf xv) [true, false]
noncomputable def xja : Code := nav (bodyOf xv) [true, true]
noncomputable def xjb : Code := nav (bodyOf xv) [true, true, false]
noncomputable def xrq : Code := nav (bodyOf xv) [true, true, true]
noncomputable def x1be : Code := nav (bodyOf xv) [true, true, false, false]
noncomputable def xjc : Code := nav (bodyOf xv) [true, true, false, true]
noncomputable def xjd : Code := nav (bodyOf xv) [true, true, false, true, false]
noncomputable def xbp : Code := nav (bodyOf xv) [true, true, false, true, false, false]
noncomputable def x1bf : Code := nav (bodyOf xv) [true, true, false, true, false, false, false]
noncomputable def xrr : Code := nav (bodyOf xv) [true, true, false, true, false, false, true]
noncomputable def x1bg : Code := nav (bodyOf xv) [true, true, false, true, false, false, true, false]
noncomputable def xje : Code := nav (bodyOf xv) [true, true, false, true, false, false, true, true]
noncomputable def xrs : Code := nav (bodyOf xv) [true, true, false, true, false, false, true, true, false]
noncomputable def xrt : Code := nav (bodyOf xv) [true, true, false, true, false, false, true, true, true]
theorem x1bh (call : FCall) (hs : FHs) (u : Nat) :
  fxK Try.prog pol NN call xrq (AV × Mem) (x3l hs u) x27 eNil x27 = (fun s => x2z call hs u (s.sl 5) s.m s.fc) := by
  kernel_rfl
theorem x1bi (call : FCall) (hs : FHs) (u : Nat) (rec0 : AV → AV → AV → AV → AV → Mem → Nat → Option (AV × Mem)) :
  fxK Try.prog pol NN call xrt (AV × Mem) (x3l hs u) (fun s => rec0 (s.sl 1) (s.sl 5) (s.sl 10) (s.sl 11) (s.sl 12) s.m s.fc) (setE 0 (fun s => x2z call hs u (s.sl 5) s.m s.fc) eNil) x27 = (fun s => xai call hs u rec0 (s.sl 1) (s.sl 5) (s.sl 10) (s.sl 11) (s.sl 12) s.m s.fc) := by
  kernel_rfl
theorem x1bj (call : FCall) (hs : FHs) (u : Nat) (rec0 : AV → AV → AV → AV → AV → Mem → Nat → Option (AV × Mem)) :
  fxK Try.prog pol NN call xrs (AV × Mem) (x3l hs u) (fun s => xai call hs u rec0 (s.sl 1) (s.sl 5) (s.sl 10) (s.sl 11) (s.sl 12) s.m s.fc) (setE 0 (fun s => x2z call hs u (s.sl 5) s.m s.fc) eNil) x27 = (fun s => xct call hs u rec0 (s.sl 1) (s.sl 5) (s.sl 10) (s.sl 11) (s.sl 12) s.m s.fc) := by
  kernel_rfl
theorem x1bk (call : FCall) (hs : FHs) (u : Nat) (rec0 : AV → AV → AV → AV → AV → Mem → Nat → Option (AV × Mem)) :
  fxK Try.prog pol NN call xje (AV × Mem) (x3l hs u) (fun s => rec0 (s.sl 1) (s.sl 5) (s.sl 10) (s.sl 11) (s.sl 12) s.m s.fc) (setE 0 (fun s => x2z call hs u (s.sl 5) s.m s.fc) eNil) x27 = (fun s => xct call hs u rec0 (s.sl 1) (s.sl 5) (s.sl 10) (s.sl 11) (s.sl 12) s.m s.fc) := by
  rw [show xje = .seq xrs xrt from by kernel_rfl, seq_r, x1bi call hs u rec0, x1bj call hs u rec0]
theorem x1bl (call : FCall) (hs : FHs) (u : Nat) (rec0 : AV → AV → AV → AV → AV → Mem → Nat → Option (AV × Mem)) :
  fxK Try.prog pol NN call xbp (AV × Mem) (x3l hs u) (fun s => rec0 (s.sl 1) (s.sl 5) (s.sl 10) (s.sl 11) (s.sl 12) s.m s.fc) (setE 0 (fun s => x2z call hs u (s.sl 5) s.m s.fc) eNil) x27 = (fun s => xkp call hs u rec0 (s.sl 1) (s.sl 5) (s.sl 10) (s.sl 11) (s.sl 12) s.m s.fc) := by
  rw [show xbp = .seq x1bf xrr from by kernel_rfl, seq_r]; rw [show xrr = .seq x1bg xje from by kernel_rfl, seq_r]; rw [x1bk call hs u rec0]; kernel_rfl
theorem xru (call : FCall) (hs : FHs) (u : Nat) : ∀ n : Nat,
  iter (fun rec => fxK Try.prog pol NN call xbp (AV × Mem) (x3l hs u) rec (setE 0 (fun s => x2z call hs u (s.sl 5) s.m s.fc) eNil) x27) n = (fun s => x7n call hs u n (s.sl 1) (s.sl 5) (s.sl 10) (s.sl 11) (s.sl 12) s.m s.fc)
  | 0 => rfl
  | n + 1 => by rw [iter_succ, xru call hs u n, x1bl call hs u (x7n call hs u n)]; kernel_rfl
theorem x1bm (call : FCall) (hs : FHs) (u : Nat) :
  fxK Try.prog pol NN call xjd (AV × Mem) (x3l hs u) (fun s => x2z call hs u (s.sl 5) s.m s.fc) (setE 0 (fun s => x2z call hs u (s.sl 5) s.m s.fc) eNil) x27 = (fun s => x7n call hs u NN (s.sl 1) (s.sl 5) (s.sl 10) (s.sl 11) (s.sl 12) s.m s.fc) := by
  rw [show xjd = .loop xbp from by kernel_rfl, loop_r, xru call hs u NN]
theorem x1bn (call : FCall) (hs : FHs) (u : Nat) :
  fxK Try.prog pol NN call xjc (AV × Mem) (x3l hs u) (fun s => x2z call hs u (s.sl 5) s.m s.fc) eNil x27 = (fun s => x7n call hs u NN (s.sl 1) (s.sl 5) (s.sl 10) (s.sl 11) (s.sl 12) s.m s.fc) := by
  rw [show xjc = .block 0 xjd from by kernel_rfl, block_r, x1bm call hs u]
theorem x1bo (call : FCall) (hs : FHs) (u : Nat) :
  fxK Try.prog pol NN call xjb (AV × Mem) (x3l hs u) (fun s => x2z call hs u (s.sl 5) s.m s.fc) eNil x27 = (fun s => xcu call hs u (s.sl 1) (s.sl 2) (s.sl 5) s.m s.fc) := by
  rw [show xjb = .seq x1be xjc from by kernel_rfl, seq_r]; rw [x1bn call hs u]; kernel_rfl
theorem x1bp (call : FCall) (hs : FHs) (u : Nat) :
  fxK Try.prog pol NN call xja (AV × Mem) (x3l hs u) x27 eNil x27 = (fun s => xcu call hs u (s.sl 1) (s.sl 2) (s.sl 5) s.m s.fc) := by
  rw [show xja = .seq xjb xrq from by kernel_rfl, seq_r, x1bh call hs u, x1bo call hs u]
theorem x1bq (call : FCall) (hs : FHs) (u : Nat) :
  fxK Try.prog pol NN call xj9 (AV × Mem) (x3l hs u) x27 eNil x27 = (fun s => xkq call hs u (s.sl 0) (s.sl 1) s.m s.fc) := by
  rw [show xj9 = .seq x1bc xrp from by kernel_rfl, seq_r]; rw [show xrp = .seq x1bd xja from by kernel_rfl, seq_r]; rw [x1bp call hs u]; kernel_rfl
theorem x1br (call : FCall) (hs : FHs) (t0 t1 : AV) (m : Mem) : fxBody Try.prog pol NN call hs xv [t0, t1] m = x8m call hs [t0, t1] m := by
  rw [fxBody_at (fn := Try.f95) (body := xj9) (nt := 29) (rs := [.tmp 4]) (by kernel_rfl) (by kernel_rfl) (by kernel_rfl) (by kernel_rfl) (by kernel_rfl) (by kernel_rfl)]
  exact (congrFun (x1bq call hs m.next) _).trans (by kernel_rfl)
theorem xv3 (call : FCall) (hs : FHs) (args : List AV) (m : Mem) (r : AV × Mem) (h : x8m call hs args m = some r) : fxBody Try.prog pol NN call hs xv args m = some r := by
  unfold x8m at h
  split at h
  · rw [x1br]; exact h
  · cases h

abbrev x1bs (hs : FHs) (u : Nat) : FCtx := { f := x4z, u := u, nt := 19, hs := hs }
noncomputable abbrev xrv : Fs → Option (AV × Mem) := fxRes Try.prog [.tmp 4]
noncomputable def xrw : Code := nav (bodyOf x4z) []
theorem x1bt (call : FCall) (hs : FHs) (u : Nat) :
  fxK Try.prog pol NN call xrw (AV × Mem) (x1bs hs u) xrv eNil xrv = (fun s => xcv call hs u (s.sl 0) (s.sl 1) s.m s.fc) := by
  kernel_rfl
theorem x1bu (call : FCall) (hs : FHs) (t0 t1 : AV) (m : Mem) : fxBody Try.prog pol NN call hs x4z [t0, t1] m = x6i call hs [t0, t1] m := by
  rw [fxBody_at (fn := Try.f97) (body := xrw) (nt := 19) (rs := [.tmp 4]) (by kernel_rfl) (by kernel_rfl) (by kernel_rfl) (by kernel_rfl) (by kernel_rfl) (by kernel_rfl)]
  exact (congrFun (x1bt call hs m.next) _).trans (by kernel_rfl)
theorem xtt (call : FCall) (hs : FHs) (args : List AV) (m : Mem) (r : AV × Mem) (h : x6i call hs args m = some r) : fxBody Try.prog pol NN call hs x4z args m = some r := by
  unfold x6i at h
  split at h
  · rw [x1bu]; exact h
  · cases h

abbrev x1bv (hs : FHs) (u : Nat) : FCtx := { f := x54, u := u, nt := 19, hs := hs }
noncomputable abbrev xrx : Fs → Option (AV × Mem) := fxRes Try.prog [.tmp 4]
noncomputable def xry : Code := nav (bodyOf x54) []
theorem x1bw (call : FCall) (hs : FHs) (u : Nat) :
  fxK Try.prog pol NN call xry (AV × Mem) (x1bv hs u) xrx eNil xrx = (fun s => xcw call hs u (s.sl 0) (s.sl 1) s.m s.fc) := by
  kernel_rfl
theorem x1bx (call : FCall) (hs : FHs) (t0 t1 : AV) (m : Mem) : fxBody Try.prog pol NN call hs x54 [t0, t1] m = x76 call hs [t0, t1] m := by
  rw [fxBody_at (fn := Try.f100) (body := xry) (nt := 19) (rs := [.tmp 4]) (by kernel_rfl) (by kernel_rfl) (by kernel_rfl) (by kernel_rfl) (by kernel_rfl) (by kernel_rfl)]
  exact (congrFun (x1bw call hs m.next) _).trans (by kernel_rfl)
theorem xv4 (call : FCall) (hs : FHs) (args : List AV) (m : Mem) (r : AV × Mem) (h : x76 call hs args m = some r) : fxBody Try.prog pol NN call hs x54 args m = some r := by
  unfold x76 at h
  split at h
  · rw [x1bx]; exact h
  · cases h

abbrev x1by (hs : FHs) (u : Nat) : FCtx := { f := x64, u := u, nt := 15, hs := hs }
noncomputable abbrev xrz : Fs → Option (AV × Mem) := fxRes Try.prog [.tmp 3]
noncomputable def xs0 : Code := nav (bodyOf x64) []
theorem x1bz (call : FCall) (hs : FHs) (u : Nat) :
  fxK Try.prog pol NN call xs0 (AV × Mem) (x1by hs u) xrz eNil xrz = (fun s => xkr call hs u (s.sl 0) (s.sl 1) s.m s.fc) := by
  kernel_rfl
theorem x1c0 (call : FCall) (hs : FHs) (t0 t1 : AV) (m : Mem) : fxBody Try.prog pol NN call hs x64 [t0, t1] m = x8n call hs [t0, t1] m := by
  rw [fxBody_at (fn := Try.f101) (body := xs0) (nt := 15) (rs := [.tmp 3]) (by kernel_rfl) (by kernel_rfl) (by kernel_rfl) (by kernel_rfl) (by kernel_rfl) (by kernel_rfl)]
  exact (congrFun (x1bz call hs m.next) _).trans (by kernel_rfl)
theorem xv5 (call : FCall) (hs : FHs) (args : List AV) (m : Mem) (r : AV × Mem) (h : x8n call hs args m = some r) : fxBody Try.prog pol NN call hs x64 args m = some r := by
  unfold x8n at h
  split at h
  · rw [x1c0]; exact h
  · cases h

abbrev x5q (hs : FHs) (u : Nat) : FCtx := { f := x1b, u := u, nt := 62, hs := hs }
noncomputable abbrev x3m : Fs → Option (AV × Mem) := fxRes Try.prog [.tmp 2, .tmp 3]
noncomputable def xjf : Code := nav (bodyOf x1b) []
noncomputable def x1c1 : Code := nav (bodyOf x1b) [false]
noncomputable def xs1 : Code := nav (bodyOf x1b) [true]
noncomputable def x1c2 : Code := nav (bodyOf x1b) [true, false]
noncomputable def xjg : Code := nav (bodyOf x1b) [true, true]
noncomputable def xjh : Code := nav (bodyOf x1b) [true, true, false]
noncomputable def xs2 : Code := nav (bodyOf x1b) [true, true, true]
noncomputable def x1c3 : Code := nav (bodyOf x1b) [true, true, false, false]
noncomputable def xji : Code := nav (bodyOf x1b) [true, true, false, true]
noncomputable def xjj : Code := nav (bodyOf x1b) [true, true, false, true, false]
noncomputable def xjk : Code := nav (bodyOf x1b) [true, true, false, true, false, false]
theorem x1c4 (call : FCall) (hs : FHs) (u : Nat) :
  fxK Try.prog pol NN call xs2 (AV × Mem) (x5q hs u) x3m eNil x3m = (fun s => x4l call hs u s.m s.fc) := by
  kernel_rfl
theorem x1c5 (call : FCall) (hs : FHs) (u : Nat) (rec0 : AV → AV → AV → AV → Mem → Nat → Option (AV × Mem)) :
  fxK Try.prog pol NN call xjk (AV × Mem) (x5q hs u) (fun s => rec0 (s.sl 1) (s.sl 17) (s.sl 18) (s.sl 19) s.m s.fc) (setE 1 (fun s => x4l call hs u s.m s.fc) eNil) x3m = (fun s => xaj call hs u rec0 (s.sl 1) (s.sl 17) (s.sl 18) (s.sl 19) s.m s.fc) := by
  kernel_rfl
theorem xs3 (call : FCall) (hs : FHs) (u : Nat) : ∀ n : Nat,
  iter (fun rec => fxK Try.prog pol NN call xjk (AV × Mem) (x5q hs u) rec (setE 1 (fun s => x4l call hs u s.m s.fc) eNil) x3m) n = (fun s => x4m call hs u n (s.sl 1) (s.sl 17) (s.sl 18) (s.sl 19) s.m s.fc)
  | 0 => rfl
  | n + 1 => by rw [iter_succ, xs3 call hs u n, x1c5 call hs u (x4m call hs u n)]; kernel_rfl
theorem x1c6 (call : FCall) (hs : FHs) (u : Nat) :
  fxK Try.prog pol NN call xjj (AV × Mem) (x5q hs u) (fun s => x4l call hs u s.m s.fc) (setE 1 (fun s => x4l call hs u s.m s.fc) eNil) x3m = (fun s => x4m call hs u NN (s.sl 1) (s.sl 17) (s.sl 18) (s.sl 19) s.m s.fc) := by
  rw [show xjj = .loop xjk from by kernel_rfl, loop_r, xs3 call hs u NN]
theorem x1c7 (call : FCall) (hs : FHs) (u : Nat) :
  fxK Try.prog pol NN call xji (AV × Mem) (x5q hs u) (fun s => x4l call hs u s.m s.fc) eNil x3m = (fun s => x4m call hs u NN (s.sl 1) (s.sl 17) (s.sl 18) (s.sl 19) s.m s.fc) := by
  rw [show xji = .block 1 xjj from by kernel_rfl, block_r, x1c6 call hs u]
theorem x1c8 (call : FCall) (hs : FHs) (u : Nat) :
  fxK Try.prog pol NN call xjh (AV × Mem) (x5q hs u) (fun s => x4l call hs u s.m s.fc) eNil x3m = (fun s => xak call hs u (s.sl 1) s.m s.fc) := by
  rw [show xjh = .seq x1c3 xji from by kernel_rfl, seq_r]; rw [x1c7 call hs u]; kernel_rfl
theorem x1c9 (call : FCall) (hs : FHs) (u : Nat) :
  fxK Try.prog pol NN call xjg (AV × Mem) (x5q hs u) x3m eNil x3m = (fun s => xak call hs u (s.sl 1) s.m s.fc) := by
  rw [show xjg = .seq xjh xs2 from by kernel_rfl, seq_r, x1c4 call hs u, x1c8 call hs u]
theorem x1ca (call : FCall) (hs : FHs) (u : Nat) :
  fxK Try.prog pol NN call xjf (AV × Mem) (x5q hs u) x3m eNil x3m = (fun s => xcx call hs u (s.sl 0) s.m s.fc) := by
  rw [show xjf = .seq x1c1 xs1 from by kernel_rfl, seq_r]; rw [show xs1 = .seq x1c2 xjg from by kernel_rfl, seq_r]; rw [x1c9 call hs u]; kernel_rfl
theorem x1cb (call : FCall) (hs : FHs) (t0 : AV) (m : Mem) : fxBody Try.prog pol NN call hs x1b [t0] m = x77 call hs [t0] m := by
  rw [fxBody_at (fn := Try.f102) (body := xjf) (nt := 62) (rs := [.tmp 2, .tmp 3]) (by kernel_rfl) (by kernel_rfl) (by kernel_rfl) (by kernel_rfl) (by kernel_rfl) (by kernel_rfl)]
  exact (congrFun (x1ca call hs m.next) _).trans (by kernel_rfl)
theorem xv6 (call : FCall) (hs : FHs) (args : List AV) (m : Mem) (r : AV × Mem) (h : x77 call hs args m = some r) : fxBody Try.prog pol NN call hs x1b args m = some r := by
  unfold x77 at h
  split at h
  · rw [x1cb]; exact h
  · cases h

abbrev x1z (hs : FHs) (u : Nat) : FCtx := { f := xi, u := u, nt := 132, hs := hs }
noncomputable abbrev x1m : Fs → Option (AV × Mem) := fxRes Try.prog [.tmp 2]
noncomputable def xjl : Code := nav (bodyOf xi) []
noncomputable def x1cc : Code := nav (bodyOf xi) [false]
noncomputable def xs4 : Code := nav (bodyOf xi) [true]
noncomputable def x1cd : Code := nav (bodyOf xi) [true, false]
noncomputable def xjm : Code := nav (bodyOf xi) [true, true]
noncomputable def xjn : Code := nav (bodyOf xi) [true, true, false]
noncomputable def xs5 : Code := nav (bodyOf xi) [true, true, true]
noncomputable def x1ce : Code := nav (bodyOf xi) [true, true, false, false]
noncomputable def xjo : Code := nav (bodyOf xi) [true, true, false, true]
noncomputable def xjp : Code := nav (bodyOf xi) [true, true, false, true, false]
noncomputable def xbq : Code := nav (bodyOf xi) [true, true, false, true, false, false]
noncomputable def x1cf : Code := nav (bodyOf xi) [true, true, false, true, false, false, false]
noncomputable def xs6 : Code := nav (bodyOf xi) [true, true, false, true, false, false, true]
noncomputable def x1cg : Code := nav (bodyOf xi) [true, true, false, true, false, false, true, false]
noncomputable def xjq : Code := nav (bodyOf xi) [true, true, false, true, false, false, true, true]
noncomputable def xjr : Code := nav (bodyOf xi) [true, true, false, true, false, false, true, true, false]
noncomputable def xs7 : Code := nav (bodyOf xi) [true, true, false, true, false, false, true, true, true]
noncomputable def xjs : Code := nav (bodyOf xi) [true, true, false, true, false, false, true, true, false, false]
noncomputable def x1ch : Code := nav (bodyOf xi) [true, true, false, true, false, false, true, true, false, false, false]
noncomputable def xjt : Code := nav (bodyOf xi) [true, true, false, true, false, false, true, true, false, false, true]
noncomputable def xs8 : Code := nav (bodyOf xi) [true, true, false, true, false, false, true, true, false, false, true, false]
noncomputable def xs9 : Code := nav (bodyOf xi) [true, true, false, true, false, false, true, true, false, false, true, true]
theorem x1ci (call : FCall) (hs : FHs) (u : Nat) :
  fxK Try.prog pol NN call xs5 (AV × Mem) (x1z hs u) x1m eNil x1m = (fun s => x1r call hs u (s.sl 3) s.m s.fc) := by
  kernel_rfl
theorem x1cj (call : FCall) (hs : FHs) (u : Nat) (rec0 : AV → AV → AV → AV → Mem → Nat → Option (AV × Mem)) :
  fxK Try.prog pol NN call xs7 (AV × Mem) (x1z hs u) (fun s => rec0 (s.sl 3) (s.sl 28) (s.sl 29) (s.sl 30) s.m s.fc) (setE 0 (fun s => x1r call hs u (s.sl 3) s.m s.fc) eNil) x1m = (fun s => x30 call hs u rec0 (s.sl 3) (s.sl 28) (s.sl 29) (s.sl 30) s.m s.fc) := by
  kernel_rfl
theorem x1ck (call : FCall) (hs : FHs) (u : Nat) (rec0 : AV → AV → AV → AV → Mem → Nat → Option (AV × Mem)) :
  fxK Try.prog pol NN call xs9 (AV × Mem) (x1z hs u) (fun s => x30 call hs u rec0 (s.sl 3) (s.sl 28) (s.sl 29) (s.sl 30) s.m s.fc) (setE 1 (fun s => x30 call hs u rec0 (s.sl 3) (s.sl 28) (s.sl 29) (s.sl 30) s.m s.fc) (setE 0 (fun s => x1r call hs u (s.sl 3) s.m s.fc) eNil)) x1m = (fun s => x5d call hs u rec0 (s.sl 3) (s.sl 4) (s.sl 5) (s.sl 28) (s.sl 29) (s.sl 30) s.m s.fc) := by
  kernel_rfl
theorem x1cl (call : FCall) (hs : FHs) (u : Nat) (rec0 : AV → AV → AV → AV → Mem → Nat → Option (AV × Mem)) :
  fxK Try.prog pol NN call xs8 (AV × Mem) (x1z hs u) (fun s => x5d call hs u rec0 (s.sl 3) (s.sl 4) (s.sl 5) (s.sl 28) (s.sl 29) (s.sl 30) s.m s.fc) (setE 1 (fun s => x30 call hs u rec0 (s.sl 3) (s.sl 28) (s.sl 29) (s.sl 30) s.m s.fc) (setE 0 (fun s => x1r call hs u (s.sl 3) s.m s.fc) eNil)) x1m = (fun s => xal call hs u rec0 (s.sl 3) (s.sl 4) (s.sl 5) (s.sl 28) (s.sl 29) (s.sl 30) s.m s.fc) := by
  kernel_rfl
theorem x1cm (call : FCall) (hs : FHs) (u : Nat) (rec0 : AV → AV → AV → AV → Mem → Nat → Option (AV × Mem)) :
  fxK Try.prog pol NN call xjt (AV × Mem) (x1z hs u) (fun s => x30 call hs u rec0 (s.sl 3) (s.sl 28) (s.sl 29) (s.sl 30) s.m s.fc) (setE 1 (fun s => x30 call hs u rec0 (s.sl 3) (s.sl 28) (s.sl 29) (s.sl 30) s.m s.fc) (setE 0 (fun s => x1r call hs u (s.sl 3) s.m s.fc) eNil)) x1m = (fun s => xal call hs u rec0 (s.sl 3) (s.sl 4) (s.sl 5) (s.sl 28) (s.sl 29) (s.sl 30) s.m s.fc) := by
  rw [show xjt = .seq xs8 xs9 from by kernel_rfl, seq_r, x1ck call hs u rec0, x1cl call hs u rec0]
theorem x1cn (call : FCall) (hs : FHs) (u : Nat) (rec0 : AV → AV → AV → AV → Mem → Nat → Option (AV × Mem)) :
  fxK Try.prog pol NN call xjs (AV × Mem) (x1z hs u) (fun s => x30 call hs u rec0 (s.sl 3) (s.sl 28) (s.sl 29) (s.sl 30) s.m s.fc) (setE 1 (fun s => x30 call hs u rec0 (s.sl 3) (s.sl 28) (s.sl 29) (s.sl 30) s.m s.fc) (setE 0 (fun s => x1r call hs u (s.sl 3) s.m s.fc) eNil)) x1m = (fun s => x96 call hs u rec0 (s.sl 3) (s.sl 28) (s.sl 29) (s.sl 30) s.m s.fc) := by
  rw [show xjs = .seq x1ch xjt from by kernel_rfl, seq_r]; rw [x1cm call hs u rec0]; kernel_rfl
theorem x1co (call : FCall) (hs : FHs) (u : Nat) (rec0 : AV → AV → AV → AV → Mem → Nat → Option (AV × Mem)) :
  fxK Try.prog pol NN call xjr (AV × Mem) (x1z hs u) (fun s => x30 call hs u rec0 (s.sl 3) (s.sl 28) (s.sl 29) (s.sl 30) s.m s.fc) (setE 0 (fun s => x1r call hs u (s.sl 3) s.m s.fc) eNil) x1m = (fun s => x96 call hs u rec0 (s.sl 3) (s.sl 28) (s.sl 29) (s.sl 30) s.m s.fc) := by
  rw [show xjr = .block 1 xjs from by kernel_rfl, block_r, x1cn call hs u rec0]
theorem x1cp (call : FCall) (hs : FHs) (u : Nat) (rec0 : AV → AV → AV → AV → Mem → Nat → Option (AV × Mem)) :
  fxK Try.prog pol NN call xjq (AV × Mem) (x1z hs u) (fun s => rec0 (s.sl 3) (s.sl 28) (s.sl 29) (s.sl 30) s.m s.fc) (setE 0 (fun s => x1r call hs u (s.sl 3) s.m s.fc) eNil) x1m = (fun s => x96 call hs u rec0 (s.sl 3) (s.sl 28) (s.sl 29) (s.sl 30) s.m s.fc) := by
  rw [show xjq = .seq xjr xs7 from by kernel_rfl, seq_r, x1cj call hs u rec0, x1co call hs u rec0]
theorem x1cq (call : FCall) (hs : FHs) (u : Nat) (rec0 : AV → AV → AV → AV → Mem → Nat → Option (AV × Mem)) :
  fxK Try.prog pol NN call xbq (AV × Mem) (x1z hs u) (fun s => rec0 (s.sl 3) (s.sl 28) (s.sl 29) (s.sl 30) s.m s.fc) (setE 0 (fun s => x1r call hs u (s.sl 3) s.m s.fc) eNil) x1m = (fun s => xam call hs u rec0 (s.sl 3) (s.sl 28) (s.sl 29) (s.sl 30) s.m s.fc) := by
  rw [show xbq = .seq x1cf xs6 from by kernel_rfl, seq_r]; rw [show xs6 = .seq x1cg xjq from by kernel_rfl, seq_r]; rw [x1cp call hs u rec0]; kernel_rfl
theorem xsa (call : FCall) (hs : FHs) (u : Nat) : ∀ n : Nat,
  iter (fun rec => fxK Try.prog pol NN call xbq (AV × Mem) (x1z hs u) rec (setE 0 (fun s => x1r call hs u (s.sl 3) s.m s.fc) eNil) x1m) n = (fun s => x31 call hs u n (s.sl 3) (s.sl 28) (s.sl 29) (s.sl 30) s.m s.fc)
  | 0 => rfl
  | n + 1 => by rw [iter_succ, xsa call hs u n, x1cq call hs u (x31 call hs u n)]; kernel_rfl
theorem x1cr (call : FCall) (hs : FHs) (u : Nat) :
  fxK Try.prog pol NN call xjp (AV × Mem) (x1z hs u) (fun s => x1r call hs u (s.sl 3) s.m s.fc) (setE 0 (fun s => x1r call hs u (s.sl 3) s.m s.fc) eNil) x1m = (fun s => x31 call hs u NN (s.sl 3) (s.sl 28) (s.sl 29) (s.sl 30) s.m s.fc) := by
  rw [show xjp = .loop xbq from by kernel_rfl, loop_r, xsa call hs u NN]
theorem x1cs (call : FCall) (hs : FHs) (u : Nat) :
  fxK Try.prog pol NN call xjo (AV × Mem) (x1z hs u) (fun s => x1r call hs u (s.sl 3) s.m s.fc) eNil x1m = (fun s => x31 call hs u NN (s.sl 3) (s.sl 28) (s.sl 29) (s.sl 30) s.m s.fc) := by
  rw [show xjo = .block 0 xjp from by kernel_rfl, block_r, x1cr call hs u]
theorem x1ct (call : FCall) (hs : FHs) (u : Nat) :
  fxK Try.prog pol NN call xjn (AV × Mem) (x1z hs u) (fun s => x1r call hs u (s.sl 3) s.m s.fc) eNil x1m = (fun s => xan call hs u (s.sl 1) (s.sl 3) s.m s.fc) := by
  rw [show xjn = .seq x1ce xjo from by kernel_rfl, seq_r]; rw [x1cs call hs u]; kernel_rfl
theorem x1cu (call : FCall) (hs : FHs) (u : Nat) :
  fxK Try.prog pol NN call xjm (AV × Mem) (x1z hs u) x1m eNil x1m = (fun s => xan call hs u (s.sl 1) (s.sl 3) s.m s.fc) := by
  rw [show xjm = .seq xjn xs5 from by kernel_rfl, seq_r, x1ci call hs u, x1ct call hs u]
theorem x1cv (call : FCall) (hs : FHs) (u : Nat) :
  fxK Try.prog pol NN call xjl (AV × Mem) (x1z hs u) x1m eNil x1m = (fun s => xcy call hs u (s.sl 0) s.m s.fc) := by
  rw [show xjl = .seq x1cc xs4 from by kernel_rfl, seq_r]; rw [show xs4 = .seq x1cd xjm from by kernel_rfl, seq_r]; rw [x1cu call hs u]; kernel_rfl
theorem x1cw (call : FCall) (hs : FHs) (t0 : AV) (m : Mem) : fxBody Try.prog pol NN call hs xi [t0] m = x78 call hs [t0] m := by
  rw [fxBody_at (fn := Try.f103) (body := xjl) (nt := 132) (rs := [.tmp 2]) (by kernel_rfl) (by kernel_rfl) (by kernel_rfl) (by kernel_rfl) (by kernel_rfl) (by kernel_rfl)]
  exact (congrFun (x1cv call hs m.next) _).trans (by kernel_rfl)
theorem xv7 (call : FCall) (hs : FHs) (args : List AV) (m : Mem) (r : AV × Mem) (h : x78 call hs args m = some r) : fxBody Try.prog pol NN call hs xi args m = some r := by
  unfold x78 at h
  split at h
  · rw [x1cw]; exact h
  · cases h

abbrev x5r (hs : FHs) (u : Nat) : FCtx := { f := x19, u := u, nt := 19, hs := hs }
noncomputable abbrev x3n : Fs → Option (AV × Mem) := fxRes Try.prog [.tmp 4]
noncomputable def xju : Code := nav (bodyOf x19) []
noncomputable def x1cx : Code := nav (bodyOf x19) [false]
noncomputable def xjv : Code := nav (bodyOf x19) [true]
noncomputable def xjw : Code := nav (bodyOf x19) [true, false]
noncomputable def xsb : Code := nav (bodyOf x19) [true, true]
noncomputable def x1cy : Code := nav (bodyOf x19) [true, false, false]
noncomputable def xjx : Code := nav (bodyOf x19) [true, false, true]
noncomputable def xjy : Code := nav (bodyOf x19) [true, false, true, false]
noncomputable def xjz : Code := nav (bodyOf x19) [true, false, true, false, false]
theorem x1cz (call : FCall) (hs : FHs) (u : Nat) :
  fxK Try.prog pol NN call xsb (AV × Mem) (x5r hs u) x3n eNil x3n = (fun s => x32 call hs u s.m s.fc) := by
  kernel_rfl
theorem x1d0 (call : FCall) (hs : FHs) (u : Nat) (rec0 : AV → AV → AV → AV → Mem → Nat → Option (AV × Mem)) :
  fxK Try.prog pol NN call xjz (AV × Mem) (x5r hs u) (fun s => rec0 (s.sl 0) (s.sl 1) (s.sl 7) (s.sl 8) s.m s.fc) (setE 0 (fun s => x32 call hs u s.m s.fc) eNil) x3n = (fun s => x4n call hs u rec0 (s.sl 0) (s.sl 1) (s.sl 7) (s.sl 8) s.m s.fc) := by
  kernel_rfl
theorem xsc (call : FCall) (hs : FHs) (u : Nat) : ∀ n : Nat,
  iter (fun rec => fxK Try.prog pol NN call xjz (AV × Mem) (x5r hs u) rec (setE 0 (fun s => x32 call hs u s.m s.fc) eNil) x3n) n = (fun s => x1s call hs u n (s.sl 0) (s.sl 1) (s.sl 7) (s.sl 8) s.m s.fc)
  | 0 => rfl
  | n + 1 => by rw [iter_succ, xsc call hs u n, x1d0 call hs u (x1s call hs u n)]; kernel_rfl
theorem x1d1 (call : FCall) (hs : FHs) (u : Nat) :
  fxK Try.prog pol NN call xjy (AV × Mem) (x5r hs u) (fun s => x32 call hs u s.m s.fc) (setE 0 (fun s => x32 call hs u s.m s.fc) eNil) x3n = (fun s => x1s call hs u NN (s.sl 0) (s.sl 1) (s.sl 7) (s.sl 8) s.m s.fc) := by
  rw [show xjy = .loop xjz from by kernel_rfl, loop_r, xsc call hs u NN]
theorem x1d2 (call : FCall) (hs : FHs) (u : Nat) :
  fxK Try.prog pol NN call xjx (AV × Mem) (x5r hs u) (fun s => x32 call hs u s.m s.fc) eNil x3n = (fun s => x1s call hs u NN (s.sl 0) (s.sl 1) (s.sl 7) (s.sl 8) s.m s.fc) := by
  rw [show xjx = .block 0 xjy from by kernel_rfl, block_r, x1d1 call hs u]
theorem x1d3 (call : FCall) (hs : FHs) (u : Nat) :
  fxK Try.prog pol NN call xjw (AV × Mem) (x5r hs u) (fun s => x32 call hs u s.m s.fc) eNil x3n = (fun s => x7o call hs u (s.sl 0) (s.sl 1) s.m s.fc) := by
  rw [show xjw = .seq x1cy xjx from by kernel_rfl, seq_r]; rw [x1d2 call hs u]; kernel_rfl
theorem x1d4 (call : FCall) (hs : FHs) (u : Nat) :
  fxK Try.prog pol NN call xjv (AV × Mem) (x5r hs u) x3n eNil x3n = (fun s => x7o call hs u (s.sl 0) (s.sl 1) s.m s.fc) := by
  rw [show xjv = .seq xjw xsb from by kernel_rfl, seq_r, x1cz call hs u, x1d3 call hs u]
theorem x1d5 (call : FCall) (hs : FHs) (u : Nat) :
  fxK Try.prog pol NN call xju (AV × Mem) (x5r hs u) x3n eNil x3n = (fun s => x97 call hs u (s.sl 0) (s.sl 1) s.m s.fc) := by
  rw [show xju = .seq x1cx xjv from by kernel_rfl, seq_r]; rw [x1d4 call hs u]; kernel_rfl
theorem x1d6 (call : FCall) (hs : FHs) (t0 t1 : AV) (m : Mem) : fxBody Try.prog pol NN call hs x19 [t0, t1] m = x51 call hs [t0, t1] m := by
  rw [fxBody_at (fn := Try.f104) (body := xju) (nt := 19) (rs := [.tmp 4]) (by kernel_rfl) (by kernel_rfl) (by kernel_rfl) (by kernel_rfl) (by kernel_rfl) (by kernel_rfl)]
  exact (congrFun (x1d5 call hs m.next) _).trans (by kernel_rfl)
theorem xtv (call : FCall) (hs : FHs) (args : List AV) (m : Mem) (r : AV × Mem) (h : x51 call hs args m = some r) : fxBody Try.prog pol NN call hs x19 args m = some r := by
  unfold x51 at h
  split at h
  · rw [x1d6]; exact h
  · cases h

abbrev x1d7 (hs : FHs) (u : Nat) : FCtx := { f := x2r, u := u, nt := 5, hs := hs }
noncomputable abbrev xsd : Fs → Option (AV × Mem) := fxRes Try.prog [.tmp 2]
noncomputable def xse : Code := nav (bodyOf x2r) []
theorem x1d8 (call : FCall) (hs : FHs) (u : Nat) :
  fxK Try.prog pol NN call xse (AV × Mem) (x1d7 hs u) xsd eNil xsd = (fun s => xcz call hs u (s.sl 0) s.m s.fc) := by
  kernel_rfl
theorem x1d9 (call : FCall) (hs : FHs) (t0 : AV) (m : Mem) : fxBody Try.prog pol NN call hs x2r [t0] m = x6k call hs [t0] m := by
  rw [fxBody_at (fn := Try.f105) (body := xse) (nt := 5) (rs := [.tmp 2]) (by kernel_rfl) (by kernel_rfl) (by kernel_rfl) (by kernel_rfl) (by kernel_rfl) (by kernel_rfl)]
  exact (congrFun (x1d8 call hs m.next) _).trans (by kernel_rfl)
theorem xtw (call : FCall) (hs : FHs) (args : List AV) (m : Mem) (r : AV × Mem) (h : x6k call hs args m = some r) : fxBody Try.prog pol NN call hs x2r args m = some r := by
  unfold x6k at h
  split at h
  · rw [x1d9]; exact h
  · cases h

end Go.Ix
