/- MADE BY PROGRAM (gen.py). What the code does, block by block. -/
import Derived.Test.YtljibmnhhdiakaaFxText0
import Derived.Test.YtljibmnhhdiakaaFxText1
import Derived.Test.YtljibmnhhdiakaaFxRules
import Derived.ProofKit
set_option linter.unusedVariables false
namespace Go.Ix
open Go.Proofs

/- (swath/unwrap.net).parts -/
abbrev x3n (hs : FHs) (u : Nat) : FCtx := { f := xz, u := u, nt := 53, hs := hs }
noncomputable abbrev x2m : Fs → Option (AV × Mem) := fxRes Try.prog [.tmp 2]
noncomputable def xhn : Code := nav (bodyOf xz) []
noncomputable def x15w : Code := nav (bodyOf xz) [false]
noncomputable def xrv : Code := nav (bodyOf xz) [true]
noncomputable def x15x : Code := nav (bodyOf xz) [true, false]
noncomputable def xho : Code := nav (bodyOf xz) [true, true]
noncomputable def xhp : Code := nav (bodyOf xz) [true, true, false]
noncomputable def xrw : Code := nav (bodyOf xz) [true, true, true]
noncomputable def x15y : Code := nav (bodyOf xz) [true, true, false, false]
noncomputable def xhq : Code := nav (bodyOf xz) [true, true, false, true]
noncomputable def xhr : Code := nav (bodyOf xz) [true, true, false, true, false]
noncomputable def xee : Code := nav (bodyOf xz) [true, true, false, true, false, false]
noncomputable def x15z : Code := nav (bodyOf xz) [true, true, false, true, false, false, false]
noncomputable def xrx : Code := nav (bodyOf xz) [true, true, false, true, false, false, true]
noncomputable def x160 : Code := nav (bodyOf xz) [true, true, false, true, false, false, true, false]
noncomputable def xhs : Code := nav (bodyOf xz) [true, true, false, true, false, false, true, true]
noncomputable def xry : Code := nav (bodyOf xz) [true, true, false, true, false, false, true, true, false]
noncomputable def xrz : Code := nav (bodyOf xz) [true, true, false, true, false, false, true, true, true]
theorem x161 (call : FCall) (hs : FHs) (u : Nat) :
  fxK Try.prog pol NN call xrw (AV × Mem) (x3n hs u) x2m eNil x2m = (fun s => x3i call hs u (s.sl 1) (s.sl 3) s.m s.fc) := by
  kernel_rfl
theorem x162 (call : FCall) (hs : FHs) (u : Nat) (rec0 : AV → AV → AV → AV → AV → Mem → Nat → Option (AV × Mem)) :
  fxK Try.prog pol NN call xrz (AV × Mem) (x3n hs u) (fun s => rec0 (s.sl 1) (s.sl 3) (s.sl 12) (s.sl 13) (s.sl 14) s.m s.fc) (setE 0 (fun s => x3i call hs u (s.sl 1) (s.sl 3) s.m s.fc) eNil) x2m = (fun s => xdp call hs u rec0 (s.sl 1) (s.sl 3) (s.sl 12) (s.sl 13) (s.sl 14) s.m s.fc) := by
  kernel_rfl
theorem x163 (call : FCall) (hs : FHs) (u : Nat) (rec0 : AV → AV → AV → AV → AV → Mem → Nat → Option (AV × Mem)) :
  fxK Try.prog pol NN call xry (AV × Mem) (x3n hs u) (fun s => xdp call hs u rec0 (s.sl 1) (s.sl 3) (s.sl 12) (s.sl 13) (s.sl 14) s.m s.fc) (setE 0 (fun s => x3i call hs u (s.sl 1) (s.sl 3) s.m s.fc) eNil) x2m = (fun s => xgf call hs u rec0 (s.sl 1) (s.sl 3) (s.sl 12) (s.sl 13) (s.sl 14) s.m s.fc) := by
  kernel_rfl
theorem x164 (call : FCall) (hs : FHs) (u : Nat) (rec0 : AV → AV → AV → AV → AV → Mem → Nat → Option (AV × Mem)) :
  fxK Try.prog pol NN call xhs (AV × Mem) (x3n hs u) (fun s => rec0 (s.sl 1) (s.sl 3) (s.sl 12) (s.sl 13) (s.sl 14) s.m s.fc) (setE 0 (fun s => x3i call hs u (s.sl 1) (s.sl 3) s.m s.fc) eNil) x2m = (fun s => xgf call hs u rec0 (s.sl 1) (s.sl 3) (s.sl 12) (s.sl 13) (s.sl 14) s.m s.fc) := by
  rw [show xhs = .seq xry xrz from by kernel_rfl, seq_r, x162 call hs u rec0, x163 call hs u rec0]
theorem x165 (call : FCall) (hs : FHs) (u : Nat) (rec0 : AV → AV → AV → AV → AV → Mem → Nat → Option (AV × Mem)) :
  fxK Try.prog pol NN call xee (AV × Mem) (x3n hs u) (fun s => rec0 (s.sl 1) (s.sl 3) (s.sl 12) (s.sl 13) (s.sl 14) s.m s.fc) (setE 0 (fun s => x3i call hs u (s.sl 1) (s.sl 3) s.m s.fc) eNil) x2m = (fun s => xqw call hs u rec0 (s.sl 1) (s.sl 3) (s.sl 12) (s.sl 13) (s.sl 14) s.m s.fc) := by
  rw [show xee = .seq x15z xrx from by kernel_rfl, seq_r]; rw [show xrx = .seq x160 xhs from by kernel_rfl, seq_r]; rw [x164 call hs u rec0]; kernel_rfl
theorem xs0 (call : FCall) (hs : FHs) (u : Nat) : ∀ n : Nat,
  iter (fun rec => fxK Try.prog pol NN call xee (AV × Mem) (x3n hs u) rec (setE 0 (fun s => x3i call hs u (s.sl 1) (s.sl 3) s.m s.fc) eNil) x2m) n = (fun s => xa0 call hs u n (s.sl 1) (s.sl 3) (s.sl 12) (s.sl 13) (s.sl 14) s.m s.fc)
  | 0 => rfl
  | n + 1 => by rw [iter_succ, xs0 call hs u n, x165 call hs u (xa0 call hs u n)]; kernel_rfl
theorem x166 (call : FCall) (hs : FHs) (u : Nat) :
  fxK Try.prog pol NN call xhr (AV × Mem) (x3n hs u) (fun s => x3i call hs u (s.sl 1) (s.sl 3) s.m s.fc) (setE 0 (fun s => x3i call hs u (s.sl 1) (s.sl 3) s.m s.fc) eNil) x2m = (fun s => xa0 call hs u NN (s.sl 1) (s.sl 3) (s.sl 12) (s.sl 13) (s.sl 14) s.m s.fc) := by
  rw [show xhr = .loop xee from by kernel_rfl, loop_r, xs0 call hs u NN]
theorem x167 (call : FCall) (hs : FHs) (u : Nat) :
  fxK Try.prog pol NN call xhq (AV × Mem) (x3n hs u) (fun s => x3i call hs u (s.sl 1) (s.sl 3) s.m s.fc) eNil x2m = (fun s => xa0 call hs u NN (s.sl 1) (s.sl 3) (s.sl 12) (s.sl 13) (s.sl 14) s.m s.fc) := by
  rw [show xhq = .block 0 xhr from by kernel_rfl, block_r, x166 call hs u]
theorem x168 (call : FCall) (hs : FHs) (u : Nat) :
  fxK Try.prog pol NN call xhp (AV × Mem) (x3n hs u) (fun s => x3i call hs u (s.sl 1) (s.sl 3) s.m s.fc) eNil x2m = (fun s => xgg call hs u (s.sl 1) (s.sl 3) s.m s.fc) := by
  rw [show xhp = .seq x15y xhq from by kernel_rfl, seq_r]; rw [x167 call hs u]; kernel_rfl
theorem x169 (call : FCall) (hs : FHs) (u : Nat) :
  fxK Try.prog pol NN call xho (AV × Mem) (x3n hs u) x2m eNil x2m = (fun s => xgg call hs u (s.sl 1) (s.sl 3) s.m s.fc) := by
  rw [show xho = .seq xhp xrw from by kernel_rfl, seq_r, x161 call hs u, x168 call hs u]
theorem x16a (call : FCall) (hs : FHs) (u : Nat) :
  fxK Try.prog pol NN call xhn (AV × Mem) (x3n hs u) x2m eNil x2m = (fun s => xqx call hs u (s.sl 0) s.m s.fc) := by
  rw [show xhn = .seq x15w xrv from by kernel_rfl, seq_r]; rw [show xrv = .seq x15x xho from by kernel_rfl, seq_r]; rw [x169 call hs u]; kernel_rfl
theorem x16b (call : FCall) (hs : FHs) (t0 : AV) (m : Mem) : fxBody Try.prog pol NN call hs xz [t0] m = xb4 call hs [t0] m := by
  rw [fxBody_at (fn := Try.f79) (body := xhn) (nt := 53) (rs := [.tmp 2]) (by kernel_rfl) (by kernel_rfl) (by kernel_rfl) (by kernel_rfl) (by kernel_rfl) (by kernel_rfl)]
  exact (congrFun (x16a call hs m.next) _).trans (by kernel_rfl)
theorem x14y (call : FCall) (hs : FHs) (args : List AV) (m : Mem) (r : AV × Mem) (h : xb4 call hs args m = some r) : fxBody Try.prog pol NN call hs xz args m = some r := by
  unfold xb4 at h
  split at h
  · rw [x16b]; exact h
  · cases h

/- (*swath/unwrap.solver).most -/
abbrev x3o (hs : FHs) (u : Nat) : FCtx := { f := xv, u := u, nt := 47, hs := hs }
noncomputable abbrev x2n : Fs → Option (AV × Mem) := fxRes Try.prog [.tmp 4]
noncomputable def xht : Code := nav (bodyOf xv) []
noncomputable def x16c : Code := nav (bodyOf xv) [false]
noncomputable def xs1 : Code := nav (bodyOf xv) [true]
noncomputable def x16d : Code := nav (bodyOf xv) [true, false]
noncomputable def xhu : Code := nav (bodyOf xv) [true, true]
noncomputable def xhv : Code := nav (bodyOf xv) [true, true, false]
noncomputable def xs2 : Code := nav (bodyOf xv) [true, true, true]
noncomputable def x16e : Code := nav (bodyOf xv) [true, true, false, false]
noncomputable def xhw : Code := nav (bodyOf xv) [true, true, false, true]
noncomputable def xhx : Code := nav (bodyOf xv) [true, true, false, true, false]
noncomputable def xef : Code := nav (bodyOf xv) [true, true, false, true, false, false]
noncomputable def x16f : Code := nav (bodyOf xv) [true, true, false, true, false, false, false]
noncomputable def xs3 : Code := nav (bodyOf xv) [true, true, false, true, false, false, true]
noncomputable def x16g : Code := nav (bodyOf xv) [true, true, false, true, false, false, true, false]
noncomputable def xhy : Code := nav (bodyOf xv) [true, true, false, true, false, false, true, true]
noncomputable def xs4 : Code := nav (bodyOf xv) [true, true, false, true, false, false, true, true, false]
noncomputable def xs5 : Code := nav (bodyOf xv) [true, true, false, true, false, false, true, true, true]
theorem x16h (call : FCall) (hs : FHs) (u : Nat) :
  fxK Try.prog pol NN call xs2 (AV × Mem) (x3o hs u) x2n eNil x2n = (fun s => x3j call hs u (s.sl 5) s.m s.fc) := by
  kernel_rfl
theorem x16i (call : FCall) (hs : FHs) (u : Nat) (rec0 : AV → AV → AV → AV → AV → Mem → Nat → Option (AV × Mem)) :
  fxK Try.prog pol NN call xs5 (AV × Mem) (x3o hs u) (fun s => rec0 (s.sl 0) (s.sl 1) (s.sl 5) (s.sl 12) (s.sl 13) s.m s.fc) (setE 0 (fun s => x3j call hs u (s.sl 5) s.m s.fc) eNil) x2n = (fun s => xdq call hs u rec0 (s.sl 0) (s.sl 1) (s.sl 5) (s.sl 12) (s.sl 13) s.m s.fc) := by
  kernel_rfl
theorem x16j (call : FCall) (hs : FHs) (u : Nat) (rec0 : AV → AV → AV → AV → AV → Mem → Nat → Option (AV × Mem)) :
  fxK Try.prog pol NN call xs4 (AV × Mem) (x3o hs u) (fun s => xdq call hs u rec0 (s.sl 0) (s.sl 1) (s.sl 5) (s.sl 12) (s.sl 13) s.m s.fc) (setE 0 (fun s => x3j call hs u (s.sl 5) s.m s.fc) eNil) x2n = (fun s => xgh call hs u rec0 (s.sl 0) (s.sl 1) (s.sl 5) (s.sl 12) (s.sl 13) s.m s.fc) := by
  kernel_rfl
theorem x16k (call : FCall) (hs : FHs) (u : Nat) (rec0 : AV → AV → AV → AV → AV → Mem → Nat → Option (AV × Mem)) :
  fxK Try.prog pol NN call xhy (AV × Mem) (x3o hs u) (fun s => rec0 (s.sl 0) (s.sl 1) (s.sl 5) (s.sl 12) (s.sl 13) s.m s.fc) (setE 0 (fun s => x3j call hs u (s.sl 5) s.m s.fc) eNil) x2n = (fun s => xgh call hs u rec0 (s.sl 0) (s.sl 1) (s.sl 5) (s.sl 12) (s.sl 13) s.m s.fc) := by
  rw [show xhy = .seq xs4 xs5 from by kernel_rfl, seq_r, x16i call hs u rec0, x16j call hs u rec0]
theorem x16l (call : FCall) (hs : FHs) (u : Nat) (rec0 : AV → AV → AV → AV → AV → Mem → Nat → Option (AV × Mem)) :
  fxK Try.prog pol NN call xef (AV × Mem) (x3o hs u) (fun s => rec0 (s.sl 0) (s.sl 1) (s.sl 5) (s.sl 12) (s.sl 13) s.m s.fc) (setE 0 (fun s => x3j call hs u (s.sl 5) s.m s.fc) eNil) x2n = (fun s => xqz call hs u rec0 (s.sl 0) (s.sl 1) (s.sl 5) (s.sl 12) (s.sl 13) s.m s.fc) := by
  rw [show xef = .seq x16f xs3 from by kernel_rfl, seq_r]; rw [show xs3 = .seq x16g xhy from by kernel_rfl, seq_r]; rw [x16k call hs u rec0]; kernel_rfl
theorem xs6 (call : FCall) (hs : FHs) (u : Nat) : ∀ n : Nat,
  iter (fun rec => fxK Try.prog pol NN call xef (AV × Mem) (x3o hs u) rec (setE 0 (fun s => x3j call hs u (s.sl 5) s.m s.fc) eNil) x2n) n = (fun s => xa1 call hs u n (s.sl 0) (s.sl 1) (s.sl 5) (s.sl 12) (s.sl 13) s.m s.fc)
  | 0 => rfl
  | n + 1 => by rw [iter_succ, xs6 call hs u n, x16l call hs u (xa1 call hs u n)]; kernel_rfl
theorem x16m (call : FCall) (hs : FHs) (u : Nat) :
  fxK Try.prog pol NN call xhx (AV × Mem) (x3o hs u) (fun s => x3j call hs u (s.sl 5) s.m s.fc) (setE 0 (fun s => x3j call hs u (s.sl 5) s.m s.fc) eNil) x2n = (fun s => xa1 call hs u NN (s.sl 0) (s.sl 1) (s.sl 5) (s.sl 12) (s.sl 13) s.m s.fc) := by
  rw [show xhx = .loop xef from by kernel_rfl, loop_r, xs6 call hs u NN]
theorem x16n (call : FCall) (hs : FHs) (u : Nat) :
  fxK Try.prog pol NN call xhw (AV × Mem) (x3o hs u) (fun s => x3j call hs u (s.sl 5) s.m s.fc) eNil x2n = (fun s => xa1 call hs u NN (s.sl 0) (s.sl 1) (s.sl 5) (s.sl 12) (s.sl 13) s.m s.fc) := by
  rw [show xhw = .block 0 xhx from by kernel_rfl, block_r, x16m call hs u]
theorem x16o (call : FCall) (hs : FHs) (u : Nat) :
  fxK Try.prog pol NN call xhv (AV × Mem) (x3o hs u) (fun s => x3j call hs u (s.sl 5) s.m s.fc) eNil x2n = (fun s => xgi call hs u (s.sl 0) (s.sl 1) (s.sl 5) s.m s.fc) := by
  rw [show xhv = .seq x16e xhw from by kernel_rfl, seq_r]; rw [x16n call hs u]; kernel_rfl
theorem x16p (call : FCall) (hs : FHs) (u : Nat) :
  fxK Try.prog pol NN call xhu (AV × Mem) (x3o hs u) x2n eNil x2n = (fun s => xgi call hs u (s.sl 0) (s.sl 1) (s.sl 5) s.m s.fc) := by
  rw [show xhu = .seq xhv xs2 from by kernel_rfl, seq_r, x16h call hs u, x16o call hs u]
theorem x16q (call : FCall) (hs : FHs) (u : Nat) :
  fxK Try.prog pol NN call xht (AV × Mem) (x3o hs u) x2n eNil x2n = (fun s => xr0 call hs u (s.sl 0) (s.sl 1) s.m s.fc) := by
  rw [show xht = .seq x16c xs1 from by kernel_rfl, seq_r]; rw [show xs1 = .seq x16d xhu from by kernel_rfl, seq_r]; rw [x16p call hs u]; kernel_rfl
theorem x16r (call : FCall) (hs : FHs) (t0 t1 : AV) (m : Mem) : fxBody Try.prog pol NN call hs xv [t0, t1] m = xb5 call hs [t0, t1] m := by
  rw [fxBody_at (fn := Try.f80) (body := xht) (nt := 47) (rs := [.tmp 4]) (by kernel_rfl) (by kernel_rfl) (by kernel_rfl) (by kernel_rfl) (by kernel_rfl) (by kernel_rfl)]
  exact (congrFun (x16q call hs m.next) _).trans (by kernel_rfl)
theorem x14z (call : FCall) (hs : FHs) (args : List AV) (m : Mem) (r : AV × Mem) (h : xb5 call hs args m = some r) : fxBody Try.prog pol NN call hs xv args m = some r := by
  unfold xb5 at h
  split at h
  · rw [x16r]; exact h
  · cases h

/- (swath/unwrap.net).classes -/
abbrev x6o (hs : FHs) (u : Nat) : FCtx := { f := x1p, u := u, nt := 26, hs := hs }
noncomputable abbrev x3p : Fs → Option (AV × Mem) := fxRes Try.prog [.tmp 2]
noncomputable def xhz : Code := nav (bodyOf x1p) []
noncomputable def x16s : Code := nav (bodyOf x1p) [false]
noncomputable def xs7 : Code := nav (bodyOf x1p) [true]
noncomputable def x16t : Code := nav (bodyOf x1p) [true, false]
noncomputable def xs8 : Code := nav (bodyOf x1p) [true, true]
noncomputable def x16u : Code := nav (bodyOf x1p) [true, true, false]
noncomputable def xi0 : Code := nav (bodyOf x1p) [true, true, true]
noncomputable def xi1 : Code := nav (bodyOf x1p) [true, true, true, false]
noncomputable def xs9 : Code := nav (bodyOf x1p) [true, true, true, true]
noncomputable def x16v : Code := nav (bodyOf x1p) [true, true, true, false, false]
noncomputable def xi2 : Code := nav (bodyOf x1p) [true, true, true, false, true]
noncomputable def xi3 : Code := nav (bodyOf x1p) [true, true, true, false, true, false]
noncomputable def xi4 : Code := nav (bodyOf x1p) [true, true, true, false, true, false, false]
theorem x16w (call : FCall) (hs : FHs) (u : Nat) :
  fxK Try.prog pol NN call xs9 (AV × Mem) (x6o hs u) x3p eNil x3p = (fun s => x6j call hs u (s.sl 1) (s.sl 4) s.m s.fc) := by
  kernel_rfl
theorem x16x (call : FCall) (hs : FHs) (u : Nat) (rec0 : AV → AV → AV → AV → AV → Mem → Nat → Option (AV × Mem)) :
  fxK Try.prog pol NN call xi4 (AV × Mem) (x6o hs u) (fun s => rec0 (s.sl 1) (s.sl 3) (s.sl 4) (s.sl 10) (s.sl 11) s.m s.fc) (setE 0 (fun s => x6j call hs u (s.sl 1) (s.sl 4) s.m s.fc) eNil) x3p = (fun s => xr1 call hs u rec0 (s.sl 1) (s.sl 3) (s.sl 4) (s.sl 10) (s.sl 11) s.m s.fc) := by
  kernel_rfl
theorem xsa (call : FCall) (hs : FHs) (u : Nat) : ∀ n : Nat,
  iter (fun rec => fxK Try.prog pol NN call xi4 (AV × Mem) (x6o hs u) rec (setE 0 (fun s => x6j call hs u (s.sl 1) (s.sl 4) s.m s.fc) eNil) x3p) n = (fun s => xa2 call hs u n (s.sl 1) (s.sl 3) (s.sl 4) (s.sl 10) (s.sl 11) s.m s.fc)
  | 0 => rfl
  | n + 1 => by rw [iter_succ, xsa call hs u n, x16x call hs u (xa2 call hs u n)]; kernel_rfl
theorem x16y (call : FCall) (hs : FHs) (u : Nat) :
  fxK Try.prog pol NN call xi3 (AV × Mem) (x6o hs u) (fun s => x6j call hs u (s.sl 1) (s.sl 4) s.m s.fc) (setE 0 (fun s => x6j call hs u (s.sl 1) (s.sl 4) s.m s.fc) eNil) x3p = (fun s => xa2 call hs u NN (s.sl 1) (s.sl 3) (s.sl 4) (s.sl 10) (s.sl 11) s.m s.fc) := by
  rw [show xi3 = .loop xi4 from by kernel_rfl, loop_r, xsa call hs u NN]
theorem x16z (call : FCall) (hs : FHs) (u : Nat) :
  fxK Try.prog pol NN call xi2 (AV × Mem) (x6o hs u) (fun s => x6j call hs u (s.sl 1) (s.sl 4) s.m s.fc) eNil x3p = (fun s => xa2 call hs u NN (s.sl 1) (s.sl 3) (s.sl 4) (s.sl 10) (s.sl 11) s.m s.fc) := by
  rw [show xi2 = .block 0 xi3 from by kernel_rfl, block_r, x16y call hs u]
theorem x170 (call : FCall) (hs : FHs) (u : Nat) :
  fxK Try.prog pol NN call xi1 (AV × Mem) (x6o hs u) (fun s => x6j call hs u (s.sl 1) (s.sl 4) s.m s.fc) eNil x3p = (fun s => xgj call hs u (s.sl 1) (s.sl 3) (s.sl 4) s.m s.fc) := by
  rw [show xi1 = .seq x16v xi2 from by kernel_rfl, seq_r]; rw [x16z call hs u]; kernel_rfl
theorem x171 (call : FCall) (hs : FHs) (u : Nat) :
  fxK Try.prog pol NN call xi0 (AV × Mem) (x6o hs u) x3p eNil x3p = (fun s => xgj call hs u (s.sl 1) (s.sl 3) (s.sl 4) s.m s.fc) := by
  rw [show xi0 = .seq xi1 xs9 from by kernel_rfl, seq_r, x16w call hs u, x170 call hs u]
theorem x172 (call : FCall) (hs : FHs) (u : Nat) :
  fxK Try.prog pol NN call xhz (AV × Mem) (x6o hs u) x3p eNil x3p = (fun s => xr2 call hs u (s.sl 0) s.m s.fc) := by
  rw [show xhz = .seq x16s xs7 from by kernel_rfl, seq_r]; rw [show xs7 = .seq x16t xs8 from by kernel_rfl, seq_r]; rw [show xs8 = .seq x16u xi0 from by kernel_rfl, seq_r]; rw [x171 call hs u]; kernel_rfl
theorem x173 (call : FCall) (hs : FHs) (t0 : AV) (m : Mem) : fxBody Try.prog pol NN call hs x1p [t0] m = xb6 call hs [t0] m := by
  rw [fxBody_at (fn := Try.f81) (body := xhz) (nt := 26) (rs := [.tmp 2]) (by kernel_rfl) (by kernel_rfl) (by kernel_rfl) (by kernel_rfl) (by kernel_rfl) (by kernel_rfl)]
  exact (congrFun (x172 call hs m.next) _).trans (by kernel_rfl)
theorem x150 (call : FCall) (hs : FHs) (args : List AV) (m : Mem) (r : AV × Mem) (h : xb6 call hs args m = some r) : fxBody Try.prog pol NN call hs x1p args m = some r := by
  unfold xb6 at h
  split at h
  · rw [x173]; exact h
  · cases h

/- slices.ContainsFunc[[]int,int] -/
abbrev x174 (hs : FHs) (u : Nat) : FCtx := { f := x3f, u := u, nt := 9, hs := hs }
noncomputable abbrev xsb : Fs → Option (AV × Mem) := fxRes Try.prog [.tmp 4]
noncomputable def xsc : Code := nav (bodyOf x3f) []
theorem x175 (call : FCall) (hs : FHs) (u : Nat) :
  fxK Try.prog pol NN call xsc (AV × Mem) (x174 hs u) xsb eNil xsb = (fun s => xdr call hs u (s.sl 0) (s.sl 1) s.m s.fc) := by
  kernel_rfl
theorem x176 (call : FCall) (hs : FHs) (t0 t1 : AV) (m : Mem) : fxBody Try.prog pol NN call hs x3f [t0, t1] m = x7g call hs [t0, t1] m := by
  rw [fxBody_at (fn := Try.f84) (body := xsc) (nt := 9) (rs := [.tmp 4]) (by kernel_rfl) (by kernel_rfl) (by kernel_rfl) (by kernel_rfl) (by kernel_rfl) (by kernel_rfl)]
  exact (congrFun (x175 call hs m.next) _).trans (by kernel_rfl)
theorem x151 (call : FCall) (hs : FHs) (args : List AV) (m : Mem) (r : AV × Mem) (h : x7g call hs args m = some r) : fxBody Try.prog pol NN call hs x3f args m = some r := by
  unfold x7g at h
  split at h
  · rw [x176]; exact h
  · cases h

/- swath/unwrap.CheckTurns$1 -/
abbrev x177 (hs : FHs) (u : Nat) : FCtx := { f := x4v, u := u, nt := 6, hs := hs }
noncomputable abbrev xsd : Fs → Option (AV × Mem) := fxRes Try.prog [.tmp 2]
noncomputable def xse : Code := nav (bodyOf x4v) []
theorem x178 (call : FCall) (hs : FHs) (u : Nat) :
  fxK Try.prog pol NN call xse (AV × Mem) (x177 hs u) xsd eNil xsd = (fun s => xgk call hs u (s.sl 0) s.m s.fc) := by
  kernel_rfl
theorem x179 (call : FCall) (hs : FHs) (t0 : AV) (m : Mem) : fxBody Try.prog pol NN call hs x4v [t0] m = x99 call hs [t0] m := by
  rw [fxBody_at (fn := Try.f85) (body := xse) (nt := 6) (rs := [.tmp 2]) (by kernel_rfl) (by kernel_rfl) (by kernel_rfl) (by kernel_rfl) (by kernel_rfl) (by kernel_rfl)]
  exact (congrFun (x178 call hs m.next) _).trans (by kernel_rfl)
theorem x152 (call : FCall) (hs : FHs) (args : List AV) (m : Mem) (r : AV × Mem) (h : x99 call hs args m = some r) : fxBody Try.prog pol NN call hs x4v args m = some r := by
  unfold x99 at h
  split at h
  · rw [x179]; exact h
  · cases h

/- slices.Clone[[]int,int] -/
abbrev x17a (hs : FHs) (u : Nat) : FCtx := { f := x7h, u := u, nt := 8, hs := hs }
noncomputable abbrev xsf : Fs → Option (AV × Mem) := fxRes Try.prog [.tmp 2]
noncomputable def xsg : Code := nav (bodyOf x7h) []
theorem x17b (call : FCall) (hs : FHs) (u : Nat) :
  fxK Try.prog pol NN call xsg (AV × Mem) (x17a hs u) xsf eNil xsf = (fun s => xr3 call hs u (s.sl 0) s.m s.fc) := by
  kernel_rfl
theorem x17c (call : FCall) (hs : FHs) (t0 : AV) (m : Mem) : fxBody Try.prog pol NN call hs x7h [t0] m = xb7 call hs [t0] m := by
  rw [fxBody_at (fn := Try.f86) (body := xsg) (nt := 8) (rs := [.tmp 2]) (by kernel_rfl) (by kernel_rfl) (by kernel_rfl) (by kernel_rfl) (by kernel_rfl) (by kernel_rfl)]
  exact (congrFun (x17b call hs m.next) _).trans (by kernel_rfl)
theorem x153 (call : FCall) (hs : FHs) (args : List AV) (m : Mem) (r : AV × Mem) (h : xb7 call hs args m = some r) : fxBody Try.prog pol NN call hs x7h args m = some r := by
  unfold xb7 at h
  split at h
  · rw [x17c]; exact h
  · cases h

/- swath/unwrap.isVoid -/
abbrev x17d (hs : FHs) (u : Nat) : FCtx := { f := x27, u := u, nt := 5, hs := hs }
noncomputable abbrev xsh : Fs → Option (AV × Mem) := fxRes Try.prog [.tmp 2]
noncomputable def xsi : Code := nav (bodyOf x27) []
theorem x17e (call : FCall) (hs : FHs) (u : Nat) :
  fxK Try.prog pol NN call xsi (AV × Mem) (x17d hs u) xsh eNil xsh = (fun s => xgl call hs u (s.sl 0) s.m s.fc) := by
  kernel_rfl
theorem x17f (call : FCall) (hs : FHs) (t0 : AV) (m : Mem) : fxBody Try.prog pol NN call hs x27 [t0] m = x88 call hs [t0] m := by
  rw [fxBody_at (fn := Try.f87) (body := xsi) (nt := 5) (rs := [.tmp 2]) (by kernel_rfl) (by kernel_rfl) (by kernel_rfl) (by kernel_rfl) (by kernel_rfl) (by kernel_rfl)]
  exact (congrFun (x17e call hs m.next) _).trans (by kernel_rfl)
theorem x13g (call : FCall) (hs : FHs) (args : List AV) (m : Mem) (r : AV × Mem) (h : x88 call hs args m = some r) : fxBody Try.prog pol NN call hs x27 args m = some r := by
  unfold x88 at h
  split at h
  · rw [x17f]; exact h
  · cases h

/- swath/unwrap.mapErr -/
abbrev x17g (hs : FHs) (u : Nat) : FCtx := { f := x6b, u := u, nt := 20, hs := hs }
noncomputable abbrev xsj : Fs → Option (AV × Mem) := fxRes Try.prog [.tmp 4]
noncomputable def xsk : Code := nav (bodyOf x6b) []
theorem x17h (call : FCall) (hs : FHs) (u : Nat) :
  fxK Try.prog pol NN call xsk (AV × Mem) (x17g hs u) xsj eNil xsj = (fun s => xgm call hs u (s.sl 0) (s.sl 1) s.m s.fc) := by
  kernel_rfl
theorem x17i (call : FCall) (hs : FHs) (t0 t1 : AV) (m : Mem) : fxBody Try.prog pol NN call hs x6b [t0, t1] m = x9a call hs [t0, t1] m := by
  rw [fxBody_at (fn := Try.f89) (body := xsk) (nt := 20) (rs := [.tmp 4]) (by kernel_rfl) (by kernel_rfl) (by kernel_rfl) (by kernel_rfl) (by kernel_rfl) (by kernel_rfl)]
  exact (congrFun (x17h call hs m.next) _).trans (by kernel_rfl)
theorem x154 (call : FCall) (hs : FHs) (args : List AV) (m : Mem) (r : AV × Mem) (h : x9a call hs args m = some r) : fxBody Try.prog pol NN call hs x6b args m = some r := by
  unfold x9a at h
  split at h
  · rw [x17i]; exact h
  · cases h

/- swath/unwrap.isNeighbour -/
abbrev x17j (hs : FHs) (u : Nat) : FCtx := { f := x6c, u := u, nt := 38, hs := hs }
noncomputable abbrev xsl : Fs → Option (AV × Mem) := fxRes Try.prog [.tmp 6]
noncomputable def xsm : Code := nav (bodyOf x6c) []
theorem x17k (call : FCall) (hs : FHs) (u : Nat) :
  fxK Try.prog pol NN call xsm (AV × Mem) (x17j hs u) xsl eNil xsl = (fun s => xgn call hs u (s.sl 0) (s.sl 1) (s.sl 2) s.m s.fc) := by
  kernel_rfl
theorem x17l (call : FCall) (hs : FHs) (t0 t1 t2 : AV) (m : Mem) : fxBody Try.prog pol NN call hs x6c [t0, t1, t2] m = x9b call hs [t0, t1, t2] m := by
  rw [fxBody_at (fn := Try.f90) (body := xsm) (nt := 38) (rs := [.tmp 6]) (by kernel_rfl) (by kernel_rfl) (by kernel_rfl) (by kernel_rfl) (by kernel_rfl) (by kernel_rfl)]
  exact (congrFun (x17k call hs m.next) _).trans (by kernel_rfl)
theorem x155 (call : FCall) (hs : FHs) (args : List AV) (m : Mem) (r : AV × Mem) (h : x9b call hs args m = some r) : fxBody Try.prog pol NN call hs x6c args m = some r := by
  unfold x9b at h
  split at h
  · rw [x17l]; exact h
  · cases h

/- swath/unwrap.wrapped -/
abbrev xeg (hs : FHs) (u : Nat) : FCtx := { f := x24, u := u, nt := 12, hs := hs }
noncomputable abbrev x81 : Fs → Option (AV × Mem) := fxRes Try.prog [.tmp 2]
noncomputable def xi5 : Code := nav (bodyOf x24) []
noncomputable def x17m : Code := nav (bodyOf x24) [false]
noncomputable def xsn : Code := nav (bodyOf x24) [true]
noncomputable def x17n : Code := nav (bodyOf x24) [true, false]
noncomputable def xi6 : Code := nav (bodyOf x24) [true, true]
noncomputable def xso : Code := nav (bodyOf x24) [true, true, false]
noncomputable def xsp : Code := nav (bodyOf x24) [true, true, true]
theorem x17o (call : FCall) (hs : FHs) (u : Nat) :
  fxK Try.prog pol NN call xsp (AV × Mem) (xeg hs u) x81 eNil x81 = (fun s => xa3 call hs u (s.sl 0) s.m s.fc) := by
  kernel_rfl
theorem x17p (call : FCall) (hs : FHs) (u : Nat) :
  fxK Try.prog pol NN call xso (AV × Mem) (xeg hs u) (fun s => xa3 call hs u (s.sl 0) s.m s.fc) eNil x81 = (fun s => xds call hs u (s.sl 0) s.m s.fc) := by
  kernel_rfl
theorem x17q (call : FCall) (hs : FHs) (u : Nat) :
  fxK Try.prog pol NN call xi6 (AV × Mem) (xeg hs u) x81 eNil x81 = (fun s => xds call hs u (s.sl 0) s.m s.fc) := by
  rw [show xi6 = .seq xso xsp from by kernel_rfl, seq_r, x17o call hs u, x17p call hs u]
theorem x17r (call : FCall) (hs : FHs) (u : Nat) :
  fxK Try.prog pol NN call xi5 (AV × Mem) (xeg hs u) x81 eNil x81 = (fun s => xgo call hs u (s.sl 0) s.m s.fc) := by
  rw [show xi5 = .seq x17m xsn from by kernel_rfl, seq_r]; rw [show xsn = .seq x17n xi6 from by kernel_rfl, seq_r]; rw [x17q call hs u]; kernel_rfl
theorem x17s (call : FCall) (hs : FHs) (t0 : AV) (m : Mem) : fxBody Try.prog pol NN call hs x24 [t0] m = x87 call hs [t0] m := by
  rw [fxBody_at (fn := Try.f91) (body := xi5) (nt := 12) (rs := [.tmp 2]) (by kernel_rfl) (by kernel_rfl) (by kernel_rfl) (by kernel_rfl) (by kernel_rfl) (by kernel_rfl)]
  exact (congrFun (x17r call hs m.next) _).trans (by kernel_rfl)
theorem x13f (call : FCall) (hs : FHs) (args : List AV) (m : Mem) (r : AV × Mem) (h : x87 call hs args m = some r) : fxBody Try.prog pol NN call hs x24 args m = some r := by
  unfold x87 at h
  split at h
  · rw [x17s]; exact h
  · cases h

/- swath/swathref05.neighbours -/
abbrev x17t (hs : FHs) (u : Nat) : FCtx := { f := x6d, u := u, nt := 29, hs := hs }
noncomputable abbrev xsq : Fs → Option (AV × Mem) := fxRes Try.prog [.tmp 6]
noncomputable def xsr : Code := nav (bodyOf x6d) []
theorem x17u (call : FCall) (hs : FHs) (u : Nat) :
  fxK Try.prog pol NN call xsr (AV × Mem) (x17t hs u) xsq eNil xsq = (fun s => xgp call hs u (s.sl 0) (s.sl 1) (s.sl 2) s.m s.fc) := by
  kernel_rfl
theorem x17v (call : FCall) (hs : FHs) (t0 t1 t2 : AV) (m : Mem) : fxBody Try.prog pol NN call hs x6d [t0, t1, t2] m = x9c call hs [t0, t1, t2] m := by
  rw [fxBody_at (fn := Try.f92) (body := xsr) (nt := 29) (rs := [.tmp 6]) (by kernel_rfl) (by kernel_rfl) (by kernel_rfl) (by kernel_rfl) (by kernel_rfl) (by kernel_rfl)]
  exact (congrFun (x17u call hs m.next) _).trans (by kernel_rfl)
theorem x156 (call : FCall) (hs : FHs) (args : List AV) (m : Mem) (r : AV × Mem) (h : x9c call hs args m = some r) : fxBody Try.prog pol NN call hs x6d args m = some r := by
  unfold x9c at h
  split at h
  · rw [x17v]; exact h
  · cases h

/- swath/swathref05.Step -/
abbrev x17w (hs : FHs) (u : Nat) : FCtx := { f := x4c, u := u, nt := 27, hs := hs }
noncomputable abbrev xss : Fs → Option (AV × Mem) := fxRes Try.prog [.tmp 6]
noncomputable def xst : Code := nav (bodyOf x4c) []
theorem x17x (call : FCall) (hs : FHs) (u : Nat) :
  fxK Try.prog pol NN call xst (AV × Mem) (x17w hs u) xss eNil xss = (fun s => xdt call hs u (s.sl 0) (s.sl 1) (s.sl 2) s.m s.fc) := by
  kernel_rfl
theorem x17y (call : FCall) (hs : FHs) (t0 t1 t2 : AV) (m : Mem) : fxBody Try.prog pol NN call hs x4c [t0, t1, t2] m = x7i call hs [t0, t1, t2] m := by
  rw [fxBody_at (fn := Try.f93) (body := xst) (nt := 27) (rs := [.tmp 6]) (by kernel_rfl) (by kernel_rfl) (by kernel_rfl) (by kernel_rfl) (by kernel_rfl) (by kernel_rfl)]
  exact (congrFun (x17x call hs m.next) _).trans (by kernel_rfl)
theorem x157 (call : FCall) (hs : FHs) (args : List AV) (m : Mem) (r : AV × Mem) (h : x7i call hs args m = some r) : fxBody Try.prog pol NN call hs x4c args m = some r := by
  unfold x7i at h
  split at h
  · rw [x17y]; exact h
  · cases h

/- swath/unwrap.field -/
abbrev x17z (hs : FHs) (u : Nat) : FCtx := { f := x4w, u := u, nt := 27, hs := hs }
noncomputable abbrev xsu : Fs → Option (AV × Mem) := fxRes Try.prog [.cell 4 xc0, .tmp 5, .tmp 6]
noncomputable def xsv : Code := nav (bodyOf x4w) []
theorem x180 (call : FCall) (hs : FHs) (u : Nat) :
  fxK Try.prog pol NN call xsv (AV × Mem) (x17z hs u) xsu eNil xsu = (fun s => xdu call hs u (s.sl 0) (s.sl 1) s.m s.fc) := by
  kernel_rfl
theorem x181 (call : FCall) (hs : FHs) (t0 t1 : AV) (m : Mem) : fxBody Try.prog pol NN call hs x4w [t0, t1] m = x7j call hs [t0, t1] m := by
  rw [fxBody_at (fn := Try.f94) (body := xsv) (nt := 27) (rs := [.cell 4 xc0, .tmp 5, .tmp 6]) (by kernel_rfl) (by kernel_rfl) (by kernel_rfl) (by kernel_rfl) (by kernel_rfl) (by kernel_rfl)]
  exact (congrFun (x180 call hs m.next) _).trans (by kernel_rfl)
theorem x158 (call : FCall) (hs : FHs) (args : List AV) (m : Mem) (r : AV × Mem) (h : x7j call hs args m = some r) : fxBody Try.prog pol NN call hs x4w args m = some r := by
  unfold x7j at h
  split at h
  · rw [x181]; exact h
  · cases h

/- (swath/unwrap.net).pairs -/
abbrev x3q (hs : FHs) (u : Nat) : FCtx := { f := xt, u := u, nt := 29, hs := hs }
noncomputable abbrev x2o : Fs → Option (AV × Mem) := fxRes Try.prog [.tmp 4]
noncomputable def xi7 : Code := nav (bodyOf xt) []
noncomputable def x182 : Code := nav (bodyOf xt) [false]
noncomputable def xsw : Code := nav (bodyOf xt) [true]
noncomputable def x183 : Code := nav (bodyOf xt) [true, false]
noncomputable def xi8 : Code := nav (bodyOf xt) [true, true]
noncomputable def xi9 : Code := nav (bodyOf xt) [true, true, false]
noncomputable def xsx : Code := nav (bodyOf xt) [true, true, true]
noncomputable def x184 : Code := nav (bodyOf xt) [true, true, false, false]
noncomputable def xia : Code := nav (bodyOf xt) [true, true, false, true]
noncomputable def xib : Code := nav (bodyOf xt) [true, true, false, true, false]
noncomputable def xeh : Code := nav (bodyOf xt) [true, true, false, true, false, false]
noncomputable def x185 : Code := nav (bodyOf xt) [true, true, false, true, false, false, false]
noncomputable def xsy : Code := nav (bodyOf xt) [true, true, false, true, false, false, true]
noncomputable def x186 : Code := nav (bodyOf xt) [true, true, false, true, false, false, true, false]
noncomputable def xic : Code := nav (bodyOf xt) [true, true, false, true, false, false, true, true]
noncomputable def xsz : Code := nav (bodyOf xt) [true, true, false, true, false, false, true, true, false]
noncomputable def xt0 : Code := nav (bodyOf xt) [true, true, false, true, false, false, true, true, true]
theorem x187 (call : FCall) (hs : FHs) (u : Nat) :
  fxK Try.prog pol NN call xsx (AV × Mem) (x3q hs u) x2o eNil x2o = (fun s => x32 call hs u (s.sl 5) s.m s.fc) := by
  kernel_rfl
theorem x188 (call : FCall) (hs : FHs) (u : Nat) (rec0 : AV → AV → AV → AV → AV → Mem → Nat → Option (AV × Mem)) :
  fxK Try.prog pol NN call xt0 (AV × Mem) (x3q hs u) (fun s => rec0 (s.sl 1) (s.sl 5) (s.sl 10) (s.sl 11) (s.sl 12) s.m s.fc) (setE 0 (fun s => x32 call hs u (s.sl 5) s.m s.fc) eNil) x2o = (fun s => x6k call hs u rec0 (s.sl 1) (s.sl 5) (s.sl 10) (s.sl 11) (s.sl 12) s.m s.fc) := by
  kernel_rfl
theorem x189 (call : FCall) (hs : FHs) (u : Nat) (rec0 : AV → AV → AV → AV → AV → Mem → Nat → Option (AV × Mem)) :
  fxK Try.prog pol NN call xsz (AV × Mem) (x3q hs u) (fun s => x6k call hs u rec0 (s.sl 1) (s.sl 5) (s.sl 10) (s.sl 11) (s.sl 12) s.m s.fc) (setE 0 (fun s => x32 call hs u (s.sl 5) s.m s.fc) eNil) x2o = (fun s => xdv call hs u rec0 (s.sl 1) (s.sl 5) (s.sl 10) (s.sl 11) (s.sl 12) s.m s.fc) := by
  kernel_rfl
theorem x18a (call : FCall) (hs : FHs) (u : Nat) (rec0 : AV → AV → AV → AV → AV → Mem → Nat → Option (AV × Mem)) :
  fxK Try.prog pol NN call xic (AV × Mem) (x3q hs u) (fun s => rec0 (s.sl 1) (s.sl 5) (s.sl 10) (s.sl 11) (s.sl 12) s.m s.fc) (setE 0 (fun s => x32 call hs u (s.sl 5) s.m s.fc) eNil) x2o = (fun s => xdv call hs u rec0 (s.sl 1) (s.sl 5) (s.sl 10) (s.sl 11) (s.sl 12) s.m s.fc) := by
  rw [show xic = .seq xsz xt0 from by kernel_rfl, seq_r, x188 call hs u rec0, x189 call hs u rec0]
theorem x18b (call : FCall) (hs : FHs) (u : Nat) (rec0 : AV → AV → AV → AV → AV → Mem → Nat → Option (AV × Mem)) :
  fxK Try.prog pol NN call xeh (AV × Mem) (x3q hs u) (fun s => rec0 (s.sl 1) (s.sl 5) (s.sl 10) (s.sl 11) (s.sl 12) s.m s.fc) (setE 0 (fun s => x32 call hs u (s.sl 5) s.m s.fc) eNil) x2o = (fun s => xdw call hs u rec0 (s.sl 1) (s.sl 5) (s.sl 10) (s.sl 11) (s.sl 12) s.m s.fc) := by
  rw [show xeh = .seq x185 xsy from by kernel_rfl, seq_r]; rw [show xsy = .seq x186 xic from by kernel_rfl, seq_r]; rw [x18a call hs u rec0]; kernel_rfl
theorem xt1 (call : FCall) (hs : FHs) (u : Nat) : ∀ n : Nat,
  iter (fun rec => fxK Try.prog pol NN call xeh (AV × Mem) (x3q hs u) rec (setE 0 (fun s => x32 call hs u (s.sl 5) s.m s.fc) eNil) x2o) n = (fun s => x33 call hs u n (s.sl 1) (s.sl 5) (s.sl 10) (s.sl 11) (s.sl 12) s.m s.fc)
  | 0 => rfl
  | n + 1 => by rw [iter_succ, xt1 call hs u n, x18b call hs u (x33 call hs u n)]; kernel_rfl
theorem x18c (call : FCall) (hs : FHs) (u : Nat) :
  fxK Try.prog pol NN call xib (AV × Mem) (x3q hs u) (fun s => x32 call hs u (s.sl 5) s.m s.fc) (setE 0 (fun s => x32 call hs u (s.sl 5) s.m s.fc) eNil) x2o = (fun s => x33 call hs u NN (s.sl 1) (s.sl 5) (s.sl 10) (s.sl 11) (s.sl 12) s.m s.fc) := by
  rw [show xib = .loop xeh from by kernel_rfl, loop_r, xt1 call hs u NN]
theorem x18d (call : FCall) (hs : FHs) (u : Nat) :
  fxK Try.prog pol NN call xia (AV × Mem) (x3q hs u) (fun s => x32 call hs u (s.sl 5) s.m s.fc) eNil x2o = (fun s => x33 call hs u NN (s.sl 1) (s.sl 5) (s.sl 10) (s.sl 11) (s.sl 12) s.m s.fc) := by
  rw [show xia = .block 0 xib from by kernel_rfl, block_r, x18c call hs u]
theorem x18e (call : FCall) (hs : FHs) (u : Nat) :
  fxK Try.prog pol NN call xi9 (AV × Mem) (x3q hs u) (fun s => x32 call hs u (s.sl 5) s.m s.fc) eNil x2o = (fun s => xdx call hs u (s.sl 1) (s.sl 2) (s.sl 5) s.m s.fc) := by
  rw [show xi9 = .seq x184 xia from by kernel_rfl, seq_r]; rw [x18d call hs u]; kernel_rfl
theorem x18f (call : FCall) (hs : FHs) (u : Nat) :
  fxK Try.prog pol NN call xi8 (AV × Mem) (x3q hs u) x2o eNil x2o = (fun s => xdx call hs u (s.sl 1) (s.sl 2) (s.sl 5) s.m s.fc) := by
  rw [show xi8 = .seq xi9 xsx from by kernel_rfl, seq_r, x187 call hs u, x18e call hs u]
theorem x18g (call : FCall) (hs : FHs) (u : Nat) :
  fxK Try.prog pol NN call xi7 (AV × Mem) (x3q hs u) x2o eNil x2o = (fun s => xgq call hs u (s.sl 0) (s.sl 1) s.m s.fc) := by
  rw [show xi7 = .seq x182 xsw from by kernel_rfl, seq_r]; rw [show xsw = .seq x183 xi8 from by kernel_rfl, seq_r]; rw [x18f call hs u]; kernel_rfl
theorem x18h (call : FCall) (hs : FHs) (t0 t1 : AV) (m : Mem) : fxBody Try.prog pol NN call hs xt [t0, t1] m = x9d call hs [t0, t1] m := by
  rw [fxBody_at (fn := Try.f95) (body := xi7) (nt := 29) (rs := [.tmp 4]) (by kernel_rfl) (by kernel_rfl) (by kernel_rfl) (by kernel_rfl) (by kernel_rfl) (by kernel_rfl)]
  exact (congrFun (x18g call hs m.next) _).trans (by kernel_rfl)
theorem x159 (call : FCall) (hs : FHs) (args : List AV) (m : Mem) (r : AV × Mem) (h : x9d call hs args m = some r) : fxBody Try.prog pol NN call hs xt args m = some r := by
  unfold x9d at h
  split at h
  · rw [x18h]; exact h
  · cases h

/- swath/unwrap.Cuts$1 -/
abbrev x18i (hs : FHs) (u : Nat) : FCtx := { f := x4d, u := u, nt := 8, hs := hs }
noncomputable abbrev xt2 : Fs → Option (AV × Mem) := fxRes Try.prog [.tmp 3]
noncomputable def xt3 : Code := nav (bodyOf x4d) []
theorem x18j (call : FCall) (hs : FHs) (u : Nat) :
  fxK Try.prog pol NN call xt3 (AV × Mem) (x18i hs u) xt2 eNil xt2 = (fun s => xgr call hs u (s.sl 0) (s.sl 1) s.m s.fc) := by
  kernel_rfl
theorem x18k (call : FCall) (hs : FHs) (t0 t1 : AV) (m : Mem) : fxBody Try.prog pol NN call hs x4d [t0, t1] m = x9e call hs [t0, t1] m := by
  rw [fxBody_at (fn := Try.f96) (body := xt3) (nt := 8) (rs := [.tmp 3]) (by kernel_rfl) (by kernel_rfl) (by kernel_rfl) (by kernel_rfl) (by kernel_rfl) (by kernel_rfl)]
  exact (congrFun (x18j call hs m.next) _).trans (by kernel_rfl)
theorem x15a (call : FCall) (hs : FHs) (args : List AV) (m : Mem) (r : AV × Mem) (h : x9e call hs args m = some r) : fxBody Try.prog pol NN call hs x4d args m = some r := by
  unfold x9e at h
  split at h
  · rw [x18k]; exact h
  · cases h

/- swath/unwrap.excess -/
abbrev x18l (hs : FHs) (u : Nat) : FCtx := { f := x4o, u := u, nt := 19, hs := hs }
noncomputable abbrev xt4 : Fs → Option (AV × Mem) := fxRes Try.prog [.tmp 4]
noncomputable def xt5 : Code := nav (bodyOf x4o) []
theorem x18m (call : FCall) (hs : FHs) (u : Nat) :
  fxK Try.prog pol NN call xt5 (AV × Mem) (x18l hs u) xt4 eNil xt4 = (fun s => xgs call hs u (s.sl 0) (s.sl 1) s.m s.fc) := by
  kernel_rfl
theorem x18n (call : FCall) (hs : FHs) (t0 t1 : AV) (m : Mem) : fxBody Try.prog pol NN call hs x4o [t0, t1] m = x89 call hs [t0, t1] m := by
  rw [fxBody_at (fn := Try.f97) (body := xt5) (nt := 19) (rs := [.tmp 4]) (by kernel_rfl) (by kernel_rfl) (by kernel_rfl) (by kernel_rfl) (by kernel_rfl) (by kernel_rfl)]
  exact (congrFun (x18m call hs m.next) _).trans (by kernel_rfl)
theorem x13h (call : FCall) (hs : FHs) (args : List AV) (m : Mem) (r : AV × Mem) (h : x89 call hs args m = some r) : fxBody Try.prog pol NN call hs x4o args m = some r := by
  unfold x89 at h
  split at h
  · rw [x18n]; exact h
  · cases h

/- swath/swathref05.isPhase -/
abbrev x18o (hs : FHs) (u : Nat) : FCtx := { f := x6e, u := u, nt := 5, hs := hs }
noncomputable abbrev xt6 : Fs → Option (AV × Mem) := fxRes Try.prog [.tmp 2]
noncomputable def xt7 : Code := nav (bodyOf x6e) []
theorem x18p (call : FCall) (hs : FHs) (u : Nat) :
  fxK Try.prog pol NN call xt7 (AV × Mem) (x18o hs u) xt6 eNil xt6 = (fun s => xgt call hs u (s.sl 0) s.m s.fc) := by
  kernel_rfl
theorem x18q (call : FCall) (hs : FHs) (t0 : AV) (m : Mem) : fxBody Try.prog pol NN call hs x6e [t0] m = x9f call hs [t0] m := by
  rw [fxBody_at (fn := Try.f98) (body := xt7) (nt := 5) (rs := [.tmp 2]) (by kernel_rfl) (by kernel_rfl) (by kernel_rfl) (by kernel_rfl) (by kernel_rfl) (by kernel_rfl)]
  exact (congrFun (x18p call hs m.next) _).trans (by kernel_rfl)
theorem x15b (call : FCall) (hs : FHs) (args : List AV) (m : Mem) (r : AV × Mem) (h : x9f call hs args m = some r) : fxBody Try.prog pol NN call hs x6e args m = some r := by
  unfold x9f at h
  split at h
  · rw [x18q]; exact h
  · cases h

/- swath/swathbase.Mod -/
abbrev xei (hs : FHs) (u : Nat) : FCtx := { f := x28, u := u, nt := 14, hs := hs }
noncomputable abbrev x82 : Fs → Option (AV × Mem) := fxRes Try.prog [.tmp 4]
noncomputable def xid : Code := nav (bodyOf x28) []
noncomputable def x18r : Code := nav (bodyOf x28) [false]
noncomputable def xt8 : Code := nav (bodyOf x28) [true]
noncomputable def x18s : Code := nav (bodyOf x28) [true, false]
noncomputable def xie : Code := nav (bodyOf x28) [true, true]
noncomputable def xt9 : Code := nav (bodyOf x28) [true, true, false]
noncomputable def xta : Code := nav (bodyOf x28) [true, true, true]
theorem x18t (call : FCall) (hs : FHs) (u : Nat) :
  fxK Try.prog pol NN call xta (AV × Mem) (xei hs u) x82 eNil x82 = (fun s => xa4 call hs u (s.sl 0) s.m s.fc) := by
  kernel_rfl
theorem x18u (call : FCall) (hs : FHs) (u : Nat) :
  fxK Try.prog pol NN call xt9 (AV × Mem) (xei hs u) (fun s => xa4 call hs u (s.sl 0) s.m s.fc) eNil x82 = (fun s => xdy call hs u (s.sl 0) (s.sl 1) s.m s.fc) := by
  kernel_rfl
theorem x18v (call : FCall) (hs : FHs) (u : Nat) :
  fxK Try.prog pol NN call xie (AV × Mem) (xei hs u) x82 eNil x82 = (fun s => xdy call hs u (s.sl 0) (s.sl 1) s.m s.fc) := by
  rw [show xie = .seq xt9 xta from by kernel_rfl, seq_r, x18t call hs u, x18u call hs u]
theorem x18w (call : FCall) (hs : FHs) (u : Nat) :
  fxK Try.prog pol NN call xid (AV × Mem) (xei hs u) x82 eNil x82 = (fun s => xgu call hs u (s.sl 0) (s.sl 1) s.m s.fc) := by
  rw [show xid = .seq x18r xt8 from by kernel_rfl, seq_r]; rw [show xt8 = .seq x18s xie from by kernel_rfl, seq_r]; rw [x18v call hs u]; kernel_rfl
theorem x18x (call : FCall) (hs : FHs) (t0 t1 : AV) (m : Mem) : fxBody Try.prog pol NN call hs x28 [t0, t1] m = x9g call hs [t0, t1] m := by
  rw [fxBody_at (fn := Try.f99) (body := xid) (nt := 14) (rs := [.tmp 4]) (by kernel_rfl) (by kernel_rfl) (by kernel_rfl) (by kernel_rfl) (by kernel_rfl) (by kernel_rfl)]
  exact (congrFun (x18w call hs m.next) _).trans (by kernel_rfl)
theorem x15c (call : FCall) (hs : FHs) (args : List AV) (m : Mem) (r : AV × Mem) (h : x9g call hs args m = some r) : fxBody Try.prog pol NN call hs x28 args m = some r := by
  unfold x9g at h
  split at h
  · rw [x18x]; exact h
  · cases h

/- swath/swathref05.Excess -/
abbrev x18y (hs : FHs) (u : Nat) : FCtx := { f := x4x, u := u, nt := 19, hs := hs }
noncomputable abbrev xtb : Fs → Option (AV × Mem) := fxRes Try.prog [.tmp 4]
noncomputable def xtc : Code := nav (bodyOf x4x) []
theorem x18z (call : FCall) (hs : FHs) (u : Nat) :
  fxK Try.prog pol NN call xtc (AV × Mem) (x18y hs u) xtb eNil xtb = (fun s => xgv call hs u (s.sl 0) (s.sl 1) s.m s.fc) := by
  kernel_rfl
theorem x190 (call : FCall) (hs : FHs) (t0 t1 : AV) (m : Mem) : fxBody Try.prog pol NN call hs x4x [t0, t1] m = x9h call hs [t0, t1] m := by
  rw [fxBody_at (fn := Try.f100) (body := xtc) (nt := 19) (rs := [.tmp 4]) (by kernel_rfl) (by kernel_rfl) (by kernel_rfl) (by kernel_rfl) (by kernel_rfl) (by kernel_rfl)]
  exact (congrFun (x18z call hs m.next) _).trans (by kernel_rfl)
theorem x15d (call : FCall) (hs : FHs) (args : List AV) (m : Mem) (r : AV × Mem) (h : x9h call hs args m = some r) : fxBody Try.prog pol NN call hs x4x args m = some r := by
  unfold x9h at h
  split at h
  · rw [x190]; exact h
  · cases h

/- swath/unwrap.Undecided$1 -/
abbrev x191 (hs : FHs) (u : Nat) : FCtx := { f := x7k, u := u, nt := 15, hs := hs }
noncomputable abbrev xtd : Fs → Option (AV × Mem) := fxRes Try.prog [.tmp 3]
noncomputable def xte : Code := nav (bodyOf x7k) []
theorem x192 (call : FCall) (hs : FHs) (u : Nat) :
  fxK Try.prog pol NN call xte (AV × Mem) (x191 hs u) xtd eNil xtd = (fun s => xr4 call hs u (s.sl 0) (s.sl 1) s.m s.fc) := by
  kernel_rfl
theorem x193 (call : FCall) (hs : FHs) (t0 t1 : AV) (m : Mem) : fxBody Try.prog pol NN call hs x7k [t0, t1] m = xb8 call hs [t0, t1] m := by
  rw [fxBody_at (fn := Try.f101) (body := xte) (nt := 15) (rs := [.tmp 3]) (by kernel_rfl) (by kernel_rfl) (by kernel_rfl) (by kernel_rfl) (by kernel_rfl) (by kernel_rfl)]
  exact (congrFun (x192 call hs m.next) _).trans (by kernel_rfl)
theorem x15e (call : FCall) (hs : FHs) (args : List AV) (m : Mem) (r : AV × Mem) (h : xb8 call hs args m = some r) : fxBody Try.prog pol NN call hs x7k args m = some r := by
  unfold xb8 at h
  split at h
  · rw [x193]; exact h
  · cases h

/- swath/unwrap.CheckNet -/
abbrev x6p (hs : FHs) (u : Nat) : FCtx := { f := x1q, u := u, nt := 62, hs := hs }
noncomputable abbrev x3r : Fs → Option (AV × Mem) := fxRes Try.prog [.tmp 2, .tmp 3]
noncomputable def xif : Code := nav (bodyOf x1q) []
noncomputable def x194 : Code := nav (bodyOf x1q) [false]
noncomputable def xtf : Code := nav (bodyOf x1q) [true]
noncomputable def x195 : Code := nav (bodyOf x1q) [true, false]
noncomputable def xig : Code := nav (bodyOf x1q) [true, true]
noncomputable def xih : Code := nav (bodyOf x1q) [true, true, false]
noncomputable def xtg : Code := nav (bodyOf x1q) [true, true, true]
noncomputable def x196 : Code := nav (bodyOf x1q) [true, true, false, false]
noncomputable def xii : Code := nav (bodyOf x1q) [true, true, false, true]
noncomputable def xij : Code := nav (bodyOf x1q) [true, true, false, true, false]
noncomputable def xik : Code := nav (bodyOf x1q) [true, true, false, true, false, false]
theorem x197 (call : FCall) (hs : FHs) (u : Nat) :
  fxK Try.prog pol NN call xtg (AV × Mem) (x6p hs u) x3r eNil x3r = (fun s => x5v call hs u s.m s.fc) := by
  kernel_rfl
theorem x198 (call : FCall) (hs : FHs) (u : Nat) (rec0 : AV → AV → AV → AV → Mem → Nat → Option (AV × Mem)) :
  fxK Try.prog pol NN call xik (AV × Mem) (x6p hs u) (fun s => rec0 (s.sl 1) (s.sl 17) (s.sl 18) (s.sl 19) s.m s.fc) (setE 1 (fun s => x5v call hs u s.m s.fc) eNil) x3r = (fun s => xdz call hs u rec0 (s.sl 1) (s.sl 17) (s.sl 18) (s.sl 19) s.m s.fc) := by
  kernel_rfl
theorem xth (call : FCall) (hs : FHs) (u : Nat) : ∀ n : Nat,
  iter (fun rec => fxK Try.prog pol NN call xik (AV × Mem) (x6p hs u) rec (setE 1 (fun s => x5v call hs u s.m s.fc) eNil) x3r) n = (fun s => x5w call hs u n (s.sl 1) (s.sl 17) (s.sl 18) (s.sl 19) s.m s.fc)
  | 0 => rfl
  | n + 1 => by rw [iter_succ, xth call hs u n, x198 call hs u (x5w call hs u n)]; kernel_rfl
theorem x199 (call : FCall) (hs : FHs) (u : Nat) :
  fxK Try.prog pol NN call xij (AV × Mem) (x6p hs u) (fun s => x5v call hs u s.m s.fc) (setE 1 (fun s => x5v call hs u s.m s.fc) eNil) x3r = (fun s => x5w call hs u NN (s.sl 1) (s.sl 17) (s.sl 18) (s.sl 19) s.m s.fc) := by
  rw [show xij = .loop xik from by kernel_rfl, loop_r, xth call hs u NN]
theorem x19a (call : FCall) (hs : FHs) (u : Nat) :
  fxK Try.prog pol NN call xii (AV × Mem) (x6p hs u) (fun s => x5v call hs u s.m s.fc) eNil x3r = (fun s => x5w call hs u NN (s.sl 1) (s.sl 17) (s.sl 18) (s.sl 19) s.m s.fc) := by
  rw [show xii = .block 1 xij from by kernel_rfl, block_r, x199 call hs u]
theorem x19b (call : FCall) (hs : FHs) (u : Nat) :
  fxK Try.prog pol NN call xih (AV × Mem) (x6p hs u) (fun s => x5v call hs u s.m s.fc) eNil x3r = (fun s => xe0 call hs u (s.sl 1) s.m s.fc) := by
  rw [show xih = .seq x196 xii from by kernel_rfl, seq_r]; rw [x19a call hs u]; kernel_rfl
theorem x19c (call : FCall) (hs : FHs) (u : Nat) :
  fxK Try.prog pol NN call xig (AV × Mem) (x6p hs u) x3r eNil x3r = (fun s => xe0 call hs u (s.sl 1) s.m s.fc) := by
  rw [show xig = .seq xih xtg from by kernel_rfl, seq_r, x197 call hs u, x19b call hs u]
theorem x19d (call : FCall) (hs : FHs) (u : Nat) :
  fxK Try.prog pol NN call xif (AV × Mem) (x6p hs u) x3r eNil x3r = (fun s => xgw call hs u (s.sl 0) s.m s.fc) := by
  rw [show xif = .seq x194 xtf from by kernel_rfl, seq_r]; rw [show xtf = .seq x195 xig from by kernel_rfl, seq_r]; rw [x19c call hs u]; kernel_rfl
theorem x19e (call : FCall) (hs : FHs) (t0 : AV) (m : Mem) : fxBody Try.prog pol NN call hs x1q [t0] m = x9i call hs [t0] m := by
  rw [fxBody_at (fn := Try.f102) (body := xif) (nt := 62) (rs := [.tmp 2, .tmp 3]) (by kernel_rfl) (by kernel_rfl) (by kernel_rfl) (by kernel_rfl) (by kernel_rfl) (by kernel_rfl)]
  exact (congrFun (x19d call hs m.next) _).trans (by kernel_rfl)
theorem x15f (call : FCall) (hs : FHs) (args : List AV) (m : Mem) (r : AV × Mem) (h : x9i call hs args m = some r) : fxBody Try.prog pol NN call hs x1q args m = some r := by
  unfold x9i at h
  split at h
  · rw [x19e]; exact h
  · cases h

/- swath/unwrap.newSolver -/
abbrev x2e (hs : FHs) (u : Nat) : FCtx := { f := xn, u := u, nt := 132, hs := hs }
noncomputable abbrev x1u : Fs → Option (AV × Mem) := fxRes Try.prog [.tmp 2]
noncomputable def xil : Code := nav (bodyOf xn) []
noncomputable def x19f : Code := nav (bodyOf xn) [false]
noncomputable def xti : Code := nav (bodyOf xn) [true]
noncomputable def x19g : Code := nav (bodyOf xn) [true, false]
noncomputable def xim : Code := nav (bodyOf xn) [true, true]
noncomputable def xin : Code := nav (bodyOf xn) [true, true, false]
noncomputable def xtj : Code := nav (bodyOf xn) [true, true, true]
noncomputable def x19h : Code := nav (bodyOf xn) [true, true, false, false]
noncomputable def xio : Code := nav (bodyOf xn) [true, true, false, true]
noncomputable def xip : Code := nav (bodyOf xn) [true, true, false, true, false]
noncomputable def xej : Code := nav (bodyOf xn) [true, true, false, true, false, false]
noncomputable def x19i : Code := nav (bodyOf xn) [true, true, false, true, false, false, false]
noncomputable def xtk : Code := nav (bodyOf xn) [true, true, false, true, false, false, true]
noncomputable def x19j : Code := nav (bodyOf xn) [true, true, false, true, false, false, true, false]
noncomputable def xiq : Code := nav (bodyOf xn) [true, true, false, true, false, false, true, true]
noncomputable def xir : Code := nav (bodyOf xn) [true, true, false, true, false, false, true, true, false]
noncomputable def xtl : Code := nav (bodyOf xn) [true, true, false, true, false, false, true, true, true]
noncomputable def xis : Code := nav (bodyOf xn) [true, true, false, true, false, false, true, true, false, false]
noncomputable def x19k : Code := nav (bodyOf xn) [true, true, false, true, false, false, true, true, false, false, false]
noncomputable def xit : Code := nav (bodyOf xn) [true, true, false, true, false, false, true, true, false, false, true]
noncomputable def xtm : Code := nav (bodyOf xn) [true, true, false, true, false, false, true, true, false, false, true, false]
noncomputable def xtn : Code := nav (bodyOf xn) [true, true, false, true, false, false, true, true, false, false, true, true]
theorem x19l (call : FCall) (hs : FHs) (u : Nat) :
  fxK Try.prog pol NN call xtj (AV × Mem) (x2e hs u) x1u eNil x1u = (fun s => x2d call hs u (s.sl 3) s.m s.fc) := by
  kernel_rfl
theorem x19m (call : FCall) (hs : FHs) (u : Nat) (rec0 : AV → AV → AV → AV → Mem → Nat → Option (AV × Mem)) :
  fxK Try.prog pol NN call xtl (AV × Mem) (x2e hs u) (fun s => rec0 (s.sl 3) (s.sl 28) (s.sl 29) (s.sl 30) s.m s.fc) (setE 0 (fun s => x2d call hs u (s.sl 3) s.m s.fc) eNil) x1u = (fun s => x4k call hs u rec0 (s.sl 3) (s.sl 28) (s.sl 29) (s.sl 30) s.m s.fc) := by
  kernel_rfl
theorem x19n (call : FCall) (hs : FHs) (u : Nat) (rec0 : AV → AV → AV → AV → Mem → Nat → Option (AV × Mem)) :
  fxK Try.prog pol NN call xtn (AV × Mem) (x2e hs u) (fun s => x4k call hs u rec0 (s.sl 3) (s.sl 28) (s.sl 29) (s.sl 30) s.m s.fc) (setE 1 (fun s => x4k call hs u rec0 (s.sl 3) (s.sl 28) (s.sl 29) (s.sl 30) s.m s.fc) (setE 0 (fun s => x2d call hs u (s.sl 3) s.m s.fc) eNil)) x1u = (fun s => xbt call hs u rec0 (s.sl 3) (s.sl 4) (s.sl 5) (s.sl 28) (s.sl 29) (s.sl 30) s.m s.fc) := by
  kernel_rfl
theorem x19o (call : FCall) (hs : FHs) (u : Nat) (rec0 : AV → AV → AV → AV → Mem → Nat → Option (AV × Mem)) :
  fxK Try.prog pol NN call xtm (AV × Mem) (x2e hs u) (fun s => xbt call hs u rec0 (s.sl 3) (s.sl 4) (s.sl 5) (s.sl 28) (s.sl 29) (s.sl 30) s.m s.fc) (setE 1 (fun s => x4k call hs u rec0 (s.sl 3) (s.sl 28) (s.sl 29) (s.sl 30) s.m s.fc) (setE 0 (fun s => x2d call hs u (s.sl 3) s.m s.fc) eNil)) x1u = (fun s => xgx call hs u rec0 (s.sl 3) (s.sl 4) (s.sl 5) (s.sl 28) (s.sl 29) (s.sl 30) s.m s.fc) := by
  kernel_rfl
theorem x19p (call : FCall) (hs : FHs) (u : Nat) (rec0 : AV → AV → AV → AV → Mem → Nat → Option (AV × Mem)) :
  fxK Try.prog pol NN call xit (AV × Mem) (x2e hs u) (fun s => x4k call hs u rec0 (s.sl 3) (s.sl 28) (s.sl 29) (s.sl 30) s.m s.fc) (setE 1 (fun s => x4k call hs u rec0 (s.sl 3) (s.sl 28) (s.sl 29) (s.sl 30) s.m s.fc) (setE 0 (fun s => x2d call hs u (s.sl 3) s.m s.fc) eNil)) x1u = (fun s => xgx call hs u rec0 (s.sl 3) (s.sl 4) (s.sl 5) (s.sl 28) (s.sl 29) (s.sl 30) s.m s.fc) := by
  rw [show xit = .seq xtm xtn from by kernel_rfl, seq_r, x19n call hs u rec0, x19o call hs u rec0]
theorem x19q (call : FCall) (hs : FHs) (u : Nat) (rec0 : AV → AV → AV → AV → Mem → Nat → Option (AV × Mem)) :
  fxK Try.prog pol NN call xis (AV × Mem) (x2e hs u) (fun s => x4k call hs u rec0 (s.sl 3) (s.sl 28) (s.sl 29) (s.sl 30) s.m s.fc) (setE 1 (fun s => x4k call hs u rec0 (s.sl 3) (s.sl 28) (s.sl 29) (s.sl 30) s.m s.fc) (setE 0 (fun s => x2d call hs u (s.sl 3) s.m s.fc) eNil)) x1u = (fun s => xe1 call hs u rec0 (s.sl 3) (s.sl 28) (s.sl 29) (s.sl 30) s.m s.fc) := by
  rw [show xis = .seq x19k xit from by kernel_rfl, seq_r]; rw [x19p call hs u rec0]; kernel_rfl
theorem x19r (call : FCall) (hs : FHs) (u : Nat) (rec0 : AV → AV → AV → AV → Mem → Nat → Option (AV × Mem)) :
  fxK Try.prog pol NN call xir (AV × Mem) (x2e hs u) (fun s => x4k call hs u rec0 (s.sl 3) (s.sl 28) (s.sl 29) (s.sl 30) s.m s.fc) (setE 0 (fun s => x2d call hs u (s.sl 3) s.m s.fc) eNil) x1u = (fun s => xe1 call hs u rec0 (s.sl 3) (s.sl 28) (s.sl 29) (s.sl 30) s.m s.fc) := by
  rw [show xir = .block 1 xis from by kernel_rfl, block_r, x19q call hs u rec0]
theorem x19s (call : FCall) (hs : FHs) (u : Nat) (rec0 : AV → AV → AV → AV → Mem → Nat → Option (AV × Mem)) :
  fxK Try.prog pol NN call xiq (AV × Mem) (x2e hs u) (fun s => rec0 (s.sl 3) (s.sl 28) (s.sl 29) (s.sl 30) s.m s.fc) (setE 0 (fun s => x2d call hs u (s.sl 3) s.m s.fc) eNil) x1u = (fun s => xe1 call hs u rec0 (s.sl 3) (s.sl 28) (s.sl 29) (s.sl 30) s.m s.fc) := by
  rw [show xiq = .seq xir xtl from by kernel_rfl, seq_r, x19m call hs u rec0, x19r call hs u rec0]
theorem x19t (call : FCall) (hs : FHs) (u : Nat) (rec0 : AV → AV → AV → AV → Mem → Nat → Option (AV × Mem)) :
  fxK Try.prog pol NN call xej (AV × Mem) (x2e hs u) (fun s => rec0 (s.sl 3) (s.sl 28) (s.sl 29) (s.sl 30) s.m s.fc) (setE 0 (fun s => x2d call hs u (s.sl 3) s.m s.fc) eNil) x1u = (fun s => xr5 call hs u rec0 (s.sl 3) (s.sl 28) (s.sl 29) (s.sl 30) s.m s.fc) := by
  rw [show xej = .seq x19i xtk from by kernel_rfl, seq_r]; rw [show xtk = .seq x19j xiq from by kernel_rfl, seq_r]; rw [x19s call hs u rec0]; kernel_rfl
theorem xto (call : FCall) (hs : FHs) (u : Nat) : ∀ n : Nat,
  iter (fun rec => fxK Try.prog pol NN call xej (AV × Mem) (x2e hs u) rec (setE 0 (fun s => x2d call hs u (s.sl 3) s.m s.fc) eNil) x1u) n = (fun s => xa5 call hs u n (s.sl 3) (s.sl 28) (s.sl 29) (s.sl 30) s.m s.fc)
  | 0 => rfl
  | n + 1 => by rw [iter_succ, xto call hs u n, x19t call hs u (xa5 call hs u n)]; kernel_rfl
theorem x19u (call : FCall) (hs : FHs) (u : Nat) :
  fxK Try.prog pol NN call xip (AV × Mem) (x2e hs u) (fun s => x2d call hs u (s.sl 3) s.m s.fc) (setE 0 (fun s => x2d call hs u (s.sl 3) s.m s.fc) eNil) x1u = (fun s => xa5 call hs u NN (s.sl 3) (s.sl 28) (s.sl 29) (s.sl 30) s.m s.fc) := by
  rw [show xip = .loop xej from by kernel_rfl, loop_r, xto call hs u NN]
theorem x19v (call : FCall) (hs : FHs) (u : Nat) :
  fxK Try.prog pol NN call xio (AV × Mem) (x2e hs u) (fun s => x2d call hs u (s.sl 3) s.m s.fc) eNil x1u = (fun s => xa5 call hs u NN (s.sl 3) (s.sl 28) (s.sl 29) (s.sl 30) s.m s.fc) := by
  rw [show xio = .block 0 xip from by kernel_rfl, block_r, x19u call hs u]
theorem x19w (call : FCall) (hs : FHs) (u : Nat) :
  fxK Try.prog pol NN call xin (AV × Mem) (x2e hs u) (fun s => x2d call hs u (s.sl 3) s.m s.fc) eNil x1u = (fun s => xgy call hs u (s.sl 1) (s.sl 3) s.m s.fc) := by
  rw [show xin = .seq x19h xio from by kernel_rfl, seq_r]; rw [x19v call hs u]; kernel_rfl
theorem x19x (call : FCall) (hs : FHs) (u : Nat) :
  fxK Try.prog pol NN call xim (AV × Mem) (x2e hs u) x1u eNil x1u = (fun s => xgy call hs u (s.sl 1) (s.sl 3) s.m s.fc) := by
  rw [show xim = .seq xin xtj from by kernel_rfl, seq_r, x19l call hs u, x19w call hs u]
theorem x19y (call : FCall) (hs : FHs) (u : Nat) :
  fxK Try.prog pol NN call xil (AV × Mem) (x2e hs u) x1u eNil x1u = (fun s => xr6 call hs u (s.sl 0) s.m s.fc) := by
  rw [show xil = .seq x19f xti from by kernel_rfl, seq_r]; rw [show xti = .seq x19g xim from by kernel_rfl, seq_r]; rw [x19x call hs u]; kernel_rfl
theorem x19z (call : FCall) (hs : FHs) (t0 : AV) (m : Mem) : fxBody Try.prog pol NN call hs xn [t0] m = xb9 call hs [t0] m := by
  rw [fxBody_at (fn := Try.f103) (body := xil) (nt := 132) (rs := [.tmp 2]) (by kernel_rfl) (by kernel_rfl) (by kernel_rfl) (by kernel_rfl) (by kernel_rfl) (by kernel_rfl)]
  exact (congrFun (x19y call hs m.next) _).trans (by kernel_rfl)
theorem x15g (call : FCall) (hs : FHs) (args : List AV) (m : Mem) (r : AV × Mem) (h : xb9 call hs args m = some r) : fxBody Try.prog pol NN call hs xn args m = some r := by
  unfold xb9 at h
  split at h
  · rw [x19z]; exact h
  · cases h

/- slices.IndexFunc[[]int,int] -/
abbrev x6q (hs : FHs) (u : Nat) : FCtx := { f := x1r, u := u, nt := 19, hs := hs }
noncomputable abbrev x3s : Fs → Option (AV × Mem) := fxRes Try.prog [.tmp 4]
noncomputable def xiu : Code := nav (bodyOf x1r) []
noncomputable def x1a0 : Code := nav (bodyOf x1r) [false]
noncomputable def xiv : Code := nav (bodyOf x1r) [true]
noncomputable def xiw : Code := nav (bodyOf x1r) [true, false]
noncomputable def xtp : Code := nav (bodyOf x1r) [true, true]
noncomputable def x1a1 : Code := nav (bodyOf x1r) [true, false, false]
noncomputable def xix : Code := nav (bodyOf x1r) [true, false, true]
noncomputable def xiy : Code := nav (bodyOf x1r) [true, false, true, false]
noncomputable def xiz : Code := nav (bodyOf x1r) [true, false, true, false, false]
theorem x1a2 (call : FCall) (hs : FHs) (u : Nat) :
  fxK Try.prog pol NN call xtp (AV × Mem) (x6q hs u) x3s eNil x3s = (fun s => x4l call hs u s.m s.fc) := by
  kernel_rfl
theorem x1a3 (call : FCall) (hs : FHs) (u : Nat) (rec0 : AV → AV → AV → AV → Mem → Nat → Option (AV × Mem)) :
  fxK Try.prog pol NN call xiz (AV × Mem) (x6q hs u) (fun s => rec0 (s.sl 0) (s.sl 1) (s.sl 7) (s.sl 8) s.m s.fc) (setE 0 (fun s => x4l call hs u s.m s.fc) eNil) x3s = (fun s => xa6 call hs u rec0 (s.sl 0) (s.sl 1) (s.sl 7) (s.sl 8) s.m s.fc) := by
  kernel_rfl
theorem xtq (call : FCall) (hs : FHs) (u : Nat) : ∀ n : Nat,
  iter (fun rec => fxK Try.prog pol NN call xiz (AV × Mem) (x6q hs u) rec (setE 0 (fun s => x4l call hs u s.m s.fc) eNil) x3s) n = (fun s => x34 call hs u n (s.sl 0) (s.sl 1) (s.sl 7) (s.sl 8) s.m s.fc)
  | 0 => rfl
  | n + 1 => by rw [iter_succ, xtq call hs u n, x1a3 call hs u (x34 call hs u n)]; kernel_rfl
theorem x1a4 (call : FCall) (hs : FHs) (u : Nat) :
  fxK Try.prog pol NN call xiy (AV × Mem) (x6q hs u) (fun s => x4l call hs u s.m s.fc) (setE 0 (fun s => x4l call hs u s.m s.fc) eNil) x3s = (fun s => x34 call hs u NN (s.sl 0) (s.sl 1) (s.sl 7) (s.sl 8) s.m s.fc) := by
  rw [show xiy = .loop xiz from by kernel_rfl, loop_r, xtq call hs u NN]
theorem x1a5 (call : FCall) (hs : FHs) (u : Nat) :
  fxK Try.prog pol NN call xix (AV × Mem) (x6q hs u) (fun s => x4l call hs u s.m s.fc) eNil x3s = (fun s => x34 call hs u NN (s.sl 0) (s.sl 1) (s.sl 7) (s.sl 8) s.m s.fc) := by
  rw [show xix = .block 0 xiy from by kernel_rfl, block_r, x1a4 call hs u]
theorem x1a6 (call : FCall) (hs : FHs) (u : Nat) :
  fxK Try.prog pol NN call xiw (AV × Mem) (x6q hs u) (fun s => x4l call hs u s.m s.fc) eNil x3s = (fun s => xbu call hs u (s.sl 0) (s.sl 1) s.m s.fc) := by
  rw [show xiw = .seq x1a1 xix from by kernel_rfl, seq_r]; rw [x1a5 call hs u]; kernel_rfl
theorem x1a7 (call : FCall) (hs : FHs) (u : Nat) :
  fxK Try.prog pol NN call xiv (AV × Mem) (x6q hs u) x3s eNil x3s = (fun s => xbu call hs u (s.sl 0) (s.sl 1) s.m s.fc) := by
  rw [show xiv = .seq xiw xtp from by kernel_rfl, seq_r, x1a2 call hs u, x1a6 call hs u]
theorem x1a8 (call : FCall) (hs : FHs) (u : Nat) :
  fxK Try.prog pol NN call xiu (AV × Mem) (x6q hs u) x3s eNil x3s = (fun s => xe2 call hs u (s.sl 0) (s.sl 1) s.m s.fc) := by
  rw [show xiu = .seq x1a0 xiv from by kernel_rfl, seq_r]; rw [x1a7 call hs u]; kernel_rfl
theorem x1a9 (call : FCall) (hs : FHs) (t0 t1 : AV) (m : Mem) : fxBody Try.prog pol NN call hs x1r [t0, t1] m = x75 call hs [t0, t1] m := by
  rw [fxBody_at (fn := Try.f104) (body := xiu) (nt := 19) (rs := [.tmp 4]) (by kernel_rfl) (by kernel_rfl) (by kernel_rfl) (by kernel_rfl) (by kernel_rfl) (by kernel_rfl)]
  exact (congrFun (x1a8 call hs m.next) _).trans (by kernel_rfl)
theorem x13j (call : FCall) (hs : FHs) (args : List AV) (m : Mem) (r : AV × Mem) (h : x75 call hs args m = some r) : fxBody Try.prog pol NN call hs x1r args m = some r := by
  unfold x75 at h
  split at h
  · rw [x1a9]; exact h
  · cases h

/- (swath/unwrap.net).solve$1 -/
abbrev x1aa (hs : FHs) (u : Nat) : FCtx := { f := x76, u := u, nt := 5, hs := hs }
noncomputable abbrev xtr : Fs → Option (AV × Mem) := fxRes Try.prog [.tmp 2]
noncomputable def xts : Code := nav (bodyOf x76) []
theorem x1ab (call : FCall) (hs : FHs) (u : Nat) :
  fxK Try.prog pol NN call xts (AV × Mem) (x1aa hs u) xtr eNil xtr = (fun s => xr7 call hs u (s.sl 0) s.m s.fc) := by
  kernel_rfl
theorem x1ac (call : FCall) (hs : FHs) (t0 : AV) (m : Mem) : fxBody Try.prog pol NN call hs x76 [t0] m = xav call hs [t0] m := by
  rw [fxBody_at (fn := Try.f105) (body := xts) (nt := 5) (rs := [.tmp 2]) (by kernel_rfl) (by kernel_rfl) (by kernel_rfl) (by kernel_rfl) (by kernel_rfl) (by kernel_rfl)]
  exact (congrFun (x1ab call hs m.next) _).trans (by kernel_rfl)
theorem x13k (call : FCall) (hs : FHs) (args : List AV) (m : Mem) (r : AV × Mem) (h : xav call hs args m = some r) : fxBody Try.prog pol NN call hs x76 args m = some r := by
  unfold xav at h
  split at h
  · rw [x1ac]; exact h
  · cases h

/- (*swath/unwrap.solver).push -/
abbrev xp (hs : FHs) (u : Nat) : FCtx := { f := x7, u := u, nt := 160, hs := hs }
noncomputable abbrev xc : Fs → Option (AV × Mem) := fxRes Try.prog []
noncomputable def xj0 : Code := nav (bodyOf x7) []
noncomputable def x1ad : Code := nav (bodyOf x7) [false]
noncomputable def xtt : Code := nav (bodyOf x7) [true]
noncomputable def x1ae : Code := nav (bodyOf x7) [true, false]
noncomputable def xj1 : Code := nav (bodyOf x7) [true, true]
noncomputable def xj2 : Code := nav (bodyOf x7) [true, true, false]
noncomputable def xj3 : Code := nav (bodyOf x7) [true, true, true]
noncomputable def x1af : Code := nav (bodyOf x7) [true, true, true, false]
noncomputable def xj4 : Code := nav (bodyOf x7) [true, true, true, true]
noncomputable def xj5 : Code := nav (bodyOf x7) [true, true, true, true, false]
noncomputable def xj6 : Code := nav (bodyOf x7) [true, true, true, true, true]
noncomputable def xj7 : Code := nav (bodyOf x7) [true, true, true, true, true, false]
noncomputable def xj8 : Code := nav (bodyOf x7) [true, true, true, true, true, true]
noncomputable def x1ag : Code := nav (bodyOf x7) [true, true, true, true, true, true, false]
noncomputable def xtu : Code := nav (bodyOf x7) [true, true, true, true, true, true, true]
noncomputable def x1ah : Code := nav (bodyOf x7) [true, true, true, true, true, true, true, false]
noncomputable def xtv : Code := nav (bodyOf x7) [true, true, true, true, true, true, true, true]
noncomputable def x1ai : Code := nav (bodyOf x7) [true, true, true, true, true, true, true, true, false]
noncomputable def xj9 : Code := nav (bodyOf x7) [true, true, true, true, true, true, true, true, true]
noncomputable def xja : Code := nav (bodyOf x7) [true, true, true, true, true, true, true, true, true, false]
noncomputable def xjb : Code := nav (bodyOf x7) [true, true, true, true, true, true, true, true, true, false, false]
noncomputable def x1aj : Code := nav (bodyOf x7) [true, true, true, true, true, false, false]
noncomputable def xjc : Code := nav (bodyOf x7) [true, true, true, true, true, false, true]
noncomputable def xjd : Code := nav (bodyOf x7) [true, true, true, true, true, false, true, false]
noncomputable def xje : Code := nav (bodyOf x7) [true, true, true, true, true, false, true, false, false]
noncomputable def x1ak : Code := nav (bodyOf x7) [true, true, true, true, false, false]
noncomputable def xjf : Code := nav (bodyOf x7) [true, true, true, true, false, true]
noncomputable def xjg : Code := nav (bodyOf x7) [true, true, true, true, false, true, false]
noncomputable def xjh : Code := nav (bodyOf x7) [true, true, true, true, false, true, false, false]
noncomputable def x1al : Code := nav (bodyOf x7) [true, true, false, false]
noncomputable def xji : Code := nav (bodyOf x7) [true, true, false, true]
noncomputable def xjj : Code := nav (bodyOf x7) [true, true, false, true, false]
noncomputable def xek : Code := nav (bodyOf x7) [true, true, false, true, false, false]
noncomputable def x1am : Code := nav (bodyOf x7) [true, true, false, true, false, false, false]
noncomputable def xtw : Code := nav (bodyOf x7) [true, true, false, true, false, false, true]
noncomputable def x1an : Code := nav (bodyOf x7) [true, true, false, true, false, false, true, false]
noncomputable def xjk : Code := nav (bodyOf x7) [true, true, false, true, false, false, true, true]
noncomputable def xtx : Code := nav (bodyOf x7) [true, true, false, true, false, false, true, true, false]
noncomputable def xty : Code := nav (bodyOf x7) [true, true, false, true, false, false, true, true, true]
theorem x1ao (call : FCall) (hs : FHs) (u : Nat) (rec0 : AV → AV → AV → AV → AV → AV → Mem → Nat → Option (AV × Mem)) :
  fxK Try.prog pol NN call xjb (AV × Mem) (xp hs u) (fun s => rec0 (s.sl 0) (s.sl 4) (s.sl 5) (s.sl 136) (s.sl 137) (s.sl 138) s.m s.fc) (setE 6 xc eNil) xc = (fun s => xr8 call hs u rec0 (s.sl 0) (s.sl 4) (s.sl 5) (s.sl 136) (s.sl 137) (s.sl 138) s.m s.fc) := by
  kernel_rfl
theorem xtz (call : FCall) (hs : FHs) (u : Nat) : ∀ n : Nat,
  iter (fun rec => fxK Try.prog pol NN call xjb (AV × Mem) (xp hs u) rec (setE 6 xc eNil) xc) n = (fun s => xa7 call hs u n (s.sl 0) (s.sl 4) (s.sl 5) (s.sl 136) (s.sl 137) (s.sl 138) s.m s.fc)
  | 0 => rfl
  | n + 1 => by rw [iter_succ, xtz call hs u n, x1ao call hs u (xa7 call hs u n)]; kernel_rfl
theorem x1ap (call : FCall) (hs : FHs) (u : Nat) :
  fxK Try.prog pol NN call xja (AV × Mem) (xp hs u) xc (setE 6 xc eNil) xc = (fun s => xa7 call hs u NN (s.sl 0) (s.sl 4) (s.sl 5) (s.sl 136) (s.sl 137) (s.sl 138) s.m s.fc) := by
  rw [show xja = .loop xjb from by kernel_rfl, loop_r, xtz call hs u NN]
theorem x1aq (call : FCall) (hs : FHs) (u : Nat) :
  fxK Try.prog pol NN call xj9 (AV × Mem) (xp hs u) xc eNil xc = (fun s => xa7 call hs u NN (s.sl 0) (s.sl 4) (s.sl 5) (s.sl 136) (s.sl 137) (s.sl 138) s.m s.fc) := by
  rw [show xj9 = .block 6 xja from by kernel_rfl, block_r, x1ap call hs u]
theorem x1ar (call : FCall) (hs : FHs) (u : Nat) :
  fxK Try.prog pol NN call xj8 (AV × Mem) (xp hs u) xc eNil xc = (fun s => x6l call hs u (s.sl 0) (s.sl 1) (s.sl 4) (s.sl 5) (s.sl 8) s.m s.fc) := by
  rw [show xj8 = .seq x1ag xtu from by kernel_rfl, seq_r]; rw [show xtu = .seq x1ah xtv from by kernel_rfl, seq_r]; rw [show xtv = .seq x1ai xj9 from by kernel_rfl, seq_r]; rw [x1aq call hs u]; kernel_rfl
theorem x1as (call : FCall) (hs : FHs) (u : Nat) (rec1 : AV → AV → AV → AV → AV → AV → Mem → Nat → Option (AV × Mem)) :
  fxK Try.prog pol NN call xje (AV × Mem) (xp hs u) (fun s => rec1 (s.sl 0) (s.sl 1) (s.sl 4) (s.sl 5) (s.sl 8) (s.sl 10) s.m s.fc) (setE 4 (fun s => x6l call hs u (s.sl 0) (s.sl 1) (s.sl 4) (s.sl 5) (s.sl 8) s.m s.fc) eNil) xc = (fun s => xr9 call hs u rec1 (s.sl 0) (s.sl 1) (s.sl 4) (s.sl 5) (s.sl 8) (s.sl 10) s.m s.fc) := by
  kernel_rfl
theorem xu0 (call : FCall) (hs : FHs) (u : Nat) : ∀ n : Nat,
  iter (fun rec => fxK Try.prog pol NN call xje (AV × Mem) (xp hs u) rec (setE 4 (fun s => x6l call hs u (s.sl 0) (s.sl 1) (s.sl 4) (s.sl 5) (s.sl 8) s.m s.fc) eNil) xc) n = (fun s => xa8 call hs u n (s.sl 0) (s.sl 1) (s.sl 4) (s.sl 5) (s.sl 8) (s.sl 10) s.m s.fc)
  | 0 => rfl
  | n + 1 => by rw [iter_succ, xu0 call hs u n, x1as call hs u (xa8 call hs u n)]; kernel_rfl
theorem x1at (call : FCall) (hs : FHs) (u : Nat) :
  fxK Try.prog pol NN call xjd (AV × Mem) (xp hs u) (fun s => x6l call hs u (s.sl 0) (s.sl 1) (s.sl 4) (s.sl 5) (s.sl 8) s.m s.fc) (setE 4 (fun s => x6l call hs u (s.sl 0) (s.sl 1) (s.sl 4) (s.sl 5) (s.sl 8) s.m s.fc) eNil) xc = (fun s => xa8 call hs u NN (s.sl 0) (s.sl 1) (s.sl 4) (s.sl 5) (s.sl 8) (s.sl 10) s.m s.fc) := by
  rw [show xjd = .loop xje from by kernel_rfl, loop_r, xu0 call hs u NN]
theorem x1au (call : FCall) (hs : FHs) (u : Nat) :
  fxK Try.prog pol NN call xjc (AV × Mem) (xp hs u) (fun s => x6l call hs u (s.sl 0) (s.sl 1) (s.sl 4) (s.sl 5) (s.sl 8) s.m s.fc) eNil xc = (fun s => xa8 call hs u NN (s.sl 0) (s.sl 1) (s.sl 4) (s.sl 5) (s.sl 8) (s.sl 10) s.m s.fc) := by
  rw [show xjc = .block 4 xjd from by kernel_rfl, block_r, x1at call hs u]
theorem x1av (call : FCall) (hs : FHs) (u : Nat) :
  fxK Try.prog pol NN call xj7 (AV × Mem) (xp hs u) (fun s => x6l call hs u (s.sl 0) (s.sl 1) (s.sl 4) (s.sl 5) (s.sl 8) s.m s.fc) eNil xc = (fun s => x5x call hs u (s.sl 0) (s.sl 1) (s.sl 4) (s.sl 5) (s.sl 8) s.m s.fc) := by
  rw [show xj7 = .seq x1aj xjc from by kernel_rfl, seq_r]; rw [x1au call hs u]; kernel_rfl
theorem x1aw (call : FCall) (hs : FHs) (u : Nat) :
  fxK Try.prog pol NN call xj6 (AV × Mem) (xp hs u) xc eNil xc = (fun s => x5x call hs u (s.sl 0) (s.sl 1) (s.sl 4) (s.sl 5) (s.sl 8) s.m s.fc) := by
  rw [show xj6 = .seq xj7 xj8 from by kernel_rfl, seq_r, x1ar call hs u, x1av call hs u]
theorem x1ax (call : FCall) (hs : FHs) (u : Nat) (rec2 : AV → AV → AV → AV → AV → AV → Mem → Nat → Option (AV × Mem)) :
  fxK Try.prog pol NN call xjh (AV × Mem) (xp hs u) (fun s => rec2 (s.sl 0) (s.sl 1) (s.sl 4) (s.sl 5) (s.sl 8) (s.sl 9) s.m s.fc) (setE 2 (fun s => x5x call hs u (s.sl 0) (s.sl 1) (s.sl 4) (s.sl 5) (s.sl 8) s.m s.fc) eNil) xc = (fun s => xra call hs u rec2 (s.sl 0) (s.sl 1) (s.sl 4) (s.sl 5) (s.sl 8) (s.sl 9) s.m s.fc) := by
  kernel_rfl
theorem xu1 (call : FCall) (hs : FHs) (u : Nat) : ∀ n : Nat,
  iter (fun rec => fxK Try.prog pol NN call xjh (AV × Mem) (xp hs u) rec (setE 2 (fun s => x5x call hs u (s.sl 0) (s.sl 1) (s.sl 4) (s.sl 5) (s.sl 8) s.m s.fc) eNil) xc) n = (fun s => xa9 call hs u n (s.sl 0) (s.sl 1) (s.sl 4) (s.sl 5) (s.sl 8) (s.sl 9) s.m s.fc)
  | 0 => rfl
  | n + 1 => by rw [iter_succ, xu1 call hs u n, x1ax call hs u (xa9 call hs u n)]; kernel_rfl
theorem x1ay (call : FCall) (hs : FHs) (u : Nat) :
  fxK Try.prog pol NN call xjg (AV × Mem) (xp hs u) (fun s => x5x call hs u (s.sl 0) (s.sl 1) (s.sl 4) (s.sl 5) (s.sl 8) s.m s.fc) (setE 2 (fun s => x5x call hs u (s.sl 0) (s.sl 1) (s.sl 4) (s.sl 5) (s.sl 8) s.m s.fc) eNil) xc = (fun s => xa9 call hs u NN (s.sl 0) (s.sl 1) (s.sl 4) (s.sl 5) (s.sl 8) (s.sl 9) s.m s.fc) := by
  rw [show xjg = .loop xjh from by kernel_rfl, loop_r, xu1 call hs u NN]
theorem x1az (call : FCall) (hs : FHs) (u : Nat) :
  fxK Try.prog pol NN call xjf (AV × Mem) (xp hs u) (fun s => x5x call hs u (s.sl 0) (s.sl 1) (s.sl 4) (s.sl 5) (s.sl 8) s.m s.fc) eNil xc = (fun s => xa9 call hs u NN (s.sl 0) (s.sl 1) (s.sl 4) (s.sl 5) (s.sl 8) (s.sl 9) s.m s.fc) := by
  rw [show xjf = .block 2 xjg from by kernel_rfl, block_r, x1ay call hs u]
theorem x1b0 (call : FCall) (hs : FHs) (u : Nat) :
  fxK Try.prog pol NN call xj5 (AV × Mem) (xp hs u) (fun s => x5x call hs u (s.sl 0) (s.sl 1) (s.sl 4) (s.sl 5) (s.sl 8) s.m s.fc) eNil xc = (fun s => xgz call hs u (s.sl 0) (s.sl 1) (s.sl 4) (s.sl 5) (s.sl 8) s.m s.fc) := by
  rw [show xj5 = .seq x1ak xjf from by kernel_rfl, seq_r]; rw [x1az call hs u]; kernel_rfl
theorem x1b1 (call : FCall) (hs : FHs) (u : Nat) :
  fxK Try.prog pol NN call xj4 (AV × Mem) (xp hs u) xc eNil xc = (fun s => xgz call hs u (s.sl 0) (s.sl 1) (s.sl 4) (s.sl 5) (s.sl 8) s.m s.fc) := by
  rw [show xj4 = .seq xj5 xj6 from by kernel_rfl, seq_r, x1aw call hs u, x1b0 call hs u]
theorem x1b2 (call : FCall) (hs : FHs) (u : Nat) :
  fxK Try.prog pol NN call xj3 (AV × Mem) (xp hs u) xc eNil xc = (fun s => x3k call hs u (s.sl 0) (s.sl 1) (s.sl 4) (s.sl 5) s.m s.fc) := by
  rw [show xj3 = .seq x1af xj4 from by kernel_rfl, seq_r]; rw [x1b1 call hs u]; kernel_rfl
theorem x1b3 (call : FCall) (hs : FHs) (u : Nat) (rec3 : AV → AV → AV → AV → AV → AV → AV → Mem → Nat → Option (AV × Mem)) :
  fxK Try.prog pol NN call xty (AV × Mem) (xp hs u) (fun s => rec3 (s.sl 0) (s.sl 1) (s.sl 4) (s.sl 5) (s.sl 17) (s.sl 18) (s.sl 19) s.m s.fc) (setE 0 (fun s => x3k call hs u (s.sl 0) (s.sl 1) (s.sl 4) (s.sl 5) s.m s.fc) eNil) xc = (fun s => xe3 call hs u rec3 (s.sl 0) (s.sl 1) (s.sl 4) (s.sl 5) (s.sl 17) (s.sl 18) (s.sl 19) s.m s.fc) := by
  kernel_rfl
theorem x1b4 (call : FCall) (hs : FHs) (u : Nat) (rec3 : AV → AV → AV → AV → AV → AV → AV → Mem → Nat → Option (AV × Mem)) :
  fxK Try.prog pol NN call xtx (AV × Mem) (xp hs u) (fun s => xe3 call hs u rec3 (s.sl 0) (s.sl 1) (s.sl 4) (s.sl 5) (s.sl 17) (s.sl 18) (s.sl 19) s.m s.fc) (setE 0 (fun s => x3k call hs u (s.sl 0) (s.sl 1) (s.sl 4) (s.sl 5) s.m s.fc) eNil) xc = (fun s => xh0 call hs u rec3 (s.sl 0) (s.sl 1) (s.sl 4) (s.sl 5) (s.sl 17) (s.sl 18) (s.sl 19) s.m s.fc) := by
  kernel_rfl
theorem x1b5 (call : FCall) (hs : FHs) (u : Nat) (rec3 : AV → AV → AV → AV → AV → AV → AV → Mem → Nat → Option (AV × Mem)) :
  fxK Try.prog pol NN call xjk (AV × Mem) (xp hs u) (fun s => rec3 (s.sl 0) (s.sl 1) (s.sl 4) (s.sl 5) (s.sl 17) (s.sl 18) (s.sl 19) s.m s.fc) (setE 0 (fun s => x3k call hs u (s.sl 0) (s.sl 1) (s.sl 4) (s.sl 5) s.m s.fc) eNil) xc = (fun s => xh0 call hs u rec3 (s.sl 0) (s.sl 1) (s.sl 4) (s.sl 5) (s.sl 17) (s.sl 18) (s.sl 19) s.m s.fc) := by
  rw [show xjk = .seq xtx xty from by kernel_rfl, seq_r, x1b3 call hs u rec3, x1b4 call hs u rec3]
theorem x1b6 (call : FCall) (hs : FHs) (u : Nat) (rec3 : AV → AV → AV → AV → AV → AV → AV → Mem → Nat → Option (AV × Mem)) :
  fxK Try.prog pol NN call xek (AV × Mem) (xp hs u) (fun s => rec3 (s.sl 0) (s.sl 1) (s.sl 4) (s.sl 5) (s.sl 17) (s.sl 18) (s.sl 19) s.m s.fc) (setE 0 (fun s => x3k call hs u (s.sl 0) (s.sl 1) (s.sl 4) (s.sl 5) s.m s.fc) eNil) xc = (fun s => xrb call hs u rec3 (s.sl 0) (s.sl 1) (s.sl 4) (s.sl 5) (s.sl 17) (s.sl 18) (s.sl 19) s.m s.fc) := by
  rw [show xek = .seq x1am xtw from by kernel_rfl, seq_r]; rw [show xtw = .seq x1an xjk from by kernel_rfl, seq_r]; rw [x1b5 call hs u rec3]; kernel_rfl
theorem xu2 (call : FCall) (hs : FHs) (u : Nat) : ∀ n : Nat,
  iter (fun rec => fxK Try.prog pol NN call xek (AV × Mem) (xp hs u) rec (setE 0 (fun s => x3k call hs u (s.sl 0) (s.sl 1) (s.sl 4) (s.sl 5) s.m s.fc) eNil) xc) n = (fun s => xaa call hs u n (s.sl 0) (s.sl 1) (s.sl 4) (s.sl 5) (s.sl 17) (s.sl 18) (s.sl 19) s.m s.fc)
  | 0 => rfl
  | n + 1 => by rw [iter_succ, xu2 call hs u n, x1b6 call hs u (xaa call hs u n)]; kernel_rfl
theorem x1b7 (call : FCall) (hs : FHs) (u : Nat) :
  fxK Try.prog pol NN call xjj (AV × Mem) (xp hs u) (fun s => x3k call hs u (s.sl 0) (s.sl 1) (s.sl 4) (s.sl 5) s.m s.fc) (setE 0 (fun s => x3k call hs u (s.sl 0) (s.sl 1) (s.sl 4) (s.sl 5) s.m s.fc) eNil) xc = (fun s => xaa call hs u NN (s.sl 0) (s.sl 1) (s.sl 4) (s.sl 5) (s.sl 17) (s.sl 18) (s.sl 19) s.m s.fc) := by
  rw [show xjj = .loop xek from by kernel_rfl, loop_r, xu2 call hs u NN]
theorem x1b8 (call : FCall) (hs : FHs) (u : Nat) :
  fxK Try.prog pol NN call xji (AV × Mem) (xp hs u) (fun s => x3k call hs u (s.sl 0) (s.sl 1) (s.sl 4) (s.sl 5) s.m s.fc) eNil xc = (fun s => xaa call hs u NN (s.sl 0) (s.sl 1) (s.sl 4) (s.sl 5) (s.sl 17) (s.sl 18) (s.sl 19) s.m s.fc) := by
  rw [show xji = .block 0 xjj from by kernel_rfl, block_r, x1b7 call hs u]
theorem x1b9 (call : FCall) (hs : FHs) (u : Nat) :
  fxK Try.prog pol NN call xj2 (AV × Mem) (xp hs u) (fun s => x3k call hs u (s.sl 0) (s.sl 1) (s.sl 4) (s.sl 5) s.m s.fc) eNil xc = (fun s => xh1 call hs u (s.sl 0) (s.sl 1) (s.sl 4) (s.sl 5) s.m s.fc) := by
  rw [show xj2 = .seq x1al xji from by kernel_rfl, seq_r]; rw [x1b8 call hs u]; kernel_rfl
theorem x1ba (call : FCall) (hs : FHs) (u : Nat) :
  fxK Try.prog pol NN call xj1 (AV × Mem) (xp hs u) xc eNil xc = (fun s => xh1 call hs u (s.sl 0) (s.sl 1) (s.sl 4) (s.sl 5) s.m s.fc) := by
  rw [show xj1 = .seq xj2 xj3 from by kernel_rfl, seq_r, x1b2 call hs u, x1b9 call hs u]
theorem x1bb (call : FCall) (hs : FHs) (u : Nat) :
  fxK Try.prog pol NN call xj0 (AV × Mem) (xp hs u) xc eNil xc = (fun s => xrc call hs u (s.sl 0) (s.sl 1) s.m s.fc) := by
  rw [show xj0 = .seq x1ad xtt from by kernel_rfl, seq_r]; rw [show xtt = .seq x1ae xj1 from by kernel_rfl, seq_r]; rw [x1ba call hs u]; kernel_rfl
theorem x1bc (call : FCall) (hs : FHs) (t0 t1 : AV) (m : Mem) : fxBody Try.prog pol NN call hs x7 [t0, t1] m = xba call hs [t0, t1] m := by
  rw [fxBody_at (fn := Try.f106) (body := xj0) (nt := 160) (rs := []) (by kernel_rfl) (by kernel_rfl) (by kernel_rfl) (by kernel_rfl) (by kernel_rfl) (by kernel_rfl)]
  exact (congrFun (x1bb call hs m.next) _).trans (by kernel_rfl)
theorem x15h (call : FCall) (hs : FHs) (args : List AV) (m : Mem) (r : AV × Mem) (h : xba call hs args m = some r) : fxBody Try.prog pol NN call hs x7 args m = some r := by
  unfold xba at h
  split at h
  · rw [x1bc]; exact h
  · cases h

/- swath/unwrap.size -/
abbrev x1bd (hs : FHs) (u : Nat) : FCtx := { f := x49, u := u, nt := 7, hs := hs }
noncomputable abbrev xu3 : Fs → Option (AV × Mem) := fxRes Try.prog [.tmp 2]
noncomputable def xu4 : Code := nav (bodyOf x49) []
theorem x1be (call : FCall) (hs : FHs) (u : Nat) :
  fxK Try.prog pol NN call xu4 (AV × Mem) (x1bd hs u) xu3 eNil xu3 = (fun s => xh2 call hs u (s.sl 0) s.m s.fc) := by
  kernel_rfl
theorem x1bf (call : FCall) (hs : FHs) (t0 : AV) (m : Mem) : fxBody Try.prog pol NN call hs x49 [t0] m = x8a call hs [t0] m := by
  rw [fxBody_at (fn := Try.f107) (body := xu4) (nt := 7) (rs := [.tmp 2]) (by kernel_rfl) (by kernel_rfl) (by kernel_rfl) (by kernel_rfl) (by kernel_rfl) (by kernel_rfl)]
  exact (congrFun (x1be call hs m.next) _).trans (by kernel_rfl)
theorem x13i (call : FCall) (hs : FHs) (args : List AV) (m : Mem) (r : AV × Mem) (h : x8a call hs args m = some r) : fxBody Try.prog pol NN call hs x49 args m = some r := by
  unfold x8a at h
  split at h
  · rw [x1bf]; exact h
  · cases h

/- swath/unwrap.sides -/
abbrev x1bg (hs : FHs) (u : Nat) : FCtx := { f := x6f, u := u, nt := 6, hs := hs }
noncomputable abbrev xu5 : Fs → Option (AV × Mem) := fxRes Try.prog [.tmp 4]
noncomputable def xu6 : Code := nav (bodyOf x6f) []
theorem x1bh (call : FCall) (hs : FHs) (u : Nat) :
  fxK Try.prog pol NN call xu6 (AV × Mem) (x1bg hs u) xu5 eNil xu5 = (fun s => xh3 call hs u (s.sl 0) (s.sl 1) s.m s.fc) := by
  kernel_rfl
theorem x1bi (call : FCall) (hs : FHs) (t0 t1 : AV) (m : Mem) : fxBody Try.prog pol NN call hs x6f [t0, t1] m = x9j call hs [t0, t1] m := by
  rw [fxBody_at (fn := Try.f108) (body := xu6) (nt := 6) (rs := [.tmp 4]) (by kernel_rfl) (by kernel_rfl) (by kernel_rfl) (by kernel_rfl) (by kernel_rfl) (by kernel_rfl)]
  exact (congrFun (x1bh call hs m.next) _).trans (by kernel_rfl)
theorem x15i (call : FCall) (hs : FHs) (args : List AV) (m : Mem) (r : AV × Mem) (h : x9j call hs args m = some r) : fxBody Try.prog pol NN call hs x6f args m = some r := by
  unfold x9j at h
  split at h
  · rw [x1bi]; exact h
  · cases h

/- swath/swathref05.IsWrapped -/
abbrev x1bj (hs : FHs) (u : Nat) : FCtx := { f := x6g, u := u, nt := 5, hs := hs }
noncomputable abbrev xu7 : Fs → Option (AV × Mem) := fxRes Try.prog [.tmp 2]
noncomputable def xu8 : Code := nav (bodyOf x6g) []
theorem x1bk (call : FCall) (hs : FHs) (u : Nat) :
  fxK Try.prog pol NN call xu8 (AV × Mem) (x1bj hs u) xu7 eNil xu7 = (fun s => xh4 call hs u (s.sl 0) s.m s.fc) := by
  kernel_rfl
theorem x1bl (call : FCall) (hs : FHs) (t0 : AV) (m : Mem) : fxBody Try.prog pol NN call hs x6g [t0] m = x9k call hs [t0] m := by
  rw [fxBody_at (fn := Try.f109) (body := xu8) (nt := 5) (rs := [.tmp 2]) (by kernel_rfl) (by kernel_rfl) (by kernel_rfl) (by kernel_rfl) (by kernel_rfl) (by kernel_rfl)]
  exact (congrFun (x1bk call hs m.next) _).trans (by kernel_rfl)
theorem x15j (call : FCall) (hs : FHs) (args : List AV) (m : Mem) (r : AV × Mem) (h : x9k call hs args m = some r) : fxBody Try.prog pol NN call hs x6g args m = some r := by
  unfold x9k at h
  split at h
  · rw [x1bl]; exact h
  · cases h

/- swath/unwrap.phasesErr$1 -/
abbrev x1bm (hs : FHs) (u : Nat) : FCtx := { f := x4y, u := u, nt := 13, hs := hs }
noncomputable abbrev xu9 : Fs → Option (AV × Mem) := fxRes Try.prog [.tmp 3]
noncomputable def xua : Code := nav (bodyOf x4y) []
theorem x1bn (call : FCall) (hs : FHs) (u : Nat) :
  fxK Try.prog pol NN call xua (AV × Mem) (x1bm hs u) xu9 eNil xu9 = (fun s => xh5 call hs u (s.sl 0) (s.sl 1) s.m s.fc) := by
  kernel_rfl
theorem x1bo (call : FCall) (hs : FHs) (t0 t1 : AV) (m : Mem) : fxBody Try.prog pol NN call hs x4y [t0, t1] m = x9l call hs [t0, t1] m := by
  rw [fxBody_at (fn := Try.f110) (body := xua) (nt := 13) (rs := [.tmp 3]) (by kernel_rfl) (by kernel_rfl) (by kernel_rfl) (by kernel_rfl) (by kernel_rfl) (by kernel_rfl)]
  exact (congrFun (x1bn call hs m.next) _).trans (by kernel_rfl)
theorem x15k (call : FCall) (hs : FHs) (args : List AV) (m : Mem) (r : AV × Mem) (h : x9l call hs args m = some r) : fxBody Try.prog pol NN call hs x4y args m = some r := by
  unfold x9l at h
  split at h
  · rw [x1bo]; exact h
  · cases h

/- slices.Grow[[]int,int] -/
abbrev xan (hs : FHs) (u : Nat) : FCtx := { f := x29, u := u, nt := 27, hs := hs }
noncomputable abbrev x4n : Fs → Option (AV × Mem) := fxRes Try.prog [.tmp 4]
noncomputable def xjl : Code := nav (bodyOf x29) []
noncomputable def x1bp : Code := nav (bodyOf x29) [false]
noncomputable def xjm : Code := nav (bodyOf x29) [true]
noncomputable def xub : Code := nav (bodyOf x29) [true, false]
noncomputable def xjn : Code := nav (bodyOf x29) [true, true]
noncomputable def xuc : Code := nav (bodyOf x29) [true, true, false]
noncomputable def xud : Code := nav (bodyOf x29) [true, true, true]
theorem x1bq (call : FCall) (hs : FHs) (u : Nat) :
  fxK Try.prog pol NN call xud (AV × Mem) (xan hs u) x4n eNil x4n = (fun s => xab call hs u (s.sl 0) s.m s.fc) := by
  kernel_rfl
theorem x1br (call : FCall) (hs : FHs) (u : Nat) :
  fxK Try.prog pol NN call xuc (AV × Mem) (xan hs u) (fun s => xab call hs u (s.sl 0) s.m s.fc) eNil x4n = (fun s => xac call hs u (s.sl 0) (s.sl 1) s.m s.fc) := by
  kernel_rfl
theorem x1bs (call : FCall) (hs : FHs) (u : Nat) :
  fxK Try.prog pol NN call xjn (AV × Mem) (xan hs u) x4n eNil x4n = (fun s => xac call hs u (s.sl 0) (s.sl 1) s.m s.fc) := by
  rw [show xjn = .seq xuc xud from by kernel_rfl, seq_r, x1bq call hs u, x1br call hs u]
theorem x1bt (call : FCall) (hs : FHs) (u : Nat) :
  fxK Try.prog pol NN call xub (AV × Mem) (xan hs u) (fun s => xac call hs u (s.sl 0) (s.sl 1) s.m s.fc) eNil x4n = (fun s => xbv call hs u (s.sl 0) (s.sl 1) s.m s.fc) := by
  kernel_rfl
theorem x1bu (call : FCall) (hs : FHs) (u : Nat) :
  fxK Try.prog pol NN call xjm (AV × Mem) (xan hs u) x4n eNil x4n = (fun s => xbv call hs u (s.sl 0) (s.sl 1) s.m s.fc) := by
  rw [show xjm = .seq xub xjn from by kernel_rfl, seq_r, x1bs call hs u, x1bt call hs u]
theorem x1bv (call : FCall) (hs : FHs) (u : Nat) :
  fxK Try.prog pol NN call xjl (AV × Mem) (xan hs u) x4n eNil x4n = (fun s => xe4 call hs u (s.sl 0) (s.sl 1) s.m s.fc) := by
  rw [show xjl = .seq x1bp xjm from by kernel_rfl, seq_r]; rw [x1bu call hs u]; kernel_rfl
theorem x1bw (call : FCall) (hs : FHs) (t0 t1 : AV) (m : Mem) : fxBody Try.prog pol NN call hs x29 [t0, t1] m = x7l call hs [t0, t1] m := by
  rw [fxBody_at (fn := Try.f111) (body := xjl) (nt := 27) (rs := [.tmp 4]) (by kernel_rfl) (by kernel_rfl) (by kernel_rfl) (by kernel_rfl) (by kernel_rfl) (by kernel_rfl)]
  exact (congrFun (x1bv call hs m.next) _).trans (by kernel_rfl)
theorem x15l (call : FCall) (hs : FHs) (args : List AV) (m : Mem) (r : AV × Mem) (h : x7l call hs args m = some r) : fxBody Try.prog pol NN call hs x29 args m = some r := by
  unfold x7l at h
  split at h
  · rw [x1bw]; exact h
  · cases h

/- swath/swathref05.Wrapped -/
abbrev x1bx (hs : FHs) (u : Nat) : FCtx := { f := x4z, u := u, nt := 7, hs := hs }
noncomputable abbrev xue : Fs → Option (AV × Mem) := fxRes Try.prog [.tmp 2]
noncomputable def xuf : Code := nav (bodyOf x4z) []
theorem x1by (call : FCall) (hs : FHs) (u : Nat) :
  fxK Try.prog pol NN call xuf (AV × Mem) (x1bx hs u) xue eNil xue = (fun s => xh6 call hs u (s.sl 0) s.m s.fc) := by
  kernel_rfl
theorem x1bz (call : FCall) (hs : FHs) (t0 : AV) (m : Mem) : fxBody Try.prog pol NN call hs x4z [t0] m = x9m call hs [t0] m := by
  rw [fxBody_at (fn := Try.f112) (body := xuf) (nt := 7) (rs := [.tmp 2]) (by kernel_rfl) (by kernel_rfl) (by kernel_rfl) (by kernel_rfl) (by kernel_rfl) (by kernel_rfl)]
  exact (congrFun (x1by call hs m.next) _).trans (by kernel_rfl)
theorem x15m (call : FCall) (hs : FHs) (args : List AV) (m : Mem) (r : AV × Mem) (h : x9m call hs args m = some r) : fxBody Try.prog pol NN call hs x4z args m = some r := by
  unfold x9m at h
  split at h
  · rw [x1bz]; exact h
  · cases h

/- swath/unwrap.numbered -/
abbrev x1v (hs : FHs) (u : Nat) : FCtx := { f := xb, u := u, nt := 45, hs := hs }
noncomputable abbrev x1e : Fs → Option (AV × Mem) := fxRes Try.prog [.tmp 4]
noncomputable def xjo : Code := nav (bodyOf xb) []
noncomputable def x1c0 : Code := nav (bodyOf xb) [false]
noncomputable def xug : Code := nav (bodyOf xb) [true]
noncomputable def x1c1 : Code := nav (bodyOf xb) [true, false]
noncomputable def xuh : Code := nav (bodyOf xb) [true, true]
noncomputable def x1c2 : Code := nav (bodyOf xb) [true, true, false]
noncomputable def xjp : Code := nav (bodyOf xb) [true, true, true]
noncomputable def xjq : Code := nav (bodyOf xb) [true, true, true, false]
noncomputable def xui : Code := nav (bodyOf xb) [true, true, true, true]
noncomputable def x1c3 : Code := nav (bodyOf xb) [true, true, true, false, false]
noncomputable def xjr : Code := nav (bodyOf xb) [true, true, true, false, true]
noncomputable def xjs : Code := nav (bodyOf xb) [true, true, true, false, true, false]
noncomputable def xel : Code := nav (bodyOf xb) [true, true, true, false, true, false, false]
noncomputable def x1c4 : Code := nav (bodyOf xb) [true, true, true, false, true, false, false, false]
noncomputable def xuj : Code := nav (bodyOf xb) [true, true, true, false, true, false, false, true]
noncomputable def x1c5 : Code := nav (bodyOf xb) [true, true, true, false, true, false, false, true, false]
noncomputable def xjt : Code := nav (bodyOf xb) [true, true, true, false, true, false, false, true, true]
noncomputable def xju : Code := nav (bodyOf xb) [true, true, true, false, true, false, false, true, true, false]
noncomputable def xuk : Code := nav (bodyOf xb) [true, true, true, false, true, false, false, true, true, true]
noncomputable def xjv : Code := nav (bodyOf xb) [true, true, true, false, true, false, false, true, true, false, false]
noncomputable def x1c6 : Code := nav (bodyOf xb) [true, true, true, false, true, false, false, true, true, false, false, false]
noncomputable def xul : Code := nav (bodyOf xb) [true, true, true, false, true, false, false, true, true, false, false, true]
noncomputable def x1c7 : Code := nav (bodyOf xb) [true, true, true, false, true, false, false, true, true, false, false, true, false]
noncomputable def xum : Code := nav (bodyOf xb) [true, true, true, false, true, false, false, true, true, false, false, true, true]
noncomputable def x1c8 : Code := nav (bodyOf xb) [true, true, true, false, true, false, false, true, true, false, false, true, true, false]
noncomputable def xun : Code := nav (bodyOf xb) [true, true, true, false, true, false, false, true, true, false, false, true, true, true]
noncomputable def x1c9 : Code := nav (bodyOf xb) [true, true, true, false, true, false, false, true, true, false, false, true, true, true, false]
noncomputable def xjw : Code := nav (bodyOf xb) [true, true, true, false, true, false, false, true, true, false, false, true, true, true, true]
noncomputable def xjx : Code := nav (bodyOf xb) [true, true, true, false, true, false, false, true, true, false, false, true, true, true, true, false]
noncomputable def xuo : Code := nav (bodyOf xb) [true, true, true, false, true, false, false, true, true, false, false, true, true, true, true, true]
noncomputable def xjy : Code := nav (bodyOf xb) [true, true, true, false, true, false, false, true, true, false, false, true, true, true, true, false, false]
noncomputable def xjz : Code := nav (bodyOf xb) [true, true, true, false, true, false, false, true, true, false, false, true, true, true, true, false, false, false]
theorem x1ca (call : FCall) (hs : FHs) (u : Nat) :
  fxK Try.prog pol NN call xui (AV × Mem) (x1v hs u) x1e eNil x1e = (fun s => x1t call hs u (s.sl 5) s.m s.fc) := by
  kernel_rfl
theorem x1cb (call : FCall) (hs : FHs) (u : Nat) (rec0 : AV → AV → AV → AV → AV → Mem → Nat → Option (AV × Mem)) :
  fxK Try.prog pol NN call xuk (AV × Mem) (x1v hs u) (fun s => rec0 (s.sl 1) (s.sl 5) (s.sl 6) (s.sl 14) (s.sl 15) s.m s.fc) (setE 0 (fun s => x1t call hs u (s.sl 5) s.m s.fc) eNil) x1e = (fun s => x2l call hs u rec0 (s.sl 1) (s.sl 5) (s.sl 6) (s.sl 14) (s.sl 15) s.m s.fc) := by
  kernel_rfl
theorem x1cc (call : FCall) (hs : FHs) (u : Nat) (rec0 : AV → AV → AV → AV → AV → Mem → Nat → Option (AV × Mem)) :
  fxK Try.prog pol NN call xuo (AV × Mem) (x1v hs u) (fun s => x2l call hs u rec0 (s.sl 1) (s.sl 5) (s.sl 6) (s.sl 14) (s.sl 15) s.m s.fc) (setE 1 (fun s => x2l call hs u rec0 (s.sl 1) (s.sl 5) (s.sl 6) (s.sl 14) (s.sl 15) s.m s.fc) (setE 0 (fun s => x1t call hs u (s.sl 5) s.m s.fc) eNil)) x1e = (fun s => x7x call hs u rec0 (s.sl 1) (s.sl 5) (s.sl 6) (s.sl 14) (s.sl 15) s.m s.fc) := by
  kernel_rfl
theorem x1cd (call : FCall) (hs : FHs) (u : Nat) (rec0 : AV → AV → AV → AV → AV → Mem → Nat → Option (AV × Mem)) (rec1 : AV → AV → AV → AV → AV → AV → Mem → Nat → Option (AV × Mem)) :
  fxK Try.prog pol NN call xjz (AV × Mem) (x1v hs u) (fun s => rec1 (s.sl 1) (s.sl 5) (s.sl 6) (s.sl 8) (s.sl 14) (s.sl 15) s.m s.fc) (setE 2 (fun s => x7x call hs u rec0 (s.sl 1) (s.sl 5) (s.sl 6) (s.sl 14) (s.sl 15) s.m s.fc) (setE 1 (fun s => x2l call hs u rec0 (s.sl 1) (s.sl 5) (s.sl 6) (s.sl 14) (s.sl 15) s.m s.fc) (setE 0 (fun s => x1t call hs u (s.sl 5) s.m s.fc) eNil))) x1e = (fun s => xrd call hs u rec0 rec1 (s.sl 1) (s.sl 5) (s.sl 6) (s.sl 8) (s.sl 14) (s.sl 15) s.m s.fc) := by
  kernel_rfl
theorem xup (call : FCall) (hs : FHs) (u : Nat) (rec0 : AV → AV → AV → AV → AV → Mem → Nat → Option (AV × Mem)) : ∀ n : Nat,
  iter (fun rec => fxK Try.prog pol NN call xjz (AV × Mem) (x1v hs u) rec (setE 2 (fun s => x7x call hs u rec0 (s.sl 1) (s.sl 5) (s.sl 6) (s.sl 14) (s.sl 15) s.m s.fc) (setE 1 (fun s => x2l call hs u rec0 (s.sl 1) (s.sl 5) (s.sl 6) (s.sl 14) (s.sl 15) s.m s.fc) (setE 0 (fun s => x1t call hs u (s.sl 5) s.m s.fc) eNil))) x1e) n = (fun s => x7y call hs u rec0 n (s.sl 1) (s.sl 5) (s.sl 6) (s.sl 8) (s.sl 14) (s.sl 15) s.m s.fc)
  | 0 => rfl
  | n + 1 => by rw [iter_succ, xup call hs u rec0 n, x1cd call hs u rec0 (x7y call hs u rec0 n)]; kernel_rfl
theorem x1ce (call : FCall) (hs : FHs) (u : Nat) (rec0 : AV → AV → AV → AV → AV → Mem → Nat → Option (AV × Mem)) :
  fxK Try.prog pol NN call xjy (AV × Mem) (x1v hs u) (fun s => x7x call hs u rec0 (s.sl 1) (s.sl 5) (s.sl 6) (s.sl 14) (s.sl 15) s.m s.fc) (setE 2 (fun s => x7x call hs u rec0 (s.sl 1) (s.sl 5) (s.sl 6) (s.sl 14) (s.sl 15) s.m s.fc) (setE 1 (fun s => x2l call hs u rec0 (s.sl 1) (s.sl 5) (s.sl 6) (s.sl 14) (s.sl 15) s.m s.fc) (setE 0 (fun s => x1t call hs u (s.sl 5) s.m s.fc) eNil))) x1e = (fun s => x7y call hs u rec0 NN (s.sl 1) (s.sl 5) (s.sl 6) (s.sl 8) (s.sl 14) (s.sl 15) s.m s.fc) := by
  rw [show xjy = .loop xjz from by kernel_rfl, loop_r, xup call hs u rec0 NN]
theorem x1cf (call : FCall) (hs : FHs) (u : Nat) (rec0 : AV → AV → AV → AV → AV → Mem → Nat → Option (AV × Mem)) :
  fxK Try.prog pol NN call xjx (AV × Mem) (x1v hs u) (fun s => x7x call hs u rec0 (s.sl 1) (s.sl 5) (s.sl 6) (s.sl 14) (s.sl 15) s.m s.fc) (setE 1 (fun s => x2l call hs u rec0 (s.sl 1) (s.sl 5) (s.sl 6) (s.sl 14) (s.sl 15) s.m s.fc) (setE 0 (fun s => x1t call hs u (s.sl 5) s.m s.fc) eNil)) x1e = (fun s => x7y call hs u rec0 NN (s.sl 1) (s.sl 5) (s.sl 6) (s.sl 8) (s.sl 14) (s.sl 15) s.m s.fc) := by
  rw [show xjx = .block 2 xjy from by kernel_rfl, block_r, x1ce call hs u rec0]
theorem x1cg (call : FCall) (hs : FHs) (u : Nat) (rec0 : AV → AV → AV → AV → AV → Mem → Nat → Option (AV × Mem)) :
  fxK Try.prog pol NN call xjw (AV × Mem) (x1v hs u) (fun s => x2l call hs u rec0 (s.sl 1) (s.sl 5) (s.sl 6) (s.sl 14) (s.sl 15) s.m s.fc) (setE 1 (fun s => x2l call hs u rec0 (s.sl 1) (s.sl 5) (s.sl 6) (s.sl 14) (s.sl 15) s.m s.fc) (setE 0 (fun s => x1t call hs u (s.sl 5) s.m s.fc) eNil)) x1e = (fun s => x7y call hs u rec0 NN (s.sl 1) (s.sl 5) (s.sl 6) (s.sl 8) (s.sl 14) (s.sl 15) s.m s.fc) := by
  rw [show xjw = .seq xjx xuo from by kernel_rfl, seq_r, x1cc call hs u rec0, x1cf call hs u rec0]
theorem x1ch (call : FCall) (hs : FHs) (u : Nat) (rec0 : AV → AV → AV → AV → AV → Mem → Nat → Option (AV × Mem)) :
  fxK Try.prog pol NN call xjv (AV × Mem) (x1v hs u) (fun s => x2l call hs u rec0 (s.sl 1) (s.sl 5) (s.sl 6) (s.sl 14) (s.sl 15) s.m s.fc) (setE 1 (fun s => x2l call hs u rec0 (s.sl 1) (s.sl 5) (s.sl 6) (s.sl 14) (s.sl 15) s.m s.fc) (setE 0 (fun s => x1t call hs u (s.sl 5) s.m s.fc) eNil)) x1e = (fun s => xe5 call hs u rec0 (s.sl 1) (s.sl 5) (s.sl 6) (s.sl 14) (s.sl 15) s.m s.fc) := by
  rw [show xjv = .seq x1c6 xul from by kernel_rfl, seq_r]; rw [show xul = .seq x1c7 xum from by kernel_rfl, seq_r]; rw [show xum = .seq x1c8 xun from by kernel_rfl, seq_r]; rw [show xun = .seq x1c9 xjw from by kernel_rfl, seq_r]; rw [x1cg call hs u rec0]; kernel_rfl
theorem x1ci (call : FCall) (hs : FHs) (u : Nat) (rec0 : AV → AV → AV → AV → AV → Mem → Nat → Option (AV × Mem)) :
  fxK Try.prog pol NN call xju (AV × Mem) (x1v hs u) (fun s => x2l call hs u rec0 (s.sl 1) (s.sl 5) (s.sl 6) (s.sl 14) (s.sl 15) s.m s.fc) (setE 0 (fun s => x1t call hs u (s.sl 5) s.m s.fc) eNil) x1e = (fun s => xe5 call hs u rec0 (s.sl 1) (s.sl 5) (s.sl 6) (s.sl 14) (s.sl 15) s.m s.fc) := by
  rw [show xju = .block 1 xjv from by kernel_rfl, block_r, x1ch call hs u rec0]
theorem x1cj (call : FCall) (hs : FHs) (u : Nat) (rec0 : AV → AV → AV → AV → AV → Mem → Nat → Option (AV × Mem)) :
  fxK Try.prog pol NN call xjt (AV × Mem) (x1v hs u) (fun s => rec0 (s.sl 1) (s.sl 5) (s.sl 6) (s.sl 14) (s.sl 15) s.m s.fc) (setE 0 (fun s => x1t call hs u (s.sl 5) s.m s.fc) eNil) x1e = (fun s => xe5 call hs u rec0 (s.sl 1) (s.sl 5) (s.sl 6) (s.sl 14) (s.sl 15) s.m s.fc) := by
  rw [show xjt = .seq xju xuk from by kernel_rfl, seq_r, x1cb call hs u rec0, x1ci call hs u rec0]
theorem x1ck (call : FCall) (hs : FHs) (u : Nat) (rec0 : AV → AV → AV → AV → AV → Mem → Nat → Option (AV × Mem)) :
  fxK Try.prog pol NN call xel (AV × Mem) (x1v hs u) (fun s => rec0 (s.sl 1) (s.sl 5) (s.sl 6) (s.sl 14) (s.sl 15) s.m s.fc) (setE 0 (fun s => x1t call hs u (s.sl 5) s.m s.fc) eNil) x1e = (fun s => xre call hs u rec0 (s.sl 1) (s.sl 5) (s.sl 6) (s.sl 14) (s.sl 15) s.m s.fc) := by
  rw [show xel = .seq x1c4 xuj from by kernel_rfl, seq_r]; rw [show xuj = .seq x1c5 xjt from by kernel_rfl, seq_r]; rw [x1cj call hs u rec0]; kernel_rfl
theorem xuq (call : FCall) (hs : FHs) (u : Nat) : ∀ n : Nat,
  iter (fun rec => fxK Try.prog pol NN call xel (AV × Mem) (x1v hs u) rec (setE 0 (fun s => x1t call hs u (s.sl 5) s.m s.fc) eNil) x1e) n = (fun s => xad call hs u n (s.sl 1) (s.sl 5) (s.sl 6) (s.sl 14) (s.sl 15) s.m s.fc)
  | 0 => rfl
  | n + 1 => by rw [iter_succ, xuq call hs u n, x1ck call hs u (xad call hs u n)]; kernel_rfl
theorem x1cl (call : FCall) (hs : FHs) (u : Nat) :
  fxK Try.prog pol NN call xjs (AV × Mem) (x1v hs u) (fun s => x1t call hs u (s.sl 5) s.m s.fc) (setE 0 (fun s => x1t call hs u (s.sl 5) s.m s.fc) eNil) x1e = (fun s => xad call hs u NN (s.sl 1) (s.sl 5) (s.sl 6) (s.sl 14) (s.sl 15) s.m s.fc) := by
  rw [show xjs = .loop xel from by kernel_rfl, loop_r, xuq call hs u NN]
theorem x1cm (call : FCall) (hs : FHs) (u : Nat) :
  fxK Try.prog pol NN call xjr (AV × Mem) (x1v hs u) (fun s => x1t call hs u (s.sl 5) s.m s.fc) eNil x1e = (fun s => xad call hs u NN (s.sl 1) (s.sl 5) (s.sl 6) (s.sl 14) (s.sl 15) s.m s.fc) := by
  rw [show xjr = .block 0 xjs from by kernel_rfl, block_r, x1cl call hs u]
theorem x1cn (call : FCall) (hs : FHs) (u : Nat) :
  fxK Try.prog pol NN call xjq (AV × Mem) (x1v hs u) (fun s => x1t call hs u (s.sl 5) s.m s.fc) eNil x1e = (fun s => xh7 call hs u (s.sl 1) (s.sl 5) (s.sl 6) s.m s.fc) := by
  rw [show xjq = .seq x1c3 xjr from by kernel_rfl, seq_r]; rw [x1cm call hs u]; kernel_rfl
theorem x1co (call : FCall) (hs : FHs) (u : Nat) :
  fxK Try.prog pol NN call xjp (AV × Mem) (x1v hs u) x1e eNil x1e = (fun s => xh7 call hs u (s.sl 1) (s.sl 5) (s.sl 6) s.m s.fc) := by
  rw [show xjp = .seq xjq xui from by kernel_rfl, seq_r, x1ca call hs u, x1cn call hs u]
theorem x1cp (call : FCall) (hs : FHs) (u : Nat) :
  fxK Try.prog pol NN call xjo (AV × Mem) (x1v hs u) x1e eNil x1e = (fun s => xrf call hs u (s.sl 0) (s.sl 1) s.m s.fc) := by
  rw [show xjo = .seq x1c0 xug from by kernel_rfl, seq_r]; rw [show xug = .seq x1c1 xuh from by kernel_rfl, seq_r]; rw [show xuh = .seq x1c2 xjp from by kernel_rfl, seq_r]; rw [x1co call hs u]; kernel_rfl
theorem x1cq (call : FCall) (hs : FHs) (t0 t1 : AV) (m : Mem) : fxBody Try.prog pol NN call hs xb [t0, t1] m = xbb call hs [t0, t1] m := by
  rw [fxBody_at (fn := Try.f113) (body := xjo) (nt := 45) (rs := [.tmp 4]) (by kernel_rfl) (by kernel_rfl) (by kernel_rfl) (by kernel_rfl) (by kernel_rfl) (by kernel_rfl)]
  exact (congrFun (x1cp call hs m.next) _).trans (by kernel_rfl)
theorem x15n (call : FCall) (hs : FHs) (args : List AV) (m : Mem) (r : AV × Mem) (h : xbb call hs args m = some r) : fxBody Try.prog pol NN call hs xb args m = some r := by
  unfold xbb at h
  split at h
  · rw [x1cq]; exact h
  · cases h

/- (swath/unwrap.net).parts$1 -/
abbrev xc1 (hs : FHs) (u : Nat) : FCtx := { f := x39, u := u, nt := 20, hs := hs }
noncomputable abbrev x3t : Fs → Option (AV × Mem) := fxRes Try.prog []
noncomputable def xk0 : Code := nav (bodyOf x39) []
noncomputable def x1cr : Code := nav (bodyOf x39) [false]
noncomputable def xk1 : Code := nav (bodyOf x39) [true]
noncomputable def xk2 : Code := nav (bodyOf x39) [true, false]
noncomputable def xk3 : Code := nav (bodyOf x39) [true, false, false]
theorem x1cs (call : FCall) (hs : FHs) (u : Nat) (rec0 : AV → AV → AV → AV → Mem → Nat → Option (AV × Mem)) :
  fxK Try.prog pol NN call xk3 (AV × Mem) (xc1 hs u) (fun s => rec0 (s.sl 1) (s.sl 10) (s.sl 11) (s.sl 12) s.m s.fc) (setE 0 x3t eNil) x3t = (fun s => xrg call hs u rec0 (s.sl 1) (s.sl 10) (s.sl 11) (s.sl 12) s.m s.fc) := by
  kernel_rfl
theorem xur (call : FCall) (hs : FHs) (u : Nat) : ∀ n : Nat,
  iter (fun rec => fxK Try.prog pol NN call xk3 (AV × Mem) (xc1 hs u) rec (setE 0 x3t eNil) x3t) n = (fun s => xae call hs u n (s.sl 1) (s.sl 10) (s.sl 11) (s.sl 12) s.m s.fc)
  | 0 => rfl
  | n + 1 => by rw [iter_succ, xur call hs u n, x1cs call hs u (xae call hs u n)]; kernel_rfl
theorem x1ct (call : FCall) (hs : FHs) (u : Nat) :
  fxK Try.prog pol NN call xk2 (AV × Mem) (xc1 hs u) x3t (setE 0 x3t eNil) x3t = (fun s => xae call hs u NN (s.sl 1) (s.sl 10) (s.sl 11) (s.sl 12) s.m s.fc) := by
  rw [show xk2 = .loop xk3 from by kernel_rfl, loop_r, xur call hs u NN]
theorem x1cu (call : FCall) (hs : FHs) (u : Nat) :
  fxK Try.prog pol NN call xk1 (AV × Mem) (xc1 hs u) x3t eNil x3t = (fun s => xae call hs u NN (s.sl 1) (s.sl 10) (s.sl 11) (s.sl 12) s.m s.fc) := by
  rw [show xk1 = .block 0 xk2 from by kernel_rfl, block_r, x1ct call hs u]
theorem x1cv (call : FCall) (hs : FHs) (u : Nat) :
  fxK Try.prog pol NN call xk0 (AV × Mem) (xc1 hs u) x3t eNil x3t = (fun s => xrh call hs u (s.sl 0) (s.sl 1) (s.sl 2) s.m s.fc) := by
  rw [show xk0 = .seq x1cr xk1 from by kernel_rfl, seq_r]; rw [x1cu call hs u]; kernel_rfl
theorem x1cw (call : FCall) (hs : FHs) (t0 t1 t2 : AV) (m : Mem) : fxBody Try.prog pol NN call hs x39 [t0, t1, t2] m = xas call hs [t0, t1, t2] m := by
  rw [fxBody_at (fn := Try.f114) (body := xk0) (nt := 20) (rs := []) (by kernel_rfl) (by kernel_rfl) (by kernel_rfl) (by kernel_rfl) (by kernel_rfl) (by kernel_rfl)]
  exact (congrFun (x1cv call hs m.next) _).trans (by kernel_rfl)
theorem x13c (call : FCall) (hs : FHs) (args : List AV) (m : Mem) (r : AV × Mem) (h : xas call hs args m = some r) : fxBody Try.prog pol NN call hs x39 args m = some r := by
  unfold xas at h
  split at h
  · rw [x1cw]; exact h
  · cases h

/- (*swath/unwrap.solver).ways -/
abbrev x1f (hs : FHs) (u : Nat) : FCtx := { f := x8, u := u, nt := 139, hs := hs }
noncomputable abbrev xe : Fs → Option (AV × Mem) := fxRes Try.prog [.cell 4 xhm]
noncomputable def xk4 : Code := nav (bodyOf x8) []
noncomputable def x1cx : Code := nav (bodyOf x8) [false]
noncomputable def xus : Code := nav (bodyOf x8) [true]
noncomputable def x1cy : Code := nav (bodyOf x8) [true, false]
noncomputable def xut : Code := nav (bodyOf x8) [true, true]
noncomputable def x1cz : Code := nav (bodyOf x8) [true, true, false]
noncomputable def xuu : Code := nav (bodyOf x8) [true, true, true]
noncomputable def x1d0 : Code := nav (bodyOf x8) [true, true, true, false]
noncomputable def xk5 : Code := nav (bodyOf x8) [true, true, true, true]
noncomputable def xk6 : Code := nav (bodyOf x8) [true, true, true, true, false]
noncomputable def xem : Code := nav (bodyOf x8) [true, true, true, true, false, false]
noncomputable def xk7 : Code := nav (bodyOf x8) [true, true, true, true, false, false, false]
noncomputable def x1d1 : Code := nav (bodyOf x8) [true, true, true, true, false, false, false, false]
noncomputable def xk8 : Code := nav (bodyOf x8) [true, true, true, true, false, false, false, true]
noncomputable def xk9 : Code := nav (bodyOf x8) [true, true, true, true, false, false, false, true, false]
noncomputable def xka : Code := nav (bodyOf x8) [true, true, true, true, false, false, false, true, true]
noncomputable def x1d2 : Code := nav (bodyOf x8) [true, true, true, true, false, false, false, true, true, false]
noncomputable def xuv : Code := nav (bodyOf x8) [true, true, true, true, false, false, false, true, true, true]
noncomputable def x1d3 : Code := nav (bodyOf x8) [true, true, true, true, false, false, false, true, true, true, false]
noncomputable def xuw : Code := nav (bodyOf x8) [true, true, true, true, false, false, false, true, true, true, true]
noncomputable def x1d4 : Code := nav (bodyOf x8) [true, true, true, true, false, false, false, true, true, true, true, false]
noncomputable def xkb : Code := nav (bodyOf x8) [true, true, true, true, false, false, false, true, true, true, true, true]
noncomputable def xkc : Code := nav (bodyOf x8) [true, true, true, true, false, false, false, true, true, true, true, true, false]
noncomputable def xkd : Code := nav (bodyOf x8) [true, true, true, true, false, false, false, true, true, true, true, true, false, false]
noncomputable def xux : Code := nav (bodyOf x8) [true, true, true, true, false, false, false, true, true, true, true, true, false, true]
noncomputable def x1d5 : Code := nav (bodyOf x8) [true, true, true, true, false, false, false, true, false, false]
noncomputable def xke : Code := nav (bodyOf x8) [true, true, true, true, false, false, false, true, false, true]
noncomputable def xkf : Code := nav (bodyOf x8) [true, true, true, true, false, false, false, true, false, true, false]
noncomputable def xen : Code := nav (bodyOf x8) [true, true, true, true, false, false, false, true, false, true, false, false]
noncomputable def x1d6 : Code := nav (bodyOf x8) [true, true, true, true, false, false, false, true, false, true, false, false, false]
noncomputable def xuy : Code := nav (bodyOf x8) [true, true, true, true, false, false, false, true, false, true, false, false, true]
noncomputable def x1d7 : Code := nav (bodyOf x8) [true, true, true, true, false, false, false, true, false, true, false, false, true, false]
noncomputable def xkg : Code := nav (bodyOf x8) [true, true, true, true, false, false, false, true, false, true, false, false, true, true]
noncomputable def xuz : Code := nav (bodyOf x8) [true, true, true, true, false, false, false, true, false, true, false, false, true, true, false]
noncomputable def xv0 : Code := nav (bodyOf x8) [true, true, true, true, false, false, false, true, false, true, false, false, true, true, true]
theorem x1d8 (call : FCall) (hs : FHs) (u : Nat) :
  fxK Try.prog pol NN call xux Mem (x1f hs u) (fun s => some s.m) eNil fNil = (fun s => xh8 call hs u (s.sl 2) (s.sl 5) (s.sl 7) (s.sl 10) s.m s.fc) := by
  kernel_rfl
theorem x1d9 (call : FCall) (hs : FHs) (u : Nat) :
  fxK Try.prog pol NN call xkd Mem (x1f hs u) (fun s => xh8 call hs u (s.sl 2) (s.sl 5) (s.sl 7) (s.sl 10) s.m s.fc) eNil fNil = (fun s => xh9 call hs u (s.sl 2) (s.sl 5) (s.sl 7) (s.sl 87) s.m s.fc) := by
  kernel_rfl
theorem x1da (call : FCall) (hs : FHs) (u : Nat) (rec0 : AV → AV → AV → AV → Mem → Nat → Option (AV × Mem)) :
  fxK Try.prog pol NN call xkc (AV × Mem) (x1f hs u) (fun s => rec0 (s.sl 2) (s.sl 4) (s.sl 5) (s.sl 6) s.m s.fc) (setE 4 (fun s => rec0 (s.sl 2) (s.sl 4) (s.sl 5) (s.sl 6) s.m s.fc) (setE 1 (fun s => rec0 (s.sl 2) (s.sl 4) (s.sl 5) (s.sl 6) s.m s.fc) (setE 0 xe eNil))) xe = (fun s => xha call hs u rec0 (s.sl 2) (s.sl 4) (s.sl 5) (s.sl 6) (s.sl 7) (s.sl 86) s.m s.fc) := by
  rw [show xkc = .rangeFunc (.tmp 86) #[87] xkd xux from by kernel_rfl, rng_r (H := fun u s => xh9 call hs u (s.sl 2) (s.sl 5) (s.sl 7) (s.sl 87) s.m s.fc) (by intro u; exact (congrArg (fun Y => fxK Try.prog pol NN call xkd Mem (x1f hs u) Y eNil fNil) (x1d8 call hs u)).trans (x1d9 call hs u))]; kernel_rfl
theorem x1db (call : FCall) (hs : FHs) (u : Nat) (rec0 : AV → AV → AV → AV → Mem → Nat → Option (AV × Mem)) :
  fxK Try.prog pol NN call xkb (AV × Mem) (x1f hs u) (fun s => rec0 (s.sl 2) (s.sl 4) (s.sl 5) (s.sl 6) s.m s.fc) (setE 1 (fun s => rec0 (s.sl 2) (s.sl 4) (s.sl 5) (s.sl 6) s.m s.fc) (setE 0 xe eNil)) xe = (fun s => xha call hs u rec0 (s.sl 2) (s.sl 4) (s.sl 5) (s.sl 6) (s.sl 7) (s.sl 86) s.m s.fc) := by
  rw [show xkb = .block 4 xkc from by kernel_rfl, block_r, x1da call hs u rec0]
theorem x1dc (call : FCall) (hs : FHs) (u : Nat) (rec0 : AV → AV → AV → AV → Mem → Nat → Option (AV × Mem)) :
  fxK Try.prog pol NN call xka (AV × Mem) (x1f hs u) (fun s => rec0 (s.sl 2) (s.sl 4) (s.sl 5) (s.sl 6) s.m s.fc) (setE 1 (fun s => rec0 (s.sl 2) (s.sl 4) (s.sl 5) (s.sl 6) s.m s.fc) (setE 0 xe eNil)) xe = (fun s => x3l call hs u rec0 (s.sl 2) (s.sl 4) (s.sl 5) (s.sl 6) (s.sl 7) s.m s.fc) := by
  rw [show xka = .seq x1d2 xuv from by kernel_rfl, seq_r]; rw [show xuv = .seq x1d3 xuw from by kernel_rfl, seq_r]; rw [show xuw = .seq x1d4 xkb from by kernel_rfl, seq_r]; rw [x1db call hs u rec0]; kernel_rfl
theorem x1dd (call : FCall) (hs : FHs) (u : Nat) (rec0 : AV → AV → AV → AV → Mem → Nat → Option (AV × Mem)) (rec1 : AV → AV → AV → AV → AV → AV → AV → AV → Mem → Nat → Option (AV × Mem)) :
  fxK Try.prog pol NN call xv0 (AV × Mem) (x1f hs u) (fun s => rec1 (s.sl 2) (s.sl 4) (s.sl 5) (s.sl 6) (s.sl 7) (s.sl 47) (s.sl 48) (s.sl 49) s.m s.fc) (setE 2 (fun s => x3l call hs u rec0 (s.sl 2) (s.sl 4) (s.sl 5) (s.sl 6) (s.sl 7) s.m s.fc) (setE 1 (fun s => rec0 (s.sl 2) (s.sl 4) (s.sl 5) (s.sl 6) s.m s.fc) (setE 0 xe eNil))) xe = (fun s => xe6 call hs u rec0 rec1 (s.sl 2) (s.sl 4) (s.sl 5) (s.sl 6) (s.sl 7) (s.sl 47) (s.sl 48) (s.sl 49) s.m s.fc) := by
  kernel_rfl
theorem x1de (call : FCall) (hs : FHs) (u : Nat) (rec0 : AV → AV → AV → AV → Mem → Nat → Option (AV × Mem)) (rec1 : AV → AV → AV → AV → AV → AV → AV → AV → Mem → Nat → Option (AV × Mem)) :
  fxK Try.prog pol NN call xuz (AV × Mem) (x1f hs u) (fun s => xe6 call hs u rec0 rec1 (s.sl 2) (s.sl 4) (s.sl 5) (s.sl 6) (s.sl 7) (s.sl 47) (s.sl 48) (s.sl 49) s.m s.fc) (setE 2 (fun s => x3l call hs u rec0 (s.sl 2) (s.sl 4) (s.sl 5) (s.sl 6) (s.sl 7) s.m s.fc) (setE 1 (fun s => rec0 (s.sl 2) (s.sl 4) (s.sl 5) (s.sl 6) s.m s.fc) (setE 0 xe eNil))) xe = (fun s => xhb call hs u rec0 rec1 (s.sl 2) (s.sl 4) (s.sl 5) (s.sl 6) (s.sl 7) (s.sl 47) (s.sl 48) (s.sl 49) s.m s.fc) := by
  kernel_rfl
theorem x1df (call : FCall) (hs : FHs) (u : Nat) (rec0 : AV → AV → AV → AV → Mem → Nat → Option (AV × Mem)) (rec1 : AV → AV → AV → AV → AV → AV → AV → AV → Mem → Nat → Option (AV × Mem)) :
  fxK Try.prog pol NN call xkg (AV × Mem) (x1f hs u) (fun s => rec1 (s.sl 2) (s.sl 4) (s.sl 5) (s.sl 6) (s.sl 7) (s.sl 47) (s.sl 48) (s.sl 49) s.m s.fc) (setE 2 (fun s => x3l call hs u rec0 (s.sl 2) (s.sl 4) (s.sl 5) (s.sl 6) (s.sl 7) s.m s.fc) (setE 1 (fun s => rec0 (s.sl 2) (s.sl 4) (s.sl 5) (s.sl 6) s.m s.fc) (setE 0 xe eNil))) xe = (fun s => xhb call hs u rec0 rec1 (s.sl 2) (s.sl 4) (s.sl 5) (s.sl 6) (s.sl 7) (s.sl 47) (s.sl 48) (s.sl 49) s.m s.fc) := by
  rw [show xkg = .seq xuz xv0 from by kernel_rfl, seq_r, x1dd call hs u rec0 rec1, x1de call hs u rec0 rec1]
theorem x1dg (call : FCall) (hs : FHs) (u : Nat) (rec0 : AV → AV → AV → AV → Mem → Nat → Option (AV × Mem)) (rec1 : AV → AV → AV → AV → AV → AV → AV → AV → Mem → Nat → Option (AV × Mem)) :
  fxK Try.prog pol NN call xen (AV × Mem) (x1f hs u) (fun s => rec1 (s.sl 2) (s.sl 4) (s.sl 5) (s.sl 6) (s.sl 7) (s.sl 47) (s.sl 48) (s.sl 49) s.m s.fc) (setE 2 (fun s => x3l call hs u rec0 (s.sl 2) (s.sl 4) (s.sl 5) (s.sl 6) (s.sl 7) s.m s.fc) (setE 1 (fun s => rec0 (s.sl 2) (s.sl 4) (s.sl 5) (s.sl 6) s.m s.fc) (setE 0 xe eNil))) xe = (fun s => xri call hs u rec0 rec1 (s.sl 2) (s.sl 4) (s.sl 5) (s.sl 6) (s.sl 7) (s.sl 47) (s.sl 48) (s.sl 49) s.m s.fc) := by
  rw [show xen = .seq x1d6 xuy from by kernel_rfl, seq_r]; rw [show xuy = .seq x1d7 xkg from by kernel_rfl, seq_r]; rw [x1df call hs u rec0 rec1]; kernel_rfl
theorem xv1 (call : FCall) (hs : FHs) (u : Nat) (rec0 : AV → AV → AV → AV → Mem → Nat → Option (AV × Mem)) : ∀ n : Nat,
  iter (fun rec => fxK Try.prog pol NN call xen (AV × Mem) (x1f hs u) rec (setE 2 (fun s => x3l call hs u rec0 (s.sl 2) (s.sl 4) (s.sl 5) (s.sl 6) (s.sl 7) s.m s.fc) (setE 1 (fun s => rec0 (s.sl 2) (s.sl 4) (s.sl 5) (s.sl 6) s.m s.fc) (setE 0 xe eNil))) xe) n = (fun s => xaf call hs u rec0 n (s.sl 2) (s.sl 4) (s.sl 5) (s.sl 6) (s.sl 7) (s.sl 47) (s.sl 48) (s.sl 49) s.m s.fc)
  | 0 => rfl
  | n + 1 => by rw [iter_succ, xv1 call hs u rec0 n, x1dg call hs u rec0 (xaf call hs u rec0 n)]; kernel_rfl
theorem x1dh (call : FCall) (hs : FHs) (u : Nat) (rec0 : AV → AV → AV → AV → Mem → Nat → Option (AV × Mem)) :
  fxK Try.prog pol NN call xkf (AV × Mem) (x1f hs u) (fun s => x3l call hs u rec0 (s.sl 2) (s.sl 4) (s.sl 5) (s.sl 6) (s.sl 7) s.m s.fc) (setE 2 (fun s => x3l call hs u rec0 (s.sl 2) (s.sl 4) (s.sl 5) (s.sl 6) (s.sl 7) s.m s.fc) (setE 1 (fun s => rec0 (s.sl 2) (s.sl 4) (s.sl 5) (s.sl 6) s.m s.fc) (setE 0 xe eNil))) xe = (fun s => xaf call hs u rec0 NN (s.sl 2) (s.sl 4) (s.sl 5) (s.sl 6) (s.sl 7) (s.sl 47) (s.sl 48) (s.sl 49) s.m s.fc) := by
  rw [show xkf = .loop xen from by kernel_rfl, loop_r, xv1 call hs u rec0 NN]
theorem x1di (call : FCall) (hs : FHs) (u : Nat) (rec0 : AV → AV → AV → AV → Mem → Nat → Option (AV × Mem)) :
  fxK Try.prog pol NN call xke (AV × Mem) (x1f hs u) (fun s => x3l call hs u rec0 (s.sl 2) (s.sl 4) (s.sl 5) (s.sl 6) (s.sl 7) s.m s.fc) (setE 1 (fun s => rec0 (s.sl 2) (s.sl 4) (s.sl 5) (s.sl 6) s.m s.fc) (setE 0 xe eNil)) xe = (fun s => xaf call hs u rec0 NN (s.sl 2) (s.sl 4) (s.sl 5) (s.sl 6) (s.sl 7) (s.sl 47) (s.sl 48) (s.sl 49) s.m s.fc) := by
  rw [show xke = .block 2 xkf from by kernel_rfl, block_r, x1dh call hs u rec0]
theorem x1dj (call : FCall) (hs : FHs) (u : Nat) (rec0 : AV → AV → AV → AV → Mem → Nat → Option (AV × Mem)) :
  fxK Try.prog pol NN call xk9 (AV × Mem) (x1f hs u) (fun s => x3l call hs u rec0 (s.sl 2) (s.sl 4) (s.sl 5) (s.sl 6) (s.sl 7) s.m s.fc) (setE 1 (fun s => rec0 (s.sl 2) (s.sl 4) (s.sl 5) (s.sl 6) s.m s.fc) (setE 0 xe eNil)) xe = (fun s => xhc call hs u rec0 (s.sl 2) (s.sl 4) (s.sl 5) (s.sl 6) (s.sl 7) s.m s.fc) := by
  rw [show xk9 = .seq x1d5 xke from by kernel_rfl, seq_r]; rw [x1di call hs u rec0]; kernel_rfl
theorem x1dk (call : FCall) (hs : FHs) (u : Nat) (rec0 : AV → AV → AV → AV → Mem → Nat → Option (AV × Mem)) :
  fxK Try.prog pol NN call xk8 (AV × Mem) (x1f hs u) (fun s => rec0 (s.sl 2) (s.sl 4) (s.sl 5) (s.sl 6) s.m s.fc) (setE 1 (fun s => rec0 (s.sl 2) (s.sl 4) (s.sl 5) (s.sl 6) s.m s.fc) (setE 0 xe eNil)) xe = (fun s => xhc call hs u rec0 (s.sl 2) (s.sl 4) (s.sl 5) (s.sl 6) (s.sl 7) s.m s.fc) := by
  rw [show xk8 = .seq xk9 xka from by kernel_rfl, seq_r, x1dc call hs u rec0, x1dj call hs u rec0]
theorem x1dl (call : FCall) (hs : FHs) (u : Nat) (rec0 : AV → AV → AV → AV → Mem → Nat → Option (AV × Mem)) :
  fxK Try.prog pol NN call xk7 (AV × Mem) (x1f hs u) (fun s => rec0 (s.sl 2) (s.sl 4) (s.sl 5) (s.sl 6) s.m s.fc) (setE 1 (fun s => rec0 (s.sl 2) (s.sl 4) (s.sl 5) (s.sl 6) s.m s.fc) (setE 0 xe eNil)) xe = (fun s => xhd call hs u rec0 (s.sl 2) (s.sl 4) (s.sl 5) (s.sl 6) s.m s.fc) := by
  rw [show xk7 = .seq x1d1 xk8 from by kernel_rfl, seq_r]; rw [x1dk call hs u rec0]; kernel_rfl
theorem x1dm (call : FCall) (hs : FHs) (u : Nat) (rec0 : AV → AV → AV → AV → Mem → Nat → Option (AV × Mem)) :
  fxK Try.prog pol NN call xem (AV × Mem) (x1f hs u) (fun s => rec0 (s.sl 2) (s.sl 4) (s.sl 5) (s.sl 6) s.m s.fc) (setE 0 xe eNil) xe = (fun s => xhd call hs u rec0 (s.sl 2) (s.sl 4) (s.sl 5) (s.sl 6) s.m s.fc) := by
  rw [show xem = .block 1 xk7 from by kernel_rfl, block_r, x1dl call hs u rec0]
theorem xv2 (call : FCall) (hs : FHs) (u : Nat) : ∀ n : Nat,
  iter (fun rec => fxK Try.prog pol NN call xem (AV × Mem) (x1f hs u) rec (setE 0 xe eNil) xe) n = (fun s => xag call hs u n (s.sl 2) (s.sl 4) (s.sl 5) (s.sl 6) s.m s.fc)
  | 0 => rfl
  | n + 1 => by rw [iter_succ, xv2 call hs u n, x1dm call hs u (xag call hs u n)]; kernel_rfl
theorem x1dn (call : FCall) (hs : FHs) (u : Nat) :
  fxK Try.prog pol NN call xk6 (AV × Mem) (x1f hs u) xe (setE 0 xe eNil) xe = (fun s => xag call hs u NN (s.sl 2) (s.sl 4) (s.sl 5) (s.sl 6) s.m s.fc) := by
  rw [show xk6 = .loop xem from by kernel_rfl, loop_r, xv2 call hs u NN]
theorem x1do (call : FCall) (hs : FHs) (u : Nat) :
  fxK Try.prog pol NN call xk5 (AV × Mem) (x1f hs u) xe eNil xe = (fun s => xag call hs u NN (s.sl 2) (s.sl 4) (s.sl 5) (s.sl 6) s.m s.fc) := by
  rw [show xk5 = .block 0 xk6 from by kernel_rfl, block_r, x1dn call hs u]
theorem x1dp (call : FCall) (hs : FHs) (u : Nat) :
  fxK Try.prog pol NN call xk4 (AV × Mem) (x1f hs u) xe eNil xe = (fun s => xrj call hs u (s.sl 0) (s.sl 1) s.m s.fc) := by
  rw [show xk4 = .seq x1cx xus from by kernel_rfl, seq_r]; rw [show xus = .seq x1cy xut from by kernel_rfl, seq_r]; rw [show xut = .seq x1cz xuu from by kernel_rfl, seq_r]; rw [show xuu = .seq x1d0 xk5 from by kernel_rfl, seq_r]; rw [x1do call hs u]; kernel_rfl
theorem x1dq (call : FCall) (hs : FHs) (t0 t1 : AV) (m : Mem) : fxBody Try.prog pol NN call hs x8 [t0, t1] m = xaq call hs [t0, t1] m := by
  rw [fxBody_at (fn := Try.f115) (body := xk4) (nt := 139) (rs := [.cell 4 xhm]) (by kernel_rfl) (by kernel_rfl) (by kernel_rfl) (by kernel_rfl) (by kernel_rfl) (by kernel_rfl)]
  exact (congrFun (x1dp call hs m.next) _).trans (by kernel_rfl)
theorem x13a (call : FCall) (hs : FHs) (args : List AV) (m : Mem) (r : AV × Mem) (h : xaq call hs args m = some r) : fxBody Try.prog pol NN call hs x8 args m = some r := by
  unfold xaq at h
  split at h
  · rw [x1dq]; exact h
  · cases h

/- (swath/unwrap.net).classes$1 -/
abbrev x6r (hs : FHs) (u : Nat) : FCtx := { f := x20, u := u, nt := 53, hs := hs }
noncomputable abbrev x23 : Fs → Option (AV × Mem) := fxRes Try.prog []
noncomputable def xkh : Code := nav (bodyOf x20) []
noncomputable def x1dr : Code := nav (bodyOf x20) [false]
noncomputable def xki : Code := nav (bodyOf x20) [true]
noncomputable def xkj : Code := nav (bodyOf x20) [true, false]
noncomputable def xeo : Code := nav (bodyOf x20) [true, false, false]
noncomputable def x1ds : Code := nav (bodyOf x20) [true, false, false, false]
noncomputable def xv3 : Code := nav (bodyOf x20) [true, false, false, true]
noncomputable def x1dt : Code := nav (bodyOf x20) [true, false, false, true, false]
noncomputable def xkk : Code := nav (bodyOf x20) [true, false, false, true, true]
noncomputable def xv4 : Code := nav (bodyOf x20) [true, false, false, true, true, false]
noncomputable def xv5 : Code := nav (bodyOf x20) [true, false, false, true, true, true]
theorem x1du (call : FCall) (hs : FHs) (u : Nat) (rec0 : AV → AV → AV → AV → AV → Mem → Nat → Option (AV × Mem)) :
  fxK Try.prog pol NN call xv5 (AV × Mem) (x6r hs u) (fun s => rec0 (s.sl 0) (s.sl 1) (s.sl 3) (s.sl 9) (s.sl 10) s.m s.fc) (setE 0 x23 eNil) x23 = (fun s => xe7 call hs u rec0 (s.sl 0) (s.sl 1) (s.sl 3) (s.sl 9) (s.sl 10) s.m s.fc) := by
  kernel_rfl
theorem x1dv (call : FCall) (hs : FHs) (u : Nat) (rec0 : AV → AV → AV → AV → AV → Mem → Nat → Option (AV × Mem)) :
  fxK Try.prog pol NN call xv4 (AV × Mem) (x6r hs u) (fun s => xe7 call hs u rec0 (s.sl 0) (s.sl 1) (s.sl 3) (s.sl 9) (s.sl 10) s.m s.fc) (setE 0 x23 eNil) x23 = (fun s => xhe call hs u rec0 (s.sl 0) (s.sl 1) (s.sl 3) (s.sl 9) (s.sl 10) s.m s.fc) := by
  kernel_rfl
theorem x1dw (call : FCall) (hs : FHs) (u : Nat) (rec0 : AV → AV → AV → AV → AV → Mem → Nat → Option (AV × Mem)) :
  fxK Try.prog pol NN call xkk (AV × Mem) (x6r hs u) (fun s => rec0 (s.sl 0) (s.sl 1) (s.sl 3) (s.sl 9) (s.sl 10) s.m s.fc) (setE 0 x23 eNil) x23 = (fun s => xhe call hs u rec0 (s.sl 0) (s.sl 1) (s.sl 3) (s.sl 9) (s.sl 10) s.m s.fc) := by
  rw [show xkk = .seq xv4 xv5 from by kernel_rfl, seq_r, x1du call hs u rec0, x1dv call hs u rec0]
theorem x1dx (call : FCall) (hs : FHs) (u : Nat) (rec0 : AV → AV → AV → AV → AV → Mem → Nat → Option (AV × Mem)) :
  fxK Try.prog pol NN call xeo (AV × Mem) (x6r hs u) (fun s => rec0 (s.sl 0) (s.sl 1) (s.sl 3) (s.sl 9) (s.sl 10) s.m s.fc) (setE 0 x23 eNil) x23 = (fun s => xrk call hs u rec0 (s.sl 0) (s.sl 1) (s.sl 3) (s.sl 9) (s.sl 10) s.m s.fc) := by
  rw [show xeo = .seq x1ds xv3 from by kernel_rfl, seq_r]; rw [show xv3 = .seq x1dt xkk from by kernel_rfl, seq_r]; rw [x1dw call hs u rec0]; kernel_rfl
theorem xv6 (call : FCall) (hs : FHs) (u : Nat) : ∀ n : Nat,
  iter (fun rec => fxK Try.prog pol NN call xeo (AV × Mem) (x6r hs u) rec (setE 0 x23 eNil) x23) n = (fun s => xah call hs u n (s.sl 0) (s.sl 1) (s.sl 3) (s.sl 9) (s.sl 10) s.m s.fc)
  | 0 => rfl
  | n + 1 => by rw [iter_succ, xv6 call hs u n, x1dx call hs u (xah call hs u n)]; kernel_rfl
theorem x1dy (call : FCall) (hs : FHs) (u : Nat) :
  fxK Try.prog pol NN call xkj (AV × Mem) (x6r hs u) x23 (setE 0 x23 eNil) x23 = (fun s => xah call hs u NN (s.sl 0) (s.sl 1) (s.sl 3) (s.sl 9) (s.sl 10) s.m s.fc) := by
  rw [show xkj = .loop xeo from by kernel_rfl, loop_r, xv6 call hs u NN]
theorem x1dz (call : FCall) (hs : FHs) (u : Nat) :
  fxK Try.prog pol NN call xki (AV × Mem) (x6r hs u) x23 eNil x23 = (fun s => xah call hs u NN (s.sl 0) (s.sl 1) (s.sl 3) (s.sl 9) (s.sl 10) s.m s.fc) := by
  rw [show xki = .block 0 xkj from by kernel_rfl, block_r, x1dy call hs u]
theorem x1e0 (call : FCall) (hs : FHs) (u : Nat) :
  fxK Try.prog pol NN call xkh (AV × Mem) (x6r hs u) x23 eNil x23 = (fun s => xrl call hs u (s.sl 0) (s.sl 1) (s.sl 2) (s.sl 3) s.m s.fc) := by
  rw [show xkh = .seq x1dr xki from by kernel_rfl, seq_r]; rw [x1dz call hs u]; kernel_rfl
theorem x1e1 (call : FCall) (hs : FHs) (t0 t1 t2 t3 : AV) (m : Mem) : fxBody Try.prog pol NN call hs x20 [t0, t1, t2, t3] m = xau call hs [t0, t1, t2, t3] m := by
  rw [fxBody_at (fn := Try.f116) (body := xkh) (nt := 53) (rs := []) (by kernel_rfl) (by kernel_rfl) (by kernel_rfl) (by kernel_rfl) (by kernel_rfl) (by kernel_rfl)]
  exact (congrFun (x1e0 call hs m.next) _).trans (by kernel_rfl)
theorem x13e (call : FCall) (hs : FHs) (args : List AV) (m : Mem) (r : AV × Mem) (h : xau call hs args m = some r) : fxBody Try.prog pol NN call hs x20 args m = some r := by
  unfold xau at h
  split at h
  · rw [x1e1]; exact h
  · cases h

/- swath/unwrap.turnsOf -/
abbrev x3u (hs : FHs) (u : Nat) : FCtx := { f := xo, u := u, nt := 85, hs := hs }
noncomputable abbrev x2p : Fs → Option (AV × Mem) := fxRes Try.prog [.tmp 4, .tmp 5]
noncomputable def xkl : Code := nav (bodyOf xo) []
noncomputable def x1e2 : Code := nav (bodyOf xo) [false]
noncomputable def xv7 : Code := nav (bodyOf xo) [true]
noncomputable def x1e3 : Code := nav (bodyOf xo) [true, false]
noncomputable def xv8 : Code := nav (bodyOf xo) [true, true]
noncomputable def x1e4 : Code := nav (bodyOf xo) [true, true, false]
noncomputable def xv9 : Code := nav (bodyOf xo) [true, true, true]
noncomputable def x1e5 : Code := nav (bodyOf xo) [true, true, true, false]
noncomputable def xkm : Code := nav (bodyOf xo) [true, true, true, true]
noncomputable def xkn : Code := nav (bodyOf xo) [true, true, true, true, false]
noncomputable def xva : Code := nav (bodyOf xo) [true, true, true, true, true]
noncomputable def x1e6 : Code := nav (bodyOf xo) [true, true, true, true, false, false]
noncomputable def xko : Code := nav (bodyOf xo) [true, true, true, true, false, true]
noncomputable def xkp : Code := nav (bodyOf xo) [true, true, true, true, false, true, false]
noncomputable def xep : Code := nav (bodyOf xo) [true, true, true, true, false, true, false, false]
noncomputable def x1e7 : Code := nav (bodyOf xo) [true, true, true, true, false, true, false, false, false]
noncomputable def xvb : Code := nav (bodyOf xo) [true, true, true, true, false, true, false, false, true]
noncomputable def x1e8 : Code := nav (bodyOf xo) [true, true, true, true, false, true, false, false, true, false]
noncomputable def xkq : Code := nav (bodyOf xo) [true, true, true, true, false, true, false, false, true, true]
noncomputable def xvc : Code := nav (bodyOf xo) [true, true, true, true, false, true, false, false, true, true, false]
noncomputable def xvd : Code := nav (bodyOf xo) [true, true, true, true, false, true, false, false, true, true, true]
theorem x1e9 (call : FCall) (hs : FHs) (u : Nat) :
  fxK Try.prog pol NN call xva (AV × Mem) (x3u hs u) x2p eNil x2p = (fun s => x35 call hs u (s.sl 7) s.m s.fc) := by
  kernel_rfl
theorem x1ea (call : FCall) (hs : FHs) (u : Nat) (rec0 : AV → AV → AV → AV → AV → Mem → Nat → Option (AV × Mem)) :
  fxK Try.prog pol NN call xvd (AV × Mem) (x3u hs u) (fun s => rec0 (s.sl 6) (s.sl 7) (s.sl 38) (s.sl 39) (s.sl 40) s.m s.fc) (setE 0 (fun s => x35 call hs u (s.sl 7) s.m s.fc) eNil) x2p = (fun s => xai call hs u rec0 (s.sl 6) (s.sl 7) (s.sl 38) (s.sl 39) (s.sl 40) s.m s.fc) := by
  kernel_rfl
theorem x1eb (call : FCall) (hs : FHs) (u : Nat) (rec0 : AV → AV → AV → AV → AV → Mem → Nat → Option (AV × Mem)) :
  fxK Try.prog pol NN call xvc (AV × Mem) (x3u hs u) (fun s => xai call hs u rec0 (s.sl 6) (s.sl 7) (s.sl 38) (s.sl 39) (s.sl 40) s.m s.fc) (setE 0 (fun s => x35 call hs u (s.sl 7) s.m s.fc) eNil) x2p = (fun s => xe8 call hs u rec0 (s.sl 6) (s.sl 7) (s.sl 38) (s.sl 39) (s.sl 40) s.m s.fc) := by
  kernel_rfl
theorem x1ec (call : FCall) (hs : FHs) (u : Nat) (rec0 : AV → AV → AV → AV → AV → Mem → Nat → Option (AV × Mem)) :
  fxK Try.prog pol NN call xkq (AV × Mem) (x3u hs u) (fun s => rec0 (s.sl 6) (s.sl 7) (s.sl 38) (s.sl 39) (s.sl 40) s.m s.fc) (setE 0 (fun s => x35 call hs u (s.sl 7) s.m s.fc) eNil) x2p = (fun s => xe8 call hs u rec0 (s.sl 6) (s.sl 7) (s.sl 38) (s.sl 39) (s.sl 40) s.m s.fc) := by
  rw [show xkq = .seq xvc xvd from by kernel_rfl, seq_r, x1ea call hs u rec0, x1eb call hs u rec0]
theorem x1ed (call : FCall) (hs : FHs) (u : Nat) (rec0 : AV → AV → AV → AV → AV → Mem → Nat → Option (AV × Mem)) :
  fxK Try.prog pol NN call xep (AV × Mem) (x3u hs u) (fun s => rec0 (s.sl 6) (s.sl 7) (s.sl 38) (s.sl 39) (s.sl 40) s.m s.fc) (setE 0 (fun s => x35 call hs u (s.sl 7) s.m s.fc) eNil) x2p = (fun s => xe9 call hs u rec0 (s.sl 6) (s.sl 7) (s.sl 38) (s.sl 39) (s.sl 40) s.m s.fc) := by
  rw [show xep = .seq x1e7 xvb from by kernel_rfl, seq_r]; rw [show xvb = .seq x1e8 xkq from by kernel_rfl, seq_r]; rw [x1ec call hs u rec0]; kernel_rfl
theorem xve (call : FCall) (hs : FHs) (u : Nat) : ∀ n : Nat,
  iter (fun rec => fxK Try.prog pol NN call xep (AV × Mem) (x3u hs u) rec (setE 0 (fun s => x35 call hs u (s.sl 7) s.m s.fc) eNil) x2p) n = (fun s => x5y call hs u n (s.sl 6) (s.sl 7) (s.sl 38) (s.sl 39) (s.sl 40) s.m s.fc)
  | 0 => rfl
  | n + 1 => by rw [iter_succ, xve call hs u n, x1ed call hs u (x5y call hs u n)]; kernel_rfl
theorem x1ee (call : FCall) (hs : FHs) (u : Nat) :
  fxK Try.prog pol NN call xkp (AV × Mem) (x3u hs u) (fun s => x35 call hs u (s.sl 7) s.m s.fc) (setE 0 (fun s => x35 call hs u (s.sl 7) s.m s.fc) eNil) x2p = (fun s => x5y call hs u NN (s.sl 6) (s.sl 7) (s.sl 38) (s.sl 39) (s.sl 40) s.m s.fc) := by
  rw [show xkp = .loop xep from by kernel_rfl, loop_r, xve call hs u NN]
theorem x1ef (call : FCall) (hs : FHs) (u : Nat) :
  fxK Try.prog pol NN call xko (AV × Mem) (x3u hs u) (fun s => x35 call hs u (s.sl 7) s.m s.fc) eNil x2p = (fun s => x5y call hs u NN (s.sl 6) (s.sl 7) (s.sl 38) (s.sl 39) (s.sl 40) s.m s.fc) := by
  rw [show xko = .block 0 xkp from by kernel_rfl, block_r, x1ee call hs u]
theorem x1eg (call : FCall) (hs : FHs) (u : Nat) :
  fxK Try.prog pol NN call xkn (AV × Mem) (x3u hs u) (fun s => x35 call hs u (s.sl 7) s.m s.fc) eNil x2p = (fun s => xea call hs u (s.sl 3) (s.sl 6) (s.sl 7) s.m s.fc) := by
  rw [show xkn = .seq x1e6 xko from by kernel_rfl, seq_r]; rw [x1ef call hs u]; kernel_rfl
theorem x1eh (call : FCall) (hs : FHs) (u : Nat) :
  fxK Try.prog pol NN call xkm (AV × Mem) (x3u hs u) x2p eNil x2p = (fun s => xea call hs u (s.sl 3) (s.sl 6) (s.sl 7) s.m s.fc) := by
  rw [show xkm = .seq xkn xva from by kernel_rfl, seq_r, x1e9 call hs u, x1eg call hs u]
theorem x1ei (call : FCall) (hs : FHs) (u : Nat) :
  fxK Try.prog pol NN call xkl (AV × Mem) (x3u hs u) x2p eNil x2p = (fun s => xeb call hs u (s.sl 0) (s.sl 1) s.m s.fc) := by
  rw [show xkl = .seq x1e2 xv7 from by kernel_rfl, seq_r]; rw [show xv7 = .seq x1e3 xv8 from by kernel_rfl, seq_r]; rw [show xv8 = .seq x1e4 xv9 from by kernel_rfl, seq_r]; rw [show xv9 = .seq x1e5 xkm from by kernel_rfl, seq_r]; rw [x1eh call hs u]; kernel_rfl
theorem x1ej (call : FCall) (hs : FHs) (t0 t1 : AV) (m : Mem) : fxBody Try.prog pol NN call hs xo [t0, t1] m = x7m call hs [t0, t1] m := by
  rw [fxBody_at (fn := Try.f119) (body := xkl) (nt := 85) (rs := [.tmp 4, .tmp 5]) (by kernel_rfl) (by kernel_rfl) (by kernel_rfl) (by kernel_rfl) (by kernel_rfl) (by kernel_rfl)]
  exact (congrFun (x1ei call hs m.next) _).trans (by kernel_rfl)
theorem x15o (call : FCall) (hs : FHs) (args : List AV) (m : Mem) (r : AV × Mem) (h : x7m call hs args m = some r) : fxBody Try.prog pol NN call hs xo args m = some r := by
  unfold x7m at h
  split at h
  · rw [x1ej]; exact h
  · cases h

/- swath/unwrap.sides$1 -/
abbrev x26 (hs : FHs) (u : Nat) : FCtx := { f := xg, u := u, nt := 55, hs := hs }
noncomputable abbrev xj : Fs → Option (AV × Mem) := fxRes Try.prog []
noncomputable def xkr : Code := nav (bodyOf xg) []
noncomputable def x1ek : Code := nav (bodyOf xg) [false]
noncomputable def xvf : Code := nav (bodyOf xg) [true]
noncomputable def x1el : Code := nav (bodyOf xg) [true, false]
noncomputable def xks : Code := nav (bodyOf xg) [true, true]
noncomputable def xkt : Code := nav (bodyOf xg) [true, true, false]
noncomputable def xeq : Code := nav (bodyOf xg) [true, true, false, false]
noncomputable def x1em : Code := nav (bodyOf xg) [true, true, false, false, false]
noncomputable def xvg : Code := nav (bodyOf xg) [true, true, false, false, true]
noncomputable def x1en : Code := nav (bodyOf xg) [true, true, false, false, true, false]
noncomputable def xku : Code := nav (bodyOf xg) [true, true, false, false, true, true]
noncomputable def xkv : Code := nav (bodyOf xg) [true, true, false, false, true, true, false]
noncomputable def xvh : Code := nav (bodyOf xg) [true, true, false, false, true, true, true]
noncomputable def xkw : Code := nav (bodyOf xg) [true, true, false, false, true, true, false, false]
noncomputable def x1eo : Code := nav (bodyOf xg) [true, true, false, false, true, true, false, false, false]
noncomputable def xvi : Code := nav (bodyOf xg) [true, true, false, false, true, true, false, false, true]
noncomputable def x1ep : Code := nav (bodyOf xg) [true, true, false, false, true, true, false, false, true, false]
noncomputable def xkx : Code := nav (bodyOf xg) [true, true, false, false, true, true, false, false, true, true]
noncomputable def xky : Code := nav (bodyOf xg) [true, true, false, false, true, true, false, false, true, true, false]
noncomputable def xer : Code := nav (bodyOf xg) [true, true, false, false, true, true, false, false, true, true, false, false]
noncomputable def x1eq : Code := nav (bodyOf xg) [true, true, false, false, true, true, false, false, true, true, false, false, false]
noncomputable def xvj : Code := nav (bodyOf xg) [true, true, false, false, true, true, false, false, true, true, false, false, true]
noncomputable def x1er : Code := nav (bodyOf xg) [true, true, false, false, true, true, false, false, true, true, false, false, true, false]
noncomputable def xkz : Code := nav (bodyOf xg) [true, true, false, false, true, true, false, false, true, true, false, false, true, true]
noncomputable def xvk : Code := nav (bodyOf xg) [true, true, false, false, true, true, false, false, true, true, false, false, true, true, false]
noncomputable def xvl : Code := nav (bodyOf xg) [true, true, false, false, true, true, false, false, true, true, false, false, true, true, true]
theorem x1es (call : FCall) (hs : FHs) (u : Nat) (rec0 : AV → AV → AV → AV → AV → AV → Mem → Nat → Option (AV × Mem)) :
  fxK Try.prog pol NN call xvh (AV × Mem) (x26 hs u) (fun s => rec0 (s.sl 0) (s.sl 1) (s.sl 2) (s.sl 4) (s.sl 9) (s.sl 10) s.m s.fc) (setE 0 xj eNil) xj = (fun s => x17 call hs u rec0 (s.sl 0) (s.sl 1) (s.sl 2) (s.sl 4) (s.sl 9) (s.sl 10) s.m s.fc) := by
  kernel_rfl
theorem x1et (call : FCall) (hs : FHs) (u : Nat) (rec0 : AV → AV → AV → AV → AV → AV → Mem → Nat → Option (AV × Mem)) (rec1 : AV → AV → AV → AV → AV → AV → AV → AV → AV → AV → Mem → Nat → Option (AV × Mem)) :
  fxK Try.prog pol NN call xvl (AV × Mem) (x26 hs u) (fun s => rec1 (s.sl 0) (s.sl 1) (s.sl 2) (s.sl 4) (s.sl 5) (s.sl 6) (s.sl 9) (s.sl 10) (s.sl 16) (s.sl 17) s.m s.fc) (setE 2 (fun s => x17 call hs u rec0 (s.sl 0) (s.sl 1) (s.sl 2) (s.sl 4) (s.sl 9) (s.sl 10) s.m s.fc) (setE 1 (fun s => x17 call hs u rec0 (s.sl 0) (s.sl 1) (s.sl 2) (s.sl 4) (s.sl 9) (s.sl 10) s.m s.fc) (setE 0 xj eNil))) xj = (fun s => x6m call hs u rec0 rec1 (s.sl 0) (s.sl 1) (s.sl 2) (s.sl 4) (s.sl 5) (s.sl 6) (s.sl 9) (s.sl 10) (s.sl 16) (s.sl 17) s.m s.fc) := by
  kernel_rfl
theorem x1eu (call : FCall) (hs : FHs) (u : Nat) (rec0 : AV → AV → AV → AV → AV → AV → Mem → Nat → Option (AV × Mem)) (rec1 : AV → AV → AV → AV → AV → AV → AV → AV → AV → AV → Mem → Nat → Option (AV × Mem)) :
  fxK Try.prog pol NN call xvk (AV × Mem) (x26 hs u) (fun s => x6m call hs u rec0 rec1 (s.sl 0) (s.sl 1) (s.sl 2) (s.sl 4) (s.sl 5) (s.sl 6) (s.sl 9) (s.sl 10) (s.sl 16) (s.sl 17) s.m s.fc) (setE 2 (fun s => x17 call hs u rec0 (s.sl 0) (s.sl 1) (s.sl 2) (s.sl 4) (s.sl 9) (s.sl 10) s.m s.fc) (setE 1 (fun s => x17 call hs u rec0 (s.sl 0) (s.sl 1) (s.sl 2) (s.sl 4) (s.sl 9) (s.sl 10) s.m s.fc) (setE 0 xj eNil))) xj = (fun s => xbx call hs u rec0 rec1 (s.sl 0) (s.sl 1) (s.sl 2) (s.sl 4) (s.sl 5) (s.sl 6) (s.sl 9) (s.sl 10) (s.sl 16) (s.sl 17) s.m s.fc) := by
  kernel_rfl
theorem x1ev (call : FCall) (hs : FHs) (u : Nat) (rec0 : AV → AV → AV → AV → AV → AV → Mem → Nat → Option (AV × Mem)) (rec1 : AV → AV → AV → AV → AV → AV → AV → AV → AV → AV → Mem → Nat → Option (AV × Mem)) :
  fxK Try.prog pol NN call xkz (AV × Mem) (x26 hs u) (fun s => rec1 (s.sl 0) (s.sl 1) (s.sl 2) (s.sl 4) (s.sl 5) (s.sl 6) (s.sl 9) (s.sl 10) (s.sl 16) (s.sl 17) s.m s.fc) (setE 2 (fun s => x17 call hs u rec0 (s.sl 0) (s.sl 1) (s.sl 2) (s.sl 4) (s.sl 9) (s.sl 10) s.m s.fc) (setE 1 (fun s => x17 call hs u rec0 (s.sl 0) (s.sl 1) (s.sl 2) (s.sl 4) (s.sl 9) (s.sl 10) s.m s.fc) (setE 0 xj eNil))) xj = (fun s => xbx call hs u rec0 rec1 (s.sl 0) (s.sl 1) (s.sl 2) (s.sl 4) (s.sl 5) (s.sl 6) (s.sl 9) (s.sl 10) (s.sl 16) (s.sl 17) s.m s.fc) := by
  rw [show xkz = .seq xvk xvl from by kernel_rfl, seq_r, x1et call hs u rec0 rec1, x1eu call hs u rec0 rec1]
theorem x1ew (call : FCall) (hs : FHs) (u : Nat) (rec0 : AV → AV → AV → AV → AV → AV → Mem → Nat → Option (AV × Mem)) (rec1 : AV → AV → AV → AV → AV → AV → AV → AV → AV → AV → Mem → Nat → Option (AV × Mem)) :
  fxK Try.prog pol NN call xer (AV × Mem) (x26 hs u) (fun s => rec1 (s.sl 0) (s.sl 1) (s.sl 2) (s.sl 4) (s.sl 5) (s.sl 6) (s.sl 9) (s.sl 10) (s.sl 16) (s.sl 17) s.m s.fc) (setE 2 (fun s => x17 call hs u rec0 (s.sl 0) (s.sl 1) (s.sl 2) (s.sl 4) (s.sl 9) (s.sl 10) s.m s.fc) (setE 1 (fun s => x17 call hs u rec0 (s.sl 0) (s.sl 1) (s.sl 2) (s.sl 4) (s.sl 9) (s.sl 10) s.m s.fc) (setE 0 xj eNil))) xj = (fun s => xaj call hs u rec0 rec1 (s.sl 0) (s.sl 1) (s.sl 2) (s.sl 4) (s.sl 5) (s.sl 6) (s.sl 9) (s.sl 10) (s.sl 16) (s.sl 17) s.m s.fc) := by
  rw [show xer = .seq x1eq xvj from by kernel_rfl, seq_r]; rw [show xvj = .seq x1er xkz from by kernel_rfl, seq_r]; rw [x1ev call hs u rec0 rec1]; kernel_rfl
theorem xvm (call : FCall) (hs : FHs) (u : Nat) (rec0 : AV → AV → AV → AV → AV → AV → Mem → Nat → Option (AV × Mem)) : ∀ n : Nat,
  iter (fun rec => fxK Try.prog pol NN call xer (AV × Mem) (x26 hs u) rec (setE 2 (fun s => x17 call hs u rec0 (s.sl 0) (s.sl 1) (s.sl 2) (s.sl 4) (s.sl 9) (s.sl 10) s.m s.fc) (setE 1 (fun s => x17 call hs u rec0 (s.sl 0) (s.sl 1) (s.sl 2) (s.sl 4) (s.sl 9) (s.sl 10) s.m s.fc) (setE 0 xj eNil))) xj) n = (fun s => x36 call hs u rec0 n (s.sl 0) (s.sl 1) (s.sl 2) (s.sl 4) (s.sl 5) (s.sl 6) (s.sl 9) (s.sl 10) (s.sl 16) (s.sl 17) s.m s.fc)
  | 0 => rfl
  | n + 1 => by rw [iter_succ, xvm call hs u rec0 n, x1ew call hs u rec0 (x36 call hs u rec0 n)]; kernel_rfl
theorem x1ex (call : FCall) (hs : FHs) (u : Nat) (rec0 : AV → AV → AV → AV → AV → AV → Mem → Nat → Option (AV × Mem)) :
  fxK Try.prog pol NN call xky (AV × Mem) (x26 hs u) (fun s => x17 call hs u rec0 (s.sl 0) (s.sl 1) (s.sl 2) (s.sl 4) (s.sl 9) (s.sl 10) s.m s.fc) (setE 2 (fun s => x17 call hs u rec0 (s.sl 0) (s.sl 1) (s.sl 2) (s.sl 4) (s.sl 9) (s.sl 10) s.m s.fc) (setE 1 (fun s => x17 call hs u rec0 (s.sl 0) (s.sl 1) (s.sl 2) (s.sl 4) (s.sl 9) (s.sl 10) s.m s.fc) (setE 0 xj eNil))) xj = (fun s => x36 call hs u rec0 NN (s.sl 0) (s.sl 1) (s.sl 2) (s.sl 4) (s.sl 5) (s.sl 6) (s.sl 9) (s.sl 10) (s.sl 16) (s.sl 17) s.m s.fc) := by
  rw [show xky = .loop xer from by kernel_rfl, loop_r, xvm call hs u rec0 NN]
theorem x1ey (call : FCall) (hs : FHs) (u : Nat) (rec0 : AV → AV → AV → AV → AV → AV → Mem → Nat → Option (AV × Mem)) :
  fxK Try.prog pol NN call xkx (AV × Mem) (x26 hs u) (fun s => x17 call hs u rec0 (s.sl 0) (s.sl 1) (s.sl 2) (s.sl 4) (s.sl 9) (s.sl 10) s.m s.fc) (setE 1 (fun s => x17 call hs u rec0 (s.sl 0) (s.sl 1) (s.sl 2) (s.sl 4) (s.sl 9) (s.sl 10) s.m s.fc) (setE 0 xj eNil)) xj = (fun s => x36 call hs u rec0 NN (s.sl 0) (s.sl 1) (s.sl 2) (s.sl 4) (s.sl 5) (s.sl 6) (s.sl 9) (s.sl 10) (s.sl 16) (s.sl 17) s.m s.fc) := by
  rw [show xkx = .block 2 xky from by kernel_rfl, block_r, x1ex call hs u rec0]
theorem x1ez (call : FCall) (hs : FHs) (u : Nat) (rec0 : AV → AV → AV → AV → AV → AV → Mem → Nat → Option (AV × Mem)) :
  fxK Try.prog pol NN call xkw (AV × Mem) (x26 hs u) (fun s => x17 call hs u rec0 (s.sl 0) (s.sl 1) (s.sl 2) (s.sl 4) (s.sl 9) (s.sl 10) s.m s.fc) (setE 1 (fun s => x17 call hs u rec0 (s.sl 0) (s.sl 1) (s.sl 2) (s.sl 4) (s.sl 9) (s.sl 10) s.m s.fc) (setE 0 xj eNil)) xj = (fun s => xak call hs u rec0 (s.sl 0) (s.sl 1) (s.sl 2) (s.sl 4) (s.sl 9) (s.sl 10) s.m s.fc) := by
  rw [show xkw = .seq x1eo xvi from by kernel_rfl, seq_r]; rw [show xvi = .seq x1ep xkx from by kernel_rfl, seq_r]; rw [x1ey call hs u rec0]; kernel_rfl
theorem x1f0 (call : FCall) (hs : FHs) (u : Nat) (rec0 : AV → AV → AV → AV → AV → AV → Mem → Nat → Option (AV × Mem)) :
  fxK Try.prog pol NN call xkv (AV × Mem) (x26 hs u) (fun s => x17 call hs u rec0 (s.sl 0) (s.sl 1) (s.sl 2) (s.sl 4) (s.sl 9) (s.sl 10) s.m s.fc) (setE 0 xj eNil) xj = (fun s => xak call hs u rec0 (s.sl 0) (s.sl 1) (s.sl 2) (s.sl 4) (s.sl 9) (s.sl 10) s.m s.fc) := by
  rw [show xkv = .block 1 xkw from by kernel_rfl, block_r, x1ez call hs u rec0]
theorem x1f1 (call : FCall) (hs : FHs) (u : Nat) (rec0 : AV → AV → AV → AV → AV → AV → Mem → Nat → Option (AV × Mem)) :
  fxK Try.prog pol NN call xku (AV × Mem) (x26 hs u) (fun s => rec0 (s.sl 0) (s.sl 1) (s.sl 2) (s.sl 4) (s.sl 9) (s.sl 10) s.m s.fc) (setE 0 xj eNil) xj = (fun s => xak call hs u rec0 (s.sl 0) (s.sl 1) (s.sl 2) (s.sl 4) (s.sl 9) (s.sl 10) s.m s.fc) := by
  rw [show xku = .seq xkv xvh from by kernel_rfl, seq_r, x1es call hs u rec0, x1f0 call hs u rec0]
theorem x1f2 (call : FCall) (hs : FHs) (u : Nat) (rec0 : AV → AV → AV → AV → AV → AV → Mem → Nat → Option (AV × Mem)) :
  fxK Try.prog pol NN call xeq (AV × Mem) (x26 hs u) (fun s => rec0 (s.sl 0) (s.sl 1) (s.sl 2) (s.sl 4) (s.sl 9) (s.sl 10) s.m s.fc) (setE 0 xj eNil) xj = (fun s => xal call hs u rec0 (s.sl 0) (s.sl 1) (s.sl 2) (s.sl 4) (s.sl 9) (s.sl 10) s.m s.fc) := by
  rw [show xeq = .seq x1em xvg from by kernel_rfl, seq_r]; rw [show xvg = .seq x1en xku from by kernel_rfl, seq_r]; rw [x1f1 call hs u rec0]; kernel_rfl
theorem xvn (call : FCall) (hs : FHs) (u : Nat) : ∀ n : Nat,
  iter (fun rec => fxK Try.prog pol NN call xeq (AV × Mem) (x26 hs u) rec (setE 0 xj eNil) xj) n = (fun s => x37 call hs u n (s.sl 0) (s.sl 1) (s.sl 2) (s.sl 4) (s.sl 9) (s.sl 10) s.m s.fc)
  | 0 => rfl
  | n + 1 => by rw [iter_succ, xvn call hs u n, x1f2 call hs u (x37 call hs u n)]; kernel_rfl
theorem x1f3 (call : FCall) (hs : FHs) (u : Nat) :
  fxK Try.prog pol NN call xkt (AV × Mem) (x26 hs u) xj (setE 0 xj eNil) xj = (fun s => x37 call hs u NN (s.sl 0) (s.sl 1) (s.sl 2) (s.sl 4) (s.sl 9) (s.sl 10) s.m s.fc) := by
  rw [show xkt = .loop xeq from by kernel_rfl, loop_r, xvn call hs u NN]
theorem x1f4 (call : FCall) (hs : FHs) (u : Nat) :
  fxK Try.prog pol NN call xks (AV × Mem) (x26 hs u) xj eNil xj = (fun s => x37 call hs u NN (s.sl 0) (s.sl 1) (s.sl 2) (s.sl 4) (s.sl 9) (s.sl 10) s.m s.fc) := by
  rw [show xks = .block 0 xkt from by kernel_rfl, block_r, x1f3 call hs u]
theorem x1f5 (call : FCall) (hs : FHs) (u : Nat) :
  fxK Try.prog pol NN call xkr (AV × Mem) (x26 hs u) xj eNil xj = (fun s => xhf call hs u (s.sl 0) (s.sl 1) (s.sl 2) s.m s.fc) := by
  rw [show xkr = .seq x1ek xvf from by kernel_rfl, seq_r]; rw [show xvf = .seq x1el xks from by kernel_rfl, seq_r]; rw [x1f4 call hs u]; kernel_rfl
theorem x1f6 (call : FCall) (hs : FHs) (t0 t1 t2 : AV) (m : Mem) : fxBody Try.prog pol NN call hs xg [t0, t1, t2] m = x9n call hs [t0, t1, t2] m := by
  rw [fxBody_at (fn := Try.f120) (body := xkr) (nt := 55) (rs := []) (by kernel_rfl) (by kernel_rfl) (by kernel_rfl) (by kernel_rfl) (by kernel_rfl) (by kernel_rfl)]
  exact (congrFun (x1f5 call hs m.next) _).trans (by kernel_rfl)
theorem x15p (call : FCall) (hs : FHs) (args : List AV) (m : Mem) (r : AV × Mem) (h : x9n call hs args m = some r) : fxBody Try.prog pol NN call hs xg args m = some r := by
  unfold x9n at h
  split at h
  · rw [x1f6]; exact h
  · cases h

/- slices.Repeat[[]int,int] -/
abbrev x2x (hs : FHs) (u : Nat) : FCtx := { f := x10, u := u, nt := 48, hs := hs }
noncomputable abbrev x1k : Fs → Option (AV × Mem) := fxRes Try.prog [.tmp 4]
noncomputable def xl0 : Code := nav (bodyOf x10) []
noncomputable def x1f7 : Code := nav (bodyOf x10) [false]
noncomputable def xl1 : Code := nav (bodyOf x10) [true]
noncomputable def xvo : Code := nav (bodyOf x10) [true, false]
noncomputable def xl2 : Code := nav (bodyOf x10) [true, true]
noncomputable def x1f8 : Code := nav (bodyOf x10) [true, true, false]
noncomputable def xl3 : Code := nav (bodyOf x10) [true, true, true]
noncomputable def xvp : Code := nav (bodyOf x10) [true, true, true, false]
noncomputable def xl4 : Code := nav (bodyOf x10) [true, true, true, true]
noncomputable def x1f9 : Code := nav (bodyOf x10) [true, true, true, true, false]
noncomputable def xvq : Code := nav (bodyOf x10) [true, true, true, true, true]
noncomputable def x1fa : Code := nav (bodyOf x10) [true, true, true, true, true, false]
noncomputable def xl5 : Code := nav (bodyOf x10) [true, true, true, true, true, true]
noncomputable def xl6 : Code := nav (bodyOf x10) [true, true, true, true, true, true, false]
noncomputable def xvr : Code := nav (bodyOf x10) [true, true, true, true, true, true, true]
noncomputable def xl7 : Code := nav (bodyOf x10) [true, true, true, true, true, true, false, false]
noncomputable def xl8 : Code := nav (bodyOf x10) [true, true, true, true, true, true, false, false, false]
theorem x1fb (call : FCall) (hs : FHs) (u : Nat) :
  fxK Try.prog pol NN call xvr (AV × Mem) (x2x hs u) x1k eNil x1k = (fun s => x7z call hs u (s.sl 7) s.m s.fc) := by
  kernel_rfl
theorem x1fc (call : FCall) (hs : FHs) (u : Nat) (rec0 : AV → AV → Mem → Nat → Option (AV × Mem)) :
  fxK Try.prog pol NN call xl8 (AV × Mem) (x2x hs u) (fun s => rec0 (s.sl 7) (s.sl 8) s.m s.fc) (setE 0 (fun s => x7z call hs u (s.sl 7) s.m s.fc) eNil) x1k = (fun s => xrm call hs u rec0 (s.sl 7) (s.sl 8) s.m s.fc) := by
  kernel_rfl
theorem xvs (call : FCall) (hs : FHs) (u : Nat) : ∀ n : Nat,
  iter (fun rec => fxK Try.prog pol NN call xl8 (AV × Mem) (x2x hs u) rec (setE 0 (fun s => x7z call hs u (s.sl 7) s.m s.fc) eNil) x1k) n = (fun s => x80 call hs u n (s.sl 7) (s.sl 8) s.m s.fc)
  | 0 => rfl
  | n + 1 => by rw [iter_succ, xvs call hs u n, x1fc call hs u (x80 call hs u n)]; kernel_rfl
theorem x1fd (call : FCall) (hs : FHs) (u : Nat) :
  fxK Try.prog pol NN call xl7 (AV × Mem) (x2x hs u) (fun s => x7z call hs u (s.sl 7) s.m s.fc) (setE 0 (fun s => x7z call hs u (s.sl 7) s.m s.fc) eNil) x1k = (fun s => x80 call hs u NN (s.sl 7) (s.sl 8) s.m s.fc) := by
  rw [show xl7 = .loop xl8 from by kernel_rfl, loop_r, xvs call hs u NN]
theorem x1fe (call : FCall) (hs : FHs) (u : Nat) :
  fxK Try.prog pol NN call xl6 (AV × Mem) (x2x hs u) (fun s => x7z call hs u (s.sl 7) s.m s.fc) eNil x1k = (fun s => x80 call hs u NN (s.sl 7) (s.sl 8) s.m s.fc) := by
  rw [show xl6 = .block 0 xl7 from by kernel_rfl, block_r, x1fd call hs u]
theorem x1ff (call : FCall) (hs : FHs) (u : Nat) :
  fxK Try.prog pol NN call xl5 (AV × Mem) (x2x hs u) x1k eNil x1k = (fun s => x80 call hs u NN (s.sl 7) (s.sl 8) s.m s.fc) := by
  rw [show xl5 = .seq xl6 xvr from by kernel_rfl, seq_r, x1fb call hs u, x1fe call hs u]
theorem x1fg (call : FCall) (hs : FHs) (u : Nat) :
  fxK Try.prog pol NN call xl4 (AV × Mem) (x2x hs u) x1k eNil x1k = (fun s => xhg call hs u (s.sl 0) (s.sl 6) s.m s.fc) := by
  rw [show xl4 = .seq x1f9 xvq from by kernel_rfl, seq_r]; rw [show xvq = .seq x1fa xl5 from by kernel_rfl, seq_r]; rw [x1ff call hs u]; kernel_rfl
theorem x1fh (call : FCall) (hs : FHs) (u : Nat) :
  fxK Try.prog pol NN call xvp (AV × Mem) (x2x hs u) (fun s => xhg call hs u (s.sl 0) (s.sl 6) s.m s.fc) eNil x1k = (fun s => xhh call hs u (s.sl 0) (s.sl 5) (s.sl 6) s.m s.fc) := by
  kernel_rfl
theorem x1fi (call : FCall) (hs : FHs) (u : Nat) :
  fxK Try.prog pol NN call xl3 (AV × Mem) (x2x hs u) x1k eNil x1k = (fun s => xhh call hs u (s.sl 0) (s.sl 5) (s.sl 6) s.m s.fc) := by
  rw [show xl3 = .seq xvp xl4 from by kernel_rfl, seq_r, x1fg call hs u, x1fh call hs u]
theorem x1fj (call : FCall) (hs : FHs) (u : Nat) :
  fxK Try.prog pol NN call xl2 (AV × Mem) (x2x hs u) x1k eNil x1k = (fun s => xhi call hs u (s.sl 0) (s.sl 1) s.m s.fc) := by
  rw [show xl2 = .seq x1f8 xl3 from by kernel_rfl, seq_r]; rw [x1fi call hs u]; kernel_rfl
theorem x1fk (call : FCall) (hs : FHs) (u : Nat) :
  fxK Try.prog pol NN call xvo (AV × Mem) (x2x hs u) (fun s => xhi call hs u (s.sl 0) (s.sl 1) s.m s.fc) eNil x1k = (fun s => xhj call hs u (s.sl 0) (s.sl 1) s.m s.fc) := by
  kernel_rfl
theorem x1fl (call : FCall) (hs : FHs) (u : Nat) :
  fxK Try.prog pol NN call xl1 (AV × Mem) (x2x hs u) x1k eNil x1k = (fun s => xhj call hs u (s.sl 0) (s.sl 1) s.m s.fc) := by
  rw [show xl1 = .seq xvo xl2 from by kernel_rfl, seq_r, x1fj call hs u, x1fk call hs u]
theorem x1fm (call : FCall) (hs : FHs) (u : Nat) :
  fxK Try.prog pol NN call xl0 (AV × Mem) (x2x hs u) x1k eNil x1k = (fun s => xrn call hs u (s.sl 0) (s.sl 1) s.m s.fc) := by
  rw [show xl0 = .seq x1f7 xl1 from by kernel_rfl, seq_r]; rw [x1fl call hs u]; kernel_rfl
theorem x1fn (call : FCall) (hs : FHs) (t0 t1 : AV) (m : Mem) : fxBody Try.prog pol NN call hs x10 [t0, t1] m = xbc call hs [t0, t1] m := by
  rw [fxBody_at (fn := Try.f121) (body := xl0) (nt := 48) (rs := [.tmp 4]) (by kernel_rfl) (by kernel_rfl) (by kernel_rfl) (by kernel_rfl) (by kernel_rfl) (by kernel_rfl)]
  exact (congrFun (x1fm call hs m.next) _).trans (by kernel_rfl)
theorem x15q (call : FCall) (hs : FHs) (args : List AV) (m : Mem) (r : AV × Mem) (h : xbc call hs args m = some r) : fxBody Try.prog pol NN call hs x10 args m = some r := by
  unfold xbc at h
  split at h
  · rw [x1fn]; exact h
  · cases h

/- swath/unwrap.numbered$1 -/
abbrev x1fo (hs : FHs) (u : Nat) : FCtx := { f := x72, u := u, nt := 18, hs := hs }
noncomputable abbrev xvt : Fs → Option (AV × Mem) := fxRes Try.prog []
noncomputable def xvu : Code := nav (bodyOf x72) []
theorem x1fp (call : FCall) (hs : FHs) (u : Nat) :
  fxK Try.prog pol NN call xvu (AV × Mem) (x1fo hs u) xvt eNil xvt = (fun s => xro call hs u (s.sl 0) (s.sl 1) (s.sl 2) (s.sl 3) s.m s.fc) := by
  kernel_rfl
theorem x1fq (call : FCall) (hs : FHs) (t0 t1 t2 t3 : AV) (m : Mem) : fxBody Try.prog pol NN call hs x72 [t0, t1, t2, t3] m = xap call hs [t0, t1, t2, t3] m := by
  rw [fxBody_at (fn := Try.f122) (body := xvu) (nt := 18) (rs := []) (by kernel_rfl) (by kernel_rfl) (by kernel_rfl) (by kernel_rfl) (by kernel_rfl) (by kernel_rfl)]
  exact (congrFun (x1fp call hs m.next) _).trans (by kernel_rfl)
theorem x139 (call : FCall) (hs : FHs) (args : List AV) (m : Mem) (r : AV × Mem) (h : xap call hs args m = some r) : fxBody Try.prog pol NN call hs x72 args m = some r := by
  unfold xap at h
  split at h
  · rw [x1fq]; exact h
  · cases h

/- (*swath/unwrap.solver).arcs -/
abbrev x1fr (hs : FHs) (u : Nat) : FCtx := { f := x73, u := u, nt := 6, hs := hs }
noncomputable abbrev xvv : Fs → Option (AV × Mem) := fxRes Try.prog [.tmp 4]
noncomputable def xvw : Code := nav (bodyOf x73) []
theorem x1fs (call : FCall) (hs : FHs) (u : Nat) :
  fxK Try.prog pol NN call xvw (AV × Mem) (x1fr hs u) xvv eNil xvv = (fun s => xrp call hs u (s.sl 0) (s.sl 1) s.m s.fc) := by
  kernel_rfl
theorem x1ft (call : FCall) (hs : FHs) (t0 t1 : AV) (m : Mem) : fxBody Try.prog pol NN call hs x73 [t0, t1] m = xar call hs [t0, t1] m := by
  rw [fxBody_at (fn := Try.f123) (body := xvw) (nt := 6) (rs := [.tmp 4]) (by kernel_rfl) (by kernel_rfl) (by kernel_rfl) (by kernel_rfl) (by kernel_rfl) (by kernel_rfl)]
  exact (congrFun (x1fs call hs m.next) _).trans (by kernel_rfl)
theorem x13b (call : FCall) (hs : FHs) (args : List AV) (m : Mem) (r : AV × Mem) (h : xar call hs args m = some r) : fxBody Try.prog pol NN call hs x73 args m = some r := by
  unfold xar at h
  split at h
  · rw [x1ft]; exact h
  · cases h

/- swath/unwrap.isPhase -/
abbrev x1fu (hs : FHs) (u : Nat) : FCtx := { f := x6h, u := u, nt := 5, hs := hs }
noncomputable abbrev xvx : Fs → Option (AV × Mem) := fxRes Try.prog [.tmp 2]
noncomputable def xvy : Code := nav (bodyOf x6h) []
theorem x1fv (call : FCall) (hs : FHs) (u : Nat) :
  fxK Try.prog pol NN call xvy (AV × Mem) (x1fu hs u) xvx eNil xvx = (fun s => xhk call hs u (s.sl 0) s.m s.fc) := by
  kernel_rfl
theorem x1fw (call : FCall) (hs : FHs) (t0 : AV) (m : Mem) : fxBody Try.prog pol NN call hs x6h [t0] m = x9o call hs [t0] m := by
  rw [fxBody_at (fn := Try.f124) (body := xvy) (nt := 5) (rs := [.tmp 2]) (by kernel_rfl) (by kernel_rfl) (by kernel_rfl) (by kernel_rfl) (by kernel_rfl) (by kernel_rfl)]
  exact (congrFun (x1fv call hs m.next) _).trans (by kernel_rfl)
theorem x15r (call : FCall) (hs : FHs) (args : List AV) (m : Mem) (r : AV × Mem) (h : x9o call hs args m = some r) : fxBody Try.prog pol NN call hs x6h args m = some r := by
  unfold x9o at h
  split at h
  · rw [x1fw]; exact h
  · cases h

/- math/bits.Mul -/
abbrev x1fx (hs : FHs) (u : Nat) : FCtx := { f := x7n, u := u, nt := 30, hs := hs }
noncomputable abbrev xvz : Fs → Option (AV × Mem) := fxRes Try.prog [.tmp 4, .tmp 5]
noncomputable def xw0 : Code := nav (bodyOf x7n) []
theorem x1fy (call : FCall) (hs : FHs) (u : Nat) :
  fxK Try.prog pol NN call xw0 (AV × Mem) (x1fx hs u) xvz eNil xvz = (fun s => xrq call hs u (s.sl 0) (s.sl 1) s.m s.fc) := by
  kernel_rfl
theorem x1fz (call : FCall) (hs : FHs) (t0 t1 : AV) (m : Mem) : fxBody Try.prog pol NN call hs x7n [t0, t1] m = xbd call hs [t0, t1] m := by
  rw [fxBody_at (fn := Try.f125) (body := xw0) (nt := 30) (rs := [.tmp 4, .tmp 5]) (by kernel_rfl) (by kernel_rfl) (by kernel_rfl) (by kernel_rfl) (by kernel_rfl) (by kernel_rfl)]
  exact (congrFun (x1fy call hs m.next) _).trans (by kernel_rfl)
theorem x15s (call : FCall) (hs : FHs) (args : List AV) (m : Mem) (r : AV × Mem) (h : xbd call hs args m = some r) : fxBody Try.prog pol NN call hs x7n args m = some r := by
  unfold xbd at h
  split at h
  · rw [x1fz]; exact h
  · cases h

/- (*swath/unwrap.solver).arcs$1 -/
abbrev x38 (hs : FHs) (u : Nat) : FCtx := { f := xq, u := u, nt := 76, hs := hs }
noncomputable abbrev xw : Fs → Option (AV × Mem) := fxRes Try.prog []
noncomputable def xl9 : Code := nav (bodyOf xq) []
noncomputable def x1g0 : Code := nav (bodyOf xq) [false]
noncomputable def xla : Code := nav (bodyOf xq) [true]
noncomputable def xlb : Code := nav (bodyOf xq) [true, false]
noncomputable def xes : Code := nav (bodyOf xq) [true, false, false]
noncomputable def x1g1 : Code := nav (bodyOf xq) [true, false, false, false]
noncomputable def xw1 : Code := nav (bodyOf xq) [true, false, false, true]
noncomputable def x1g2 : Code := nav (bodyOf xq) [true, false, false, true, false]
noncomputable def xlc : Code := nav (bodyOf xq) [true, false, false, true, true]
noncomputable def xld : Code := nav (bodyOf xq) [true, false, false, true, true, false]
noncomputable def xw2 : Code := nav (bodyOf xq) [true, false, false, true, true, true]
noncomputable def xle : Code := nav (bodyOf xq) [true, false, false, true, true, false, false]
noncomputable def x1g3 : Code := nav (bodyOf xq) [true, false, false, true, true, false, false, false]
noncomputable def xw3 : Code := nav (bodyOf xq) [true, false, false, true, true, false, false, true]
noncomputable def x1g4 : Code := nav (bodyOf xq) [true, false, false, true, true, false, false, true, false]
noncomputable def xw4 : Code := nav (bodyOf xq) [true, false, false, true, true, false, false, true, true]
noncomputable def x1g5 : Code := nav (bodyOf xq) [true, false, false, true, true, false, false, true, true, false]
noncomputable def xlf : Code := nav (bodyOf xq) [true, false, false, true, true, false, false, true, true, true]
noncomputable def xw5 : Code := nav (bodyOf xq) [true, false, false, true, true, false, false, true, true, true, false]
noncomputable def xw6 : Code := nav (bodyOf xq) [true, false, false, true, true, false, false, true, true, true, true]
theorem x1g6 (call : FCall) (hs : FHs) (u : Nat) (rec0 : AV → AV → AV → AV → AV → AV → Mem → Nat → Option (AV × Mem)) :
  fxK Try.prog pol NN call xw2 (AV × Mem) (x38 hs u) (fun s => rec0 (s.sl 0) (s.sl 1) (s.sl 2) (s.sl 14) (s.sl 15) (s.sl 16) s.m s.fc) (setE 0 xw eNil) xw = (fun s => x4m call hs u rec0 (s.sl 0) (s.sl 1) (s.sl 2) (s.sl 14) (s.sl 15) (s.sl 16) s.m s.fc) := by
  kernel_rfl
theorem x1g7 (call : FCall) (hs : FHs) (u : Nat) (rec0 : AV → AV → AV → AV → AV → AV → Mem → Nat → Option (AV × Mem)) :
  fxK Try.prog pol NN call xw6 (AV × Mem) (x38 hs u) (fun s => x4m call hs u rec0 (s.sl 0) (s.sl 1) (s.sl 2) (s.sl 14) (s.sl 15) (s.sl 16) s.m s.fc) (setE 1 (fun s => x4m call hs u rec0 (s.sl 0) (s.sl 1) (s.sl 2) (s.sl 14) (s.sl 15) (s.sl 16) s.m s.fc) (setE 0 xw eNil)) xw = (fun s => xec call hs u rec0 (s.sl 0) (s.sl 1) (s.sl 2) (s.sl 7) (s.sl 14) (s.sl 15) (s.sl 16) s.m s.fc) := by
  kernel_rfl
theorem x1g8 (call : FCall) (hs : FHs) (u : Nat) (rec0 : AV → AV → AV → AV → AV → AV → Mem → Nat → Option (AV × Mem)) :
  fxK Try.prog pol NN call xw5 (AV × Mem) (x38 hs u) (fun s => xec call hs u rec0 (s.sl 0) (s.sl 1) (s.sl 2) (s.sl 7) (s.sl 14) (s.sl 15) (s.sl 16) s.m s.fc) (setE 1 (fun s => x4m call hs u rec0 (s.sl 0) (s.sl 1) (s.sl 2) (s.sl 14) (s.sl 15) (s.sl 16) s.m s.fc) (setE 0 xw eNil)) xw = (fun s => xhl call hs u rec0 (s.sl 0) (s.sl 1) (s.sl 2) (s.sl 5) (s.sl 6) (s.sl 7) (s.sl 14) (s.sl 15) (s.sl 16) s.m s.fc) := by
  kernel_rfl
theorem x1g9 (call : FCall) (hs : FHs) (u : Nat) (rec0 : AV → AV → AV → AV → AV → AV → Mem → Nat → Option (AV × Mem)) :
  fxK Try.prog pol NN call xlf (AV × Mem) (x38 hs u) (fun s => x4m call hs u rec0 (s.sl 0) (s.sl 1) (s.sl 2) (s.sl 14) (s.sl 15) (s.sl 16) s.m s.fc) (setE 1 (fun s => x4m call hs u rec0 (s.sl 0) (s.sl 1) (s.sl 2) (s.sl 14) (s.sl 15) (s.sl 16) s.m s.fc) (setE 0 xw eNil)) xw = (fun s => xhl call hs u rec0 (s.sl 0) (s.sl 1) (s.sl 2) (s.sl 5) (s.sl 6) (s.sl 7) (s.sl 14) (s.sl 15) (s.sl 16) s.m s.fc) := by
  rw [show xlf = .seq xw5 xw6 from by kernel_rfl, seq_r, x1g7 call hs u rec0, x1g8 call hs u rec0]
theorem x1ga (call : FCall) (hs : FHs) (u : Nat) (rec0 : AV → AV → AV → AV → AV → AV → Mem → Nat → Option (AV × Mem)) :
  fxK Try.prog pol NN call xle (AV × Mem) (x38 hs u) (fun s => x4m call hs u rec0 (s.sl 0) (s.sl 1) (s.sl 2) (s.sl 14) (s.sl 15) (s.sl 16) s.m s.fc) (setE 1 (fun s => x4m call hs u rec0 (s.sl 0) (s.sl 1) (s.sl 2) (s.sl 14) (s.sl 15) (s.sl 16) s.m s.fc) (setE 0 xw eNil)) xw = (fun s => xed call hs u rec0 (s.sl 0) (s.sl 1) (s.sl 2) (s.sl 14) (s.sl 15) (s.sl 16) s.m s.fc) := by
  rw [show xle = .seq x1g3 xw3 from by kernel_rfl, seq_r]; rw [show xw3 = .seq x1g4 xw4 from by kernel_rfl, seq_r]; rw [show xw4 = .seq x1g5 xlf from by kernel_rfl, seq_r]; rw [x1g9 call hs u rec0]; kernel_rfl
theorem x1gb (call : FCall) (hs : FHs) (u : Nat) (rec0 : AV → AV → AV → AV → AV → AV → Mem → Nat → Option (AV × Mem)) :
  fxK Try.prog pol NN call xld (AV × Mem) (x38 hs u) (fun s => x4m call hs u rec0 (s.sl 0) (s.sl 1) (s.sl 2) (s.sl 14) (s.sl 15) (s.sl 16) s.m s.fc) (setE 0 xw eNil) xw = (fun s => xed call hs u rec0 (s.sl 0) (s.sl 1) (s.sl 2) (s.sl 14) (s.sl 15) (s.sl 16) s.m s.fc) := by
  rw [show xld = .block 1 xle from by kernel_rfl, block_r, x1ga call hs u rec0]
theorem x1gc (call : FCall) (hs : FHs) (u : Nat) (rec0 : AV → AV → AV → AV → AV → AV → Mem → Nat → Option (AV × Mem)) :
  fxK Try.prog pol NN call xlc (AV × Mem) (x38 hs u) (fun s => rec0 (s.sl 0) (s.sl 1) (s.sl 2) (s.sl 14) (s.sl 15) (s.sl 16) s.m s.fc) (setE 0 xw eNil) xw = (fun s => xed call hs u rec0 (s.sl 0) (s.sl 1) (s.sl 2) (s.sl 14) (s.sl 15) (s.sl 16) s.m s.fc) := by
  rw [show xlc = .seq xld xw2 from by kernel_rfl, seq_r, x1g6 call hs u rec0, x1gb call hs u rec0]
theorem x1gd (call : FCall) (hs : FHs) (u : Nat) (rec0 : AV → AV → AV → AV → AV → AV → Mem → Nat → Option (AV × Mem)) :
  fxK Try.prog pol NN call xes (AV × Mem) (x38 hs u) (fun s => rec0 (s.sl 0) (s.sl 1) (s.sl 2) (s.sl 14) (s.sl 15) (s.sl 16) s.m s.fc) (setE 0 xw eNil) xw = (fun s => xrr call hs u rec0 (s.sl 0) (s.sl 1) (s.sl 2) (s.sl 14) (s.sl 15) (s.sl 16) s.m s.fc) := by
  rw [show xes = .seq x1g1 xw1 from by kernel_rfl, seq_r]; rw [show xw1 = .seq x1g2 xlc from by kernel_rfl, seq_r]; rw [x1gc call hs u rec0]; kernel_rfl
theorem xw7 (call : FCall) (hs : FHs) (u : Nat) : ∀ n : Nat,
  iter (fun rec => fxK Try.prog pol NN call xes (AV × Mem) (x38 hs u) rec (setE 0 xw eNil) xw) n = (fun s => xam call hs u n (s.sl 0) (s.sl 1) (s.sl 2) (s.sl 14) (s.sl 15) (s.sl 16) s.m s.fc)
  | 0 => rfl
  | n + 1 => by rw [iter_succ, xw7 call hs u n, x1gd call hs u (xam call hs u n)]; kernel_rfl
theorem x1ge (call : FCall) (hs : FHs) (u : Nat) :
  fxK Try.prog pol NN call xlb (AV × Mem) (x38 hs u) xw (setE 0 xw eNil) xw = (fun s => xam call hs u NN (s.sl 0) (s.sl 1) (s.sl 2) (s.sl 14) (s.sl 15) (s.sl 16) s.m s.fc) := by
  rw [show xlb = .loop xes from by kernel_rfl, loop_r, xw7 call hs u NN]
theorem x1gf (call : FCall) (hs : FHs) (u : Nat) :
  fxK Try.prog pol NN call xla (AV × Mem) (x38 hs u) xw eNil xw = (fun s => xam call hs u NN (s.sl 0) (s.sl 1) (s.sl 2) (s.sl 14) (s.sl 15) (s.sl 16) s.m s.fc) := by
  rw [show xla = .block 0 xlb from by kernel_rfl, block_r, x1ge call hs u]
theorem x1gg (call : FCall) (hs : FHs) (u : Nat) :
  fxK Try.prog pol NN call xl9 (AV × Mem) (x38 hs u) xw eNil xw = (fun s => xrs call hs u (s.sl 0) (s.sl 1) (s.sl 2) s.m s.fc) := by
  rw [show xl9 = .seq x1g0 xla from by kernel_rfl, seq_r]; rw [x1gf call hs u]; kernel_rfl
theorem x1gh (call : FCall) (hs : FHs) (t0 t1 t2 : AV) (m : Mem) : fxBody Try.prog pol NN call hs xq [t0, t1, t2] m = xao call hs [t0, t1, t2] m := by
  rw [fxBody_at (fn := Try.f126) (body := xl9) (nt := 76) (rs := []) (by kernel_rfl) (by kernel_rfl) (by kernel_rfl) (by kernel_rfl) (by kernel_rfl) (by kernel_rfl)]
  exact (congrFun (x1gg call hs m.next) _).trans (by kernel_rfl)
theorem x137 (call : FCall) (hs : FHs) (args : List AV) (m : Mem) (r : AV × Mem) (h : xao call hs args m = some r) : fxBody Try.prog pol NN call hs xq args m = some r := by
  unfold xao at h
  split at h
  · rw [x1gh]; exact h
  · cases h

/- math/bits.Mul32 -/
abbrev x1gi (hs : FHs) (u : Nat) : FCtx := { f := x7o, u := u, nt := 17, hs := hs }
noncomputable abbrev xw8 : Fs → Option (AV × Mem) := fxRes Try.prog [.tmp 4, .tmp 5]
noncomputable def xw9 : Code := nav (bodyOf x7o) []
theorem x1gj (call : FCall) (hs : FHs) (u : Nat) :
  fxK Try.prog pol NN call xw9 (AV × Mem) (x1gi hs u) xw8 eNil xw8 = (fun s => xrt call hs u (s.sl 0) (s.sl 1) s.m s.fc) := by
  kernel_rfl
theorem x1gk (call : FCall) (hs : FHs) (t0 t1 : AV) (m : Mem) : fxBody Try.prog pol NN call hs x7o [t0, t1] m = xbe call hs [t0, t1] m := by
  rw [fxBody_at (fn := Try.f127) (body := xw9) (nt := 17) (rs := [.tmp 4, .tmp 5]) (by kernel_rfl) (by kernel_rfl) (by kernel_rfl) (by kernel_rfl) (by kernel_rfl) (by kernel_rfl)]
  exact (congrFun (x1gj call hs m.next) _).trans (by kernel_rfl)
theorem x15t (call : FCall) (hs : FHs) (args : List AV) (m : Mem) (r : AV × Mem) (h : xbe call hs args m = some r) : fxBody Try.prog pol NN call hs x7o args m = some r := by
  unfold xbe at h
  split at h
  · rw [x1gk]; exact h
  · cases h

/- math/bits.Mul64 -/
abbrev x1gl (hs : FHs) (u : Nat) : FCtx := { f := x74, u := u, nt := 51, hs := hs }
noncomputable abbrev xwa : Fs → Option (AV × Mem) := fxRes Try.prog [.tmp 4, .tmp 5]
noncomputable def xwb : Code := nav (bodyOf x74) []
theorem x1gm (call : FCall) (hs : FHs) (u : Nat) :
  fxK Try.prog pol NN call xwb (AV × Mem) (x1gl hs u) xwa eNil xwa = (fun s => xru call hs u (s.sl 0) (s.sl 1) s.m s.fc) := by
  kernel_rfl
theorem x1gn (call : FCall) (hs : FHs) (t0 t1 : AV) (m : Mem) : fxBody Try.prog pol NN call hs x74 [t0, t1] m = xat call hs [t0, t1] m := by
  rw [fxBody_at (fn := Try.f128) (body := xwb) (nt := 51) (rs := [.tmp 4, .tmp 5]) (by kernel_rfl) (by kernel_rfl) (by kernel_rfl) (by kernel_rfl) (by kernel_rfl) (by kernel_rfl)]
  exact (congrFun (x1gm call hs m.next) _).trans (by kernel_rfl)
theorem x13d (call : FCall) (hs : FHs) (args : List AV) (m : Mem) (r : AV × Mem) (h : xat call hs args m = some r) : fxBody Try.prog pol NN call hs x74 args m = some r := by
  unfold xat at h
  split at h
  · rw [x1gn]; exact h
  · cases h

end Go.Ix
