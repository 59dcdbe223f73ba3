/- MADE BY PROGRAM (gen.py). What the code does, block by block. -/
import Derived.Test.YtljibmnhhdiakaaFxText0
import Derived.Test.YtljibmnhhdiakaaFxRules
import Derived.ProofKit
set_option linter.unusedVariables false
namespace Go.Ix
open Go.Proofs

/- swath/swathlaw05.UnwrapAlong -/
abbrev k_law05_UnwrapAlong (hs : FHs) (u : Nat) : FCtx := { f := n_law05_UnwrapAlong, u := u, nt := 56, hs := hs }
noncomputable abbrev r_law05_UnwrapAlong : Fs → Option (AV × Mem) := fxRes Try.prog [.tmp 4]
noncomputable def c_law05_UnwrapAlong_0 : Code := nav (bodyOf n_law05_UnwrapAlong) []
noncomputable def c_law05_UnwrapAlong_1 : Code := nav (bodyOf n_law05_UnwrapAlong) [false]
noncomputable def c_law05_UnwrapAlong_2 : Code := nav (bodyOf n_law05_UnwrapAlong) [true]
noncomputable def c_law05_UnwrapAlong_3 : Code := nav (bodyOf n_law05_UnwrapAlong) [true, false]
noncomputable def c_law05_UnwrapAlong_4 : Code := nav (bodyOf n_law05_UnwrapAlong) [true, true]
noncomputable def c_law05_UnwrapAlong_5 : Code := nav (bodyOf n_law05_UnwrapAlong) [true, true, false]
noncomputable def c_law05_UnwrapAlong_6 : Code := nav (bodyOf n_law05_UnwrapAlong) [true, true, true]
noncomputable def c_law05_UnwrapAlong_7 : Code := nav (bodyOf n_law05_UnwrapAlong) [true, true, true, false]
noncomputable def c_law05_UnwrapAlong_8 : Code := nav (bodyOf n_law05_UnwrapAlong) [true, true, true, true]
noncomputable def c_law05_UnwrapAlong_9 : Code := nav (bodyOf n_law05_UnwrapAlong) [true, true, true, true, false]
noncomputable def c_law05_UnwrapAlong_10 : Code := nav (bodyOf n_law05_UnwrapAlong) [true, true, true, true, true]
noncomputable def c_law05_UnwrapAlong_11 : Code := nav (bodyOf n_law05_UnwrapAlong) [true, true, true, true, true, false]
noncomputable def c_law05_UnwrapAlong_12 : Code := nav (bodyOf n_law05_UnwrapAlong) [true, true, true, true, true, true]
noncomputable def c_law05_UnwrapAlong_13 : Code := nav (bodyOf n_law05_UnwrapAlong) [true, true, true, true, true, true, false]
noncomputable def c_law05_UnwrapAlong_14 : Code := nav (bodyOf n_law05_UnwrapAlong) [true, true, true, true, true, true, true]
theorem q_law05_UnwrapAlong_14 (call : FCall) (hs : FHs) (u : Nat) :
  fxK Try.prog pol NN call c_law05_UnwrapAlong_14 (AV × Mem) (k_law05_UnwrapAlong hs u) r_law05_UnwrapAlong eNil r_law05_UnwrapAlong = (fun s => B_law05_UnwrapAlong_0 call hs u (s.sl 5) (s.sl 6) (s.sl 7) (s.sl 8) s.m s.fc) := by
  kernel_rfl
theorem q_law05_UnwrapAlong_13 (call : FCall) (hs : FHs) (u : Nat) :
  fxK Try.prog pol NN call c_law05_UnwrapAlong_13 (AV × Mem) (k_law05_UnwrapAlong hs u) (fun s => B_law05_UnwrapAlong_0 call hs u (s.sl 5) (s.sl 6) (s.sl 7) (s.sl 8) s.m s.fc) eNil r_law05_UnwrapAlong = (fun s => B_law05_UnwrapAlong_1 call hs u (s.sl 1) (s.sl 2) (s.sl 5) (s.sl 6) (s.sl 7) (s.sl 8) s.m s.fc) := by
  kernel_rfl
theorem q_law05_UnwrapAlong_12 (call : FCall) (hs : FHs) (u : Nat) :
  fxK Try.prog pol NN call c_law05_UnwrapAlong_12 (AV × Mem) (k_law05_UnwrapAlong hs u) r_law05_UnwrapAlong eNil r_law05_UnwrapAlong = (fun s => B_law05_UnwrapAlong_1 call hs u (s.sl 1) (s.sl 2) (s.sl 5) (s.sl 6) (s.sl 7) (s.sl 8) s.m s.fc) := by
  rw [show c_law05_UnwrapAlong_12 = .seq c_law05_UnwrapAlong_13 c_law05_UnwrapAlong_14 from by kernel_rfl, seq_r, q_law05_UnwrapAlong_14 call hs u, q_law05_UnwrapAlong_13 call hs u]
theorem q_law05_UnwrapAlong_0 (call : FCall) (hs : FHs) (u : Nat) :
  fxK Try.prog pol NN call c_law05_UnwrapAlong_0 (AV × Mem) (k_law05_UnwrapAlong hs u) r_law05_UnwrapAlong eNil r_law05_UnwrapAlong = (fun s => B_law05_UnwrapAlong_2 call hs u (s.sl 0) (s.sl 1) s.m s.fc) := by
  rw [show c_law05_UnwrapAlong_0 = .seq c_law05_UnwrapAlong_1 c_law05_UnwrapAlong_2 from by kernel_rfl, seq_r]; rw [show c_law05_UnwrapAlong_2 = .seq c_law05_UnwrapAlong_3 c_law05_UnwrapAlong_4 from by kernel_rfl, seq_r]; rw [show c_law05_UnwrapAlong_4 = .seq c_law05_UnwrapAlong_5 c_law05_UnwrapAlong_6 from by kernel_rfl, seq_r]; rw [show c_law05_UnwrapAlong_6 = .seq c_law05_UnwrapAlong_7 c_law05_UnwrapAlong_8 from by kernel_rfl, seq_r]; rw [show c_law05_UnwrapAlong_8 = .seq c_law05_UnwrapAlong_9 c_law05_UnwrapAlong_10 from by kernel_rfl, seq_r]; rw [show c_law05_UnwrapAlong_10 = .seq c_law05_UnwrapAlong_11 c_law05_UnwrapAlong_12 from by kernel_rfl, seq_r]; rw [q_law05_UnwrapAlong_12 call hs u]; kernel_rfl
theorem F_law05_UnwrapAlong_eq (call : FCall) (hs : FHs) (t0 t1 : AV) (m : Mem) : fxBody Try.prog pol NN call hs n_law05_UnwrapAlong [t0, t1] m = F_law05_UnwrapAlong call hs [t0, t1] m := by
  rw [fxBody_at (fn := Try.f11) (body := c_law05_UnwrapAlong_0) (nt := 56) (rs := [.tmp 4]) (by kernel_rfl) (by kernel_rfl) (by kernel_rfl) (by kernel_rfl) (by kernel_rfl) (by kernel_rfl)]
  exact (congrFun (q_law05_UnwrapAlong_0 call hs m.next) _).trans (by kernel_rfl)
theorem F_law05_UnwrapAlong_le (call : FCall) (hs : FHs) (args : List AV) (m : Mem) (r : AV × Mem) (h : F_law05_UnwrapAlong call hs args m = some r) : fxBody Try.prog pol NN call hs n_law05_UnwrapAlong args m = some r := by
  unfold F_law05_UnwrapAlong at h
  split at h
  · rw [F_law05_UnwrapAlong_eq]; exact h
  · cases h

/- swath/swathlaw05.awake -/
abbrev k_law05_awake (hs : FHs) (u : Nat) : FCtx := { f := n_law05_awake, u := u, nt := 79, hs := hs }
noncomputable abbrev r_law05_awake : Fs → Option (AV × Mem) := fxRes Try.prog [.tmp 0]
noncomputable def c_law05_awake_0 : Code := nav (bodyOf n_law05_awake) []
theorem q_law05_awake_0 (call : FCall) (hs : FHs) (u : Nat) :
  fxK Try.prog pol NN call c_law05_awake_0 (AV × Mem) (k_law05_awake hs u) r_law05_awake eNil r_law05_awake = (fun s => B_law05_awake_0 call hs u s.m s.fc) := by
  kernel_rfl
theorem F_law05_awake_eq (call : FCall) (hs : FHs) (m : Mem) : fxBody Try.prog pol NN call hs n_law05_awake [] m = F_law05_awake call hs [] m := by
  rw [fxBody_at (fn := Try.f15) (body := c_law05_awake_0) (nt := 79) (rs := [.tmp 0]) (by kernel_rfl) (by kernel_rfl) (by kernel_rfl) (by kernel_rfl) (by kernel_rfl) (by kernel_rfl)]
  exact (congrFun (q_law05_awake_0 call hs m.next) _).trans (by kernel_rfl)
theorem F_law05_awake_le (call : FCall) (hs : FHs) (args : List AV) (m : Mem) (r : AV × Mem) (h : F_law05_awake call hs args m = some r) : fxBody Try.prog pol NN call hs n_law05_awake args m = some r := by
  unfold F_law05_awake at h
  split at h
  · rw [F_law05_awake_eq]; exact h
  · cases h

/- swath/swathlaw05.Few -/
abbrev k_law05_Few (hs : FHs) (u : Nat) : FCtx := { f := n_law05_Few, u := u, nt := 56, hs := hs }
noncomputable abbrev r_law05_Few : Fs → Option (AV × Mem) := fxRes Try.prog [.tmp 2]
noncomputable def c_law05_Few_0 : Code := nav (bodyOf n_law05_Few) []
noncomputable def c_law05_Few_1 : Code := nav (bodyOf n_law05_Few) [false]
noncomputable def c_law05_Few_2 : Code := nav (bodyOf n_law05_Few) [true]
noncomputable def c_law05_Few_3 : Code := nav (bodyOf n_law05_Few) [true, false]
noncomputable def c_law05_Few_4 : Code := nav (bodyOf n_law05_Few) [true, true]
noncomputable def c_law05_Few_5 : Code := nav (bodyOf n_law05_Few) [true, true, false]
noncomputable def c_law05_Few_6 : Code := nav (bodyOf n_law05_Few) [true, true, true]
noncomputable def c_law05_Few_7 : Code := nav (bodyOf n_law05_Few) [true, true, true, false]
noncomputable def c_law05_Few_8 : Code := nav (bodyOf n_law05_Few) [true, true, true, true]
noncomputable def c_law05_Few_9 : Code := nav (bodyOf n_law05_Few) [true, true, true, false, false]
noncomputable def c_law05_Few_10 : Code := nav (bodyOf n_law05_Few) [true, true, true, false, true]
noncomputable def c_law05_Few_11 : Code := nav (bodyOf n_law05_Few) [true, true, true, false, true, false]
noncomputable def c_law05_Few_12 : Code := nav (bodyOf n_law05_Few) [true, true, true, false, true, false, false]
theorem q_law05_Few_8 (call : FCall) (hs : FHs) (u : Nat) :
  fxK Try.prog pol NN call c_law05_Few_8 (AV × Mem) (k_law05_Few hs u) r_law05_Few eNil r_law05_Few = (fun s => B_law05_Few_0 call hs u s.m s.fc) := by
  kernel_rfl
theorem q_law05_Few_12 (call : FCall) (hs : FHs) (u : Nat) (rec0 : AV → AV → Mem → Nat → Option (AV × Mem)) :
  fxK Try.prog pol NN call c_law05_Few_12 (AV × Mem) (k_law05_Few hs u) (fun s => rec0 (s.sl 1) (s.sl 3) s.m s.fc) (setE 0 (fun s => B_law05_Few_0 call hs u s.m s.fc) eNil) r_law05_Few = (fun s => B_law05_Few_1 call hs u rec0 (s.sl 1) (s.sl 3) s.m s.fc) := by
  kernel_rfl
theorem q_L_law05_Few_0 (call : FCall) (hs : FHs) (u : Nat) : ∀ n : Nat,
  iter (fun rec => fxK Try.prog pol NN call c_law05_Few_12 (AV × Mem) (k_law05_Few hs u) rec (setE 0 (fun s => B_law05_Few_0 call hs u s.m s.fc) eNil) r_law05_Few) n = (fun s => L_law05_Few_0 call hs u n (s.sl 1) (s.sl 3) s.m s.fc)
  | 0 => rfl
  | n + 1 => by rw [iter_succ, q_L_law05_Few_0 call hs u n, q_law05_Few_12 call hs u (L_law05_Few_0 call hs u n)]; kernel_rfl
theorem q_law05_Few_11 (call : FCall) (hs : FHs) (u : Nat) :
  fxK Try.prog pol NN call c_law05_Few_11 (AV × Mem) (k_law05_Few hs u) (fun s => B_law05_Few_0 call hs u s.m s.fc) (setE 0 (fun s => B_law05_Few_0 call hs u s.m s.fc) eNil) r_law05_Few = (fun s => L_law05_Few_0 call hs u NN (s.sl 1) (s.sl 3) s.m s.fc) := by
  rw [show c_law05_Few_11 = .loop c_law05_Few_12 from by kernel_rfl, loop_r, q_L_law05_Few_0 call hs u NN]
theorem q_law05_Few_10 (call : FCall) (hs : FHs) (u : Nat) :
  fxK Try.prog pol NN call c_law05_Few_10 (AV × Mem) (k_law05_Few hs u) (fun s => B_law05_Few_0 call hs u s.m s.fc) eNil r_law05_Few = (fun s => L_law05_Few_0 call hs u NN (s.sl 1) (s.sl 3) s.m s.fc) := by
  rw [show c_law05_Few_10 = .block 0 c_law05_Few_11 from by kernel_rfl, block_r, q_law05_Few_11 call hs u]
theorem q_law05_Few_7 (call : FCall) (hs : FHs) (u : Nat) :
  fxK Try.prog pol NN call c_law05_Few_7 (AV × Mem) (k_law05_Few hs u) (fun s => B_law05_Few_0 call hs u s.m s.fc) eNil r_law05_Few = (fun s => B_law05_Few_2 call hs u (s.sl 1) s.m s.fc) := by
  rw [show c_law05_Few_7 = .seq c_law05_Few_9 c_law05_Few_10 from by kernel_rfl, seq_r]; rw [q_law05_Few_10 call hs u]; kernel_rfl
theorem q_law05_Few_6 (call : FCall) (hs : FHs) (u : Nat) :
  fxK Try.prog pol NN call c_law05_Few_6 (AV × Mem) (k_law05_Few hs u) r_law05_Few eNil r_law05_Few = (fun s => B_law05_Few_2 call hs u (s.sl 1) s.m s.fc) := by
  rw [show c_law05_Few_6 = .seq c_law05_Few_7 c_law05_Few_8 from by kernel_rfl, seq_r, q_law05_Few_8 call hs u, q_law05_Few_7 call hs u]
theorem q_law05_Few_0 (call : FCall) (hs : FHs) (u : Nat) :
  fxK Try.prog pol NN call c_law05_Few_0 (AV × Mem) (k_law05_Few hs u) r_law05_Few eNil r_law05_Few = (fun s => B_law05_Few_3 call hs u (s.sl 0) s.m s.fc) := by
  rw [show c_law05_Few_0 = .seq c_law05_Few_1 c_law05_Few_2 from by kernel_rfl, seq_r]; rw [show c_law05_Few_2 = .seq c_law05_Few_3 c_law05_Few_4 from by kernel_rfl, seq_r]; rw [show c_law05_Few_4 = .seq c_law05_Few_5 c_law05_Few_6 from by kernel_rfl, seq_r]; rw [q_law05_Few_6 call hs u]; kernel_rfl
theorem F_law05_Few_eq (call : FCall) (hs : FHs) (t0 : AV) (m : Mem) : fxBody Try.prog pol NN call hs n_law05_Few [t0] m = F_law05_Few call hs [t0] m := by
  rw [fxBody_at (fn := Try.f16) (body := c_law05_Few_0) (nt := 56) (rs := [.tmp 2]) (by kernel_rfl) (by kernel_rfl) (by kernel_rfl) (by kernel_rfl) (by kernel_rfl) (by kernel_rfl)]
  exact (congrFun (q_law05_Few_0 call hs m.next) _).trans (by kernel_rfl)
theorem F_law05_Few_le (call : FCall) (hs : FHs) (args : List AV) (m : Mem) (r : AV × Mem) (h : F_law05_Few call hs args m = some r) : fxBody Try.prog pol NN call hs n_law05_Few args m = some r := by
  unfold F_law05_Few at h
  split at h
  · rw [F_law05_Few_eq]; exact h
  · cases h

/- swath/unwrap.SolveNet -/
abbrev k_unwrap_SolveNet (hs : FHs) (u : Nat) : FCtx := { f := n_unwrap_SolveNet, u := u, nt := 33, hs := hs }
noncomputable abbrev r_unwrap_SolveNet : Fs → Option (AV × Mem) := fxRes Try.prog [.tmp 2, .tmp 3, .tmp 4, .tmp 5]
noncomputable def c_unwrap_SolveNet_0 : Code := nav (bodyOf n_unwrap_SolveNet) []
theorem q_unwrap_SolveNet_0 (call : FCall) (hs : FHs) (u : Nat) :
  fxK Try.prog pol NN call c_unwrap_SolveNet_0 (AV × Mem) (k_unwrap_SolveNet hs u) r_unwrap_SolveNet eNil r_unwrap_SolveNet = (fun s => B_unwrap_SolveNet_0 call hs u (s.sl 0) s.m s.fc) := by
  kernel_rfl
theorem F_unwrap_SolveNet_eq (call : FCall) (hs : FHs) (t0 : AV) (m : Mem) : fxBody Try.prog pol NN call hs n_unwrap_SolveNet [t0] m = F_unwrap_SolveNet call hs [t0] m := by
  rw [fxBody_at (fn := Try.f17) (body := c_unwrap_SolveNet_0) (nt := 33) (rs := [.tmp 2, .tmp 3, .tmp 4, .tmp 5]) (by kernel_rfl) (by kernel_rfl) (by kernel_rfl) (by kernel_rfl) (by kernel_rfl) (by kernel_rfl)]
  exact (congrFun (q_unwrap_SolveNet_0 call hs m.next) _).trans (by kernel_rfl)
theorem F_unwrap_SolveNet_le (call : FCall) (hs : FHs) (args : List AV) (m : Mem) (r : AV × Mem) (h : F_unwrap_SolveNet call hs args m = some r) : fxBody Try.prog pol NN call hs n_unwrap_SolveNet args m = some r := by
  unfold F_unwrap_SolveNet at h
  split at h
  · rw [F_unwrap_SolveNet_eq]; exact h
  · cases h

/- swath/swathref05.CopyNet -/
abbrev k_ref05_CopyNet (hs : FHs) (u : Nat) : FCtx := { f := n_ref05_CopyNet, u := u, nt := 10, hs := hs }
noncomputable abbrev r_ref05_CopyNet : Fs → Option (AV × Mem) := fxRes Try.prog [.cell 2 y_api_UnwrapNet]
noncomputable def c_ref05_CopyNet_0 : Code := nav (bodyOf n_ref05_CopyNet) []
theorem q_ref05_CopyNet_0 (call : FCall) (hs : FHs) (u : Nat) :
  fxK Try.prog pol NN call c_ref05_CopyNet_0 (AV × Mem) (k_ref05_CopyNet hs u) r_ref05_CopyNet eNil r_ref05_CopyNet = (fun s => B_ref05_CopyNet_0 call hs u (s.sl 0) s.m s.fc) := by
  kernel_rfl
theorem F_ref05_CopyNet_eq (call : FCall) (hs : FHs) (t0 : AV) (m : Mem) : fxBody Try.prog pol NN call hs n_ref05_CopyNet [t0] m = F_ref05_CopyNet call hs [t0] m := by
  rw [fxBody_at (fn := Try.f18) (body := c_ref05_CopyNet_0) (nt := 10) (rs := [.cell 2 y_api_UnwrapNet]) (by kernel_rfl) (by kernel_rfl) (by kernel_rfl) (by kernel_rfl) (by kernel_rfl) (by kernel_rfl)]
  exact (congrFun (q_ref05_CopyNet_0 call hs m.next) _).trans (by kernel_rfl)
theorem F_ref05_CopyNet_le (call : FCall) (hs : FHs) (args : List AV) (m : Mem) (r : AV × Mem) (h : F_ref05_CopyNet call hs args m = some r) : fxBody Try.prog pol NN call hs n_ref05_CopyNet args m = some r := by
  unfold F_ref05_CopyNet at h
  split at h
  · rw [F_ref05_CopyNet_eq]; exact h
  · cases h

/- swath/swathref05.Err -/
abbrev k_ref05_Err (hs : FHs) (u : Nat) : FCtx := { f := n_ref05_Err, u := u, nt := 11, hs := hs }
noncomputable abbrev r_ref05_Err : Fs → Option (AV × Mem) := fxRes Try.prog [.tmp 2]
noncomputable def c_ref05_Err_0 : Code := nav (bodyOf n_ref05_Err) []
theorem q_ref05_Err_0 (call : FCall) (hs : FHs) (u : Nat) :
  fxK Try.prog pol NN call c_ref05_Err_0 (AV × Mem) (k_ref05_Err hs u) r_ref05_Err eNil r_ref05_Err = (fun s => B_ref05_Err_0 call hs u (s.sl 0) s.m s.fc) := by
  kernel_rfl
theorem F_ref05_Err_eq (call : FCall) (hs : FHs) (t0 : AV) (m : Mem) : fxBody Try.prog pol NN call hs n_ref05_Err [t0] m = F_ref05_Err call hs [t0] m := by
  rw [fxBody_at (fn := Try.f19) (body := c_ref05_Err_0) (nt := 11) (rs := [.tmp 2]) (by kernel_rfl) (by kernel_rfl) (by kernel_rfl) (by kernel_rfl) (by kernel_rfl) (by kernel_rfl)]
  exact (congrFun (q_ref05_Err_0 call hs m.next) _).trans (by kernel_rfl)
theorem F_ref05_Err_le (call : FCall) (hs : FHs) (args : List AV) (m : Mem) (r : AV × Mem) (h : F_ref05_Err call hs args m = some r) : fxBody Try.prog pol NN call hs n_ref05_Err args m = some r := by
  unfold F_ref05_Err at h
  split at h
  · rw [F_ref05_Err_eq]; exact h
  · cases h

/- swath/swathref05.CheckTurns -/
abbrev k_ref05_CheckTurns (hs : FHs) (u : Nat) : FCtx := { f := n_ref05_CheckTurns, u := u, nt := 27, hs := hs }
noncomputable abbrev r_ref05_CheckTurns : Fs → Option (AV × Mem) := fxRes Try.prog [.tmp 4, .tmp 5]
noncomputable def c_ref05_CheckTurns_0 : Code := nav (bodyOf n_ref05_CheckTurns) []
noncomputable def c_ref05_CheckTurns_1 : Code := nav (bodyOf n_ref05_CheckTurns) [false]
noncomputable def c_ref05_CheckTurns_2 : Code := nav (bodyOf n_ref05_CheckTurns) [true]
noncomputable def c_ref05_CheckTurns_3 : Code := nav (bodyOf n_ref05_CheckTurns) [true, false]
noncomputable def c_ref05_CheckTurns_4 : Code := nav (bodyOf n_ref05_CheckTurns) [true, true]
noncomputable def c_ref05_CheckTurns_5 : Code := nav (bodyOf n_ref05_CheckTurns) [true, true, false]
noncomputable def c_ref05_CheckTurns_6 : Code := nav (bodyOf n_ref05_CheckTurns) [true, true, true]
noncomputable def c_ref05_CheckTurns_7 : Code := nav (bodyOf n_ref05_CheckTurns) [true, true, false, false]
noncomputable def c_ref05_CheckTurns_8 : Code := nav (bodyOf n_ref05_CheckTurns) [true, true, false, true]
noncomputable def c_ref05_CheckTurns_9 : Code := nav (bodyOf n_ref05_CheckTurns) [true, true, false, true, false]
noncomputable def c_ref05_CheckTurns_10 : Code := nav (bodyOf n_ref05_CheckTurns) [true, true, false, true, false, false]
theorem q_ref05_CheckTurns_6 (call : FCall) (hs : FHs) (u : Nat) :
  fxK Try.prog pol NN call c_ref05_CheckTurns_6 (AV × Mem) (k_ref05_CheckTurns hs u) r_ref05_CheckTurns eNil r_ref05_CheckTurns = (fun s => B_ref05_CheckTurns_0 call hs u (s.sl 1) (s.sl 2) s.m s.fc) := by
  kernel_rfl
theorem q_ref05_CheckTurns_10 (call : FCall) (hs : FHs) (u : Nat) (rec0 : AV → AV → AV → Mem → Nat → Option (AV × Mem)) :
  fxK Try.prog pol NN call c_ref05_CheckTurns_10 (AV × Mem) (k_ref05_CheckTurns hs u) (fun s => rec0 (s.sl 1) (s.sl 2) (s.sl 6) s.m s.fc) (setE 0 (fun s => B_ref05_CheckTurns_0 call hs u (s.sl 1) (s.sl 2) s.m s.fc) eNil) r_ref05_CheckTurns = (fun s => B_ref05_CheckTurns_1 call hs u rec0 (s.sl 1) (s.sl 2) (s.sl 6) s.m s.fc) := by
  kernel_rfl
theorem q_L_ref05_CheckTurns_0 (call : FCall) (hs : FHs) (u : Nat) : ∀ n : Nat,
  iter (fun rec => fxK Try.prog pol NN call c_ref05_CheckTurns_10 (AV × Mem) (k_ref05_CheckTurns hs u) rec (setE 0 (fun s => B_ref05_CheckTurns_0 call hs u (s.sl 1) (s.sl 2) s.m s.fc) eNil) r_ref05_CheckTurns) n = (fun s => L_ref05_CheckTurns_0 call hs u n (s.sl 1) (s.sl 2) (s.sl 6) s.m s.fc)
  | 0 => rfl
  | n + 1 => by rw [iter_succ, q_L_ref05_CheckTurns_0 call hs u n, q_ref05_CheckTurns_10 call hs u (L_ref05_CheckTurns_0 call hs u n)]; kernel_rfl
theorem q_ref05_CheckTurns_9 (call : FCall) (hs : FHs) (u : Nat) :
  fxK Try.prog pol NN call c_ref05_CheckTurns_9 (AV × Mem) (k_ref05_CheckTurns hs u) (fun s => B_ref05_CheckTurns_0 call hs u (s.sl 1) (s.sl 2) s.m s.fc) (setE 0 (fun s => B_ref05_CheckTurns_0 call hs u (s.sl 1) (s.sl 2) s.m s.fc) eNil) r_ref05_CheckTurns = (fun s => L_ref05_CheckTurns_0 call hs u NN (s.sl 1) (s.sl 2) (s.sl 6) s.m s.fc) := by
  rw [show c_ref05_CheckTurns_9 = .loop c_ref05_CheckTurns_10 from by kernel_rfl, loop_r, q_L_ref05_CheckTurns_0 call hs u NN]
theorem q_ref05_CheckTurns_8 (call : FCall) (hs : FHs) (u : Nat) :
  fxK Try.prog pol NN call c_ref05_CheckTurns_8 (AV × Mem) (k_ref05_CheckTurns hs u) (fun s => B_ref05_CheckTurns_0 call hs u (s.sl 1) (s.sl 2) s.m s.fc) eNil r_ref05_CheckTurns = (fun s => L_ref05_CheckTurns_0 call hs u NN (s.sl 1) (s.sl 2) (s.sl 6) s.m s.fc) := by
  rw [show c_ref05_CheckTurns_8 = .block 0 c_ref05_CheckTurns_9 from by kernel_rfl, block_r, q_ref05_CheckTurns_9 call hs u]
theorem q_ref05_CheckTurns_5 (call : FCall) (hs : FHs) (u : Nat) :
  fxK Try.prog pol NN call c_ref05_CheckTurns_5 (AV × Mem) (k_ref05_CheckTurns hs u) (fun s => B_ref05_CheckTurns_0 call hs u (s.sl 1) (s.sl 2) s.m s.fc) eNil r_ref05_CheckTurns = (fun s => B_ref05_CheckTurns_2 call hs u (s.sl 1) (s.sl 2) s.m s.fc) := by
  rw [show c_ref05_CheckTurns_5 = .seq c_ref05_CheckTurns_7 c_ref05_CheckTurns_8 from by kernel_rfl, seq_r]; rw [q_ref05_CheckTurns_8 call hs u]; kernel_rfl
theorem q_ref05_CheckTurns_4 (call : FCall) (hs : FHs) (u : Nat) :
  fxK Try.prog pol NN call c_ref05_CheckTurns_4 (AV × Mem) (k_ref05_CheckTurns hs u) r_ref05_CheckTurns eNil r_ref05_CheckTurns = (fun s => B_ref05_CheckTurns_2 call hs u (s.sl 1) (s.sl 2) s.m s.fc) := by
  rw [show c_ref05_CheckTurns_4 = .seq c_ref05_CheckTurns_5 c_ref05_CheckTurns_6 from by kernel_rfl, seq_r, q_ref05_CheckTurns_6 call hs u, q_ref05_CheckTurns_5 call hs u]
theorem q_ref05_CheckTurns_0 (call : FCall) (hs : FHs) (u : Nat) :
  fxK Try.prog pol NN call c_ref05_CheckTurns_0 (AV × Mem) (k_ref05_CheckTurns hs u) r_ref05_CheckTurns eNil r_ref05_CheckTurns = (fun s => B_ref05_CheckTurns_3 call hs u (s.sl 0) (s.sl 1) s.m s.fc) := by
  rw [show c_ref05_CheckTurns_0 = .seq c_ref05_CheckTurns_1 c_ref05_CheckTurns_2 from by kernel_rfl, seq_r]; rw [show c_ref05_CheckTurns_2 = .seq c_ref05_CheckTurns_3 c_ref05_CheckTurns_4 from by kernel_rfl, seq_r]; rw [q_ref05_CheckTurns_4 call hs u]; kernel_rfl
theorem F_ref05_CheckTurns_eq (call : FCall) (hs : FHs) (t0 t1 : AV) (m : Mem) : fxBody Try.prog pol NN call hs n_ref05_CheckTurns [t0, t1] m = F_ref05_CheckTurns call hs [t0, t1] m := by
  rw [fxBody_at (fn := Try.f20) (body := c_ref05_CheckTurns_0) (nt := 27) (rs := [.tmp 4, .tmp 5]) (by kernel_rfl) (by kernel_rfl) (by kernel_rfl) (by kernel_rfl) (by kernel_rfl) (by kernel_rfl)]
  exact (congrFun (q_ref05_CheckTurns_0 call hs m.next) _).trans (by kernel_rfl)
theorem F_ref05_CheckTurns_le (call : FCall) (hs : FHs) (args : List AV) (m : Mem) (r : AV × Mem) (h : F_ref05_CheckTurns call hs args m = some r) : fxBody Try.prog pol NN call hs n_ref05_CheckTurns args m = some r := by
  unfold F_ref05_CheckTurns at h
  split at h
  · rw [F_ref05_CheckTurns_eq]; exact h
  · cases h

/- swath/unwrap.CheckTask -/
abbrev k_unwrap_CheckTask (hs : FHs) (u : Nat) : FCtx := { f := n_unwrap_CheckTask, u := u, nt := 67, hs := hs }
noncomputable abbrev r_unwrap_CheckTask : Fs → Option (AV × Mem) := fxRes Try.prog [.tmp 2]
noncomputable def c_unwrap_CheckTask_0 : Code := nav (bodyOf n_unwrap_CheckTask) []
noncomputable def c_unwrap_CheckTask_1 : Code := nav (bodyOf n_unwrap_CheckTask) [false]
noncomputable def c_unwrap_CheckTask_2 : Code := nav (bodyOf n_unwrap_CheckTask) [true]
noncomputable def c_unwrap_CheckTask_3 : Code := nav (bodyOf n_unwrap_CheckTask) [true, false]
noncomputable def c_unwrap_CheckTask_4 : Code := nav (bodyOf n_unwrap_CheckTask) [true, true]
noncomputable def c_unwrap_CheckTask_5 : Code := nav (bodyOf n_unwrap_CheckTask) [true, true, false]
noncomputable def c_unwrap_CheckTask_6 : Code := nav (bodyOf n_unwrap_CheckTask) [true, true, true]
noncomputable def c_unwrap_CheckTask_7 : Code := nav (bodyOf n_unwrap_CheckTask) [true, true, true, false]
noncomputable def c_unwrap_CheckTask_8 : Code := nav (bodyOf n_unwrap_CheckTask) [true, true, true, true]
noncomputable def c_unwrap_CheckTask_9 : Code := nav (bodyOf n_unwrap_CheckTask) [true, true, true, true, false]
noncomputable def c_unwrap_CheckTask_10 : Code := nav (bodyOf n_unwrap_CheckTask) [true, true, true, true, true]
noncomputable def c_unwrap_CheckTask_11 : Code := nav (bodyOf n_unwrap_CheckTask) [true, true, true, true, true, false]
noncomputable def c_unwrap_CheckTask_12 : Code := nav (bodyOf n_unwrap_CheckTask) [true, true, true, true, true, true]
noncomputable def c_unwrap_CheckTask_13 : Code := nav (bodyOf n_unwrap_CheckTask) [true, true, true, true, true, true, false]
noncomputable def c_unwrap_CheckTask_14 : Code := nav (bodyOf n_unwrap_CheckTask) [true, true, true, true, true, true, true]
noncomputable def c_unwrap_CheckTask_15 : Code := nav (bodyOf n_unwrap_CheckTask) [true, true, true, true, true, true, false, false]
noncomputable def c_unwrap_CheckTask_16 : Code := nav (bodyOf n_unwrap_CheckTask) [true, true, true, true, true, true, false, true]
noncomputable def c_unwrap_CheckTask_17 : Code := nav (bodyOf n_unwrap_CheckTask) [true, true, true, true, true, true, false, true, false]
noncomputable def c_unwrap_CheckTask_18 : Code := nav (bodyOf n_unwrap_CheckTask) [true, true, true, true, true, true, false, true, false, false]
theorem q_unwrap_CheckTask_14 (call : FCall) (hs : FHs) (u : Nat) :
  fxK Try.prog pol NN call c_unwrap_CheckTask_14 (AV × Mem) (k_unwrap_CheckTask hs u) r_unwrap_CheckTask eNil r_unwrap_CheckTask = (fun s => B_unwrap_CheckTask_0 call hs u s.m s.fc) := by
  kernel_rfl
theorem q_unwrap_CheckTask_18 (call : FCall) (hs : FHs) (u : Nat) (rec0 : AV → AV → AV → Mem → Nat → Option (AV × Mem)) :
  fxK Try.prog pol NN call c_unwrap_CheckTask_18 (AV × Mem) (k_unwrap_CheckTask hs u) (fun s => rec0 (s.sl 57) (s.sl 58) (s.sl 59) s.m s.fc) (setE 0 (fun s => B_unwrap_CheckTask_0 call hs u s.m s.fc) eNil) r_unwrap_CheckTask = (fun s => B_unwrap_CheckTask_1 call hs u rec0 (s.sl 57) (s.sl 58) (s.sl 59) s.m s.fc) := by
  kernel_rfl
theorem q_L_unwrap_CheckTask_0 (call : FCall) (hs : FHs) (u : Nat) : ∀ n : Nat,
  iter (fun rec => fxK Try.prog pol NN call c_unwrap_CheckTask_18 (AV × Mem) (k_unwrap_CheckTask hs u) rec (setE 0 (fun s => B_unwrap_CheckTask_0 call hs u s.m s.fc) eNil) r_unwrap_CheckTask) n = (fun s => L_unwrap_CheckTask_0 call hs u n (s.sl 57) (s.sl 58) (s.sl 59) s.m s.fc)
  | 0 => rfl
  | n + 1 => by rw [iter_succ, q_L_unwrap_CheckTask_0 call hs u n, q_unwrap_CheckTask_18 call hs u (L_unwrap_CheckTask_0 call hs u n)]; kernel_rfl
theorem q_unwrap_CheckTask_17 (call : FCall) (hs : FHs) (u : Nat) :
  fxK Try.prog pol NN call c_unwrap_CheckTask_17 (AV × Mem) (k_unwrap_CheckTask hs u) (fun s => B_unwrap_CheckTask_0 call hs u s.m s.fc) (setE 0 (fun s => B_unwrap_CheckTask_0 call hs u s.m s.fc) eNil) r_unwrap_CheckTask = (fun s => L_unwrap_CheckTask_0 call hs u NN (s.sl 57) (s.sl 58) (s.sl 59) s.m s.fc) := by
  rw [show c_unwrap_CheckTask_17 = .loop c_unwrap_CheckTask_18 from by kernel_rfl, loop_r, q_L_unwrap_CheckTask_0 call hs u NN]
theorem q_unwrap_CheckTask_16 (call : FCall) (hs : FHs) (u : Nat) :
  fxK Try.prog pol NN call c_unwrap_CheckTask_16 (AV × Mem) (k_unwrap_CheckTask hs u) (fun s => B_unwrap_CheckTask_0 call hs u s.m s.fc) eNil r_unwrap_CheckTask = (fun s => L_unwrap_CheckTask_0 call hs u NN (s.sl 57) (s.sl 58) (s.sl 59) s.m s.fc) := by
  rw [show c_unwrap_CheckTask_16 = .block 0 c_unwrap_CheckTask_17 from by kernel_rfl, block_r, q_unwrap_CheckTask_17 call hs u]
theorem q_unwrap_CheckTask_13 (call : FCall) (hs : FHs) (u : Nat) :
  fxK Try.prog pol NN call c_unwrap_CheckTask_13 (AV × Mem) (k_unwrap_CheckTask hs u) (fun s => B_unwrap_CheckTask_0 call hs u s.m s.fc) eNil r_unwrap_CheckTask = (fun s => B_unwrap_CheckTask_2 call hs u (s.sl 1) s.m s.fc) := by
  rw [show c_unwrap_CheckTask_13 = .seq c_unwrap_CheckTask_15 c_unwrap_CheckTask_16 from by kernel_rfl, seq_r]; rw [q_unwrap_CheckTask_16 call hs u]; kernel_rfl
theorem q_unwrap_CheckTask_12 (call : FCall) (hs : FHs) (u : Nat) :
  fxK Try.prog pol NN call c_unwrap_CheckTask_12 (AV × Mem) (k_unwrap_CheckTask hs u) r_unwrap_CheckTask eNil r_unwrap_CheckTask = (fun s => B_unwrap_CheckTask_2 call hs u (s.sl 1) s.m s.fc) := by
  rw [show c_unwrap_CheckTask_12 = .seq c_unwrap_CheckTask_13 c_unwrap_CheckTask_14 from by kernel_rfl, seq_r, q_unwrap_CheckTask_14 call hs u, q_unwrap_CheckTask_13 call hs u]
theorem q_unwrap_CheckTask_0 (call : FCall) (hs : FHs) (u : Nat) :
  fxK Try.prog pol NN call c_unwrap_CheckTask_0 (AV × Mem) (k_unwrap_CheckTask hs u) r_unwrap_CheckTask eNil r_unwrap_CheckTask = (fun s => B_unwrap_CheckTask_3 call hs u (s.sl 0) s.m s.fc) := by
  rw [show c_unwrap_CheckTask_0 = .seq c_unwrap_CheckTask_1 c_unwrap_CheckTask_2 from by kernel_rfl, seq_r]; rw [show c_unwrap_CheckTask_2 = .seq c_unwrap_CheckTask_3 c_unwrap_CheckTask_4 from by kernel_rfl, seq_r]; rw [show c_unwrap_CheckTask_4 = .seq c_unwrap_CheckTask_5 c_unwrap_CheckTask_6 from by kernel_rfl, seq_r]; rw [show c_unwrap_CheckTask_6 = .seq c_unwrap_CheckTask_7 c_unwrap_CheckTask_8 from by kernel_rfl, seq_r]; rw [show c_unwrap_CheckTask_8 = .seq c_unwrap_CheckTask_9 c_unwrap_CheckTask_10 from by kernel_rfl, seq_r]; rw [show c_unwrap_CheckTask_10 = .seq c_unwrap_CheckTask_11 c_unwrap_CheckTask_12 from by kernel_rfl, seq_r]; rw [q_unwrap_CheckTask_12 call hs u]; kernel_rfl
theorem F_unwrap_CheckTask_eq (call : FCall) (hs : FHs) (t0 : AV) (m : Mem) : fxBody Try.prog pol NN call hs n_unwrap_CheckTask [t0] m = F_unwrap_CheckTask call hs [t0] m := by
  rw [fxBody_at (fn := Try.f29) (body := c_unwrap_CheckTask_0) (nt := 67) (rs := [.tmp 2]) (by kernel_rfl) (by kernel_rfl) (by kernel_rfl) (by kernel_rfl) (by kernel_rfl) (by kernel_rfl)]
  exact (congrFun (q_unwrap_CheckTask_0 call hs m.next) _).trans (by kernel_rfl)
theorem F_unwrap_CheckTask_le (call : FCall) (hs : FHs) (args : List AV) (m : Mem) (r : AV × Mem) (h : F_unwrap_CheckTask call hs args m = some r) : fxBody Try.prog pol NN call hs n_unwrap_CheckTask args m = some r := by
  unfold F_unwrap_CheckTask at h
  split at h
  · rw [F_unwrap_CheckTask_eq]; exact h
  · cases h

/- swath/unwrap.NetBetween -/
abbrev k_unwrap_NetBetween (hs : FHs) (u : Nat) : FCtx := { f := n_unwrap_NetBetween, u := u, nt := 66, hs := hs }
noncomputable abbrev r_unwrap_NetBetween : Fs → Option (AV × Mem) := fxRes Try.prog [.cell 6 y_api_Range, .tmp 7]
noncomputable def c_unwrap_NetBetween_0 : Code := nav (bodyOf n_unwrap_NetBetween) []
theorem q_unwrap_NetBetween_0 (call : FCall) (hs : FHs) (u : Nat) :
  fxK Try.prog pol NN call c_unwrap_NetBetween_0 (AV × Mem) (k_unwrap_NetBetween hs u) r_unwrap_NetBetween eNil r_unwrap_NetBetween = (fun s => B_unwrap_NetBetween_0 call hs u (s.sl 0) (s.sl 1) (s.sl 2) s.m s.fc) := by
  kernel_rfl
theorem F_unwrap_NetBetween_eq (call : FCall) (hs : FHs) (t0 t1 t2 : AV) (m : Mem) : fxBody Try.prog pol NN call hs n_unwrap_NetBetween [t0, t1, t2] m = F_unwrap_NetBetween call hs [t0, t1, t2] m := by
  rw [fxBody_at (fn := Try.f32) (body := c_unwrap_NetBetween_0) (nt := 66) (rs := [.cell 6 y_api_Range, .tmp 7]) (by kernel_rfl) (by kernel_rfl) (by kernel_rfl) (by kernel_rfl) (by kernel_rfl) (by kernel_rfl)]
  exact (congrFun (q_unwrap_NetBetween_0 call hs m.next) _).trans (by kernel_rfl)
theorem F_unwrap_NetBetween_le (call : FCall) (hs : FHs) (args : List AV) (m : Mem) (r : AV × Mem) (h : F_unwrap_NetBetween call hs args m = some r) : fxBody Try.prog pol NN call hs n_unwrap_NetBetween args m = some r := by
  unfold F_unwrap_NetBetween at h
  split at h
  · rw [F_unwrap_NetBetween_eq]; exact h
  · cases h

/- swath/swathbase.Ints -/
abbrev k_base_Ints (hs : FHs) (u : Nat) : FCtx := { f := n_base_Ints, u := u, nt := 26, hs := hs }
noncomputable abbrev r_base_Ints : Fs → Option (AV × Mem) := fxRes Try.prog [.tmp 4]
noncomputable def c_base_Ints_0 : Code := nav (bodyOf n_base_Ints) []
noncomputable def c_base_Ints_1 : Code := nav (bodyOf n_base_Ints) [false]
noncomputable def c_base_Ints_2 : Code := nav (bodyOf n_base_Ints) [true]
noncomputable def c_base_Ints_3 : Code := nav (bodyOf n_base_Ints) [true, false]
noncomputable def c_base_Ints_4 : Code := nav (bodyOf n_base_Ints) [true, true]
noncomputable def c_base_Ints_5 : Code := nav (bodyOf n_base_Ints) [true, true, false]
noncomputable def c_base_Ints_6 : Code := nav (bodyOf n_base_Ints) [true, true, true]
noncomputable def c_base_Ints_7 : Code := nav (bodyOf n_base_Ints) [true, true, false, false]
noncomputable def c_base_Ints_8 : Code := nav (bodyOf n_base_Ints) [true, true, false, true]
noncomputable def c_base_Ints_9 : Code := nav (bodyOf n_base_Ints) [true, true, false, true, false]
noncomputable def c_base_Ints_10 : Code := nav (bodyOf n_base_Ints) [true, true, false, true, false, false]
theorem q_base_Ints_6 (call : FCall) (hs : FHs) (u : Nat) :
  fxK Try.prog pol NN call c_base_Ints_6 (AV × Mem) (k_base_Ints hs u) r_base_Ints eNil r_base_Ints = (fun s => B_base_Ints_0 call hs u s.m s.fc) := by
  kernel_rfl
theorem q_base_Ints_10 (call : FCall) (hs : FHs) (u : Nat) (rec0 : AV → AV → AV → Mem → Nat → Option (AV × Mem)) :
  fxK Try.prog pol NN call c_base_Ints_10 (AV × Mem) (k_base_Ints hs u) (fun s => rec0 (s.sl 0) (s.sl 1) (s.sl 5) s.m s.fc) (setE 0 (fun s => B_base_Ints_0 call hs u s.m s.fc) eNil) r_base_Ints = (fun s => B_base_Ints_1 call hs u rec0 (s.sl 0) (s.sl 1) (s.sl 5) s.m s.fc) := by
  kernel_rfl
theorem q_L_base_Ints_0 (call : FCall) (hs : FHs) (u : Nat) : ∀ n : Nat,
  iter (fun rec => fxK Try.prog pol NN call c_base_Ints_10 (AV × Mem) (k_base_Ints hs u) rec (setE 0 (fun s => B_base_Ints_0 call hs u s.m s.fc) eNil) r_base_Ints) n = (fun s => L_base_Ints_0 call hs u n (s.sl 0) (s.sl 1) (s.sl 5) s.m s.fc)
  | 0 => rfl
  | n + 1 => by rw [iter_succ, q_L_base_Ints_0 call hs u n, q_base_Ints_10 call hs u (L_base_Ints_0 call hs u n)]; kernel_rfl
theorem q_base_Ints_9 (call : FCall) (hs : FHs) (u : Nat) :
  fxK Try.prog pol NN call c_base_Ints_9 (AV × Mem) (k_base_Ints hs u) (fun s => B_base_Ints_0 call hs u s.m s.fc) (setE 0 (fun s => B_base_Ints_0 call hs u s.m s.fc) eNil) r_base_Ints = (fun s => L_base_Ints_0 call hs u NN (s.sl 0) (s.sl 1) (s.sl 5) s.m s.fc) := by
  rw [show c_base_Ints_9 = .loop c_base_Ints_10 from by kernel_rfl, loop_r, q_L_base_Ints_0 call hs u NN]
theorem q_base_Ints_8 (call : FCall) (hs : FHs) (u : Nat) :
  fxK Try.prog pol NN call c_base_Ints_8 (AV × Mem) (k_base_Ints hs u) (fun s => B_base_Ints_0 call hs u s.m s.fc) eNil r_base_Ints = (fun s => L_base_Ints_0 call hs u NN (s.sl 0) (s.sl 1) (s.sl 5) s.m s.fc) := by
  rw [show c_base_Ints_8 = .block 0 c_base_Ints_9 from by kernel_rfl, block_r, q_base_Ints_9 call hs u]
theorem q_base_Ints_5 (call : FCall) (hs : FHs) (u : Nat) :
  fxK Try.prog pol NN call c_base_Ints_5 (AV × Mem) (k_base_Ints hs u) (fun s => B_base_Ints_0 call hs u s.m s.fc) eNil r_base_Ints = (fun s => B_base_Ints_2 call hs u (s.sl 0) (s.sl 1) s.m s.fc) := by
  rw [show c_base_Ints_5 = .seq c_base_Ints_7 c_base_Ints_8 from by kernel_rfl, seq_r]; rw [q_base_Ints_8 call hs u]; kernel_rfl
theorem q_base_Ints_4 (call : FCall) (hs : FHs) (u : Nat) :
  fxK Try.prog pol NN call c_base_Ints_4 (AV × Mem) (k_base_Ints hs u) r_base_Ints eNil r_base_Ints = (fun s => B_base_Ints_2 call hs u (s.sl 0) (s.sl 1) s.m s.fc) := by
  rw [show c_base_Ints_4 = .seq c_base_Ints_5 c_base_Ints_6 from by kernel_rfl, seq_r, q_base_Ints_6 call hs u, q_base_Ints_5 call hs u]
theorem q_base_Ints_0 (call : FCall) (hs : FHs) (u : Nat) :
  fxK Try.prog pol NN call c_base_Ints_0 (AV × Mem) (k_base_Ints hs u) r_base_Ints eNil r_base_Ints = (fun s => B_base_Ints_3 call hs u (s.sl 0) (s.sl 1) s.m s.fc) := by
  rw [show c_base_Ints_0 = .seq c_base_Ints_1 c_base_Ints_2 from by kernel_rfl, seq_r]; rw [show c_base_Ints_2 = .seq c_base_Ints_3 c_base_Ints_4 from by kernel_rfl, seq_r]; rw [q_base_Ints_4 call hs u]; kernel_rfl
theorem F_base_Ints_eq (call : FCall) (hs : FHs) (t0 t1 : AV) (m : Mem) : fxBody Try.prog pol NN call hs n_base_Ints [t0, t1] m = F_base_Ints call hs [t0, t1] m := by
  rw [fxBody_at (fn := Try.f34) (body := c_base_Ints_0) (nt := 26) (rs := [.tmp 4]) (by kernel_rfl) (by kernel_rfl) (by kernel_rfl) (by kernel_rfl) (by kernel_rfl) (by kernel_rfl)]
  exact (congrFun (q_base_Ints_0 call hs m.next) _).trans (by kernel_rfl)
theorem F_base_Ints_le (call : FCall) (hs : FHs) (args : List AV) (m : Mem) (r : AV × Mem) (h : F_base_Ints call hs args m = some r) : fxBody Try.prog pol NN call hs n_base_Ints args m = some r := by
  unfold F_base_Ints at h
  split at h
  · rw [F_base_Ints_eq]; exact h
  · cases h

/- swath/swathbase.Within -/
abbrev k_base_Within (hs : FHs) (u : Nat) : FCtx := { f := n_base_Within, u := u, nt := 15, hs := hs }
noncomputable abbrev r_base_Within : Fs → Option (AV × Mem) := fxRes Try.prog [.tmp 6]
noncomputable def c_base_Within_0 : Code := nav (bodyOf n_base_Within) []
theorem q_base_Within_0 (call : FCall) (hs : FHs) (u : Nat) :
  fxK Try.prog pol NN call c_base_Within_0 (AV × Mem) (k_base_Within hs u) r_base_Within eNil r_base_Within = (fun s => B_base_Within_0 call hs u (s.sl 0) (s.sl 1) (s.sl 2) s.m s.fc) := by
  kernel_rfl
theorem F_base_Within_eq (call : FCall) (hs : FHs) (t0 t1 t2 : AV) (m : Mem) : fxBody Try.prog pol NN call hs n_base_Within [t0, t1, t2] m = F_base_Within call hs [t0, t1, t2] m := by
  rw [fxBody_at (fn := Try.f36) (body := c_base_Within_0) (nt := 15) (rs := [.tmp 6]) (by kernel_rfl) (by kernel_rfl) (by kernel_rfl) (by kernel_rfl) (by kernel_rfl) (by kernel_rfl)]
  exact (congrFun (q_base_Within_0 call hs m.next) _).trans (by kernel_rfl)
theorem F_base_Within_le (call : FCall) (hs : FHs) (args : List AV) (m : Mem) (r : AV × Mem) (h : F_base_Within call hs args m = some r) : fxBody Try.prog pol NN call hs n_base_Within args m = some r := by
  unfold F_base_Within at h
  split at h
  · rw [F_base_Within_eq]; exact h
  · cases h

/- swath/unwrap.CheckTurns -/
abbrev k_unwrap_CheckTurns (hs : FHs) (u : Nat) : FCtx := { f := n_unwrap_CheckTurns, u := u, nt := 29, hs := hs }
noncomputable abbrev r_unwrap_CheckTurns : Fs → Option (AV × Mem) := fxRes Try.prog [.tmp 4, .tmp 5]
noncomputable def c_unwrap_CheckTurns_0 : Code := nav (bodyOf n_unwrap_CheckTurns) []
theorem q_unwrap_CheckTurns_0 (call : FCall) (hs : FHs) (u : Nat) :
  fxK Try.prog pol NN call c_unwrap_CheckTurns_0 (AV × Mem) (k_unwrap_CheckTurns hs u) r_unwrap_CheckTurns eNil r_unwrap_CheckTurns = (fun s => B_unwrap_CheckTurns_0 call hs u (s.sl 0) (s.sl 1) s.m s.fc) := by
  kernel_rfl
theorem F_unwrap_CheckTurns_eq (call : FCall) (hs : FHs) (t0 t1 : AV) (m : Mem) : fxBody Try.prog pol NN call hs n_unwrap_CheckTurns [t0, t1] m = F_unwrap_CheckTurns call hs [t0, t1] m := by
  rw [fxBody_at (fn := Try.f39) (body := c_unwrap_CheckTurns_0) (nt := 29) (rs := [.tmp 4, .tmp 5]) (by kernel_rfl) (by kernel_rfl) (by kernel_rfl) (by kernel_rfl) (by kernel_rfl) (by kernel_rfl)]
  exact (congrFun (q_unwrap_CheckTurns_0 call hs m.next) _).trans (by kernel_rfl)
theorem F_unwrap_CheckTurns_le (call : FCall) (hs : FHs) (args : List AV) (m : Mem) (r : AV × Mem) (h : F_unwrap_CheckTurns call hs args m = some r) : fxBody Try.prog pol NN call hs n_unwrap_CheckTurns args m = some r := by
  unfold F_unwrap_CheckTurns at h
  split at h
  · rw [F_unwrap_CheckTurns_eq]; exact h
  · cases h

/- swath/swathbase.CopyInts -/
abbrev k_base_CopyInts (hs : FHs) (u : Nat) : FCtx := { f := n_base_CopyInts, u := u, nt := 6, hs := hs }
noncomputable abbrev r_base_CopyInts : Fs → Option (AV × Mem) := fxRes Try.prog [.tmp 2]
noncomputable def c_base_CopyInts_0 : Code := nav (bodyOf n_base_CopyInts) []
theorem q_base_CopyInts_0 (call : FCall) (hs : FHs) (u : Nat) :
  fxK Try.prog pol NN call c_base_CopyInts_0 (AV × Mem) (k_base_CopyInts hs u) r_base_CopyInts eNil r_base_CopyInts = (fun s => B_base_CopyInts_0 call hs u (s.sl 0) s.m s.fc) := by
  kernel_rfl
theorem F_base_CopyInts_eq (call : FCall) (hs : FHs) (t0 : AV) (m : Mem) : fxBody Try.prog pol NN call hs n_base_CopyInts [t0] m = F_base_CopyInts call hs [t0] m := by
  rw [fxBody_at (fn := Try.f40) (body := c_base_CopyInts_0) (nt := 6) (rs := [.tmp 2]) (by kernel_rfl) (by kernel_rfl) (by kernel_rfl) (by kernel_rfl) (by kernel_rfl) (by kernel_rfl)]
  exact (congrFun (q_base_CopyInts_0 call hs m.next) _).trans (by kernel_rfl)
theorem F_base_CopyInts_le (call : FCall) (hs : FHs) (args : List AV) (m : Mem) (r : AV × Mem) (h : F_base_CopyInts call hs args m = some r) : fxBody Try.prog pol NN call hs n_base_CopyInts args m = some r := by
  unfold F_base_CopyInts at h
  split at h
  · rw [F_base_CopyInts_eq]; exact h
  · cases h

/- swath/unwrap.Unwrap -/
abbrev k_unwrap_Unwrap (hs : FHs) (u : Nat) : FCtx := { f := n_unwrap_Unwrap, u := u, nt := 72, hs := hs }
noncomputable abbrev r_unwrap_Unwrap : Fs → Option (AV × Mem) := fxRes Try.prog [.cell 2 y_api_PhaseMap, .tmp 3, .tmp 4, .tmp 5]
noncomputable def c_unwrap_Unwrap_0 : Code := nav (bodyOf n_unwrap_Unwrap) []
noncomputable def c_unwrap_Unwrap_1 : Code := nav (bodyOf n_unwrap_Unwrap) [false]
noncomputable def c_unwrap_Unwrap_2 : Code := nav (bodyOf n_unwrap_Unwrap) [true]
noncomputable def c_unwrap_Unwrap_3 : Code := nav (bodyOf n_unwrap_Unwrap) [true, false]
noncomputable def c_unwrap_Unwrap_4 : Code := nav (bodyOf n_unwrap_Unwrap) [true, true]
noncomputable def c_unwrap_Unwrap_5 : Code := nav (bodyOf n_unwrap_Unwrap) [true, true, false]
noncomputable def c_unwrap_Unwrap_6 : Code := nav (bodyOf n_unwrap_Unwrap) [true, true, true]
noncomputable def c_unwrap_Unwrap_7 : Code := nav (bodyOf n_unwrap_Unwrap) [true, true, true, false]
noncomputable def c_unwrap_Unwrap_8 : Code := nav (bodyOf n_unwrap_Unwrap) [true, true, true, true]
noncomputable def c_unwrap_Unwrap_9 : Code := nav (bodyOf n_unwrap_Unwrap) [true, true, true, true, false]
noncomputable def c_unwrap_Unwrap_10 : Code := nav (bodyOf n_unwrap_Unwrap) [true, true, true, true, true]
noncomputable def c_unwrap_Unwrap_11 : Code := nav (bodyOf n_unwrap_Unwrap) [true, true, true, true, true, false]
noncomputable def c_unwrap_Unwrap_12 : Code := nav (bodyOf n_unwrap_Unwrap) [true, true, true, true, true, true]
noncomputable def c_unwrap_Unwrap_13 : Code := nav (bodyOf n_unwrap_Unwrap) [true, true, true, true, true, false, false]
noncomputable def c_unwrap_Unwrap_14 : Code := nav (bodyOf n_unwrap_Unwrap) [true, true, true, true, true, false, true]
noncomputable def c_unwrap_Unwrap_15 : Code := nav (bodyOf n_unwrap_Unwrap) [true, true, true, true, true, false, true, false]
noncomputable def c_unwrap_Unwrap_16 : Code := nav (bodyOf n_unwrap_Unwrap) [true, true, true, true, true, false, true, false, false]
noncomputable def c_unwrap_Unwrap_17 : Code := nav (bodyOf n_unwrap_Unwrap) [true, true, true, true, true, false, true, false, false, false]
noncomputable def c_unwrap_Unwrap_18 : Code := nav (bodyOf n_unwrap_Unwrap) [true, true, true, true, true, false, true, false, false, true]
noncomputable def c_unwrap_Unwrap_19 : Code := nav (bodyOf n_unwrap_Unwrap) [true, true, true, true, true, false, true, false, false, true, false]
noncomputable def c_unwrap_Unwrap_20 : Code := nav (bodyOf n_unwrap_Unwrap) [true, true, true, true, true, false, true, false, false, true, true]
noncomputable def c_unwrap_Unwrap_21 : Code := nav (bodyOf n_unwrap_Unwrap) [true, true, true, true, true, false, true, false, false, true, true, false]
noncomputable def c_unwrap_Unwrap_22 : Code := nav (bodyOf n_unwrap_Unwrap) [true, true, true, true, true, false, true, false, false, true, true, true]
theorem q_unwrap_Unwrap_12 (call : FCall) (hs : FHs) (u : Nat) :
  fxK Try.prog pol NN call c_unwrap_Unwrap_12 (AV × Mem) (k_unwrap_Unwrap hs u) r_unwrap_Unwrap eNil r_unwrap_Unwrap = (fun s => B_unwrap_Unwrap_0 call hs u (s.sl 2) (s.sl 7) (s.sl 8) (s.sl 9) s.m s.fc) := by
  kernel_rfl
theorem q_unwrap_Unwrap_22 (call : FCall) (hs : FHs) (u : Nat) (rec0 : AV → AV → AV → AV → AV → AV → AV → Mem → Nat → Option (AV × Mem)) :
  fxK Try.prog pol NN call c_unwrap_Unwrap_22 (AV × Mem) (k_unwrap_Unwrap hs u) (fun s => rec0 (s.sl 2) (s.sl 7) (s.sl 8) (s.sl 9) (s.sl 37) (s.sl 38) (s.sl 39) s.m s.fc) (setE 0 (fun s => B_unwrap_Unwrap_0 call hs u (s.sl 2) (s.sl 7) (s.sl 8) (s.sl 9) s.m s.fc) eNil) r_unwrap_Unwrap = (fun s => B_unwrap_Unwrap_1 call hs u rec0 (s.sl 2) (s.sl 7) (s.sl 8) (s.sl 9) (s.sl 37) (s.sl 38) (s.sl 39) s.m s.fc) := by
  kernel_rfl
theorem q_unwrap_Unwrap_21 (call : FCall) (hs : FHs) (u : Nat) (rec0 : AV → AV → AV → AV → AV → AV → AV → Mem → Nat → Option (AV × Mem)) :
  fxK Try.prog pol NN call c_unwrap_Unwrap_21 (AV × Mem) (k_unwrap_Unwrap hs u) (fun s => B_unwrap_Unwrap_1 call hs u rec0 (s.sl 2) (s.sl 7) (s.sl 8) (s.sl 9) (s.sl 37) (s.sl 38) (s.sl 39) s.m s.fc) (setE 0 (fun s => B_unwrap_Unwrap_0 call hs u (s.sl 2) (s.sl 7) (s.sl 8) (s.sl 9) s.m s.fc) eNil) r_unwrap_Unwrap = (fun s => B_unwrap_Unwrap_2 call hs u rec0 (s.sl 2) (s.sl 7) (s.sl 8) (s.sl 9) (s.sl 37) (s.sl 38) (s.sl 39) s.m s.fc) := by
  kernel_rfl
theorem q_unwrap_Unwrap_20 (call : FCall) (hs : FHs) (u : Nat) (rec0 : AV → AV → AV → AV → AV → AV → AV → Mem → Nat → Option (AV × Mem)) :
  fxK Try.prog pol NN call c_unwrap_Unwrap_20 (AV × Mem) (k_unwrap_Unwrap hs u) (fun s => rec0 (s.sl 2) (s.sl 7) (s.sl 8) (s.sl 9) (s.sl 37) (s.sl 38) (s.sl 39) s.m s.fc) (setE 0 (fun s => B_unwrap_Unwrap_0 call hs u (s.sl 2) (s.sl 7) (s.sl 8) (s.sl 9) s.m s.fc) eNil) r_unwrap_Unwrap = (fun s => B_unwrap_Unwrap_2 call hs u rec0 (s.sl 2) (s.sl 7) (s.sl 8) (s.sl 9) (s.sl 37) (s.sl 38) (s.sl 39) s.m s.fc) := by
  rw [show c_unwrap_Unwrap_20 = .seq c_unwrap_Unwrap_21 c_unwrap_Unwrap_22 from by kernel_rfl, seq_r, q_unwrap_Unwrap_22 call hs u rec0, q_unwrap_Unwrap_21 call hs u rec0]
theorem q_unwrap_Unwrap_16 (call : FCall) (hs : FHs) (u : Nat) (rec0 : AV → AV → AV → AV → AV → AV → AV → Mem → Nat → Option (AV × Mem)) :
  fxK Try.prog pol NN call c_unwrap_Unwrap_16 (AV × Mem) (k_unwrap_Unwrap hs u) (fun s => rec0 (s.sl 2) (s.sl 7) (s.sl 8) (s.sl 9) (s.sl 37) (s.sl 38) (s.sl 39) s.m s.fc) (setE 0 (fun s => B_unwrap_Unwrap_0 call hs u (s.sl 2) (s.sl 7) (s.sl 8) (s.sl 9) s.m s.fc) eNil) r_unwrap_Unwrap = (fun s => B_unwrap_Unwrap_3 call hs u rec0 (s.sl 2) (s.sl 7) (s.sl 8) (s.sl 9) (s.sl 37) (s.sl 38) (s.sl 39) s.m s.fc) := by
  rw [show c_unwrap_Unwrap_16 = .seq c_unwrap_Unwrap_17 c_unwrap_Unwrap_18 from by kernel_rfl, seq_r]; rw [show c_unwrap_Unwrap_18 = .seq c_unwrap_Unwrap_19 c_unwrap_Unwrap_20 from by kernel_rfl, seq_r]; rw [q_unwrap_Unwrap_20 call hs u rec0]; kernel_rfl
theorem q_L_unwrap_Unwrap_0 (call : FCall) (hs : FHs) (u : Nat) : ∀ n : Nat,
  iter (fun rec => fxK Try.prog pol NN call c_unwrap_Unwrap_16 (AV × Mem) (k_unwrap_Unwrap hs u) rec (setE 0 (fun s => B_unwrap_Unwrap_0 call hs u (s.sl 2) (s.sl 7) (s.sl 8) (s.sl 9) s.m s.fc) eNil) r_unwrap_Unwrap) n = (fun s => L_unwrap_Unwrap_0 call hs u n (s.sl 2) (s.sl 7) (s.sl 8) (s.sl 9) (s.sl 37) (s.sl 38) (s.sl 39) s.m s.fc)
  | 0 => rfl
  | n + 1 => by rw [iter_succ, q_L_unwrap_Unwrap_0 call hs u n, q_unwrap_Unwrap_16 call hs u (L_unwrap_Unwrap_0 call hs u n)]; kernel_rfl
theorem q_unwrap_Unwrap_15 (call : FCall) (hs : FHs) (u : Nat) :
  fxK Try.prog pol NN call c_unwrap_Unwrap_15 (AV × Mem) (k_unwrap_Unwrap hs u) (fun s => B_unwrap_Unwrap_0 call hs u (s.sl 2) (s.sl 7) (s.sl 8) (s.sl 9) s.m s.fc) (setE 0 (fun s => B_unwrap_Unwrap_0 call hs u (s.sl 2) (s.sl 7) (s.sl 8) (s.sl 9) s.m s.fc) eNil) r_unwrap_Unwrap = (fun s => L_unwrap_Unwrap_0 call hs u NN (s.sl 2) (s.sl 7) (s.sl 8) (s.sl 9) (s.sl 37) (s.sl 38) (s.sl 39) s.m s.fc) := by
  rw [show c_unwrap_Unwrap_15 = .loop c_unwrap_Unwrap_16 from by kernel_rfl, loop_r, q_L_unwrap_Unwrap_0 call hs u NN]
theorem q_unwrap_Unwrap_14 (call : FCall) (hs : FHs) (u : Nat) :
  fxK Try.prog pol NN call c_unwrap_Unwrap_14 (AV × Mem) (k_unwrap_Unwrap hs u) (fun s => B_unwrap_Unwrap_0 call hs u (s.sl 2) (s.sl 7) (s.sl 8) (s.sl 9) s.m s.fc) eNil r_unwrap_Unwrap = (fun s => L_unwrap_Unwrap_0 call hs u NN (s.sl 2) (s.sl 7) (s.sl 8) (s.sl 9) (s.sl 37) (s.sl 38) (s.sl 39) s.m s.fc) := by
  rw [show c_unwrap_Unwrap_14 = .block 0 c_unwrap_Unwrap_15 from by kernel_rfl, block_r, q_unwrap_Unwrap_15 call hs u]
theorem q_unwrap_Unwrap_11 (call : FCall) (hs : FHs) (u : Nat) :
  fxK Try.prog pol NN call c_unwrap_Unwrap_11 (AV × Mem) (k_unwrap_Unwrap hs u) (fun s => B_unwrap_Unwrap_0 call hs u (s.sl 2) (s.sl 7) (s.sl 8) (s.sl 9) s.m s.fc) eNil r_unwrap_Unwrap = (fun s => B_unwrap_Unwrap_4 call hs u (s.sl 2) (s.sl 7) (s.sl 8) (s.sl 9) s.m s.fc) := by
  rw [show c_unwrap_Unwrap_11 = .seq c_unwrap_Unwrap_13 c_unwrap_Unwrap_14 from by kernel_rfl, seq_r]; rw [q_unwrap_Unwrap_14 call hs u]; kernel_rfl
theorem q_unwrap_Unwrap_10 (call : FCall) (hs : FHs) (u : Nat) :
  fxK Try.prog pol NN call c_unwrap_Unwrap_10 (AV × Mem) (k_unwrap_Unwrap hs u) r_unwrap_Unwrap eNil r_unwrap_Unwrap = (fun s => B_unwrap_Unwrap_4 call hs u (s.sl 2) (s.sl 7) (s.sl 8) (s.sl 9) s.m s.fc) := by
  rw [show c_unwrap_Unwrap_10 = .seq c_unwrap_Unwrap_11 c_unwrap_Unwrap_12 from by kernel_rfl, seq_r, q_unwrap_Unwrap_12 call hs u, q_unwrap_Unwrap_11 call hs u]
theorem q_unwrap_Unwrap_0 (call : FCall) (hs : FHs) (u : Nat) :
  fxK Try.prog pol NN call c_unwrap_Unwrap_0 (AV × Mem) (k_unwrap_Unwrap hs u) r_unwrap_Unwrap eNil r_unwrap_Unwrap = (fun s => B_unwrap_Unwrap_5 call hs u (s.sl 0) s.m s.fc) := by
  rw [show c_unwrap_Unwrap_0 = .seq c_unwrap_Unwrap_1 c_unwrap_Unwrap_2 from by kernel_rfl, seq_r]; rw [show c_unwrap_Unwrap_2 = .seq c_unwrap_Unwrap_3 c_unwrap_Unwrap_4 from by kernel_rfl, seq_r]; rw [show c_unwrap_Unwrap_4 = .seq c_unwrap_Unwrap_5 c_unwrap_Unwrap_6 from by kernel_rfl, seq_r]; rw [show c_unwrap_Unwrap_6 = .seq c_unwrap_Unwrap_7 c_unwrap_Unwrap_8 from by kernel_rfl, seq_r]; rw [show c_unwrap_Unwrap_8 = .seq c_unwrap_Unwrap_9 c_unwrap_Unwrap_10 from by kernel_rfl, seq_r]; rw [q_unwrap_Unwrap_10 call hs u]; kernel_rfl
theorem F_unwrap_Unwrap_eq (call : FCall) (hs : FHs) (t0 : AV) (m : Mem) : fxBody Try.prog pol NN call hs n_unwrap_Unwrap [t0] m = F_unwrap_Unwrap call hs [t0] m := by
  rw [fxBody_at (fn := Try.f42) (body := c_unwrap_Unwrap_0) (nt := 72) (rs := [.cell 2 y_api_PhaseMap, .tmp 3, .tmp 4, .tmp 5]) (by kernel_rfl) (by kernel_rfl) (by kernel_rfl) (by kernel_rfl) (by kernel_rfl) (by kernel_rfl)]
  exact (congrFun (q_unwrap_Unwrap_0 call hs m.next) _).trans (by kernel_rfl)
theorem F_unwrap_Unwrap_le (call : FCall) (hs : FHs) (args : List AV) (m : Mem) (r : AV × Mem) (h : F_unwrap_Unwrap call hs args m = some r) : fxBody Try.prog pol NN call hs n_unwrap_Unwrap args m = some r := by
  unfold F_unwrap_Unwrap at h
  split at h
  · rw [F_unwrap_Unwrap_eq]; exact h
  · cases h

/- swath/unwrap.Along -/
abbrev k_unwrap_Along (hs : FHs) (u : Nat) : FCtx := { f := n_unwrap_Along, u := u, nt := 101, hs := hs }
noncomputable abbrev r_unwrap_Along : Fs → Option (AV × Mem) := fxRes Try.prog [.tmp 4, .tmp 5]
noncomputable def c_unwrap_Along_0 : Code := nav (bodyOf n_unwrap_Along) []
noncomputable def c_unwrap_Along_1 : Code := nav (bodyOf n_unwrap_Along) [false]
noncomputable def c_unwrap_Along_2 : Code := nav (bodyOf n_unwrap_Along) [true]
noncomputable def c_unwrap_Along_3 : Code := nav (bodyOf n_unwrap_Along) [true, false]
noncomputable def c_unwrap_Along_4 : Code := nav (bodyOf n_unwrap_Along) [true, true]
noncomputable def c_unwrap_Along_5 : Code := nav (bodyOf n_unwrap_Along) [true, true, false]
noncomputable def c_unwrap_Along_6 : Code := nav (bodyOf n_unwrap_Along) [true, true, true]
noncomputable def c_unwrap_Along_7 : Code := nav (bodyOf n_unwrap_Along) [true, true, true, false]
noncomputable def c_unwrap_Along_8 : Code := nav (bodyOf n_unwrap_Along) [true, true, true, true]
noncomputable def c_unwrap_Along_9 : Code := nav (bodyOf n_unwrap_Along) [true, true, true, true, false]
noncomputable def c_unwrap_Along_10 : Code := nav (bodyOf n_unwrap_Along) [true, true, true, true, true]
noncomputable def c_unwrap_Along_11 : Code := nav (bodyOf n_unwrap_Along) [true, true, true, true, false, false]
noncomputable def c_unwrap_Along_12 : Code := nav (bodyOf n_unwrap_Along) [true, true, true, true, false, true]
noncomputable def c_unwrap_Along_13 : Code := nav (bodyOf n_unwrap_Along) [true, true, true, true, false, true, false]
noncomputable def c_unwrap_Along_14 : Code := nav (bodyOf n_unwrap_Along) [true, true, true, true, false, true, false, false]
noncomputable def c_unwrap_Along_15 : Code := nav (bodyOf n_unwrap_Along) [true, true, true, true, false, true, false, false, false]
noncomputable def c_unwrap_Along_16 : Code := nav (bodyOf n_unwrap_Along) [true, true, true, true, false, true, false, false, true]
noncomputable def c_unwrap_Along_17 : Code := nav (bodyOf n_unwrap_Along) [true, true, true, true, false, true, false, false, true, false]
noncomputable def c_unwrap_Along_18 : Code := nav (bodyOf n_unwrap_Along) [true, true, true, true, false, true, false, false, true, true]
noncomputable def c_unwrap_Along_19 : Code := nav (bodyOf n_unwrap_Along) [true, true, true, true, false, true, false, false, true, true, false]
noncomputable def c_unwrap_Along_20 : Code := nav (bodyOf n_unwrap_Along) [true, true, true, true, false, true, false, false, true, true, true]
noncomputable def c_unwrap_Along_21 : Code := nav (bodyOf n_unwrap_Along) [true, true, true, true, false, true, false, false, true, true, false, false]
noncomputable def c_unwrap_Along_22 : Code := nav (bodyOf n_unwrap_Along) [true, true, true, true, false, true, false, false, true, true, false, false, false]
noncomputable def c_unwrap_Along_23 : Code := nav (bodyOf n_unwrap_Along) [true, true, true, true, false, true, false, false, true, true, false, false, true]
noncomputable def c_unwrap_Along_24 : Code := nav (bodyOf n_unwrap_Along) [true, true, true, true, false, true, false, false, true, true, false, false, true, false]
noncomputable def c_unwrap_Along_25 : Code := nav (bodyOf n_unwrap_Along) [true, true, true, true, false, true, false, false, true, true, false, false, true, true]
noncomputable def c_unwrap_Along_26 : Code := nav (bodyOf n_unwrap_Along) [true, true, true, true, false, true, false, false, true, true, false, false, true, true, false]
noncomputable def c_unwrap_Along_27 : Code := nav (bodyOf n_unwrap_Along) [true, true, true, true, false, true, false, false, true, true, false, false, true, true, true]
noncomputable def c_unwrap_Along_28 : Code := nav (bodyOf n_unwrap_Along) [true, true, true, true, false, true, false, false, true, true, false, false, true, true, true, false]
noncomputable def c_unwrap_Along_29 : Code := nav (bodyOf n_unwrap_Along) [true, true, true, true, false, true, false, false, true, true, false, false, true, true, true, true]
theorem q_unwrap_Along_10 (call : FCall) (hs : FHs) (u : Nat) :
  fxK Try.prog pol NN call c_unwrap_Along_10 (AV × Mem) (k_unwrap_Along hs u) r_unwrap_Along eNil r_unwrap_Along = (fun s => B_unwrap_Along_0 call hs u (s.sl 7) s.m s.fc) := by
  kernel_rfl
theorem q_unwrap_Along_20 (call : FCall) (hs : FHs) (u : Nat) (rec0 : AV → AV → AV → AV → AV → AV → Mem → Nat → Option (AV × Mem)) :
  fxK Try.prog pol NN call c_unwrap_Along_20 (AV × Mem) (k_unwrap_Along hs u) (fun s => rec0 (s.sl 1) (s.sl 2) (s.sl 7) (s.sl 21) (s.sl 22) (s.sl 23) s.m s.fc) (setE 0 (fun s => B_unwrap_Along_0 call hs u (s.sl 7) s.m s.fc) eNil) r_unwrap_Along = (fun s => B_unwrap_Along_1 call hs u rec0 (s.sl 1) (s.sl 2) (s.sl 7) (s.sl 21) (s.sl 22) (s.sl 23) s.m s.fc) := by
  kernel_rfl
theorem q_unwrap_Along_29 (call : FCall) (hs : FHs) (u : Nat) (rec0 : AV → AV → AV → AV → AV → AV → Mem → Nat → Option (AV × Mem)) :
  fxK Try.prog pol NN call c_unwrap_Along_29 (AV × Mem) (k_unwrap_Along hs u) (fun s => B_unwrap_Along_1 call hs u rec0 (s.sl 1) (s.sl 2) (s.sl 7) (s.sl 21) (s.sl 22) (s.sl 23) s.m s.fc) (setE 1 (fun s => B_unwrap_Along_1 call hs u rec0 (s.sl 1) (s.sl 2) (s.sl 7) (s.sl 21) (s.sl 22) (s.sl 23) s.m s.fc) (setE 0 (fun s => B_unwrap_Along_0 call hs u (s.sl 7) s.m s.fc) eNil)) r_unwrap_Along = (fun s => B_unwrap_Along_2 call hs u rec0 (s.sl 1) (s.sl 2) (s.sl 7) (s.sl 8) (s.sl 10) (s.sl 11) (s.sl 12) (s.sl 21) (s.sl 22) (s.sl 23) s.m s.fc) := by
  kernel_rfl
theorem q_unwrap_Along_28 (call : FCall) (hs : FHs) (u : Nat) (rec0 : AV → AV → AV → AV → AV → AV → Mem → Nat → Option (AV × Mem)) :
  fxK Try.prog pol NN call c_unwrap_Along_28 (AV × Mem) (k_unwrap_Along hs u) (fun s => B_unwrap_Along_2 call hs u rec0 (s.sl 1) (s.sl 2) (s.sl 7) (s.sl 8) (s.sl 10) (s.sl 11) (s.sl 12) (s.sl 21) (s.sl 22) (s.sl 23) s.m s.fc) (setE 1 (fun s => B_unwrap_Along_1 call hs u rec0 (s.sl 1) (s.sl 2) (s.sl 7) (s.sl 21) (s.sl 22) (s.sl 23) s.m s.fc) (setE 0 (fun s => B_unwrap_Along_0 call hs u (s.sl 7) s.m s.fc) eNil)) r_unwrap_Along = (fun s => B_unwrap_Along_3 call hs u rec0 (s.sl 1) (s.sl 2) (s.sl 7) (s.sl 8) (s.sl 10) (s.sl 11) (s.sl 12) (s.sl 21) (s.sl 22) (s.sl 23) s.m s.fc) := by
  kernel_rfl
theorem q_unwrap_Along_27 (call : FCall) (hs : FHs) (u : Nat) (rec0 : AV → AV → AV → AV → AV → AV → Mem → Nat → Option (AV × Mem)) :
  fxK Try.prog pol NN call c_unwrap_Along_27 (AV × Mem) (k_unwrap_Along hs u) (fun s => B_unwrap_Along_1 call hs u rec0 (s.sl 1) (s.sl 2) (s.sl 7) (s.sl 21) (s.sl 22) (s.sl 23) s.m s.fc) (setE 1 (fun s => B_unwrap_Along_1 call hs u rec0 (s.sl 1) (s.sl 2) (s.sl 7) (s.sl 21) (s.sl 22) (s.sl 23) s.m s.fc) (setE 0 (fun s => B_unwrap_Along_0 call hs u (s.sl 7) s.m s.fc) eNil)) r_unwrap_Along = (fun s => B_unwrap_Along_3 call hs u rec0 (s.sl 1) (s.sl 2) (s.sl 7) (s.sl 8) (s.sl 10) (s.sl 11) (s.sl 12) (s.sl 21) (s.sl 22) (s.sl 23) s.m s.fc) := by
  rw [show c_unwrap_Along_27 = .seq c_unwrap_Along_28 c_unwrap_Along_29 from by kernel_rfl, seq_r, q_unwrap_Along_29 call hs u rec0, q_unwrap_Along_28 call hs u rec0]
theorem q_unwrap_Along_21 (call : FCall) (hs : FHs) (u : Nat) (rec0 : AV → AV → AV → AV → AV → AV → Mem → Nat → Option (AV × Mem)) :
  fxK Try.prog pol NN call c_unwrap_Along_21 (AV × Mem) (k_unwrap_Along hs u) (fun s => B_unwrap_Along_1 call hs u rec0 (s.sl 1) (s.sl 2) (s.sl 7) (s.sl 21) (s.sl 22) (s.sl 23) s.m s.fc) (setE 1 (fun s => B_unwrap_Along_1 call hs u rec0 (s.sl 1) (s.sl 2) (s.sl 7) (s.sl 21) (s.sl 22) (s.sl 23) s.m s.fc) (setE 0 (fun s => B_unwrap_Along_0 call hs u (s.sl 7) s.m s.fc) eNil)) r_unwrap_Along = (fun s => B_unwrap_Along_4 call hs u rec0 (s.sl 1) (s.sl 2) (s.sl 7) (s.sl 21) (s.sl 22) (s.sl 23) s.m s.fc) := by
  rw [show c_unwrap_Along_21 = .seq c_unwrap_Along_22 c_unwrap_Along_23 from by kernel_rfl, seq_r]; rw [show c_unwrap_Along_23 = .seq c_unwrap_Along_24 c_unwrap_Along_25 from by kernel_rfl, seq_r]; rw [show c_unwrap_Along_25 = .seq c_unwrap_Along_26 c_unwrap_Along_27 from by kernel_rfl, seq_r]; rw [q_unwrap_Along_27 call hs u rec0]; kernel_rfl
theorem q_unwrap_Along_19 (call : FCall) (hs : FHs) (u : Nat) (rec0 : AV → AV → AV → AV → AV → AV → Mem → Nat → Option (AV × Mem)) :
  fxK Try.prog pol NN call c_unwrap_Along_19 (AV × Mem) (k_unwrap_Along hs u) (fun s => B_unwrap_Along_1 call hs u rec0 (s.sl 1) (s.sl 2) (s.sl 7) (s.sl 21) (s.sl 22) (s.sl 23) s.m s.fc) (setE 0 (fun s => B_unwrap_Along_0 call hs u (s.sl 7) s.m s.fc) eNil) r_unwrap_Along = (fun s => B_unwrap_Along_4 call hs u rec0 (s.sl 1) (s.sl 2) (s.sl 7) (s.sl 21) (s.sl 22) (s.sl 23) s.m s.fc) := by
  rw [show c_unwrap_Along_19 = .block 1 c_unwrap_Along_21 from by kernel_rfl, block_r, q_unwrap_Along_21 call hs u rec0]
theorem q_unwrap_Along_18 (call : FCall) (hs : FHs) (u : Nat) (rec0 : AV → AV → AV → AV → AV → AV → Mem → Nat → Option (AV × Mem)) :
  fxK Try.prog pol NN call c_unwrap_Along_18 (AV × Mem) (k_unwrap_Along hs u) (fun s => rec0 (s.sl 1) (s.sl 2) (s.sl 7) (s.sl 21) (s.sl 22) (s.sl 23) s.m s.fc) (setE 0 (fun s => B_unwrap_Along_0 call hs u (s.sl 7) s.m s.fc) eNil) r_unwrap_Along = (fun s => B_unwrap_Along_4 call hs u rec0 (s.sl 1) (s.sl 2) (s.sl 7) (s.sl 21) (s.sl 22) (s.sl 23) s.m s.fc) := by
  rw [show c_unwrap_Along_18 = .seq c_unwrap_Along_19 c_unwrap_Along_20 from by kernel_rfl, seq_r, q_unwrap_Along_20 call hs u rec0, q_unwrap_Along_19 call hs u rec0]
theorem q_unwrap_Along_14 (call : FCall) (hs : FHs) (u : Nat) (rec0 : AV → AV → AV → AV → AV → AV → Mem → Nat → Option (AV × Mem)) :
  fxK Try.prog pol NN call c_unwrap_Along_14 (AV × Mem) (k_unwrap_Along hs u) (fun s => rec0 (s.sl 1) (s.sl 2) (s.sl 7) (s.sl 21) (s.sl 22) (s.sl 23) s.m s.fc) (setE 0 (fun s => B_unwrap_Along_0 call hs u (s.sl 7) s.m s.fc) eNil) r_unwrap_Along = (fun s => B_unwrap_Along_5 call hs u rec0 (s.sl 1) (s.sl 2) (s.sl 7) (s.sl 21) (s.sl 22) (s.sl 23) s.m s.fc) := by
  rw [show c_unwrap_Along_14 = .seq c_unwrap_Along_15 c_unwrap_Along_16 from by kernel_rfl, seq_r]; rw [show c_unwrap_Along_16 = .seq c_unwrap_Along_17 c_unwrap_Along_18 from by kernel_rfl, seq_r]; rw [q_unwrap_Along_18 call hs u rec0]; kernel_rfl
theorem q_L_unwrap_Along_0 (call : FCall) (hs : FHs) (u : Nat) : ∀ n : Nat,
  iter (fun rec => fxK Try.prog pol NN call c_unwrap_Along_14 (AV × Mem) (k_unwrap_Along hs u) rec (setE 0 (fun s => B_unwrap_Along_0 call hs u (s.sl 7) s.m s.fc) eNil) r_unwrap_Along) n = (fun s => L_unwrap_Along_0 call hs u n (s.sl 1) (s.sl 2) (s.sl 7) (s.sl 21) (s.sl 22) (s.sl 23) s.m s.fc)
  | 0 => rfl
  | n + 1 => by rw [iter_succ, q_L_unwrap_Along_0 call hs u n, q_unwrap_Along_14 call hs u (L_unwrap_Along_0 call hs u n)]; kernel_rfl
theorem q_unwrap_Along_13 (call : FCall) (hs : FHs) (u : Nat) :
  fxK Try.prog pol NN call c_unwrap_Along_13 (AV × Mem) (k_unwrap_Along hs u) (fun s => B_unwrap_Along_0 call hs u (s.sl 7) s.m s.fc) (setE 0 (fun s => B_unwrap_Along_0 call hs u (s.sl 7) s.m s.fc) eNil) r_unwrap_Along = (fun s => L_unwrap_Along_0 call hs u NN (s.sl 1) (s.sl 2) (s.sl 7) (s.sl 21) (s.sl 22) (s.sl 23) s.m s.fc) := by
  rw [show c_unwrap_Along_13 = .loop c_unwrap_Along_14 from by kernel_rfl, loop_r, q_L_unwrap_Along_0 call hs u NN]
theorem q_unwrap_Along_12 (call : FCall) (hs : FHs) (u : Nat) :
  fxK Try.prog pol NN call c_unwrap_Along_12 (AV × Mem) (k_unwrap_Along hs u) (fun s => B_unwrap_Along_0 call hs u (s.sl 7) s.m s.fc) eNil r_unwrap_Along = (fun s => L_unwrap_Along_0 call hs u NN (s.sl 1) (s.sl 2) (s.sl 7) (s.sl 21) (s.sl 22) (s.sl 23) s.m s.fc) := by
  rw [show c_unwrap_Along_12 = .block 0 c_unwrap_Along_13 from by kernel_rfl, block_r, q_unwrap_Along_13 call hs u]
theorem q_unwrap_Along_9 (call : FCall) (hs : FHs) (u : Nat) :
  fxK Try.prog pol NN call c_unwrap_Along_9 (AV × Mem) (k_unwrap_Along hs u) (fun s => B_unwrap_Along_0 call hs u (s.sl 7) s.m s.fc) eNil r_unwrap_Along = (fun s => B_unwrap_Along_6 call hs u (s.sl 1) (s.sl 2) (s.sl 7) s.m s.fc) := by
  rw [show c_unwrap_Along_9 = .seq c_unwrap_Along_11 c_unwrap_Along_12 from by kernel_rfl, seq_r]; rw [q_unwrap_Along_12 call hs u]; kernel_rfl
theorem q_unwrap_Along_8 (call : FCall) (hs : FHs) (u : Nat) :
  fxK Try.prog pol NN call c_unwrap_Along_8 (AV × Mem) (k_unwrap_Along hs u) r_unwrap_Along eNil r_unwrap_Along = (fun s => B_unwrap_Along_6 call hs u (s.sl 1) (s.sl 2) (s.sl 7) s.m s.fc) := by
  rw [show c_unwrap_Along_8 = .seq c_unwrap_Along_9 c_unwrap_Along_10 from by kernel_rfl, seq_r, q_unwrap_Along_10 call hs u, q_unwrap_Along_9 call hs u]
theorem q_unwrap_Along_0 (call : FCall) (hs : FHs) (u : Nat) :
  fxK Try.prog pol NN call c_unwrap_Along_0 (AV × Mem) (k_unwrap_Along hs u) r_unwrap_Along eNil r_unwrap_Along = (fun s => B_unwrap_Along_7 call hs u (s.sl 0) (s.sl 1) s.m s.fc) := by
  rw [show c_unwrap_Along_0 = .seq c_unwrap_Along_1 c_unwrap_Along_2 from by kernel_rfl, seq_r]; rw [show c_unwrap_Along_2 = .seq c_unwrap_Along_3 c_unwrap_Along_4 from by kernel_rfl, seq_r]; rw [show c_unwrap_Along_4 = .seq c_unwrap_Along_5 c_unwrap_Along_6 from by kernel_rfl, seq_r]; rw [show c_unwrap_Along_6 = .seq c_unwrap_Along_7 c_unwrap_Along_8 from by kernel_rfl, seq_r]; rw [q_unwrap_Along_8 call hs u]; kernel_rfl
theorem F_unwrap_Along_eq (call : FCall) (hs : FHs) (t0 t1 : AV) (m : Mem) : fxBody Try.prog pol NN call hs n_unwrap_Along [t0, t1] m = F_unwrap_Along call hs [t0, t1] m := by
  rw [fxBody_at (fn := Try.f47) (body := c_unwrap_Along_0) (nt := 101) (rs := [.tmp 4, .tmp 5]) (by kernel_rfl) (by kernel_rfl) (by kernel_rfl) (by kernel_rfl) (by kernel_rfl) (by kernel_rfl)]
  exact (congrFun (q_unwrap_Along_0 call hs m.next) _).trans (by kernel_rfl)
theorem F_unwrap_Along_le (call : FCall) (hs : FHs) (args : List AV) (m : Mem) (r : AV × Mem) (h : F_unwrap_Along call hs args m = some r) : fxBody Try.prog pol NN call hs n_unwrap_Along args m = some r := by
  unfold F_unwrap_Along at h
  split at h
  · rw [F_unwrap_Along_eq]; exact h
  · cases h

/- swath/swathref05.CopyMap -/
abbrev k_ref05_CopyMap (hs : FHs) (u : Nat) : FCtx := { f := n_ref05_CopyMap, u := u, nt := 11, hs := hs }
noncomputable abbrev r_ref05_CopyMap : Fs → Option (AV × Mem) := fxRes Try.prog [.cell 2 y_api_PhaseMap]
noncomputable def c_ref05_CopyMap_0 : Code := nav (bodyOf n_ref05_CopyMap) []
theorem q_ref05_CopyMap_0 (call : FCall) (hs : FHs) (u : Nat) :
  fxK Try.prog pol NN call c_ref05_CopyMap_0 (AV × Mem) (k_ref05_CopyMap hs u) r_ref05_CopyMap eNil r_ref05_CopyMap = (fun s => B_ref05_CopyMap_0 call hs u (s.sl 0) s.m s.fc) := by
  kernel_rfl
theorem F_ref05_CopyMap_eq (call : FCall) (hs : FHs) (t0 : AV) (m : Mem) : fxBody Try.prog pol NN call hs n_ref05_CopyMap [t0] m = F_ref05_CopyMap call hs [t0] m := by
  rw [fxBody_at (fn := Try.f48) (body := c_ref05_CopyMap_0) (nt := 11) (rs := [.cell 2 y_api_PhaseMap]) (by kernel_rfl) (by kernel_rfl) (by kernel_rfl) (by kernel_rfl) (by kernel_rfl) (by kernel_rfl)]
  exact (congrFun (q_ref05_CopyMap_0 call hs m.next) _).trans (by kernel_rfl)
theorem F_ref05_CopyMap_le (call : FCall) (hs : FHs) (args : List AV) (m : Mem) (r : AV × Mem) (h : F_ref05_CopyMap call hs args m = some r) : fxBody Try.prog pol NN call hs n_ref05_CopyMap args m = some r := by
  unfold F_ref05_CopyMap at h
  split at h
  · rw [F_ref05_CopyMap_eq]; exact h
  · cases h

/- swath/swathref05.WrappedErr -/
abbrev k_ref05_WrappedErr (hs : FHs) (u : Nat) : FCtx := { f := n_ref05_WrappedErr, u := u, nt := 18, hs := hs }
noncomputable abbrev r_ref05_WrappedErr : Fs → Option (AV × Mem) := fxRes Try.prog [.tmp 2]
noncomputable def c_ref05_WrappedErr_0 : Code := nav (bodyOf n_ref05_WrappedErr) []
theorem q_ref05_WrappedErr_0 (call : FCall) (hs : FHs) (u : Nat) :
  fxK Try.prog pol NN call c_ref05_WrappedErr_0 (AV × Mem) (k_ref05_WrappedErr hs u) r_ref05_WrappedErr eNil r_ref05_WrappedErr = (fun s => B_ref05_WrappedErr_0 call hs u (s.sl 0) s.m s.fc) := by
  kernel_rfl
theorem F_ref05_WrappedErr_eq (call : FCall) (hs : FHs) (t0 : AV) (m : Mem) : fxBody Try.prog pol NN call hs n_ref05_WrappedErr [t0] m = F_ref05_WrappedErr call hs [t0] m := by
  rw [fxBody_at (fn := Try.f49) (body := c_ref05_WrappedErr_0) (nt := 18) (rs := [.tmp 2]) (by kernel_rfl) (by kernel_rfl) (by kernel_rfl) (by kernel_rfl) (by kernel_rfl) (by kernel_rfl)]
  exact (congrFun (q_ref05_WrappedErr_0 call hs m.next) _).trans (by kernel_rfl)
theorem F_ref05_WrappedErr_le (call : FCall) (hs : FHs) (args : List AV) (m : Mem) (r : AV × Mem) (h : F_ref05_WrappedErr call hs args m = some r) : fxBody Try.prog pol NN call hs n_ref05_WrappedErr args m = some r := by
  unfold F_ref05_WrappedErr at h
  split at h
  · rw [F_ref05_WrappedErr_eq]; exact h
  · cases h

/- swath/swathref05.Along -/
abbrev k_ref05_Along (hs : FHs) (u : Nat) : FCtx := { f := n_ref05_Along, u := u, nt := 77, hs := hs }
noncomputable abbrev r_ref05_Along : Fs → Option (AV × Mem) := fxRes Try.prog [.tmp 4, .tmp 5]
noncomputable def c_ref05_Along_0 : Code := nav (bodyOf n_ref05_Along) []
noncomputable def c_ref05_Along_1 : Code := nav (bodyOf n_ref05_Along) [false]
noncomputable def c_ref05_Along_2 : Code := nav (bodyOf n_ref05_Along) [true]
noncomputable def c_ref05_Along_3 : Code := nav (bodyOf n_ref05_Along) [true, false]
noncomputable def c_ref05_Along_4 : Code := nav (bodyOf n_ref05_Along) [true, true]
noncomputable def c_ref05_Along_5 : Code := nav (bodyOf n_ref05_Along) [true, true, false]
noncomputable def c_ref05_Along_6 : Code := nav (bodyOf n_ref05_Along) [true, true, true]
noncomputable def c_ref05_Along_7 : Code := nav (bodyOf n_ref05_Along) [true, true, true, false]
noncomputable def c_ref05_Along_8 : Code := nav (bodyOf n_ref05_Along) [true, true, true, true]
noncomputable def c_ref05_Along_9 : Code := nav (bodyOf n_ref05_Along) [true, true, true, false, false]
noncomputable def c_ref05_Along_10 : Code := nav (bodyOf n_ref05_Along) [true, true, true, false, true]
noncomputable def c_ref05_Along_11 : Code := nav (bodyOf n_ref05_Along) [true, true, true, false, true, false]
noncomputable def c_ref05_Along_12 : Code := nav (bodyOf n_ref05_Along) [true, true, true, false, true, false, false]
noncomputable def c_ref05_Along_13 : Code := nav (bodyOf n_ref05_Along) [true, true, true, false, true, false, false, false]
noncomputable def c_ref05_Along_14 : Code := nav (bodyOf n_ref05_Along) [true, true, true, false, true, false, false, true]
noncomputable def c_ref05_Along_15 : Code := nav (bodyOf n_ref05_Along) [true, true, true, false, true, false, false, true, false]
noncomputable def c_ref05_Along_16 : Code := nav (bodyOf n_ref05_Along) [true, true, true, false, true, false, false, true, true]
theorem q_ref05_Along_8 (call : FCall) (hs : FHs) (u : Nat) :
  fxK Try.prog pol NN call c_ref05_Along_8 (AV × Mem) (k_ref05_Along hs u) r_ref05_Along eNil r_ref05_Along = (fun s => B_ref05_Along_0 call hs u (s.sl 6) s.m s.fc) := by
  kernel_rfl
theorem q_ref05_Along_16 (call : FCall) (hs : FHs) (u : Nat) (rec0 : AV → AV → AV → AV → Mem → Nat → Option (AV × Mem)) :
  fxK Try.prog pol NN call c_ref05_Along_16 (AV × Mem) (k_ref05_Along hs u) (fun s => rec0 (s.sl 1) (s.sl 2) (s.sl 6) (s.sl 7) s.m s.fc) (setE 0 (fun s => B_ref05_Along_0 call hs u (s.sl 6) s.m s.fc) eNil) r_ref05_Along = (fun s => B_ref05_Along_1 call hs u rec0 (s.sl 1) (s.sl 2) (s.sl 6) (s.sl 7) s.m s.fc) := by
  kernel_rfl
theorem q_ref05_Along_15 (call : FCall) (hs : FHs) (u : Nat) (rec0 : AV → AV → AV → AV → Mem → Nat → Option (AV × Mem)) :
  fxK Try.prog pol NN call c_ref05_Along_15 (AV × Mem) (k_ref05_Along hs u) (fun s => B_ref05_Along_1 call hs u rec0 (s.sl 1) (s.sl 2) (s.sl 6) (s.sl 7) s.m s.fc) (setE 0 (fun s => B_ref05_Along_0 call hs u (s.sl 6) s.m s.fc) eNil) r_ref05_Along = (fun s => B_ref05_Along_2 call hs u rec0 (s.sl 1) (s.sl 2) (s.sl 6) (s.sl 7) s.m s.fc) := by
  kernel_rfl
theorem q_ref05_Along_14 (call : FCall) (hs : FHs) (u : Nat) (rec0 : AV → AV → AV → AV → Mem → Nat → Option (AV × Mem)) :
  fxK Try.prog pol NN call c_ref05_Along_14 (AV × Mem) (k_ref05_Along hs u) (fun s => rec0 (s.sl 1) (s.sl 2) (s.sl 6) (s.sl 7) s.m s.fc) (setE 0 (fun s => B_ref05_Along_0 call hs u (s.sl 6) s.m s.fc) eNil) r_ref05_Along = (fun s => B_ref05_Along_2 call hs u rec0 (s.sl 1) (s.sl 2) (s.sl 6) (s.sl 7) s.m s.fc) := by
  rw [show c_ref05_Along_14 = .seq c_ref05_Along_15 c_ref05_Along_16 from by kernel_rfl, seq_r, q_ref05_Along_16 call hs u rec0, q_ref05_Along_15 call hs u rec0]
theorem q_ref05_Along_12 (call : FCall) (hs : FHs) (u : Nat) (rec0 : AV → AV → AV → AV → Mem → Nat → Option (AV × Mem)) :
  fxK Try.prog pol NN call c_ref05_Along_12 (AV × Mem) (k_ref05_Along hs u) (fun s => rec0 (s.sl 1) (s.sl 2) (s.sl 6) (s.sl 7) s.m s.fc) (setE 0 (fun s => B_ref05_Along_0 call hs u (s.sl 6) s.m s.fc) eNil) r_ref05_Along = (fun s => B_ref05_Along_3 call hs u rec0 (s.sl 1) (s.sl 2) (s.sl 6) (s.sl 7) s.m s.fc) := by
  rw [show c_ref05_Along_12 = .seq c_ref05_Along_13 c_ref05_Along_14 from by kernel_rfl, seq_r]; rw [q_ref05_Along_14 call hs u rec0]; kernel_rfl
theorem q_L_ref05_Along_0 (call : FCall) (hs : FHs) (u : Nat) : ∀ n : Nat,
  iter (fun rec => fxK Try.prog pol NN call c_ref05_Along_12 (AV × Mem) (k_ref05_Along hs u) rec (setE 0 (fun s => B_ref05_Along_0 call hs u (s.sl 6) s.m s.fc) eNil) r_ref05_Along) n = (fun s => L_ref05_Along_0 call hs u n (s.sl 1) (s.sl 2) (s.sl 6) (s.sl 7) s.m s.fc)
  | 0 => rfl
  | n + 1 => by rw [iter_succ, q_L_ref05_Along_0 call hs u n, q_ref05_Along_12 call hs u (L_ref05_Along_0 call hs u n)]; kernel_rfl
theorem q_ref05_Along_11 (call : FCall) (hs : FHs) (u : Nat) :
  fxK Try.prog pol NN call c_ref05_Along_11 (AV × Mem) (k_ref05_Along hs u) (fun s => B_ref05_Along_0 call hs u (s.sl 6) s.m s.fc) (setE 0 (fun s => B_ref05_Along_0 call hs u (s.sl 6) s.m s.fc) eNil) r_ref05_Along = (fun s => L_ref05_Along_0 call hs u NN (s.sl 1) (s.sl 2) (s.sl 6) (s.sl 7) s.m s.fc) := by
  rw [show c_ref05_Along_11 = .loop c_ref05_Along_12 from by kernel_rfl, loop_r, q_L_ref05_Along_0 call hs u NN]
theorem q_ref05_Along_10 (call : FCall) (hs : FHs) (u : Nat) :
  fxK Try.prog pol NN call c_ref05_Along_10 (AV × Mem) (k_ref05_Along hs u) (fun s => B_ref05_Along_0 call hs u (s.sl 6) s.m s.fc) eNil r_ref05_Along = (fun s => L_ref05_Along_0 call hs u NN (s.sl 1) (s.sl 2) (s.sl 6) (s.sl 7) s.m s.fc) := by
  rw [show c_ref05_Along_10 = .block 0 c_ref05_Along_11 from by kernel_rfl, block_r, q_ref05_Along_11 call hs u]
theorem q_ref05_Along_7 (call : FCall) (hs : FHs) (u : Nat) :
  fxK Try.prog pol NN call c_ref05_Along_7 (AV × Mem) (k_ref05_Along hs u) (fun s => B_ref05_Along_0 call hs u (s.sl 6) s.m s.fc) eNil r_ref05_Along = (fun s => B_ref05_Along_4 call hs u (s.sl 1) (s.sl 2) (s.sl 6) s.m s.fc) := by
  rw [show c_ref05_Along_7 = .seq c_ref05_Along_9 c_ref05_Along_10 from by kernel_rfl, seq_r]; rw [q_ref05_Along_10 call hs u]; kernel_rfl
theorem q_ref05_Along_6 (call : FCall) (hs : FHs) (u : Nat) :
  fxK Try.prog pol NN call c_ref05_Along_6 (AV × Mem) (k_ref05_Along hs u) r_ref05_Along eNil r_ref05_Along = (fun s => B_ref05_Along_4 call hs u (s.sl 1) (s.sl 2) (s.sl 6) s.m s.fc) := by
  rw [show c_ref05_Along_6 = .seq c_ref05_Along_7 c_ref05_Along_8 from by kernel_rfl, seq_r, q_ref05_Along_8 call hs u, q_ref05_Along_7 call hs u]
theorem q_ref05_Along_0 (call : FCall) (hs : FHs) (u : Nat) :
  fxK Try.prog pol NN call c_ref05_Along_0 (AV × Mem) (k_ref05_Along hs u) r_ref05_Along eNil r_ref05_Along = (fun s => B_ref05_Along_5 call hs u (s.sl 0) (s.sl 1) s.m s.fc) := by
  rw [show c_ref05_Along_0 = .seq c_ref05_Along_1 c_ref05_Along_2 from by kernel_rfl, seq_r]; rw [show c_ref05_Along_2 = .seq c_ref05_Along_3 c_ref05_Along_4 from by kernel_rfl, seq_r]; rw [show c_ref05_Along_4 = .seq c_ref05_Along_5 c_ref05_Along_6 from by kernel_rfl, seq_r]; rw [q_ref05_Along_6 call hs u]; kernel_rfl
theorem F_ref05_Along_eq (call : FCall) (hs : FHs) (t0 t1 : AV) (m : Mem) : fxBody Try.prog pol NN call hs n_ref05_Along [t0, t1] m = F_ref05_Along call hs [t0, t1] m := by
  rw [fxBody_at (fn := Try.f50) (body := c_ref05_Along_0) (nt := 77) (rs := [.tmp 4, .tmp 5]) (by kernel_rfl) (by kernel_rfl) (by kernel_rfl) (by kernel_rfl) (by kernel_rfl) (by kernel_rfl)]
  exact (congrFun (q_ref05_Along_0 call hs m.next) _).trans (by kernel_rfl)
theorem F_ref05_Along_le (call : FCall) (hs : FHs) (args : List AV) (m : Mem) (r : AV × Mem) (h : F_ref05_Along call hs args m = some r) : fxBody Try.prog pol NN call hs n_ref05_Along args m = some r := by
  unfold F_ref05_Along at h
  split at h
  · rw [F_ref05_Along_eq]; exact h
  · cases h

/- swath/swathref05.Cost -/
abbrev k_ref05_Cost (hs : FHs) (u : Nat) : FCtx := { f := n_ref05_Cost, u := u, nt := 32, hs := hs }
noncomputable abbrev r_ref05_Cost : Fs → Option (AV × Mem) := fxRes Try.prog [.tmp 4]
noncomputable def c_ref05_Cost_0 : Code := nav (bodyOf n_ref05_Cost) []
noncomputable def c_ref05_Cost_1 : Code := nav (bodyOf n_ref05_Cost) [false]
noncomputable def c_ref05_Cost_2 : Code := nav (bodyOf n_ref05_Cost) [true]
noncomputable def c_ref05_Cost_3 : Code := nav (bodyOf n_ref05_Cost) [true, false]
noncomputable def c_ref05_Cost_4 : Code := nav (bodyOf n_ref05_Cost) [true, true]
noncomputable def c_ref05_Cost_5 : Code := nav (bodyOf n_ref05_Cost) [true, true, false]
noncomputable def c_ref05_Cost_6 : Code := nav (bodyOf n_ref05_Cost) [true, true, true]
noncomputable def c_ref05_Cost_7 : Code := nav (bodyOf n_ref05_Cost) [true, true, false, false]
noncomputable def c_ref05_Cost_8 : Code := nav (bodyOf n_ref05_Cost) [true, true, false, true]
noncomputable def c_ref05_Cost_9 : Code := nav (bodyOf n_ref05_Cost) [true, true, false, true, false]
noncomputable def c_ref05_Cost_10 : Code := nav (bodyOf n_ref05_Cost) [true, true, false, true, false, false]
theorem q_ref05_Cost_6 (call : FCall) (hs : FHs) (u : Nat) :
  fxK Try.prog pol NN call c_ref05_Cost_6 (AV × Mem) (k_ref05_Cost hs u) r_ref05_Cost eNil r_ref05_Cost = (fun s => B_ref05_Cost_0 call hs u (s.sl 5) s.m s.fc) := by
  kernel_rfl
theorem q_ref05_Cost_10 (call : FCall) (hs : FHs) (u : Nat) (rec0 : AV → AV → AV → AV → Mem → Nat → Option (AV × Mem)) :
  fxK Try.prog pol NN call c_ref05_Cost_10 (AV × Mem) (k_ref05_Cost hs u) (fun s => rec0 (s.sl 1) (s.sl 2) (s.sl 5) (s.sl 6) s.m s.fc) (setE 0 (fun s => B_ref05_Cost_0 call hs u (s.sl 5) s.m s.fc) eNil) r_ref05_Cost = (fun s => B_ref05_Cost_1 call hs u rec0 (s.sl 1) (s.sl 2) (s.sl 5) (s.sl 6) s.m s.fc) := by
  kernel_rfl
theorem q_L_ref05_Cost_0 (call : FCall) (hs : FHs) (u : Nat) : ∀ n : Nat,
  iter (fun rec => fxK Try.prog pol NN call c_ref05_Cost_10 (AV × Mem) (k_ref05_Cost hs u) rec (setE 0 (fun s => B_ref05_Cost_0 call hs u (s.sl 5) s.m s.fc) eNil) r_ref05_Cost) n = (fun s => L_ref05_Cost_0 call hs u n (s.sl 1) (s.sl 2) (s.sl 5) (s.sl 6) s.m s.fc)
  | 0 => rfl
  | n + 1 => by rw [iter_succ, q_L_ref05_Cost_0 call hs u n, q_ref05_Cost_10 call hs u (L_ref05_Cost_0 call hs u n)]; kernel_rfl
theorem q_ref05_Cost_9 (call : FCall) (hs : FHs) (u : Nat) :
  fxK Try.prog pol NN call c_ref05_Cost_9 (AV × Mem) (k_ref05_Cost hs u) (fun s => B_ref05_Cost_0 call hs u (s.sl 5) s.m s.fc) (setE 0 (fun s => B_ref05_Cost_0 call hs u (s.sl 5) s.m s.fc) eNil) r_ref05_Cost = (fun s => L_ref05_Cost_0 call hs u NN (s.sl 1) (s.sl 2) (s.sl 5) (s.sl 6) s.m s.fc) := by
  rw [show c_ref05_Cost_9 = .loop c_ref05_Cost_10 from by kernel_rfl, loop_r, q_L_ref05_Cost_0 call hs u NN]
theorem q_ref05_Cost_8 (call : FCall) (hs : FHs) (u : Nat) :
  fxK Try.prog pol NN call c_ref05_Cost_8 (AV × Mem) (k_ref05_Cost hs u) (fun s => B_ref05_Cost_0 call hs u (s.sl 5) s.m s.fc) eNil r_ref05_Cost = (fun s => L_ref05_Cost_0 call hs u NN (s.sl 1) (s.sl 2) (s.sl 5) (s.sl 6) s.m s.fc) := by
  rw [show c_ref05_Cost_8 = .block 0 c_ref05_Cost_9 from by kernel_rfl, block_r, q_ref05_Cost_9 call hs u]
theorem q_ref05_Cost_5 (call : FCall) (hs : FHs) (u : Nat) :
  fxK Try.prog pol NN call c_ref05_Cost_5 (AV × Mem) (k_ref05_Cost hs u) (fun s => B_ref05_Cost_0 call hs u (s.sl 5) s.m s.fc) eNil r_ref05_Cost = (fun s => B_ref05_Cost_2 call hs u (s.sl 1) (s.sl 2) (s.sl 5) s.m s.fc) := by
  rw [show c_ref05_Cost_5 = .seq c_ref05_Cost_7 c_ref05_Cost_8 from by kernel_rfl, seq_r]; rw [q_ref05_Cost_8 call hs u]; kernel_rfl
theorem q_ref05_Cost_4 (call : FCall) (hs : FHs) (u : Nat) :
  fxK Try.prog pol NN call c_ref05_Cost_4 (AV × Mem) (k_ref05_Cost hs u) r_ref05_Cost eNil r_ref05_Cost = (fun s => B_ref05_Cost_2 call hs u (s.sl 1) (s.sl 2) (s.sl 5) s.m s.fc) := by
  rw [show c_ref05_Cost_4 = .seq c_ref05_Cost_5 c_ref05_Cost_6 from by kernel_rfl, seq_r, q_ref05_Cost_6 call hs u, q_ref05_Cost_5 call hs u]
theorem q_ref05_Cost_0 (call : FCall) (hs : FHs) (u : Nat) :
  fxK Try.prog pol NN call c_ref05_Cost_0 (AV × Mem) (k_ref05_Cost hs u) r_ref05_Cost eNil r_ref05_Cost = (fun s => B_ref05_Cost_3 call hs u (s.sl 0) (s.sl 1) s.m s.fc) := by
  rw [show c_ref05_Cost_0 = .seq c_ref05_Cost_1 c_ref05_Cost_2 from by kernel_rfl, seq_r]; rw [show c_ref05_Cost_2 = .seq c_ref05_Cost_3 c_ref05_Cost_4 from by kernel_rfl, seq_r]; rw [q_ref05_Cost_4 call hs u]; kernel_rfl
theorem F_ref05_Cost_eq (call : FCall) (hs : FHs) (t0 t1 : AV) (m : Mem) : fxBody Try.prog pol NN call hs n_ref05_Cost [t0, t1] m = F_ref05_Cost call hs [t0, t1] m := by
  rw [fxBody_at (fn := Try.f55) (body := c_ref05_Cost_0) (nt := 32) (rs := [.tmp 4]) (by kernel_rfl) (by kernel_rfl) (by kernel_rfl) (by kernel_rfl) (by kernel_rfl) (by kernel_rfl)]
  exact (congrFun (q_ref05_Cost_0 call hs m.next) _).trans (by kernel_rfl)
theorem F_ref05_Cost_le (call : FCall) (hs : FHs) (args : List AV) (m : Mem) (r : AV × Mem) (h : F_ref05_Cost call hs args m = some r) : fxBody Try.prog pol NN call hs n_ref05_Cost args m = some r := by
  unfold F_ref05_Cost at h
  split at h
  · rw [F_ref05_Cost_eq]; exact h
  · cases h

/- swath/unwrap.Undecided -/
abbrev k_unwrap_Undecided (hs : FHs) (u : Nat) : FCtx := { f := n_unwrap_Undecided, u := u, nt := 20, hs := hs }
noncomputable abbrev r_unwrap_Undecided : Fs → Option (AV × Mem) := fxRes Try.prog [.tmp 2, .tmp 3]
noncomputable def c_unwrap_Undecided_0 : Code := nav (bodyOf n_unwrap_Undecided) []
theorem q_unwrap_Undecided_0 (call : FCall) (hs : FHs) (u : Nat) :
  fxK Try.prog pol NN call c_unwrap_Undecided_0 (AV × Mem) (k_unwrap_Undecided hs u) r_unwrap_Undecided eNil r_unwrap_Undecided = (fun s => B_unwrap_Undecided_0 call hs u (s.sl 0) s.m s.fc) := by
  kernel_rfl
theorem F_unwrap_Undecided_eq (call : FCall) (hs : FHs) (t0 : AV) (m : Mem) : fxBody Try.prog pol NN call hs n_unwrap_Undecided [t0] m = F_unwrap_Undecided call hs [t0] m := by
  rw [fxBody_at (fn := Try.f58) (body := c_unwrap_Undecided_0) (nt := 20) (rs := [.tmp 2, .tmp 3]) (by kernel_rfl) (by kernel_rfl) (by kernel_rfl) (by kernel_rfl) (by kernel_rfl) (by kernel_rfl)]
  exact (congrFun (q_unwrap_Undecided_0 call hs m.next) _).trans (by kernel_rfl)
theorem F_unwrap_Undecided_le (call : FCall) (hs : FHs) (args : List AV) (m : Mem) (r : AV × Mem) (h : F_unwrap_Undecided call hs args m = some r) : fxBody Try.prog pol NN call hs n_unwrap_Undecided args m = some r := by
  unfold F_unwrap_Undecided at h
  split at h
  · rw [F_unwrap_Undecided_eq]; exact h
  · cases h

/- swath/swathlaw05.Loop -/
abbrev k_law05_Loop (hs : FHs) (u : Nat) : FCtx := { f := n_law05_Loop, u := u, nt := 9, hs := hs }
noncomputable abbrev r_law05_Loop : Fs → Option (AV × Mem) := fxRes Try.prog [.cell 2 y_api_UnwrapNet]
noncomputable def c_law05_Loop_0 : Code := nav (bodyOf n_law05_Loop) []
theorem q_law05_Loop_0 (call : FCall) (hs : FHs) (u : Nat) :
  fxK Try.prog pol NN call c_law05_Loop_0 (AV × Mem) (k_law05_Loop hs u) r_law05_Loop eNil r_law05_Loop = (fun s => B_law05_Loop_0 call hs u (s.sl 0) s.m s.fc) := by
  kernel_rfl
theorem F_law05_Loop_eq (call : FCall) (hs : FHs) (t0 : AV) (m : Mem) : fxBody Try.prog pol NN call hs n_law05_Loop [t0] m = F_law05_Loop call hs [t0] m := by
  rw [fxBody_at (fn := Try.f60) (body := c_law05_Loop_0) (nt := 9) (rs := [.cell 2 y_api_UnwrapNet]) (by kernel_rfl) (by kernel_rfl) (by kernel_rfl) (by kernel_rfl) (by kernel_rfl) (by kernel_rfl)]
  exact (congrFun (q_law05_Loop_0 call hs m.next) _).trans (by kernel_rfl)
theorem F_law05_Loop_le (call : FCall) (hs : FHs) (args : List AV) (m : Mem) (r : AV × Mem) (h : F_law05_Loop call hs args m = some r) : fxBody Try.prog pol NN call hs n_law05_Loop args m = some r := by
  unfold F_law05_Loop at h
  split at h
  · rw [F_law05_Loop_eq]; exact h
  · cases h

/- swath/swathlaw05.Square -/
abbrev k_law05_Square (hs : FHs) (u : Nat) : FCtx := { f := n_law05_Square, u := u, nt := 20, hs := hs }
noncomputable abbrev r_law05_Square : Fs → Option (AV × Mem) := fxRes Try.prog [.cell 2 y_api_UnwrapTask]
noncomputable def c_law05_Square_0 : Code := nav (bodyOf n_law05_Square) []
noncomputable def c_law05_Square_1 : Code := nav (bodyOf n_law05_Square) [false]
noncomputable def c_law05_Square_2 : Code := nav (bodyOf n_law05_Square) [true]
noncomputable def c_law05_Square_3 : Code := nav (bodyOf n_law05_Square) [true, false]
noncomputable def c_law05_Square_4 : Code := nav (bodyOf n_law05_Square) [true, true]
noncomputable def c_law05_Square_5 : Code := nav (bodyOf n_law05_Square) [true, true, false]
noncomputable def c_law05_Square_6 : Code := nav (bodyOf n_law05_Square) [true, true, true]
theorem q_law05_Square_6 (call : FCall) (hs : FHs) (u : Nat) :
  fxK Try.prog pol NN call c_law05_Square_6 (AV × Mem) (k_law05_Square hs u) r_law05_Square eNil r_law05_Square = (fun s => B_law05_Square_0 call hs u (s.sl 2) (s.sl 3) s.m s.fc) := by
  kernel_rfl
theorem q_law05_Square_5 (call : FCall) (hs : FHs) (u : Nat) :
  fxK Try.prog pol NN call c_law05_Square_5 (AV × Mem) (k_law05_Square hs u) (fun s => B_law05_Square_0 call hs u (s.sl 2) (s.sl 3) s.m s.fc) eNil r_law05_Square = (fun s => B_law05_Square_1 call hs u (s.sl 0) (s.sl 2) (s.sl 3) s.m s.fc) := by
  kernel_rfl
theorem q_law05_Square_4 (call : FCall) (hs : FHs) (u : Nat) :
  fxK Try.prog pol NN call c_law05_Square_4 (AV × Mem) (k_law05_Square hs u) r_law05_Square eNil r_law05_Square = (fun s => B_law05_Square_1 call hs u (s.sl 0) (s.sl 2) (s.sl 3) s.m s.fc) := by
  rw [show c_law05_Square_4 = .seq c_law05_Square_5 c_law05_Square_6 from by kernel_rfl, seq_r, q_law05_Square_6 call hs u, q_law05_Square_5 call hs u]
theorem q_law05_Square_0 (call : FCall) (hs : FHs) (u : Nat) :
  fxK Try.prog pol NN call c_law05_Square_0 (AV × Mem) (k_law05_Square hs u) r_law05_Square eNil r_law05_Square = (fun s => B_law05_Square_2 call hs u (s.sl 0) s.m s.fc) := by
  rw [show c_law05_Square_0 = .seq c_law05_Square_1 c_law05_Square_2 from by kernel_rfl, seq_r]; rw [show c_law05_Square_2 = .seq c_law05_Square_3 c_law05_Square_4 from by kernel_rfl, seq_r]; rw [q_law05_Square_4 call hs u]; kernel_rfl
theorem F_law05_Square_eq (call : FCall) (hs : FHs) (t0 : AV) (m : Mem) : fxBody Try.prog pol NN call hs n_law05_Square [t0] m = F_law05_Square call hs [t0] m := by
  rw [fxBody_at (fn := Try.f61) (body := c_law05_Square_0) (nt := 20) (rs := [.cell 2 y_api_UnwrapTask]) (by kernel_rfl) (by kernel_rfl) (by kernel_rfl) (by kernel_rfl) (by kernel_rfl) (by kernel_rfl)]
  exact (congrFun (q_law05_Square_0 call hs m.next) _).trans (by kernel_rfl)
theorem F_law05_Square_le (call : FCall) (hs : FHs) (args : List AV) (m : Mem) (r : AV × Mem) (h : F_law05_Square call hs args m = some r) : fxBody Try.prog pol NN call hs n_law05_Square args m = some r := by
  unfold F_law05_Square at h
  split at h
  · rw [F_law05_Square_eq]; exact h
  · cases h

/- swath/swathbase.Size -/
abbrev k_base_Size (hs : FHs) (u : Nat) : FCtx := { f := n_base_Size, u := u, nt := 7, hs := hs }
noncomputable abbrev r_base_Size : Fs → Option (AV × Mem) := fxRes Try.prog [.tmp 2]
noncomputable def c_base_Size_0 : Code := nav (bodyOf n_base_Size) []
theorem q_base_Size_0 (call : FCall) (hs : FHs) (u : Nat) :
  fxK Try.prog pol NN call c_base_Size_0 (AV × Mem) (k_base_Size hs u) r_base_Size eNil r_base_Size = (fun s => B_base_Size_0 call hs u (s.sl 0) s.m s.fc) := by
  kernel_rfl
theorem F_base_Size_eq (call : FCall) (hs : FHs) (t0 : AV) (m : Mem) : fxBody Try.prog pol NN call hs n_base_Size [t0] m = F_base_Size call hs [t0] m := by
  rw [fxBody_at (fn := Try.f62) (body := c_base_Size_0) (nt := 7) (rs := [.tmp 2]) (by kernel_rfl) (by kernel_rfl) (by kernel_rfl) (by kernel_rfl) (by kernel_rfl) (by kernel_rfl)]
  exact (congrFun (q_base_Size_0 call hs m.next) _).trans (by kernel_rfl)
theorem F_base_Size_le (call : FCall) (hs : FHs) (args : List AV) (m : Mem) (r : AV × Mem) (h : F_base_Size call hs args m = some r) : fxBody Try.prog pol NN call hs n_base_Size args m = some r := by
  unfold F_base_Size at h
  split at h
  · rw [F_base_Size_eq]; exact h
  · cases h

/- swath/unwrap.open -/
abbrev k_unwrap_open (hs : FHs) (u : Nat) : FCtx := { f := n_unwrap_open, u := u, nt := 14, hs := hs }
noncomputable abbrev r_unwrap_open : Fs → Option (AV × Mem) := fxRes Try.prog [.cell 2 y_unwrap_net, .tmp 3]
noncomputable def c_unwrap_open_0 : Code := nav (bodyOf n_unwrap_open) []
theorem q_unwrap_open_0 (call : FCall) (hs : FHs) (u : Nat) :
  fxK Try.prog pol NN call c_unwrap_open_0 (AV × Mem) (k_unwrap_open hs u) r_unwrap_open eNil r_unwrap_open = (fun s => B_unwrap_open_0 call hs u (s.sl 0) s.m s.fc) := by
  kernel_rfl
theorem F_unwrap_open_eq (call : FCall) (hs : FHs) (t0 : AV) (m : Mem) : fxBody Try.prog pol NN call hs n_unwrap_open [t0] m = F_unwrap_open call hs [t0] m := by
  rw [fxBody_at (fn := Try.f63) (body := c_unwrap_open_0) (nt := 14) (rs := [.cell 2 y_unwrap_net, .tmp 3]) (by kernel_rfl) (by kernel_rfl) (by kernel_rfl) (by kernel_rfl) (by kernel_rfl) (by kernel_rfl)]
  exact (congrFun (q_unwrap_open_0 call hs m.next) _).trans (by kernel_rfl)
theorem F_unwrap_open_le (call : FCall) (hs : FHs) (args : List AV) (m : Mem) (r : AV × Mem) (h : F_unwrap_open call hs args m = some r) : fxBody Try.prog pol NN call hs n_unwrap_open args m = some r := by
  unfold F_unwrap_open at h
  split at h
  · rw [F_unwrap_open_eq]; exact h
  · cases h

/- (swath/unwrap.net).solve -/
abbrev k_unwrap_net_solve (hs : FHs) (u : Nat) : FCtx := { f := n_unwrap_net_solve, u := u, nt := 64, hs := hs }
noncomputable abbrev r_unwrap_net_solve : Fs → Option (AV × Mem) := fxRes Try.prog [.tmp 2]
noncomputable def c_unwrap_net_solve_0 : Code := nav (bodyOf n_unwrap_net_solve) []
noncomputable def c_unwrap_net_solve_1 : Code := nav (bodyOf n_unwrap_net_solve) [false]
noncomputable def c_unwrap_net_solve_2 : Code := nav (bodyOf n_unwrap_net_solve) [true]
noncomputable def c_unwrap_net_solve_3 : Code := nav (bodyOf n_unwrap_net_solve) [true, false]
noncomputable def c_unwrap_net_solve_4 : Code := nav (bodyOf n_unwrap_net_solve) [true, true]
noncomputable def c_unwrap_net_solve_5 : Code := nav (bodyOf n_unwrap_net_solve) [true, true, false]
noncomputable def c_unwrap_net_solve_6 : Code := nav (bodyOf n_unwrap_net_solve) [true, true, true]
noncomputable def c_unwrap_net_solve_7 : Code := nav (bodyOf n_unwrap_net_solve) [true, true, true, false]
noncomputable def c_unwrap_net_solve_8 : Code := nav (bodyOf n_unwrap_net_solve) [true, true, true, true]
noncomputable def c_unwrap_net_solve_9 : Code := nav (bodyOf n_unwrap_net_solve) [true, true, true, true, false]
noncomputable def c_unwrap_net_solve_10 : Code := nav (bodyOf n_unwrap_net_solve) [true, true, true, true, true]
noncomputable def c_unwrap_net_solve_11 : Code := nav (bodyOf n_unwrap_net_solve) [true, true, true, true, true, false]
noncomputable def c_unwrap_net_solve_12 : Code := nav (bodyOf n_unwrap_net_solve) [true, true, true, true, true, true]
noncomputable def c_unwrap_net_solve_13 : Code := nav (bodyOf n_unwrap_net_solve) [true, true, true, true, true, false, false]
noncomputable def c_unwrap_net_solve_14 : Code := nav (bodyOf n_unwrap_net_solve) [true, true, true, true, true, false, true]
noncomputable def c_unwrap_net_solve_15 : Code := nav (bodyOf n_unwrap_net_solve) [true, true, true, true, true, false, true, false]
noncomputable def c_unwrap_net_solve_16 : Code := nav (bodyOf n_unwrap_net_solve) [true, true, true, true, true, false, true, false, false]
noncomputable def c_unwrap_net_solve_17 : Code := nav (bodyOf n_unwrap_net_solve) [true, true, true, true, true, false, true, false, false, false]
noncomputable def c_unwrap_net_solve_18 : Code := nav (bodyOf n_unwrap_net_solve) [true, true, true, true, true, false, true, false, false, true]
noncomputable def c_unwrap_net_solve_19 : Code := nav (bodyOf n_unwrap_net_solve) [true, true, true, true, true, false, true, false, false, true, false]
noncomputable def c_unwrap_net_solve_20 : Code := nav (bodyOf n_unwrap_net_solve) [true, true, true, true, true, false, true, false, false, true, true]
noncomputable def c_unwrap_net_solve_21 : Code := nav (bodyOf n_unwrap_net_solve) [true, true, true, true, true, false, true, false, false, true, true, false]
noncomputable def c_unwrap_net_solve_22 : Code := nav (bodyOf n_unwrap_net_solve) [true, true, true, true, true, false, true, false, false, true, true, true]
noncomputable def c_unwrap_net_solve_23 : Code := nav (bodyOf n_unwrap_net_solve) [true, true, true, true, true, false, true, false, false, true, true, false, false]
noncomputable def c_unwrap_net_solve_24 : Code := nav (bodyOf n_unwrap_net_solve) [true, true, true, true, true, false, true, false, false, true, true, false, false, false]
noncomputable def c_unwrap_net_solve_25 : Code := nav (bodyOf n_unwrap_net_solve) [true, true, true, true, true, false, true, false, false, true, true, false, false, true]
noncomputable def c_unwrap_net_solve_26 : Code := nav (bodyOf n_unwrap_net_solve) [true, true, true, true, true, false, true, false, false, true, true, false, false, true, false]
noncomputable def c_unwrap_net_solve_27 : Code := nav (bodyOf n_unwrap_net_solve) [true, true, true, true, true, false, true, false, false, true, true, false, false, true, true]
noncomputable def c_unwrap_net_solve_28 : Code := nav (bodyOf n_unwrap_net_solve) [true, true, false, false]
noncomputable def c_unwrap_net_solve_29 : Code := nav (bodyOf n_unwrap_net_solve) [true, true, false, false, false]
theorem q_unwrap_net_solve_12 (call : FCall) (hs : FHs) (u : Nat) :
  fxK Try.prog pol NN call c_unwrap_net_solve_12 (AV × Mem) (k_unwrap_net_solve hs u) r_unwrap_net_solve eNil r_unwrap_net_solve = (fun s => B_unwrap_net_solve_0 call hs u (s.sl 3) s.m s.fc) := by
  kernel_rfl
theorem q_unwrap_net_solve_22 (call : FCall) (hs : FHs) (u : Nat) (rec0 : AV → AV → AV → AV → AV → Mem → Nat → Option (AV × Mem)) :
  fxK Try.prog pol NN call c_unwrap_net_solve_22 (AV × Mem) (k_unwrap_net_solve hs u) (fun s => rec0 (s.sl 3) (s.sl 6) (s.sl 26) (s.sl 27) (s.sl 28) s.m s.fc) (setE 2 (fun s => B_unwrap_net_solve_0 call hs u (s.sl 3) s.m s.fc) eNil) r_unwrap_net_solve = (fun s => B_unwrap_net_solve_1 call hs u rec0 (s.sl 3) (s.sl 6) (s.sl 26) (s.sl 27) (s.sl 28) s.m s.fc) := by
  kernel_rfl
theorem q_unwrap_net_solve_27 (call : FCall) (hs : FHs) (u : Nat) (rec0 : AV → AV → AV → AV → AV → Mem → Nat → Option (AV × Mem)) :
  fxK Try.prog pol NN call c_unwrap_net_solve_27 (AV × Mem) (k_unwrap_net_solve hs u) (fun s => B_unwrap_net_solve_1 call hs u rec0 (s.sl 3) (s.sl 6) (s.sl 26) (s.sl 27) (s.sl 28) s.m s.fc) (setE 3 (fun s => B_unwrap_net_solve_1 call hs u rec0 (s.sl 3) (s.sl 6) (s.sl 26) (s.sl 27) (s.sl 28) s.m s.fc) (setE 2 (fun s => B_unwrap_net_solve_0 call hs u (s.sl 3) s.m s.fc) eNil)) r_unwrap_net_solve = (fun s => B_unwrap_net_solve_2 call hs u rec0 (s.sl 3) (s.sl 6) (s.sl 7) (s.sl 8) (s.sl 26) (s.sl 27) (s.sl 28) s.m s.fc) := by
  kernel_rfl
theorem q_unwrap_net_solve_26 (call : FCall) (hs : FHs) (u : Nat) (rec0 : AV → AV → AV → AV → AV → Mem → Nat → Option (AV × Mem)) :
  fxK Try.prog pol NN call c_unwrap_net_solve_26 (AV × Mem) (k_unwrap_net_solve hs u) (fun s => B_unwrap_net_solve_2 call hs u rec0 (s.sl 3) (s.sl 6) (s.sl 7) (s.sl 8) (s.sl 26) (s.sl 27) (s.sl 28) s.m s.fc) (setE 3 (fun s => B_unwrap_net_solve_1 call hs u rec0 (s.sl 3) (s.sl 6) (s.sl 26) (s.sl 27) (s.sl 28) s.m s.fc) (setE 2 (fun s => B_unwrap_net_solve_0 call hs u (s.sl 3) s.m s.fc) eNil)) r_unwrap_net_solve = (fun s => B_unwrap_net_solve_3 call hs u rec0 (s.sl 3) (s.sl 6) (s.sl 7) (s.sl 8) (s.sl 26) (s.sl 27) (s.sl 28) s.m s.fc) := by
  kernel_rfl
theorem q_unwrap_net_solve_25 (call : FCall) (hs : FHs) (u : Nat) (rec0 : AV → AV → AV → AV → AV → Mem → Nat → Option (AV × Mem)) :
  fxK Try.prog pol NN call c_unwrap_net_solve_25 (AV × Mem) (k_unwrap_net_solve hs u) (fun s => B_unwrap_net_solve_1 call hs u rec0 (s.sl 3) (s.sl 6) (s.sl 26) (s.sl 27) (s.sl 28) s.m s.fc) (setE 3 (fun s => B_unwrap_net_solve_1 call hs u rec0 (s.sl 3) (s.sl 6) (s.sl 26) (s.sl 27) (s.sl 28) s.m s.fc) (setE 2 (fun s => B_unwrap_net_solve_0 call hs u (s.sl 3) s.m s.fc) eNil)) r_unwrap_net_solve = (fun s => B_unwrap_net_solve_3 call hs u rec0 (s.sl 3) (s.sl 6) (s.sl 7) (s.sl 8) (s.sl 26) (s.sl 27) (s.sl 28) s.m s.fc) := by
  rw [show c_unwrap_net_solve_25 = .seq c_unwrap_net_solve_26 c_unwrap_net_solve_27 from by kernel_rfl, seq_r, q_unwrap_net_solve_27 call hs u rec0, q_unwrap_net_solve_26 call hs u rec0]
theorem q_unwrap_net_solve_23 (call : FCall) (hs : FHs) (u : Nat) (rec0 : AV → AV → AV → AV → AV → Mem → Nat → Option (AV × Mem)) :
  fxK Try.prog pol NN call c_unwrap_net_solve_23 (AV × Mem) (k_unwrap_net_solve hs u) (fun s => B_unwrap_net_solve_1 call hs u rec0 (s.sl 3) (s.sl 6) (s.sl 26) (s.sl 27) (s.sl 28) s.m s.fc) (setE 3 (fun s => B_unwrap_net_solve_1 call hs u rec0 (s.sl 3) (s.sl 6) (s.sl 26) (s.sl 27) (s.sl 28) s.m s.fc) (setE 2 (fun s => B_unwrap_net_solve_0 call hs u (s.sl 3) s.m s.fc) eNil)) r_unwrap_net_solve = (fun s => B_unwrap_net_solve_4 call hs u rec0 (s.sl 3) (s.sl 6) (s.sl 26) (s.sl 27) (s.sl 28) s.m s.fc) := by
  rw [show c_unwrap_net_solve_23 = .seq c_unwrap_net_solve_24 c_unwrap_net_solve_25 from by kernel_rfl, seq_r]; rw [q_unwrap_net_solve_25 call hs u rec0]; kernel_rfl
theorem q_unwrap_net_solve_21 (call : FCall) (hs : FHs) (u : Nat) (rec0 : AV → AV → AV → AV → AV → Mem → Nat → Option (AV × Mem)) :
  fxK Try.prog pol NN call c_unwrap_net_solve_21 (AV × Mem) (k_unwrap_net_solve hs u) (fun s => B_unwrap_net_solve_1 call hs u rec0 (s.sl 3) (s.sl 6) (s.sl 26) (s.sl 27) (s.sl 28) s.m s.fc) (setE 2 (fun s => B_unwrap_net_solve_0 call hs u (s.sl 3) s.m s.fc) eNil) r_unwrap_net_solve = (fun s => B_unwrap_net_solve_4 call hs u rec0 (s.sl 3) (s.sl 6) (s.sl 26) (s.sl 27) (s.sl 28) s.m s.fc) := by
  rw [show c_unwrap_net_solve_21 = .block 3 c_unwrap_net_solve_23 from by kernel_rfl, block_r, q_unwrap_net_solve_23 call hs u rec0]
theorem q_unwrap_net_solve_20 (call : FCall) (hs : FHs) (u : Nat) (rec0 : AV → AV → AV → AV → AV → Mem → Nat → Option (AV × Mem)) :
  fxK Try.prog pol NN call c_unwrap_net_solve_20 (AV × Mem) (k_unwrap_net_solve hs u) (fun s => rec0 (s.sl 3) (s.sl 6) (s.sl 26) (s.sl 27) (s.sl 28) s.m s.fc) (setE 2 (fun s => B_unwrap_net_solve_0 call hs u (s.sl 3) s.m s.fc) eNil) r_unwrap_net_solve = (fun s => B_unwrap_net_solve_4 call hs u rec0 (s.sl 3) (s.sl 6) (s.sl 26) (s.sl 27) (s.sl 28) s.m s.fc) := by
  rw [show c_unwrap_net_solve_20 = .seq c_unwrap_net_solve_21 c_unwrap_net_solve_22 from by kernel_rfl, seq_r, q_unwrap_net_solve_22 call hs u rec0, q_unwrap_net_solve_21 call hs u rec0]
theorem q_unwrap_net_solve_16 (call : FCall) (hs : FHs) (u : Nat) (rec0 : AV → AV → AV → AV → AV → Mem → Nat → Option (AV × Mem)) :
  fxK Try.prog pol NN call c_unwrap_net_solve_16 (AV × Mem) (k_unwrap_net_solve hs u) (fun s => rec0 (s.sl 3) (s.sl 6) (s.sl 26) (s.sl 27) (s.sl 28) s.m s.fc) (setE 2 (fun s => B_unwrap_net_solve_0 call hs u (s.sl 3) s.m s.fc) eNil) r_unwrap_net_solve = (fun s => B_unwrap_net_solve_5 call hs u rec0 (s.sl 3) (s.sl 6) (s.sl 26) (s.sl 27) (s.sl 28) s.m s.fc) := by
  rw [show c_unwrap_net_solve_16 = .seq c_unwrap_net_solve_17 c_unwrap_net_solve_18 from by kernel_rfl, seq_r]; rw [show c_unwrap_net_solve_18 = .seq c_unwrap_net_solve_19 c_unwrap_net_solve_20 from by kernel_rfl, seq_r]; rw [q_unwrap_net_solve_20 call hs u rec0]; kernel_rfl
theorem q_L_unwrap_net_solve_0 (call : FCall) (hs : FHs) (u : Nat) : ∀ n : Nat,
  iter (fun rec => fxK Try.prog pol NN call c_unwrap_net_solve_16 (AV × Mem) (k_unwrap_net_solve hs u) rec (setE 2 (fun s => B_unwrap_net_solve_0 call hs u (s.sl 3) s.m s.fc) eNil) r_unwrap_net_solve) n = (fun s => L_unwrap_net_solve_0 call hs u n (s.sl 3) (s.sl 6) (s.sl 26) (s.sl 27) (s.sl 28) s.m s.fc)
  | 0 => rfl
  | n + 1 => by rw [iter_succ, q_L_unwrap_net_solve_0 call hs u n, q_unwrap_net_solve_16 call hs u (L_unwrap_net_solve_0 call hs u n)]; kernel_rfl
theorem q_unwrap_net_solve_15 (call : FCall) (hs : FHs) (u : Nat) :
  fxK Try.prog pol NN call c_unwrap_net_solve_15 (AV × Mem) (k_unwrap_net_solve hs u) (fun s => B_unwrap_net_solve_0 call hs u (s.sl 3) s.m s.fc) (setE 2 (fun s => B_unwrap_net_solve_0 call hs u (s.sl 3) s.m s.fc) eNil) r_unwrap_net_solve = (fun s => L_unwrap_net_solve_0 call hs u NN (s.sl 3) (s.sl 6) (s.sl 26) (s.sl 27) (s.sl 28) s.m s.fc) := by
  rw [show c_unwrap_net_solve_15 = .loop c_unwrap_net_solve_16 from by kernel_rfl, loop_r, q_L_unwrap_net_solve_0 call hs u NN]
theorem q_unwrap_net_solve_14 (call : FCall) (hs : FHs) (u : Nat) :
  fxK Try.prog pol NN call c_unwrap_net_solve_14 (AV × Mem) (k_unwrap_net_solve hs u) (fun s => B_unwrap_net_solve_0 call hs u (s.sl 3) s.m s.fc) eNil r_unwrap_net_solve = (fun s => L_unwrap_net_solve_0 call hs u NN (s.sl 3) (s.sl 6) (s.sl 26) (s.sl 27) (s.sl 28) s.m s.fc) := by
  rw [show c_unwrap_net_solve_14 = .block 2 c_unwrap_net_solve_15 from by kernel_rfl, block_r, q_unwrap_net_solve_15 call hs u]
theorem q_unwrap_net_solve_11 (call : FCall) (hs : FHs) (u : Nat) :
  fxK Try.prog pol NN call c_unwrap_net_solve_11 (AV × Mem) (k_unwrap_net_solve hs u) (fun s => B_unwrap_net_solve_0 call hs u (s.sl 3) s.m s.fc) eNil r_unwrap_net_solve = (fun s => B_unwrap_net_solve_6 call hs u (s.sl 3) (s.sl 5) (s.sl 6) s.m s.fc) := by
  rw [show c_unwrap_net_solve_11 = .seq c_unwrap_net_solve_13 c_unwrap_net_solve_14 from by kernel_rfl, seq_r]; rw [q_unwrap_net_solve_14 call hs u]; kernel_rfl
theorem q_unwrap_net_solve_10 (call : FCall) (hs : FHs) (u : Nat) :
  fxK Try.prog pol NN call c_unwrap_net_solve_10 (AV × Mem) (k_unwrap_net_solve hs u) r_unwrap_net_solve eNil r_unwrap_net_solve = (fun s => B_unwrap_net_solve_6 call hs u (s.sl 3) (s.sl 5) (s.sl 6) s.m s.fc) := by
  rw [show c_unwrap_net_solve_10 = .seq c_unwrap_net_solve_11 c_unwrap_net_solve_12 from by kernel_rfl, seq_r, q_unwrap_net_solve_12 call hs u, q_unwrap_net_solve_11 call hs u]
theorem q_unwrap_net_solve_6 (call : FCall) (hs : FHs) (u : Nat) :
  fxK Try.prog pol NN call c_unwrap_net_solve_6 (AV × Mem) (k_unwrap_net_solve hs u) r_unwrap_net_solve eNil r_unwrap_net_solve = (fun s => B_unwrap_net_solve_7 call hs u (s.sl 1) (s.sl 3) s.m s.fc) := by
  rw [show c_unwrap_net_solve_6 = .seq c_unwrap_net_solve_7 c_unwrap_net_solve_8 from by kernel_rfl, seq_r]; rw [show c_unwrap_net_solve_8 = .seq c_unwrap_net_solve_9 c_unwrap_net_solve_10 from by kernel_rfl, seq_r]; rw [q_unwrap_net_solve_10 call hs u]; kernel_rfl
theorem q_unwrap_net_solve_29 (call : FCall) (hs : FHs) (u : Nat) (rec1 : AV → AV → Mem → Nat → Option (AV × Mem)) :
  fxK Try.prog pol NN call c_unwrap_net_solve_29 (AV × Mem) (k_unwrap_net_solve hs u) (fun s => rec1 (s.sl 1) (s.sl 3) s.m s.fc) (setE 0 (fun s => B_unwrap_net_solve_7 call hs u (s.sl 1) (s.sl 3) s.m s.fc) eNil) r_unwrap_net_solve = (fun s => B_unwrap_net_solve_8 call hs u rec1 (s.sl 1) (s.sl 3) s.m s.fc) := by
  kernel_rfl
theorem q_L_unwrap_net_solve_1 (call : FCall) (hs : FHs) (u : Nat) : ∀ n : Nat,
  iter (fun rec => fxK Try.prog pol NN call c_unwrap_net_solve_29 (AV × Mem) (k_unwrap_net_solve hs u) rec (setE 0 (fun s => B_unwrap_net_solve_7 call hs u (s.sl 1) (s.sl 3) s.m s.fc) eNil) r_unwrap_net_solve) n = (fun s => L_unwrap_net_solve_1 call hs u n (s.sl 1) (s.sl 3) s.m s.fc)
  | 0 => rfl
  | n + 1 => by rw [iter_succ, q_L_unwrap_net_solve_1 call hs u n, q_unwrap_net_solve_29 call hs u (L_unwrap_net_solve_1 call hs u n)]; kernel_rfl
theorem q_unwrap_net_solve_28 (call : FCall) (hs : FHs) (u : Nat) :
  fxK Try.prog pol NN call c_unwrap_net_solve_28 (AV × Mem) (k_unwrap_net_solve hs u) (fun s => B_unwrap_net_solve_7 call hs u (s.sl 1) (s.sl 3) s.m s.fc) (setE 0 (fun s => B_unwrap_net_solve_7 call hs u (s.sl 1) (s.sl 3) s.m s.fc) eNil) r_unwrap_net_solve = (fun s => L_unwrap_net_solve_1 call hs u NN (s.sl 1) (s.sl 3) s.m s.fc) := by
  rw [show c_unwrap_net_solve_28 = .loop c_unwrap_net_solve_29 from by kernel_rfl, loop_r, q_L_unwrap_net_solve_1 call hs u NN]
theorem q_unwrap_net_solve_5 (call : FCall) (hs : FHs) (u : Nat) :
  fxK Try.prog pol NN call c_unwrap_net_solve_5 (AV × Mem) (k_unwrap_net_solve hs u) (fun s => B_unwrap_net_solve_7 call hs u (s.sl 1) (s.sl 3) s.m s.fc) eNil r_unwrap_net_solve = (fun s => L_unwrap_net_solve_1 call hs u NN (s.sl 1) (s.sl 3) s.m s.fc) := by
  rw [show c_unwrap_net_solve_5 = .block 0 c_unwrap_net_solve_28 from by kernel_rfl, block_r, q_unwrap_net_solve_28 call hs u]
theorem q_unwrap_net_solve_4 (call : FCall) (hs : FHs) (u : Nat) :
  fxK Try.prog pol NN call c_unwrap_net_solve_4 (AV × Mem) (k_unwrap_net_solve hs u) r_unwrap_net_solve eNil r_unwrap_net_solve = (fun s => L_unwrap_net_solve_1 call hs u NN (s.sl 1) (s.sl 3) s.m s.fc) := by
  rw [show c_unwrap_net_solve_4 = .seq c_unwrap_net_solve_5 c_unwrap_net_solve_6 from by kernel_rfl, seq_r, q_unwrap_net_solve_6 call hs u, q_unwrap_net_solve_5 call hs u]
theorem q_unwrap_net_solve_0 (call : FCall) (hs : FHs) (u : Nat) :
  fxK Try.prog pol NN call c_unwrap_net_solve_0 (AV × Mem) (k_unwrap_net_solve hs u) r_unwrap_net_solve eNil r_unwrap_net_solve = (fun s => B_unwrap_net_solve_9 call hs u (s.sl 0) s.m s.fc) := by
  rw [show c_unwrap_net_solve_0 = .seq c_unwrap_net_solve_1 c_unwrap_net_solve_2 from by kernel_rfl, seq_r]; rw [show c_unwrap_net_solve_2 = .seq c_unwrap_net_solve_3 c_unwrap_net_solve_4 from by kernel_rfl, seq_r]; rw [q_unwrap_net_solve_4 call hs u]; kernel_rfl
theorem F_unwrap_net_solve_eq (call : FCall) (hs : FHs) (t0 : AV) (m : Mem) : fxBody Try.prog pol NN call hs n_unwrap_net_solve [t0] m = F_unwrap_net_solve call hs [t0] m := by
  rw [fxBody_at (fn := Try.f64) (body := c_unwrap_net_solve_0) (nt := 64) (rs := [.tmp 2]) (by kernel_rfl) (by kernel_rfl) (by kernel_rfl) (by kernel_rfl) (by kernel_rfl) (by kernel_rfl)]
  exact (congrFun (q_unwrap_net_solve_0 call hs m.next) _).trans (by kernel_rfl)
theorem F_unwrap_net_solve_le (call : FCall) (hs : FHs) (args : List AV) (m : Mem) (r : AV × Mem) (h : F_unwrap_net_solve call hs args m = some r) : fxBody Try.prog pol NN call hs n_unwrap_net_solve args m = some r := by
  unfold F_unwrap_net_solve at h
  split at h
  · rw [F_unwrap_net_solve_eq]; exact h
  · cases h

/- (swath/unwrap.net).cost -/
abbrev k_unwrap_net_cost (hs : FHs) (u : Nat) : FCtx := { f := n_unwrap_net_cost, u := u, nt := 27, hs := hs }
noncomputable abbrev r_unwrap_net_cost : Fs → Option (AV × Mem) := fxRes Try.prog [.tmp 4]
noncomputable def c_unwrap_net_cost_0 : Code := nav (bodyOf n_unwrap_net_cost) []
noncomputable def c_unwrap_net_cost_1 : Code := nav (bodyOf n_unwrap_net_cost) [false]
noncomputable def c_unwrap_net_cost_2 : Code := nav (bodyOf n_unwrap_net_cost) [true]
noncomputable def c_unwrap_net_cost_3 : Code := nav (bodyOf n_unwrap_net_cost) [true, false]
noncomputable def c_unwrap_net_cost_4 : Code := nav (bodyOf n_unwrap_net_cost) [true, true]
noncomputable def c_unwrap_net_cost_5 : Code := nav (bodyOf n_unwrap_net_cost) [true, true, false]
noncomputable def c_unwrap_net_cost_6 : Code := nav (bodyOf n_unwrap_net_cost) [true, true, true]
noncomputable def c_unwrap_net_cost_7 : Code := nav (bodyOf n_unwrap_net_cost) [true, true, false, false]
noncomputable def c_unwrap_net_cost_8 : Code := nav (bodyOf n_unwrap_net_cost) [true, true, false, true]
noncomputable def c_unwrap_net_cost_9 : Code := nav (bodyOf n_unwrap_net_cost) [true, true, false, true, false]
noncomputable def c_unwrap_net_cost_10 : Code := nav (bodyOf n_unwrap_net_cost) [true, true, false, true, false, false]
theorem q_unwrap_net_cost_6 (call : FCall) (hs : FHs) (u : Nat) :
  fxK Try.prog pol NN call c_unwrap_net_cost_6 (AV × Mem) (k_unwrap_net_cost hs u) r_unwrap_net_cost eNil r_unwrap_net_cost = (fun s => B_unwrap_net_cost_0 call hs u (s.sl 5) s.m s.fc) := by
  kernel_rfl
theorem q_unwrap_net_cost_10 (call : FCall) (hs : FHs) (u : Nat) (rec0 : AV → AV → AV → AV → AV → Mem → Nat → Option (AV × Mem)) :
  fxK Try.prog pol NN call c_unwrap_net_cost_10 (AV × Mem) (k_unwrap_net_cost hs u) (fun s => rec0 (s.sl 1) (s.sl 5) (s.sl 10) (s.sl 11) (s.sl 12) s.m s.fc) (setE 0 (fun s => B_unwrap_net_cost_0 call hs u (s.sl 5) s.m s.fc) eNil) r_unwrap_net_cost = (fun s => B_unwrap_net_cost_1 call hs u rec0 (s.sl 1) (s.sl 5) (s.sl 10) (s.sl 11) (s.sl 12) s.m s.fc) := by
  kernel_rfl
theorem q_L_unwrap_net_cost_0 (call : FCall) (hs : FHs) (u : Nat) : ∀ n : Nat,
  iter (fun rec => fxK Try.prog pol NN call c_unwrap_net_cost_10 (AV × Mem) (k_unwrap_net_cost hs u) rec (setE 0 (fun s => B_unwrap_net_cost_0 call hs u (s.sl 5) s.m s.fc) eNil) r_unwrap_net_cost) n = (fun s => L_unwrap_net_cost_0 call hs u n (s.sl 1) (s.sl 5) (s.sl 10) (s.sl 11) (s.sl 12) s.m s.fc)
  | 0 => rfl
  | n + 1 => by rw [iter_succ, q_L_unwrap_net_cost_0 call hs u n, q_unwrap_net_cost_10 call hs u (L_unwrap_net_cost_0 call hs u n)]; kernel_rfl
theorem q_unwrap_net_cost_9 (call : FCall) (hs : FHs) (u : Nat) :
  fxK Try.prog pol NN call c_unwrap_net_cost_9 (AV × Mem) (k_unwrap_net_cost hs u) (fun s => B_unwrap_net_cost_0 call hs u (s.sl 5) s.m s.fc) (setE 0 (fun s => B_unwrap_net_cost_0 call hs u (s.sl 5) s.m s.fc) eNil) r_unwrap_net_cost = (fun s => L_unwrap_net_cost_0 call hs u NN (s.sl 1) (s.sl 5) (s.sl 10) (s.sl 11) (s.sl 12) s.m s.fc) := by
  rw [show c_unwrap_net_cost_9 = .loop c_unwrap_net_cost_10 from by kernel_rfl, loop_r, q_L_unwrap_net_cost_0 call hs u NN]
theorem q_unwrap_net_cost_8 (call : FCall) (hs : FHs) (u : Nat) :
  fxK Try.prog pol NN call c_unwrap_net_cost_8 (AV × Mem) (k_unwrap_net_cost hs u) (fun s => B_unwrap_net_cost_0 call hs u (s.sl 5) s.m s.fc) eNil r_unwrap_net_cost = (fun s => L_unwrap_net_cost_0 call hs u NN (s.sl 1) (s.sl 5) (s.sl 10) (s.sl 11) (s.sl 12) s.m s.fc) := by
  rw [show c_unwrap_net_cost_8 = .block 0 c_unwrap_net_cost_9 from by kernel_rfl, block_r, q_unwrap_net_cost_9 call hs u]
theorem q_unwrap_net_cost_5 (call : FCall) (hs : FHs) (u : Nat) :
  fxK Try.prog pol NN call c_unwrap_net_cost_5 (AV × Mem) (k_unwrap_net_cost hs u) (fun s => B_unwrap_net_cost_0 call hs u (s.sl 5) s.m s.fc) eNil r_unwrap_net_cost = (fun s => B_unwrap_net_cost_2 call hs u (s.sl 1) (s.sl 2) (s.sl 5) s.m s.fc) := by
  rw [show c_unwrap_net_cost_5 = .seq c_unwrap_net_cost_7 c_unwrap_net_cost_8 from by kernel_rfl, seq_r]; rw [q_unwrap_net_cost_8 call hs u]; kernel_rfl
theorem q_unwrap_net_cost_4 (call : FCall) (hs : FHs) (u : Nat) :
  fxK Try.prog pol NN call c_unwrap_net_cost_4 (AV × Mem) (k_unwrap_net_cost hs u) r_unwrap_net_cost eNil r_unwrap_net_cost = (fun s => B_unwrap_net_cost_2 call hs u (s.sl 1) (s.sl 2) (s.sl 5) s.m s.fc) := by
  rw [show c_unwrap_net_cost_4 = .seq c_unwrap_net_cost_5 c_unwrap_net_cost_6 from by kernel_rfl, seq_r, q_unwrap_net_cost_6 call hs u, q_unwrap_net_cost_5 call hs u]
theorem q_unwrap_net_cost_0 (call : FCall) (hs : FHs) (u : Nat) :
  fxK Try.prog pol NN call c_unwrap_net_cost_0 (AV × Mem) (k_unwrap_net_cost hs u) r_unwrap_net_cost eNil r_unwrap_net_cost = (fun s => B_unwrap_net_cost_3 call hs u (s.sl 0) (s.sl 1) s.m s.fc) := by
  rw [show c_unwrap_net_cost_0 = .seq c_unwrap_net_cost_1 c_unwrap_net_cost_2 from by kernel_rfl, seq_r]; rw [show c_unwrap_net_cost_2 = .seq c_unwrap_net_cost_3 c_unwrap_net_cost_4 from by kernel_rfl, seq_r]; rw [q_unwrap_net_cost_4 call hs u]; kernel_rfl
theorem F_unwrap_net_cost_eq (call : FCall) (hs : FHs) (t0 t1 : AV) (m : Mem) : fxBody Try.prog pol NN call hs n_unwrap_net_cost [t0, t1] m = F_unwrap_net_cost call hs [t0, t1] m := by
  rw [fxBody_at (fn := Try.f65) (body := c_unwrap_net_cost_0) (nt := 27) (rs := [.tmp 4]) (by kernel_rfl) (by kernel_rfl) (by kernel_rfl) (by kernel_rfl) (by kernel_rfl) (by kernel_rfl)]
  exact (congrFun (q_unwrap_net_cost_0 call hs m.next) _).trans (by kernel_rfl)
theorem F_unwrap_net_cost_le (call : FCall) (hs : FHs) (args : List AV) (m : Mem) (r : AV × Mem) (h : F_unwrap_net_cost call hs args m = some r) : fxBody Try.prog pol NN call hs n_unwrap_net_cost args m = some r := by
  unfold F_unwrap_net_cost at h
  split at h
  · rw [F_unwrap_net_cost_eq]; exact h
  · cases h

/- swath/swathref05.CheckNet -/
abbrev k_ref05_CheckNet (hs : FHs) (u : Nat) : FCtx := { f := n_ref05_CheckNet, u := u, nt := 60, hs := hs }
noncomputable abbrev r_ref05_CheckNet : Fs → Option (AV × Mem) := fxRes Try.prog [.tmp 2, .tmp 3]
noncomputable def c_ref05_CheckNet_0 : Code := nav (bodyOf n_ref05_CheckNet) []
noncomputable def c_ref05_CheckNet_1 : Code := nav (bodyOf n_ref05_CheckNet) [false]
noncomputable def c_ref05_CheckNet_2 : Code := nav (bodyOf n_ref05_CheckNet) [true]
noncomputable def c_ref05_CheckNet_3 : Code := nav (bodyOf n_ref05_CheckNet) [true, false]
noncomputable def c_ref05_CheckNet_4 : Code := nav (bodyOf n_ref05_CheckNet) [true, true]
noncomputable def c_ref05_CheckNet_5 : Code := nav (bodyOf n_ref05_CheckNet) [true, true, false]
noncomputable def c_ref05_CheckNet_6 : Code := nav (bodyOf n_ref05_CheckNet) [true, true, true]
noncomputable def c_ref05_CheckNet_7 : Code := nav (bodyOf n_ref05_CheckNet) [true, true, true, false]
noncomputable def c_ref05_CheckNet_8 : Code := nav (bodyOf n_ref05_CheckNet) [true, true, true, true]
noncomputable def c_ref05_CheckNet_9 : Code := nav (bodyOf n_ref05_CheckNet) [true, true, true, false, false]
noncomputable def c_ref05_CheckNet_10 : Code := nav (bodyOf n_ref05_CheckNet) [true, true, true, false, true]
noncomputable def c_ref05_CheckNet_11 : Code := nav (bodyOf n_ref05_CheckNet) [true, true, true, false, true, false]
noncomputable def c_ref05_CheckNet_12 : Code := nav (bodyOf n_ref05_CheckNet) [true, true, true, false, true, false, false]
theorem q_ref05_CheckNet_8 (call : FCall) (hs : FHs) (u : Nat) :
  fxK Try.prog pol NN call c_ref05_CheckNet_8 (AV × Mem) (k_ref05_CheckNet hs u) r_ref05_CheckNet eNil r_ref05_CheckNet = (fun s => B_ref05_CheckNet_0 call hs u s.m s.fc) := by
  kernel_rfl
theorem q_ref05_CheckNet_12 (call : FCall) (hs : FHs) (u : Nat) (rec0 : AV → AV → Mem → Nat → Option (AV × Mem)) :
  fxK Try.prog pol NN call c_ref05_CheckNet_12 (AV × Mem) (k_ref05_CheckNet hs u) (fun s => rec0 (s.sl 1) (s.sl 4) s.m s.fc) (setE 0 (fun s => B_ref05_CheckNet_0 call hs u s.m s.fc) eNil) r_ref05_CheckNet = (fun s => B_ref05_CheckNet_1 call hs u rec0 (s.sl 1) (s.sl 4) s.m s.fc) := by
  kernel_rfl
theorem q_L_ref05_CheckNet_0 (call : FCall) (hs : FHs) (u : Nat) : ∀ n : Nat,
  iter (fun rec => fxK Try.prog pol NN call c_ref05_CheckNet_12 (AV × Mem) (k_ref05_CheckNet hs u) rec (setE 0 (fun s => B_ref05_CheckNet_0 call hs u s.m s.fc) eNil) r_ref05_CheckNet) n = (fun s => L_ref05_CheckNet_0 call hs u n (s.sl 1) (s.sl 4) s.m s.fc)
  | 0 => rfl
  | n + 1 => by rw [iter_succ, q_L_ref05_CheckNet_0 call hs u n, q_ref05_CheckNet_12 call hs u (L_ref05_CheckNet_0 call hs u n)]; kernel_rfl
theorem q_ref05_CheckNet_11 (call : FCall) (hs : FHs) (u : Nat) :
  fxK Try.prog pol NN call c_ref05_CheckNet_11 (AV × Mem) (k_ref05_CheckNet hs u) (fun s => B_ref05_CheckNet_0 call hs u s.m s.fc) (setE 0 (fun s => B_ref05_CheckNet_0 call hs u s.m s.fc) eNil) r_ref05_CheckNet = (fun s => L_ref05_CheckNet_0 call hs u NN (s.sl 1) (s.sl 4) s.m s.fc) := by
  rw [show c_ref05_CheckNet_11 = .loop c_ref05_CheckNet_12 from by kernel_rfl, loop_r, q_L_ref05_CheckNet_0 call hs u NN]
theorem q_ref05_CheckNet_10 (call : FCall) (hs : FHs) (u : Nat) :
  fxK Try.prog pol NN call c_ref05_CheckNet_10 (AV × Mem) (k_ref05_CheckNet hs u) (fun s => B_ref05_CheckNet_0 call hs u s.m s.fc) eNil r_ref05_CheckNet = (fun s => L_ref05_CheckNet_0 call hs u NN (s.sl 1) (s.sl 4) s.m s.fc) := by
  rw [show c_ref05_CheckNet_10 = .block 0 c_ref05_CheckNet_11 from by kernel_rfl, block_r, q_ref05_CheckNet_11 call hs u]
theorem q_ref05_CheckNet_7 (call : FCall) (hs : FHs) (u : Nat) :
  fxK Try.prog pol NN call c_ref05_CheckNet_7 (AV × Mem) (k_ref05_CheckNet hs u) (fun s => B_ref05_CheckNet_0 call hs u s.m s.fc) eNil r_ref05_CheckNet = (fun s => B_ref05_CheckNet_2 call hs u (s.sl 1) s.m s.fc) := by
  rw [show c_ref05_CheckNet_7 = .seq c_ref05_CheckNet_9 c_ref05_CheckNet_10 from by kernel_rfl, seq_r]; rw [q_ref05_CheckNet_10 call hs u]; kernel_rfl
theorem q_ref05_CheckNet_6 (call : FCall) (hs : FHs) (u : Nat) :
  fxK Try.prog pol NN call c_ref05_CheckNet_6 (AV × Mem) (k_ref05_CheckNet hs u) r_ref05_CheckNet eNil r_ref05_CheckNet = (fun s => B_ref05_CheckNet_2 call hs u (s.sl 1) s.m s.fc) := by
  rw [show c_ref05_CheckNet_6 = .seq c_ref05_CheckNet_7 c_ref05_CheckNet_8 from by kernel_rfl, seq_r, q_ref05_CheckNet_8 call hs u, q_ref05_CheckNet_7 call hs u]
theorem q_ref05_CheckNet_0 (call : FCall) (hs : FHs) (u : Nat) :
  fxK Try.prog pol NN call c_ref05_CheckNet_0 (AV × Mem) (k_ref05_CheckNet hs u) r_ref05_CheckNet eNil r_ref05_CheckNet = (fun s => B_ref05_CheckNet_3 call hs u (s.sl 0) s.m s.fc) := by
  rw [show c_ref05_CheckNet_0 = .seq c_ref05_CheckNet_1 c_ref05_CheckNet_2 from by kernel_rfl, seq_r]; rw [show c_ref05_CheckNet_2 = .seq c_ref05_CheckNet_3 c_ref05_CheckNet_4 from by kernel_rfl, seq_r]; rw [show c_ref05_CheckNet_4 = .seq c_ref05_CheckNet_5 c_ref05_CheckNet_6 from by kernel_rfl, seq_r]; rw [q_ref05_CheckNet_6 call hs u]; kernel_rfl
theorem F_ref05_CheckNet_eq (call : FCall) (hs : FHs) (t0 : AV) (m : Mem) : fxBody Try.prog pol NN call hs n_ref05_CheckNet [t0] m = F_ref05_CheckNet call hs [t0] m := by
  rw [fxBody_at (fn := Try.f66) (body := c_ref05_CheckNet_0) (nt := 60) (rs := [.tmp 2, .tmp 3]) (by kernel_rfl) (by kernel_rfl) (by kernel_rfl) (by kernel_rfl) (by kernel_rfl) (by kernel_rfl)]
  exact (congrFun (q_ref05_CheckNet_0 call hs m.next) _).trans (by kernel_rfl)
theorem F_ref05_CheckNet_le (call : FCall) (hs : FHs) (args : List AV) (m : Mem) (r : AV × Mem) (h : F_ref05_CheckNet call hs args m = some r) : fxBody Try.prog pol NN call hs n_ref05_CheckNet args m = some r := by
  unfold F_ref05_CheckNet at h
  split at h
  · rw [F_ref05_CheckNet_eq]; exact h
  · cases h

/- swath/unwrap.netOf -/
abbrev k_unwrap_netOf (hs : FHs) (u : Nat) : FCtx := { f := n_unwrap_netOf, u := u, nt := 71, hs := hs }
noncomputable abbrev r_unwrap_netOf : Fs → Option (AV × Mem) := fxRes Try.prog [.cell 2 y_api_UnwrapNet]
noncomputable def c_unwrap_netOf_0 : Code := nav (bodyOf n_unwrap_netOf) []
noncomputable def c_unwrap_netOf_1 : Code := nav (bodyOf n_unwrap_netOf) [false]
noncomputable def c_unwrap_netOf_2 : Code := nav (bodyOf n_unwrap_netOf) [true]
noncomputable def c_unwrap_netOf_3 : Code := nav (bodyOf n_unwrap_netOf) [true, false]
noncomputable def c_unwrap_netOf_4 : Code := nav (bodyOf n_unwrap_netOf) [true, true]
noncomputable def c_unwrap_netOf_5 : Code := nav (bodyOf n_unwrap_netOf) [true, true, false]
noncomputable def c_unwrap_netOf_6 : Code := nav (bodyOf n_unwrap_netOf) [true, true, true]
noncomputable def c_unwrap_netOf_7 : Code := nav (bodyOf n_unwrap_netOf) [true, true, true, false]
noncomputable def c_unwrap_netOf_8 : Code := nav (bodyOf n_unwrap_netOf) [true, true, true, true]
noncomputable def c_unwrap_netOf_9 : Code := nav (bodyOf n_unwrap_netOf) [true, true, true, true, false]
noncomputable def c_unwrap_netOf_10 : Code := nav (bodyOf n_unwrap_netOf) [true, true, true, true, true]
noncomputable def c_unwrap_netOf_11 : Code := nav (bodyOf n_unwrap_netOf) [true, true, true, true, false, false]
noncomputable def c_unwrap_netOf_12 : Code := nav (bodyOf n_unwrap_netOf) [true, true, true, true, false, true]
noncomputable def c_unwrap_netOf_13 : Code := nav (bodyOf n_unwrap_netOf) [true, true, true, true, false, true, false]
noncomputable def c_unwrap_netOf_14 : Code := nav (bodyOf n_unwrap_netOf) [true, true, true, true, false, true, false, false]
noncomputable def c_unwrap_netOf_15 : Code := nav (bodyOf n_unwrap_netOf) [true, true, true, true, false, true, false, true]
theorem q_unwrap_netOf_10 (call : FCall) (hs : FHs) (u : Nat) :
  fxK Try.prog pol NN call c_unwrap_netOf_10 (AV × Mem) (k_unwrap_netOf hs u) r_unwrap_netOf eNil r_unwrap_netOf = (fun s => B_unwrap_netOf_0 call hs u (s.sl 2) (s.sl 4) s.m s.fc) := by
  kernel_rfl
theorem q_unwrap_netOf_15 (call : FCall) (hs : FHs) (u : Nat) :
  fxK Try.prog pol NN call c_unwrap_netOf_15 Mem (k_unwrap_netOf hs u) (fun s => some s.m) eNil fNil = (fun s => B_unwrap_netOf_1 call hs u (s.sl 3) (s.sl 4) (s.sl 5) (s.sl 6) (s.sl 7) s.m s.fc) := by
  kernel_rfl
theorem q_unwrap_netOf_14 (call : FCall) (hs : FHs) (u : Nat) :
  fxK Try.prog pol NN call c_unwrap_netOf_14 Mem (k_unwrap_netOf hs u) (fun s => B_unwrap_netOf_1 call hs u (s.sl 3) (s.sl 4) (s.sl 5) (s.sl 6) (s.sl 7) s.m s.fc) eNil fNil = (fun s => B_unwrap_netOf_2 call hs u (s.sl 3) (s.sl 4) (s.sl 5) (s.sl 27) (s.sl 28) s.m s.fc) := by
  kernel_rfl
theorem q_unwrap_netOf_13 (call : FCall) (hs : FHs) (u : Nat) :
  fxK Try.prog pol NN call c_unwrap_netOf_13 (AV × Mem) (k_unwrap_netOf hs u) (fun s => B_unwrap_netOf_0 call hs u (s.sl 2) (s.sl 4) s.m s.fc) (setE 0 (fun s => B_unwrap_netOf_0 call hs u (s.sl 2) (s.sl 4) s.m s.fc) eNil) r_unwrap_netOf = (fun s => B_unwrap_netOf_3 call hs u (s.sl 2) (s.sl 3) (s.sl 4) (s.sl 5) (s.sl 26) s.m s.fc) := by
  rw [show c_unwrap_netOf_13 = .rangeFunc (.tmp 26) #[27, 28] c_unwrap_netOf_14 c_unwrap_netOf_15 from by kernel_rfl, rng_r (H := fun u s => B_unwrap_netOf_2 call hs u (s.sl 3) (s.sl 4) (s.sl 5) (s.sl 27) (s.sl 28) s.m s.fc) (by intro u; exact (congrArg (fun Y => fxK Try.prog pol NN call c_unwrap_netOf_14 Mem (k_unwrap_netOf hs u) Y eNil fNil) (q_unwrap_netOf_15 call hs u)).trans (q_unwrap_netOf_14 call hs u))]; kernel_rfl
theorem q_unwrap_netOf_12 (call : FCall) (hs : FHs) (u : Nat) :
  fxK Try.prog pol NN call c_unwrap_netOf_12 (AV × Mem) (k_unwrap_netOf hs u) (fun s => B_unwrap_netOf_0 call hs u (s.sl 2) (s.sl 4) s.m s.fc) eNil r_unwrap_netOf = (fun s => B_unwrap_netOf_3 call hs u (s.sl 2) (s.sl 3) (s.sl 4) (s.sl 5) (s.sl 26) s.m s.fc) := by
  rw [show c_unwrap_netOf_12 = .block 0 c_unwrap_netOf_13 from by kernel_rfl, block_r, q_unwrap_netOf_13 call hs u]
theorem q_unwrap_netOf_9 (call : FCall) (hs : FHs) (u : Nat) :
  fxK Try.prog pol NN call c_unwrap_netOf_9 (AV × Mem) (k_unwrap_netOf hs u) (fun s => B_unwrap_netOf_0 call hs u (s.sl 2) (s.sl 4) s.m s.fc) eNil r_unwrap_netOf = (fun s => B_unwrap_netOf_4 call hs u (s.sl 2) (s.sl 3) (s.sl 4) (s.sl 5) s.m s.fc) := by
  rw [show c_unwrap_netOf_9 = .seq c_unwrap_netOf_11 c_unwrap_netOf_12 from by kernel_rfl, seq_r]; rw [q_unwrap_netOf_12 call hs u]; kernel_rfl
theorem q_unwrap_netOf_8 (call : FCall) (hs : FHs) (u : Nat) :
  fxK Try.prog pol NN call c_unwrap_netOf_8 (AV × Mem) (k_unwrap_netOf hs u) r_unwrap_netOf eNil r_unwrap_netOf = (fun s => B_unwrap_netOf_4 call hs u (s.sl 2) (s.sl 3) (s.sl 4) (s.sl 5) s.m s.fc) := by
  rw [show c_unwrap_netOf_8 = .seq c_unwrap_netOf_9 c_unwrap_netOf_10 from by kernel_rfl, seq_r, q_unwrap_netOf_10 call hs u, q_unwrap_netOf_9 call hs u]
theorem q_unwrap_netOf_0 (call : FCall) (hs : FHs) (u : Nat) :
  fxK Try.prog pol NN call c_unwrap_netOf_0 (AV × Mem) (k_unwrap_netOf hs u) r_unwrap_netOf eNil r_unwrap_netOf = (fun s => B_unwrap_netOf_5 call hs u (s.sl 0) s.m s.fc) := by
  rw [show c_unwrap_netOf_0 = .seq c_unwrap_netOf_1 c_unwrap_netOf_2 from by kernel_rfl, seq_r]; rw [show c_unwrap_netOf_2 = .seq c_unwrap_netOf_3 c_unwrap_netOf_4 from by kernel_rfl, seq_r]; rw [show c_unwrap_netOf_4 = .seq c_unwrap_netOf_5 c_unwrap_netOf_6 from by kernel_rfl, seq_r]; rw [show c_unwrap_netOf_6 = .seq c_unwrap_netOf_7 c_unwrap_netOf_8 from by kernel_rfl, seq_r]; rw [q_unwrap_netOf_8 call hs u]; kernel_rfl
theorem F_unwrap_netOf_eq (call : FCall) (hs : FHs) (t0 : AV) (m : Mem) : fxBody Try.prog pol NN call hs n_unwrap_netOf [t0] m = F_unwrap_netOf call hs [t0] m := by
  rw [fxBody_at (fn := Try.f69) (body := c_unwrap_netOf_0) (nt := 71) (rs := [.cell 2 y_api_UnwrapNet]) (by kernel_rfl) (by kernel_rfl) (by kernel_rfl) (by kernel_rfl) (by kernel_rfl) (by kernel_rfl)]
  exact (congrFun (q_unwrap_netOf_0 call hs m.next) _).trans (by kernel_rfl)
theorem F_unwrap_netOf_le (call : FCall) (hs : FHs) (args : List AV) (m : Mem) (r : AV × Mem) (h : F_unwrap_netOf call hs args m = some r) : fxBody Try.prog pol NN call hs n_unwrap_netOf args m = some r := by
  unfold F_unwrap_netOf at h
  split at h
  · rw [F_unwrap_netOf_eq]; exact h
  · cases h

/- swath/swathref05.sizeErr -/
abbrev k_ref05_sizeErr (hs : FHs) (u : Nat) : FCtx := { f := n_ref05_sizeErr, u := u, nt := 20, hs := hs }
noncomputable abbrev r_ref05_sizeErr : Fs → Option (AV × Mem) := fxRes Try.prog [.tmp 6]
noncomputable def c_ref05_sizeErr_0 : Code := nav (bodyOf n_ref05_sizeErr) []
theorem q_ref05_sizeErr_0 (call : FCall) (hs : FHs) (u : Nat) :
  fxK Try.prog pol NN call c_ref05_sizeErr_0 (AV × Mem) (k_ref05_sizeErr hs u) r_ref05_sizeErr eNil r_ref05_sizeErr = (fun s => B_ref05_sizeErr_0 call hs u (s.sl 0) (s.sl 1) (s.sl 2) s.m s.fc) := by
  kernel_rfl
theorem F_ref05_sizeErr_eq (call : FCall) (hs : FHs) (t0 t1 t2 : AV) (m : Mem) : fxBody Try.prog pol NN call hs n_ref05_sizeErr [t0, t1, t2] m = F_ref05_sizeErr call hs [t0, t1, t2] m := by
  rw [fxBody_at (fn := Try.f70) (body := c_ref05_sizeErr_0) (nt := 20) (rs := [.tmp 6]) (by kernel_rfl) (by kernel_rfl) (by kernel_rfl) (by kernel_rfl) (by kernel_rfl) (by kernel_rfl)]
  exact (congrFun (q_ref05_sizeErr_0 call hs m.next) _).trans (by kernel_rfl)
theorem F_ref05_sizeErr_le (call : FCall) (hs : FHs) (args : List AV) (m : Mem) (r : AV × Mem) (h : F_ref05_sizeErr call hs args m = some r) : fxBody Try.prog pol NN call hs n_ref05_sizeErr args m = some r := by
  unfold F_ref05_sizeErr at h
  split at h
  · rw [F_ref05_sizeErr_eq]; exact h
  · cases h

/- swath/swathref05.wrappedErr -/
abbrev k_ref05_wrappedErr (hs : FHs) (u : Nat) : FCtx := { f := n_ref05_wrappedErr, u := u, nt := 23, hs := hs }
noncomputable abbrev r_ref05_wrappedErr : Fs → Option (AV × Mem) := fxRes Try.prog [.tmp 2]
noncomputable def c_ref05_wrappedErr_0 : Code := nav (bodyOf n_ref05_wrappedErr) []
noncomputable def c_ref05_wrappedErr_1 : Code := nav (bodyOf n_ref05_wrappedErr) [false]
noncomputable def c_ref05_wrappedErr_2 : Code := nav (bodyOf n_ref05_wrappedErr) [true]
noncomputable def c_ref05_wrappedErr_3 : Code := nav (bodyOf n_ref05_wrappedErr) [true, false]
noncomputable def c_ref05_wrappedErr_4 : Code := nav (bodyOf n_ref05_wrappedErr) [true, true]
noncomputable def c_ref05_wrappedErr_5 : Code := nav (bodyOf n_ref05_wrappedErr) [true, false, false]
noncomputable def c_ref05_wrappedErr_6 : Code := nav (bodyOf n_ref05_wrappedErr) [true, false, true]
noncomputable def c_ref05_wrappedErr_7 : Code := nav (bodyOf n_ref05_wrappedErr) [true, false, true, false]
noncomputable def c_ref05_wrappedErr_8 : Code := nav (bodyOf n_ref05_wrappedErr) [true, false, true, false, false]
theorem q_ref05_wrappedErr_4 (call : FCall) (hs : FHs) (u : Nat) :
  fxK Try.prog pol NN call c_ref05_wrappedErr_4 (AV × Mem) (k_ref05_wrappedErr hs u) r_ref05_wrappedErr eNil r_ref05_wrappedErr = (fun s => B_ref05_wrappedErr_0 call hs u s.m s.fc) := by
  kernel_rfl
theorem q_ref05_wrappedErr_8 (call : FCall) (hs : FHs) (u : Nat) (rec0 : AV → AV → Mem → Nat → Option (AV × Mem)) :
  fxK Try.prog pol NN call c_ref05_wrappedErr_8 (AV × Mem) (k_ref05_wrappedErr hs u) (fun s => rec0 (s.sl 0) (s.sl 3) s.m s.fc) (setE 0 (fun s => B_ref05_wrappedErr_0 call hs u s.m s.fc) eNil) r_ref05_wrappedErr = (fun s => B_ref05_wrappedErr_1 call hs u rec0 (s.sl 0) (s.sl 3) s.m s.fc) := by
  kernel_rfl
theorem q_L_ref05_wrappedErr_0 (call : FCall) (hs : FHs) (u : Nat) : ∀ n : Nat,
  iter (fun rec => fxK Try.prog pol NN call c_ref05_wrappedErr_8 (AV × Mem) (k_ref05_wrappedErr hs u) rec (setE 0 (fun s => B_ref05_wrappedErr_0 call hs u s.m s.fc) eNil) r_ref05_wrappedErr) n = (fun s => L_ref05_wrappedErr_0 call hs u n (s.sl 0) (s.sl 3) s.m s.fc)
  | 0 => rfl
  | n + 1 => by rw [iter_succ, q_L_ref05_wrappedErr_0 call hs u n, q_ref05_wrappedErr_8 call hs u (L_ref05_wrappedErr_0 call hs u n)]; kernel_rfl
theorem q_ref05_wrappedErr_7 (call : FCall) (hs : FHs) (u : Nat) :
  fxK Try.prog pol NN call c_ref05_wrappedErr_7 (AV × Mem) (k_ref05_wrappedErr hs u) (fun s => B_ref05_wrappedErr_0 call hs u s.m s.fc) (setE 0 (fun s => B_ref05_wrappedErr_0 call hs u s.m s.fc) eNil) r_ref05_wrappedErr = (fun s => L_ref05_wrappedErr_0 call hs u NN (s.sl 0) (s.sl 3) s.m s.fc) := by
  rw [show c_ref05_wrappedErr_7 = .loop c_ref05_wrappedErr_8 from by kernel_rfl, loop_r, q_L_ref05_wrappedErr_0 call hs u NN]
theorem q_ref05_wrappedErr_6 (call : FCall) (hs : FHs) (u : Nat) :
  fxK Try.prog pol NN call c_ref05_wrappedErr_6 (AV × Mem) (k_ref05_wrappedErr hs u) (fun s => B_ref05_wrappedErr_0 call hs u s.m s.fc) eNil r_ref05_wrappedErr = (fun s => L_ref05_wrappedErr_0 call hs u NN (s.sl 0) (s.sl 3) s.m s.fc) := by
  rw [show c_ref05_wrappedErr_6 = .block 0 c_ref05_wrappedErr_7 from by kernel_rfl, block_r, q_ref05_wrappedErr_7 call hs u]
theorem q_ref05_wrappedErr_3 (call : FCall) (hs : FHs) (u : Nat) :
  fxK Try.prog pol NN call c_ref05_wrappedErr_3 (AV × Mem) (k_ref05_wrappedErr hs u) (fun s => B_ref05_wrappedErr_0 call hs u s.m s.fc) eNil r_ref05_wrappedErr = (fun s => B_ref05_wrappedErr_2 call hs u (s.sl 0) s.m s.fc) := by
  rw [show c_ref05_wrappedErr_3 = .seq c_ref05_wrappedErr_5 c_ref05_wrappedErr_6 from by kernel_rfl, seq_r]; rw [q_ref05_wrappedErr_6 call hs u]; kernel_rfl
theorem q_ref05_wrappedErr_2 (call : FCall) (hs : FHs) (u : Nat) :
  fxK Try.prog pol NN call c_ref05_wrappedErr_2 (AV × Mem) (k_ref05_wrappedErr hs u) r_ref05_wrappedErr eNil r_ref05_wrappedErr = (fun s => B_ref05_wrappedErr_2 call hs u (s.sl 0) s.m s.fc) := by
  rw [show c_ref05_wrappedErr_2 = .seq c_ref05_wrappedErr_3 c_ref05_wrappedErr_4 from by kernel_rfl, seq_r, q_ref05_wrappedErr_4 call hs u, q_ref05_wrappedErr_3 call hs u]
theorem q_ref05_wrappedErr_0 (call : FCall) (hs : FHs) (u : Nat) :
  fxK Try.prog pol NN call c_ref05_wrappedErr_0 (AV × Mem) (k_ref05_wrappedErr hs u) r_ref05_wrappedErr eNil r_ref05_wrappedErr = (fun s => B_ref05_wrappedErr_3 call hs u (s.sl 0) s.m s.fc) := by
  rw [show c_ref05_wrappedErr_0 = .seq c_ref05_wrappedErr_1 c_ref05_wrappedErr_2 from by kernel_rfl, seq_r]; rw [q_ref05_wrappedErr_2 call hs u]; kernel_rfl
theorem F_ref05_wrappedErr_eq (call : FCall) (hs : FHs) (t0 : AV) (m : Mem) : fxBody Try.prog pol NN call hs n_ref05_wrappedErr [t0] m = F_ref05_wrappedErr call hs [t0] m := by
  rw [fxBody_at (fn := Try.f71) (body := c_ref05_wrappedErr_0) (nt := 23) (rs := [.tmp 2]) (by kernel_rfl) (by kernel_rfl) (by kernel_rfl) (by kernel_rfl) (by kernel_rfl) (by kernel_rfl)]
  exact (congrFun (q_ref05_wrappedErr_0 call hs m.next) _).trans (by kernel_rfl)
theorem F_ref05_wrappedErr_le (call : FCall) (hs : FHs) (args : List AV) (m : Mem) (r : AV × Mem) (h : F_ref05_wrappedErr call hs args m = some r) : fxBody Try.prog pol NN call hs n_ref05_wrappedErr args m = some r := by
  unfold F_ref05_wrappedErr at h
  split at h
  · rw [F_ref05_wrappedErr_eq]; exact h
  · cases h

/- swath/unwrap.sizeErr -/
abbrev k_unwrap_sizeErr (hs : FHs) (u : Nat) : FCtx := { f := n_unwrap_sizeErr, u := u, nt := 22, hs := hs }
noncomputable abbrev r_unwrap_sizeErr : Fs → Option (AV × Mem) := fxRes Try.prog [.tmp 6]
noncomputable def c_unwrap_sizeErr_0 : Code := nav (bodyOf n_unwrap_sizeErr) []
theorem q_unwrap_sizeErr_0 (call : FCall) (hs : FHs) (u : Nat) :
  fxK Try.prog pol NN call c_unwrap_sizeErr_0 (AV × Mem) (k_unwrap_sizeErr hs u) r_unwrap_sizeErr eNil r_unwrap_sizeErr = (fun s => B_unwrap_sizeErr_0 call hs u (s.sl 0) (s.sl 1) (s.sl 2) s.m s.fc) := by
  kernel_rfl
theorem F_unwrap_sizeErr_eq (call : FCall) (hs : FHs) (t0 t1 t2 : AV) (m : Mem) : fxBody Try.prog pol NN call hs n_unwrap_sizeErr [t0, t1, t2] m = F_unwrap_sizeErr call hs [t0, t1, t2] m := by
  rw [fxBody_at (fn := Try.f72) (body := c_unwrap_sizeErr_0) (nt := 22) (rs := [.tmp 6]) (by kernel_rfl) (by kernel_rfl) (by kernel_rfl) (by kernel_rfl) (by kernel_rfl) (by kernel_rfl)]
  exact (congrFun (q_unwrap_sizeErr_0 call hs m.next) _).trans (by kernel_rfl)
theorem F_unwrap_sizeErr_le (call : FCall) (hs : FHs) (args : List AV) (m : Mem) (r : AV × Mem) (h : F_unwrap_sizeErr call hs args m = some r) : fxBody Try.prog pol NN call hs n_unwrap_sizeErr args m = some r := by
  unfold F_unwrap_sizeErr at h
  split at h
  · rw [F_unwrap_sizeErr_eq]; exact h
  · cases h

/- swath/unwrap.phasesErr -/
abbrev k_unwrap_phasesErr (hs : FHs) (u : Nat) : FCtx := { f := n_unwrap_phasesErr, u := u, nt := 9, hs := hs }
noncomputable abbrev r_unwrap_phasesErr : Fs → Option (AV × Mem) := fxRes Try.prog [.tmp 4]
noncomputable def c_unwrap_phasesErr_0 : Code := nav (bodyOf n_unwrap_phasesErr) []
theorem q_unwrap_phasesErr_0 (call : FCall) (hs : FHs) (u : Nat) :
  fxK Try.prog pol NN call c_unwrap_phasesErr_0 (AV × Mem) (k_unwrap_phasesErr hs u) r_unwrap_phasesErr eNil r_unwrap_phasesErr = (fun s => B_unwrap_phasesErr_0 call hs u (s.sl 0) (s.sl 1) s.m s.fc) := by
  kernel_rfl
theorem F_unwrap_phasesErr_eq (call : FCall) (hs : FHs) (t0 t1 : AV) (m : Mem) : fxBody Try.prog pol NN call hs n_unwrap_phasesErr [t0, t1] m = F_unwrap_phasesErr call hs [t0, t1] m := by
  rw [fxBody_at (fn := Try.f73) (body := c_unwrap_phasesErr_0) (nt := 9) (rs := [.tmp 4]) (by kernel_rfl) (by kernel_rfl) (by kernel_rfl) (by kernel_rfl) (by kernel_rfl) (by kernel_rfl)]
  exact (congrFun (q_unwrap_phasesErr_0 call hs m.next) _).trans (by kernel_rfl)
theorem F_unwrap_phasesErr_le (call : FCall) (hs : FHs) (args : List AV) (m : Mem) (r : AV × Mem) (h : F_unwrap_phasesErr call hs args m = some r) : fxBody Try.prog pol NN call hs n_unwrap_phasesErr args m = some r := by
  unfold F_unwrap_phasesErr at h
  split at h
  · rw [F_unwrap_phasesErr_eq]; exact h
  · cases h

/- swath/unwrap.isWrapped -/
abbrev k_unwrap_isWrapped (hs : FHs) (u : Nat) : FCtx := { f := n_unwrap_isWrapped, u := u, nt := 7, hs := hs }
noncomputable abbrev r_unwrap_isWrapped : Fs → Option (AV × Mem) := fxRes Try.prog [.tmp 2]
noncomputable def c_unwrap_isWrapped_0 : Code := nav (bodyOf n_unwrap_isWrapped) []
theorem q_unwrap_isWrapped_0 (call : FCall) (hs : FHs) (u : Nat) :
  fxK Try.prog pol NN call c_unwrap_isWrapped_0 (AV × Mem) (k_unwrap_isWrapped hs u) r_unwrap_isWrapped eNil r_unwrap_isWrapped = (fun s => B_unwrap_isWrapped_0 call hs u (s.sl 0) s.m s.fc) := by
  kernel_rfl
theorem F_unwrap_isWrapped_eq (call : FCall) (hs : FHs) (t0 : AV) (m : Mem) : fxBody Try.prog pol NN call hs n_unwrap_isWrapped [t0] m = F_unwrap_isWrapped call hs [t0] m := by
  rw [fxBody_at (fn := Try.f74) (body := c_unwrap_isWrapped_0) (nt := 7) (rs := [.tmp 2]) (by kernel_rfl) (by kernel_rfl) (by kernel_rfl) (by kernel_rfl) (by kernel_rfl) (by kernel_rfl)]
  exact (congrFun (q_unwrap_isWrapped_0 call hs m.next) _).trans (by kernel_rfl)
theorem F_unwrap_isWrapped_le (call : FCall) (hs : FHs) (args : List AV) (m : Mem) (r : AV × Mem) (h : F_unwrap_isWrapped call hs args m = some r) : fxBody Try.prog pol NN call hs n_unwrap_isWrapped args m = some r := by
  unfold F_unwrap_isWrapped at h
  split at h
  · rw [F_unwrap_isWrapped_eq]; exact h
  · cases h

/- slices.Concat[[]int,int] -/
abbrev k_slices_Concat_int_int (hs : FHs) (u : Nat) : FCtx := { f := n_slices_Concat_int_int, u := u, nt := 36, hs := hs }
noncomputable abbrev r_slices_Concat_int_int : Fs → Option (AV × Mem) := fxRes Try.prog [.tmp 2]
noncomputable def c_slices_Concat_int_int_0 : Code := nav (bodyOf n_slices_Concat_int_int) []
noncomputable def c_slices_Concat_int_int_1 : Code := nav (bodyOf n_slices_Concat_int_int) [false]
noncomputable def c_slices_Concat_int_int_2 : Code := nav (bodyOf n_slices_Concat_int_int) [true]
noncomputable def c_slices_Concat_int_int_3 : Code := nav (bodyOf n_slices_Concat_int_int) [true, false]
noncomputable def c_slices_Concat_int_int_4 : Code := nav (bodyOf n_slices_Concat_int_int) [true, true]
noncomputable def c_slices_Concat_int_int_5 : Code := nav (bodyOf n_slices_Concat_int_int) [true, true, false]
noncomputable def c_slices_Concat_int_int_6 : Code := nav (bodyOf n_slices_Concat_int_int) [true, true, true]
noncomputable def c_slices_Concat_int_int_7 : Code := nav (bodyOf n_slices_Concat_int_int) [true, true, true, false]
noncomputable def c_slices_Concat_int_int_8 : Code := nav (bodyOf n_slices_Concat_int_int) [true, true, true, true]
noncomputable def c_slices_Concat_int_int_9 : Code := nav (bodyOf n_slices_Concat_int_int) [true, true, true, true, false]
noncomputable def c_slices_Concat_int_int_10 : Code := nav (bodyOf n_slices_Concat_int_int) [true, true, true, true, true]
noncomputable def c_slices_Concat_int_int_11 : Code := nav (bodyOf n_slices_Concat_int_int) [true, true, true, true, false, false]
noncomputable def c_slices_Concat_int_int_12 : Code := nav (bodyOf n_slices_Concat_int_int) [true, true, true, true, false, true]
noncomputable def c_slices_Concat_int_int_13 : Code := nav (bodyOf n_slices_Concat_int_int) [true, true, true, true, false, true, false]
noncomputable def c_slices_Concat_int_int_14 : Code := nav (bodyOf n_slices_Concat_int_int) [true, true, true, true, false, true, false, false]
noncomputable def c_slices_Concat_int_int_15 : Code := nav (bodyOf n_slices_Concat_int_int) [true, true, false, false]
noncomputable def c_slices_Concat_int_int_16 : Code := nav (bodyOf n_slices_Concat_int_int) [true, true, false, true]
noncomputable def c_slices_Concat_int_int_17 : Code := nav (bodyOf n_slices_Concat_int_int) [true, true, false, true, false]
noncomputable def c_slices_Concat_int_int_18 : Code := nav (bodyOf n_slices_Concat_int_int) [true, true, false, true, false, false]
noncomputable def c_slices_Concat_int_int_19 : Code := nav (bodyOf n_slices_Concat_int_int) [true, true, false, true, false, false, false]
noncomputable def c_slices_Concat_int_int_20 : Code := nav (bodyOf n_slices_Concat_int_int) [true, true, false, true, false, false, true]
noncomputable def c_slices_Concat_int_int_21 : Code := nav (bodyOf n_slices_Concat_int_int) [true, true, false, true, false, false, true, false]
noncomputable def c_slices_Concat_int_int_22 : Code := nav (bodyOf n_slices_Concat_int_int) [true, true, false, true, false, false, true, true]
noncomputable def c_slices_Concat_int_int_23 : Code := nav (bodyOf n_slices_Concat_int_int) [true, true, false, true, false, false, true, true, false]
noncomputable def c_slices_Concat_int_int_24 : Code := nav (bodyOf n_slices_Concat_int_int) [true, true, false, true, false, false, true, true, true]
theorem q_slices_Concat_int_int_10 (call : FCall) (hs : FHs) (u : Nat) :
  fxK Try.prog pol NN call c_slices_Concat_int_int_10 (AV × Mem) (k_slices_Concat_int_int hs u) r_slices_Concat_int_int eNil r_slices_Concat_int_int = (fun s => B_slices_Concat_int_int_0 call hs u (s.sl 6) s.m s.fc) := by
  kernel_rfl
theorem q_slices_Concat_int_int_14 (call : FCall) (hs : FHs) (u : Nat) (rec0 : AV → AV → AV → AV → Mem → Nat → Option (AV × Mem)) :
  fxK Try.prog pol NN call c_slices_Concat_int_int_14 (AV × Mem) (k_slices_Concat_int_int hs u) (fun s => rec0 (s.sl 6) (s.sl 25) (s.sl 26) (s.sl 27) s.m s.fc) (setE 2 (fun s => B_slices_Concat_int_int_0 call hs u (s.sl 6) s.m s.fc) eNil) r_slices_Concat_int_int = (fun s => B_slices_Concat_int_int_1 call hs u rec0 (s.sl 6) (s.sl 25) (s.sl 26) (s.sl 27) s.m s.fc) := by
  kernel_rfl
theorem q_L_slices_Concat_int_int_0 (call : FCall) (hs : FHs) (u : Nat) : ∀ n : Nat,
  iter (fun rec => fxK Try.prog pol NN call c_slices_Concat_int_int_14 (AV × Mem) (k_slices_Concat_int_int hs u) rec (setE 2 (fun s => B_slices_Concat_int_int_0 call hs u (s.sl 6) s.m s.fc) eNil) r_slices_Concat_int_int) n = (fun s => L_slices_Concat_int_int_0 call hs u n (s.sl 6) (s.sl 25) (s.sl 26) (s.sl 27) s.m s.fc)
  | 0 => rfl
  | n + 1 => by rw [iter_succ, q_L_slices_Concat_int_int_0 call hs u n, q_slices_Concat_int_int_14 call hs u (L_slices_Concat_int_int_0 call hs u n)]; kernel_rfl
theorem q_slices_Concat_int_int_13 (call : FCall) (hs : FHs) (u : Nat) :
  fxK Try.prog pol NN call c_slices_Concat_int_int_13 (AV × Mem) (k_slices_Concat_int_int hs u) (fun s => B_slices_Concat_int_int_0 call hs u (s.sl 6) s.m s.fc) (setE 2 (fun s => B_slices_Concat_int_int_0 call hs u (s.sl 6) s.m s.fc) eNil) r_slices_Concat_int_int = (fun s => L_slices_Concat_int_int_0 call hs u NN (s.sl 6) (s.sl 25) (s.sl 26) (s.sl 27) s.m s.fc) := by
  rw [show c_slices_Concat_int_int_13 = .loop c_slices_Concat_int_int_14 from by kernel_rfl, loop_r, q_L_slices_Concat_int_int_0 call hs u NN]
theorem q_slices_Concat_int_int_12 (call : FCall) (hs : FHs) (u : Nat) :
  fxK Try.prog pol NN call c_slices_Concat_int_int_12 (AV × Mem) (k_slices_Concat_int_int hs u) (fun s => B_slices_Concat_int_int_0 call hs u (s.sl 6) s.m s.fc) eNil r_slices_Concat_int_int = (fun s => L_slices_Concat_int_int_0 call hs u NN (s.sl 6) (s.sl 25) (s.sl 26) (s.sl 27) s.m s.fc) := by
  rw [show c_slices_Concat_int_int_12 = .block 2 c_slices_Concat_int_int_13 from by kernel_rfl, block_r, q_slices_Concat_int_int_13 call hs u]
theorem q_slices_Concat_int_int_9 (call : FCall) (hs : FHs) (u : Nat) :
  fxK Try.prog pol NN call c_slices_Concat_int_int_9 (AV × Mem) (k_slices_Concat_int_int hs u) (fun s => B_slices_Concat_int_int_0 call hs u (s.sl 6) s.m s.fc) eNil r_slices_Concat_int_int = (fun s => B_slices_Concat_int_int_2 call hs u (s.sl 0) (s.sl 6) s.m s.fc) := by
  rw [show c_slices_Concat_int_int_9 = .seq c_slices_Concat_int_int_11 c_slices_Concat_int_int_12 from by kernel_rfl, seq_r]; rw [q_slices_Concat_int_int_12 call hs u]; kernel_rfl
theorem q_slices_Concat_int_int_8 (call : FCall) (hs : FHs) (u : Nat) :
  fxK Try.prog pol NN call c_slices_Concat_int_int_8 (AV × Mem) (k_slices_Concat_int_int hs u) r_slices_Concat_int_int eNil r_slices_Concat_int_int = (fun s => B_slices_Concat_int_int_2 call hs u (s.sl 0) (s.sl 6) s.m s.fc) := by
  rw [show c_slices_Concat_int_int_8 = .seq c_slices_Concat_int_int_9 c_slices_Concat_int_int_10 from by kernel_rfl, seq_r, q_slices_Concat_int_int_10 call hs u, q_slices_Concat_int_int_9 call hs u]
theorem q_slices_Concat_int_int_6 (call : FCall) (hs : FHs) (u : Nat) :
  fxK Try.prog pol NN call c_slices_Concat_int_int_6 (AV × Mem) (k_slices_Concat_int_int hs u) r_slices_Concat_int_int eNil r_slices_Concat_int_int = (fun s => B_slices_Concat_int_int_3 call hs u (s.sl 0) (s.sl 3) s.m s.fc) := by
  rw [show c_slices_Concat_int_int_6 = .seq c_slices_Concat_int_int_7 c_slices_Concat_int_int_8 from by kernel_rfl, seq_r]; rw [q_slices_Concat_int_int_8 call hs u]; kernel_rfl
theorem q_slices_Concat_int_int_24 (call : FCall) (hs : FHs) (u : Nat) (rec1 : AV → AV → AV → AV → AV → Mem → Nat → Option (AV × Mem)) :
  fxK Try.prog pol NN call c_slices_Concat_int_int_24 (AV × Mem) (k_slices_Concat_int_int hs u) (fun s => rec1 (s.sl 0) (s.sl 3) (s.sl 9) (s.sl 10) (s.sl 11) s.m s.fc) (setE 0 (fun s => B_slices_Concat_int_int_3 call hs u (s.sl 0) (s.sl 3) s.m s.fc) eNil) r_slices_Concat_int_int = (fun s => B_slices_Concat_int_int_4 call hs u rec1 (s.sl 0) (s.sl 3) (s.sl 9) (s.sl 10) (s.sl 11) s.m s.fc) := by
  kernel_rfl
theorem q_slices_Concat_int_int_23 (call : FCall) (hs : FHs) (u : Nat) (rec1 : AV → AV → AV → AV → AV → Mem → Nat → Option (AV × Mem)) :
  fxK Try.prog pol NN call c_slices_Concat_int_int_23 (AV × Mem) (k_slices_Concat_int_int hs u) (fun s => B_slices_Concat_int_int_4 call hs u rec1 (s.sl 0) (s.sl 3) (s.sl 9) (s.sl 10) (s.sl 11) s.m s.fc) (setE 0 (fun s => B_slices_Concat_int_int_3 call hs u (s.sl 0) (s.sl 3) s.m s.fc) eNil) r_slices_Concat_int_int = (fun s => B_slices_Concat_int_int_5 call hs u rec1 (s.sl 0) (s.sl 3) (s.sl 9) (s.sl 10) (s.sl 11) s.m s.fc) := by
  kernel_rfl
theorem q_slices_Concat_int_int_22 (call : FCall) (hs : FHs) (u : Nat) (rec1 : AV → AV → AV → AV → AV → Mem → Nat → Option (AV × Mem)) :
  fxK Try.prog pol NN call c_slices_Concat_int_int_22 (AV × Mem) (k_slices_Concat_int_int hs u) (fun s => rec1 (s.sl 0) (s.sl 3) (s.sl 9) (s.sl 10) (s.sl 11) s.m s.fc) (setE 0 (fun s => B_slices_Concat_int_int_3 call hs u (s.sl 0) (s.sl 3) s.m s.fc) eNil) r_slices_Concat_int_int = (fun s => B_slices_Concat_int_int_5 call hs u rec1 (s.sl 0) (s.sl 3) (s.sl 9) (s.sl 10) (s.sl 11) s.m s.fc) := by
  rw [show c_slices_Concat_int_int_22 = .seq c_slices_Concat_int_int_23 c_slices_Concat_int_int_24 from by kernel_rfl, seq_r, q_slices_Concat_int_int_24 call hs u rec1, q_slices_Concat_int_int_23 call hs u rec1]
theorem q_slices_Concat_int_int_18 (call : FCall) (hs : FHs) (u : Nat) (rec1 : AV → AV → AV → AV → AV → Mem → Nat → Option (AV × Mem)) :
  fxK Try.prog pol NN call c_slices_Concat_int_int_18 (AV × Mem) (k_slices_Concat_int_int hs u) (fun s => rec1 (s.sl 0) (s.sl 3) (s.sl 9) (s.sl 10) (s.sl 11) s.m s.fc) (setE 0 (fun s => B_slices_Concat_int_int_3 call hs u (s.sl 0) (s.sl 3) s.m s.fc) eNil) r_slices_Concat_int_int = (fun s => B_slices_Concat_int_int_6 call hs u rec1 (s.sl 0) (s.sl 3) (s.sl 9) (s.sl 10) (s.sl 11) s.m s.fc) := by
  rw [show c_slices_Concat_int_int_18 = .seq c_slices_Concat_int_int_19 c_slices_Concat_int_int_20 from by kernel_rfl, seq_r]; rw [show c_slices_Concat_int_int_20 = .seq c_slices_Concat_int_int_21 c_slices_Concat_int_int_22 from by kernel_rfl, seq_r]; rw [q_slices_Concat_int_int_22 call hs u rec1]; kernel_rfl
theorem q_L_slices_Concat_int_int_1 (call : FCall) (hs : FHs) (u : Nat) : ∀ n : Nat,
  iter (fun rec => fxK Try.prog pol NN call c_slices_Concat_int_int_18 (AV × Mem) (k_slices_Concat_int_int hs u) rec (setE 0 (fun s => B_slices_Concat_int_int_3 call hs u (s.sl 0) (s.sl 3) s.m s.fc) eNil) r_slices_Concat_int_int) n = (fun s => L_slices_Concat_int_int_1 call hs u n (s.sl 0) (s.sl 3) (s.sl 9) (s.sl 10) (s.sl 11) s.m s.fc)
  | 0 => rfl
  | n + 1 => by rw [iter_succ, q_L_slices_Concat_int_int_1 call hs u n, q_slices_Concat_int_int_18 call hs u (L_slices_Concat_int_int_1 call hs u n)]; kernel_rfl
theorem q_slices_Concat_int_int_17 (call : FCall) (hs : FHs) (u : Nat) :
  fxK Try.prog pol NN call c_slices_Concat_int_int_17 (AV × Mem) (k_slices_Concat_int_int hs u) (fun s => B_slices_Concat_int_int_3 call hs u (s.sl 0) (s.sl 3) s.m s.fc) (setE 0 (fun s => B_slices_Concat_int_int_3 call hs u (s.sl 0) (s.sl 3) s.m s.fc) eNil) r_slices_Concat_int_int = (fun s => L_slices_Concat_int_int_1 call hs u NN (s.sl 0) (s.sl 3) (s.sl 9) (s.sl 10) (s.sl 11) s.m s.fc) := by
  rw [show c_slices_Concat_int_int_17 = .loop c_slices_Concat_int_int_18 from by kernel_rfl, loop_r, q_L_slices_Concat_int_int_1 call hs u NN]
theorem q_slices_Concat_int_int_16 (call : FCall) (hs : FHs) (u : Nat) :
  fxK Try.prog pol NN call c_slices_Concat_int_int_16 (AV × Mem) (k_slices_Concat_int_int hs u) (fun s => B_slices_Concat_int_int_3 call hs u (s.sl 0) (s.sl 3) s.m s.fc) eNil r_slices_Concat_int_int = (fun s => L_slices_Concat_int_int_1 call hs u NN (s.sl 0) (s.sl 3) (s.sl 9) (s.sl 10) (s.sl 11) s.m s.fc) := by
  rw [show c_slices_Concat_int_int_16 = .block 0 c_slices_Concat_int_int_17 from by kernel_rfl, block_r, q_slices_Concat_int_int_17 call hs u]
theorem q_slices_Concat_int_int_5 (call : FCall) (hs : FHs) (u : Nat) :
  fxK Try.prog pol NN call c_slices_Concat_int_int_5 (AV × Mem) (k_slices_Concat_int_int hs u) (fun s => B_slices_Concat_int_int_3 call hs u (s.sl 0) (s.sl 3) s.m s.fc) eNil r_slices_Concat_int_int = (fun s => B_slices_Concat_int_int_7 call hs u (s.sl 0) (s.sl 3) s.m s.fc) := by
  rw [show c_slices_Concat_int_int_5 = .seq c_slices_Concat_int_int_15 c_slices_Concat_int_int_16 from by kernel_rfl, seq_r]; rw [q_slices_Concat_int_int_16 call hs u]; kernel_rfl
theorem q_slices_Concat_int_int_4 (call : FCall) (hs : FHs) (u : Nat) :
  fxK Try.prog pol NN call c_slices_Concat_int_int_4 (AV × Mem) (k_slices_Concat_int_int hs u) r_slices_Concat_int_int eNil r_slices_Concat_int_int = (fun s => B_slices_Concat_int_int_7 call hs u (s.sl 0) (s.sl 3) s.m s.fc) := by
  rw [show c_slices_Concat_int_int_4 = .seq c_slices_Concat_int_int_5 c_slices_Concat_int_int_6 from by kernel_rfl, seq_r, q_slices_Concat_int_int_6 call hs u, q_slices_Concat_int_int_5 call hs u]
theorem q_slices_Concat_int_int_0 (call : FCall) (hs : FHs) (u : Nat) :
  fxK Try.prog pol NN call c_slices_Concat_int_int_0 (AV × Mem) (k_slices_Concat_int_int hs u) r_slices_Concat_int_int eNil r_slices_Concat_int_int = (fun s => B_slices_Concat_int_int_8 call hs u (s.sl 0) s.m s.fc) := by
  rw [show c_slices_Concat_int_int_0 = .seq c_slices_Concat_int_int_1 c_slices_Concat_int_int_2 from by kernel_rfl, seq_r]; rw [show c_slices_Concat_int_int_2 = .seq c_slices_Concat_int_int_3 c_slices_Concat_int_int_4 from by kernel_rfl, seq_r]; rw [q_slices_Concat_int_int_4 call hs u]; kernel_rfl
theorem F_slices_Concat_int_int_eq (call : FCall) (hs : FHs) (t0 : AV) (m : Mem) : fxBody Try.prog pol NN call hs n_slices_Concat_int_int [t0] m = F_slices_Concat_int_int call hs [t0] m := by
  rw [fxBody_at (fn := Try.f75) (body := c_slices_Concat_int_int_0) (nt := 36) (rs := [.tmp 2]) (by kernel_rfl) (by kernel_rfl) (by kernel_rfl) (by kernel_rfl) (by kernel_rfl) (by kernel_rfl)]
  exact (congrFun (q_slices_Concat_int_int_0 call hs m.next) _).trans (by kernel_rfl)
theorem F_slices_Concat_int_int_le (call : FCall) (hs : FHs) (args : List AV) (m : Mem) (r : AV × Mem) (h : F_slices_Concat_int_int call hs args m = some r) : fxBody Try.prog pol NN call hs n_slices_Concat_int_int args m = some r := by
  unfold F_slices_Concat_int_int at h
  split at h
  · rw [F_slices_Concat_int_int_eq]; exact h
  · cases h

/- swath/unwrap.isWeight -/
abbrev k_unwrap_isWeight (hs : FHs) (u : Nat) : FCtx := { f := n_unwrap_isWeight, u := u, nt := 5, hs := hs }
noncomputable abbrev r_unwrap_isWeight : Fs → Option (AV × Mem) := fxRes Try.prog [.tmp 2]
noncomputable def c_unwrap_isWeight_0 : Code := nav (bodyOf n_unwrap_isWeight) []
theorem q_unwrap_isWeight_0 (call : FCall) (hs : FHs) (u : Nat) :
  fxK Try.prog pol NN call c_unwrap_isWeight_0 (AV × Mem) (k_unwrap_isWeight hs u) r_unwrap_isWeight eNil r_unwrap_isWeight = (fun s => B_unwrap_isWeight_0 call hs u (s.sl 0) s.m s.fc) := by
  kernel_rfl
theorem F_unwrap_isWeight_eq (call : FCall) (hs : FHs) (t0 : AV) (m : Mem) : fxBody Try.prog pol NN call hs n_unwrap_isWeight [t0] m = F_unwrap_isWeight call hs [t0] m := by
  rw [fxBody_at (fn := Try.f76) (body := c_unwrap_isWeight_0) (nt := 5) (rs := [.tmp 2]) (by kernel_rfl) (by kernel_rfl) (by kernel_rfl) (by kernel_rfl) (by kernel_rfl) (by kernel_rfl)]
  exact (congrFun (q_unwrap_isWeight_0 call hs m.next) _).trans (by kernel_rfl)
theorem F_unwrap_isWeight_le (call : FCall) (hs : FHs) (args : List AV) (m : Mem) (r : AV × Mem) (h : F_unwrap_isWeight call hs args m = some r) : fxBody Try.prog pol NN call hs n_unwrap_isWeight args m = some r := by
  unfold F_unwrap_isWeight at h
  split at h
  · rw [F_unwrap_isWeight_eq]; exact h
  · cases h

/- swath/unwrap.within -/
abbrev k_unwrap_within (hs : FHs) (u : Nat) : FCtx := { f := n_unwrap_within, u := u, nt := 15, hs := hs }
noncomputable abbrev r_unwrap_within : Fs → Option (AV × Mem) := fxRes Try.prog [.tmp 6]
noncomputable def c_unwrap_within_0 : Code := nav (bodyOf n_unwrap_within) []
theorem q_unwrap_within_0 (call : FCall) (hs : FHs) (u : Nat) :
  fxK Try.prog pol NN call c_unwrap_within_0 (AV × Mem) (k_unwrap_within hs u) r_unwrap_within eNil r_unwrap_within = (fun s => B_unwrap_within_0 call hs u (s.sl 0) (s.sl 1) (s.sl 2) s.m s.fc) := by
  kernel_rfl
theorem F_unwrap_within_eq (call : FCall) (hs : FHs) (t0 t1 t2 : AV) (m : Mem) : fxBody Try.prog pol NN call hs n_unwrap_within [t0, t1, t2] m = F_unwrap_within call hs [t0, t1, t2] m := by
  rw [fxBody_at (fn := Try.f78) (body := c_unwrap_within_0) (nt := 15) (rs := [.tmp 6]) (by kernel_rfl) (by kernel_rfl) (by kernel_rfl) (by kernel_rfl) (by kernel_rfl) (by kernel_rfl)]
  exact (congrFun (q_unwrap_within_0 call hs m.next) _).trans (by kernel_rfl)
theorem F_unwrap_within_le (call : FCall) (hs : FHs) (args : List AV) (m : Mem) (r : AV × Mem) (h : F_unwrap_within call hs args m = some r) : fxBody Try.prog pol NN call hs n_unwrap_within args m = some r := by
  unfold F_unwrap_within at h
  split at h
  · rw [F_unwrap_within_eq]; exact h
  · cases h

/- (swath/unwrap.net).parts -/
abbrev k_unwrap_net_parts (hs : FHs) (u : Nat) : FCtx := { f := n_unwrap_net_parts, u := u, nt := 53, hs := hs }
noncomputable abbrev r_unwrap_net_parts : Fs → Option (AV × Mem) := fxRes Try.prog [.tmp 2]
noncomputable def c_unwrap_net_parts_0 : Code := nav (bodyOf n_unwrap_net_parts) []
noncomputable def c_unwrap_net_parts_1 : Code := nav (bodyOf n_unwrap_net_parts) [false]
noncomputable def c_unwrap_net_parts_2 : Code := nav (bodyOf n_unwrap_net_parts) [true]
noncomputable def c_unwrap_net_parts_3 : Code := nav (bodyOf n_unwrap_net_parts) [true, false]
noncomputable def c_unwrap_net_parts_4 : Code := nav (bodyOf n_unwrap_net_parts) [true, true]
noncomputable def c_unwrap_net_parts_5 : Code := nav (bodyOf n_unwrap_net_parts) [true, true, false]
noncomputable def c_unwrap_net_parts_6 : Code := nav (bodyOf n_unwrap_net_parts) [true, true, true]
noncomputable def c_unwrap_net_parts_7 : Code := nav (bodyOf n_unwrap_net_parts) [true, true, false, false]
noncomputable def c_unwrap_net_parts_8 : Code := nav (bodyOf n_unwrap_net_parts) [true, true, false, true]
noncomputable def c_unwrap_net_parts_9 : Code := nav (bodyOf n_unwrap_net_parts) [true, true, false, true, false]
noncomputable def c_unwrap_net_parts_10 : Code := nav (bodyOf n_unwrap_net_parts) [true, true, false, true, false, false]
noncomputable def c_unwrap_net_parts_11 : Code := nav (bodyOf n_unwrap_net_parts) [true, true, false, true, false, false, false]
noncomputable def c_unwrap_net_parts_12 : Code := nav (bodyOf n_unwrap_net_parts) [true, true, false, true, false, false, true]
noncomputable def c_unwrap_net_parts_13 : Code := nav (bodyOf n_unwrap_net_parts) [true, true, false, true, false, false, true, false]
noncomputable def c_unwrap_net_parts_14 : Code := nav (bodyOf n_unwrap_net_parts) [true, true, false, true, false, false, true, true]
noncomputable def c_unwrap_net_parts_15 : Code := nav (bodyOf n_unwrap_net_parts) [true, true, false, true, false, false, true, true, false]
noncomputable def c_unwrap_net_parts_16 : Code := nav (bodyOf n_unwrap_net_parts) [true, true, false, true, false, false, true, true, true]
theorem q_unwrap_net_parts_6 (call : FCall) (hs : FHs) (u : Nat) :
  fxK Try.prog pol NN call c_unwrap_net_parts_6 (AV × Mem) (k_unwrap_net_parts hs u) r_unwrap_net_parts eNil r_unwrap_net_parts = (fun s => B_unwrap_net_parts_0 call hs u (s.sl 1) (s.sl 3) s.m s.fc) := by
  kernel_rfl
theorem q_unwrap_net_parts_16 (call : FCall) (hs : FHs) (u : Nat) (rec0 : AV → AV → AV → AV → AV → Mem → Nat → Option (AV × Mem)) :
  fxK Try.prog pol NN call c_unwrap_net_parts_16 (AV × Mem) (k_unwrap_net_parts hs u) (fun s => rec0 (s.sl 1) (s.sl 3) (s.sl 12) (s.sl 13) (s.sl 14) s.m s.fc) (setE 0 (fun s => B_unwrap_net_parts_0 call hs u (s.sl 1) (s.sl 3) s.m s.fc) eNil) r_unwrap_net_parts = (fun s => B_unwrap_net_parts_1 call hs u rec0 (s.sl 1) (s.sl 3) (s.sl 12) (s.sl 13) (s.sl 14) s.m s.fc) := by
  kernel_rfl
theorem q_unwrap_net_parts_15 (call : FCall) (hs : FHs) (u : Nat) (rec0 : AV → AV → AV → AV → AV → Mem → Nat → Option (AV × Mem)) :
  fxK Try.prog pol NN call c_unwrap_net_parts_15 (AV × Mem) (k_unwrap_net_parts hs u) (fun s => B_unwrap_net_parts_1 call hs u rec0 (s.sl 1) (s.sl 3) (s.sl 12) (s.sl 13) (s.sl 14) s.m s.fc) (setE 0 (fun s => B_unwrap_net_parts_0 call hs u (s.sl 1) (s.sl 3) s.m s.fc) eNil) r_unwrap_net_parts = (fun s => B_unwrap_net_parts_2 call hs u rec0 (s.sl 1) (s.sl 3) (s.sl 12) (s.sl 13) (s.sl 14) s.m s.fc) := by
  kernel_rfl
theorem q_unwrap_net_parts_14 (call : FCall) (hs : FHs) (u : Nat) (rec0 : AV → AV → AV → AV → AV → Mem → Nat → Option (AV × Mem)) :
  fxK Try.prog pol NN call c_unwrap_net_parts_14 (AV × Mem) (k_unwrap_net_parts hs u) (fun s => rec0 (s.sl 1) (s.sl 3) (s.sl 12) (s.sl 13) (s.sl 14) s.m s.fc) (setE 0 (fun s => B_unwrap_net_parts_0 call hs u (s.sl 1) (s.sl 3) s.m s.fc) eNil) r_unwrap_net_parts = (fun s => B_unwrap_net_parts_2 call hs u rec0 (s.sl 1) (s.sl 3) (s.sl 12) (s.sl 13) (s.sl 14) s.m s.fc) := by
  rw [show c_unwrap_net_parts_14 = .seq c_unwrap_net_parts_15 c_unwrap_net_parts_16 from by kernel_rfl, seq_r, q_unwrap_net_parts_16 call hs u rec0, q_unwrap_net_parts_15 call hs u rec0]
theorem q_unwrap_net_parts_10 (call : FCall) (hs : FHs) (u : Nat) (rec0 : AV → AV → AV → AV → AV → Mem → Nat → Option (AV × Mem)) :
  fxK Try.prog pol NN call c_unwrap_net_parts_10 (AV × Mem) (k_unwrap_net_parts hs u) (fun s => rec0 (s.sl 1) (s.sl 3) (s.sl 12) (s.sl 13) (s.sl 14) s.m s.fc) (setE 0 (fun s => B_unwrap_net_parts_0 call hs u (s.sl 1) (s.sl 3) s.m s.fc) eNil) r_unwrap_net_parts = (fun s => B_unwrap_net_parts_3 call hs u rec0 (s.sl 1) (s.sl 3) (s.sl 12) (s.sl 13) (s.sl 14) s.m s.fc) := by
  rw [show c_unwrap_net_parts_10 = .seq c_unwrap_net_parts_11 c_unwrap_net_parts_12 from by kernel_rfl, seq_r]; rw [show c_unwrap_net_parts_12 = .seq c_unwrap_net_parts_13 c_unwrap_net_parts_14 from by kernel_rfl, seq_r]; rw [q_unwrap_net_parts_14 call hs u rec0]; kernel_rfl
theorem q_L_unwrap_net_parts_0 (call : FCall) (hs : FHs) (u : Nat) : ∀ n : Nat,
  iter (fun rec => fxK Try.prog pol NN call c_unwrap_net_parts_10 (AV × Mem) (k_unwrap_net_parts hs u) rec (setE 0 (fun s => B_unwrap_net_parts_0 call hs u (s.sl 1) (s.sl 3) s.m s.fc) eNil) r_unwrap_net_parts) n = (fun s => L_unwrap_net_parts_0 call hs u n (s.sl 1) (s.sl 3) (s.sl 12) (s.sl 13) (s.sl 14) s.m s.fc)
  | 0 => rfl
  | n + 1 => by rw [iter_succ, q_L_unwrap_net_parts_0 call hs u n, q_unwrap_net_parts_10 call hs u (L_unwrap_net_parts_0 call hs u n)]; kernel_rfl
theorem q_unwrap_net_parts_9 (call : FCall) (hs : FHs) (u : Nat) :
  fxK Try.prog pol NN call c_unwrap_net_parts_9 (AV × Mem) (k_unwrap_net_parts hs u) (fun s => B_unwrap_net_parts_0 call hs u (s.sl 1) (s.sl 3) s.m s.fc) (setE 0 (fun s => B_unwrap_net_parts_0 call hs u (s.sl 1) (s.sl 3) s.m s.fc) eNil) r_unwrap_net_parts = (fun s => L_unwrap_net_parts_0 call hs u NN (s.sl 1) (s.sl 3) (s.sl 12) (s.sl 13) (s.sl 14) s.m s.fc) := by
  rw [show c_unwrap_net_parts_9 = .loop c_unwrap_net_parts_10 from by kernel_rfl, loop_r, q_L_unwrap_net_parts_0 call hs u NN]
theorem q_unwrap_net_parts_8 (call : FCall) (hs : FHs) (u : Nat) :
  fxK Try.prog pol NN call c_unwrap_net_parts_8 (AV × Mem) (k_unwrap_net_parts hs u) (fun s => B_unwrap_net_parts_0 call hs u (s.sl 1) (s.sl 3) s.m s.fc) eNil r_unwrap_net_parts = (fun s => L_unwrap_net_parts_0 call hs u NN (s.sl 1) (s.sl 3) (s.sl 12) (s.sl 13) (s.sl 14) s.m s.fc) := by
  rw [show c_unwrap_net_parts_8 = .block 0 c_unwrap_net_parts_9 from by kernel_rfl, block_r, q_unwrap_net_parts_9 call hs u]
theorem q_unwrap_net_parts_5 (call : FCall) (hs : FHs) (u : Nat) :
  fxK Try.prog pol NN call c_unwrap_net_parts_5 (AV × Mem) (k_unwrap_net_parts hs u) (fun s => B_unwrap_net_parts_0 call hs u (s.sl 1) (s.sl 3) s.m s.fc) eNil r_unwrap_net_parts = (fun s => B_unwrap_net_parts_4 call hs u (s.sl 1) (s.sl 3) s.m s.fc) := by
  rw [show c_unwrap_net_parts_5 = .seq c_unwrap_net_parts_7 c_unwrap_net_parts_8 from by kernel_rfl, seq_r]; rw [q_unwrap_net_parts_8 call hs u]; kernel_rfl
theorem q_unwrap_net_parts_4 (call : FCall) (hs : FHs) (u : Nat) :
  fxK Try.prog pol NN call c_unwrap_net_parts_4 (AV × Mem) (k_unwrap_net_parts hs u) r_unwrap_net_parts eNil r_unwrap_net_parts = (fun s => B_unwrap_net_parts_4 call hs u (s.sl 1) (s.sl 3) s.m s.fc) := by
  rw [show c_unwrap_net_parts_4 = .seq c_unwrap_net_parts_5 c_unwrap_net_parts_6 from by kernel_rfl, seq_r, q_unwrap_net_parts_6 call hs u, q_unwrap_net_parts_5 call hs u]
theorem q_unwrap_net_parts_0 (call : FCall) (hs : FHs) (u : Nat) :
  fxK Try.prog pol NN call c_unwrap_net_parts_0 (AV × Mem) (k_unwrap_net_parts hs u) r_unwrap_net_parts eNil r_unwrap_net_parts = (fun s => B_unwrap_net_parts_5 call hs u (s.sl 0) s.m s.fc) := by
  rw [show c_unwrap_net_parts_0 = .seq c_unwrap_net_parts_1 c_unwrap_net_parts_2 from by kernel_rfl, seq_r]; rw [show c_unwrap_net_parts_2 = .seq c_unwrap_net_parts_3 c_unwrap_net_parts_4 from by kernel_rfl, seq_r]; rw [q_unwrap_net_parts_4 call hs u]; kernel_rfl
theorem F_unwrap_net_parts_eq (call : FCall) (hs : FHs) (t0 : AV) (m : Mem) : fxBody Try.prog pol NN call hs n_unwrap_net_parts [t0] m = F_unwrap_net_parts call hs [t0] m := by
  rw [fxBody_at (fn := Try.f79) (body := c_unwrap_net_parts_0) (nt := 53) (rs := [.tmp 2]) (by kernel_rfl) (by kernel_rfl) (by kernel_rfl) (by kernel_rfl) (by kernel_rfl) (by kernel_rfl)]
  exact (congrFun (q_unwrap_net_parts_0 call hs m.next) _).trans (by kernel_rfl)
theorem F_unwrap_net_parts_le (call : FCall) (hs : FHs) (args : List AV) (m : Mem) (r : AV × Mem) (h : F_unwrap_net_parts call hs args m = some r) : fxBody Try.prog pol NN call hs n_unwrap_net_parts args m = some r := by
  unfold F_unwrap_net_parts at h
  split at h
  · rw [F_unwrap_net_parts_eq]; exact h
  · cases h

/- (*swath/unwrap.solver).most -/
abbrev k_unwrap_solver_most (hs : FHs) (u : Nat) : FCtx := { f := n_unwrap_solver_most, u := u, nt := 47, hs := hs }
noncomputable abbrev r_unwrap_solver_most : Fs → Option (AV × Mem) := fxRes Try.prog [.tmp 4]
noncomputable def c_unwrap_solver_most_0 : Code := nav (bodyOf n_unwrap_solver_most) []
noncomputable def c_unwrap_solver_most_1 : Code := nav (bodyOf n_unwrap_solver_most) [false]
noncomputable def c_unwrap_solver_most_2 : Code := nav (bodyOf n_unwrap_solver_most) [true]
noncomputable def c_unwrap_solver_most_3 : Code := nav (bodyOf n_unwrap_solver_most) [true, false]
noncomputable def c_unwrap_solver_most_4 : Code := nav (bodyOf n_unwrap_solver_most) [true, true]
noncomputable def c_unwrap_solver_most_5 : Code := nav (bodyOf n_unwrap_solver_most) [true, true, false]
noncomputable def c_unwrap_solver_most_6 : Code := nav (bodyOf n_unwrap_solver_most) [true, true, true]
noncomputable def c_unwrap_solver_most_7 : Code := nav (bodyOf n_unwrap_solver_most) [true, true, false, false]
noncomputable def c_unwrap_solver_most_8 : Code := nav (bodyOf n_unwrap_solver_most) [true, true, false, true]
noncomputable def c_unwrap_solver_most_9 : Code := nav (bodyOf n_unwrap_solver_most) [true, true, false, true, false]
noncomputable def c_unwrap_solver_most_10 : Code := nav (bodyOf n_unwrap_solver_most) [true, true, false, true, false, false]
noncomputable def c_unwrap_solver_most_11 : Code := nav (bodyOf n_unwrap_solver_most) [true, true, false, true, false, false, false]
noncomputable def c_unwrap_solver_most_12 : Code := nav (bodyOf n_unwrap_solver_most) [true, true, false, true, false, false, true]
noncomputable def c_unwrap_solver_most_13 : Code := nav (bodyOf n_unwrap_solver_most) [true, true, false, true, false, false, true, false]
noncomputable def c_unwrap_solver_most_14 : Code := nav (bodyOf n_unwrap_solver_most) [true, true, false, true, false, false, true, true]
noncomputable def c_unwrap_solver_most_15 : Code := nav (bodyOf n_unwrap_solver_most) [true, true, false, true, false, false, true, true, false]
noncomputable def c_unwrap_solver_most_16 : Code := nav (bodyOf n_unwrap_solver_most) [true, true, false, true, false, false, true, true, true]
theorem q_unwrap_solver_most_6 (call : FCall) (hs : FHs) (u : Nat) :
  fxK Try.prog pol NN call c_unwrap_solver_most_6 (AV × Mem) (k_unwrap_solver_most hs u) r_unwrap_solver_most eNil r_unwrap_solver_most = (fun s => B_unwrap_solver_most_0 call hs u (s.sl 5) s.m s.fc) := by
  kernel_rfl
theorem q_unwrap_solver_most_16 (call : FCall) (hs : FHs) (u : Nat) (rec0 : AV → AV → AV → AV → AV → Mem → Nat → Option (AV × Mem)) :
  fxK Try.prog pol NN call c_unwrap_solver_most_16 (AV × Mem) (k_unwrap_solver_most hs u) (fun s => rec0 (s.sl 0) (s.sl 1) (s.sl 5) (s.sl 12) (s.sl 13) s.m s.fc) (setE 0 (fun s => B_unwrap_solver_most_0 call hs u (s.sl 5) s.m s.fc) eNil) r_unwrap_solver_most = (fun s => B_unwrap_solver_most_1 call hs u rec0 (s.sl 0) (s.sl 1) (s.sl 5) (s.sl 12) (s.sl 13) s.m s.fc) := by
  kernel_rfl
theorem q_unwrap_solver_most_15 (call : FCall) (hs : FHs) (u : Nat) (rec0 : AV → AV → AV → AV → AV → Mem → Nat → Option (AV × Mem)) :
  fxK Try.prog pol NN call c_unwrap_solver_most_15 (AV × Mem) (k_unwrap_solver_most hs u) (fun s => B_unwrap_solver_most_1 call hs u rec0 (s.sl 0) (s.sl 1) (s.sl 5) (s.sl 12) (s.sl 13) s.m s.fc) (setE 0 (fun s => B_unwrap_solver_most_0 call hs u (s.sl 5) s.m s.fc) eNil) r_unwrap_solver_most = (fun s => B_unwrap_solver_most_2 call hs u rec0 (s.sl 0) (s.sl 1) (s.sl 5) (s.sl 12) (s.sl 13) s.m s.fc) := by
  kernel_rfl
theorem q_unwrap_solver_most_14 (call : FCall) (hs : FHs) (u : Nat) (rec0 : AV → AV → AV → AV → AV → Mem → Nat → Option (AV × Mem)) :
  fxK Try.prog pol NN call c_unwrap_solver_most_14 (AV × Mem) (k_unwrap_solver_most hs u) (fun s => rec0 (s.sl 0) (s.sl 1) (s.sl 5) (s.sl 12) (s.sl 13) s.m s.fc) (setE 0 (fun s => B_unwrap_solver_most_0 call hs u (s.sl 5) s.m s.fc) eNil) r_unwrap_solver_most = (fun s => B_unwrap_solver_most_2 call hs u rec0 (s.sl 0) (s.sl 1) (s.sl 5) (s.sl 12) (s.sl 13) s.m s.fc) := by
  rw [show c_unwrap_solver_most_14 = .seq c_unwrap_solver_most_15 c_unwrap_solver_most_16 from by kernel_rfl, seq_r, q_unwrap_solver_most_16 call hs u rec0, q_unwrap_solver_most_15 call hs u rec0]
theorem q_unwrap_solver_most_10 (call : FCall) (hs : FHs) (u : Nat) (rec0 : AV → AV → AV → AV → AV → Mem → Nat → Option (AV × Mem)) :
  fxK Try.prog pol NN call c_unwrap_solver_most_10 (AV × Mem) (k_unwrap_solver_most hs u) (fun s => rec0 (s.sl 0) (s.sl 1) (s.sl 5) (s.sl 12) (s.sl 13) s.m s.fc) (setE 0 (fun s => B_unwrap_solver_most_0 call hs u (s.sl 5) s.m s.fc) eNil) r_unwrap_solver_most = (fun s => B_unwrap_solver_most_3 call hs u rec0 (s.sl 0) (s.sl 1) (s.sl 5) (s.sl 12) (s.sl 13) s.m s.fc) := by
  rw [show c_unwrap_solver_most_10 = .seq c_unwrap_solver_most_11 c_unwrap_solver_most_12 from by kernel_rfl, seq_r]; rw [show c_unwrap_solver_most_12 = .seq c_unwrap_solver_most_13 c_unwrap_solver_most_14 from by kernel_rfl, seq_r]; rw [q_unwrap_solver_most_14 call hs u rec0]; kernel_rfl
theorem q_L_unwrap_solver_most_0 (call : FCall) (hs : FHs) (u : Nat) : ∀ n : Nat,
  iter (fun rec => fxK Try.prog pol NN call c_unwrap_solver_most_10 (AV × Mem) (k_unwrap_solver_most hs u) rec (setE 0 (fun s => B_unwrap_solver_most_0 call hs u (s.sl 5) s.m s.fc) eNil) r_unwrap_solver_most) n = (fun s => L_unwrap_solver_most_0 call hs u n (s.sl 0) (s.sl 1) (s.sl 5) (s.sl 12) (s.sl 13) s.m s.fc)
  | 0 => rfl
  | n + 1 => by rw [iter_succ, q_L_unwrap_solver_most_0 call hs u n, q_unwrap_solver_most_10 call hs u (L_unwrap_solver_most_0 call hs u n)]; kernel_rfl
theorem q_unwrap_solver_most_9 (call : FCall) (hs : FHs) (u : Nat) :
  fxK Try.prog pol NN call c_unwrap_solver_most_9 (AV × Mem) (k_unwrap_solver_most hs u) (fun s => B_unwrap_solver_most_0 call hs u (s.sl 5) s.m s.fc) (setE 0 (fun s => B_unwrap_solver_most_0 call hs u (s.sl 5) s.m s.fc) eNil) r_unwrap_solver_most = (fun s => L_unwrap_solver_most_0 call hs u NN (s.sl 0) (s.sl 1) (s.sl 5) (s.sl 12) (s.sl 13) s.m s.fc) := by
  rw [show c_unwrap_solver_most_9 = .loop c_unwrap_solver_most_10 from by kernel_rfl, loop_r, q_L_unwrap_solver_most_0 call hs u NN]
theorem q_unwrap_solver_most_8 (call : FCall) (hs : FHs) (u : Nat) :
  fxK Try.prog pol NN call c_unwrap_solver_most_8 (AV × Mem) (k_unwrap_solver_most hs u) (fun s => B_unwrap_solver_most_0 call hs u (s.sl 5) s.m s.fc) eNil r_unwrap_solver_most = (fun s => L_unwrap_solver_most_0 call hs u NN (s.sl 0) (s.sl 1) (s.sl 5) (s.sl 12) (s.sl 13) s.m s.fc) := by
  rw [show c_unwrap_solver_most_8 = .block 0 c_unwrap_solver_most_9 from by kernel_rfl, block_r, q_unwrap_solver_most_9 call hs u]
theorem q_unwrap_solver_most_5 (call : FCall) (hs : FHs) (u : Nat) :
  fxK Try.prog pol NN call c_unwrap_solver_most_5 (AV × Mem) (k_unwrap_solver_most hs u) (fun s => B_unwrap_solver_most_0 call hs u (s.sl 5) s.m s.fc) eNil r_unwrap_solver_most = (fun s => B_unwrap_solver_most_4 call hs u (s.sl 0) (s.sl 1) (s.sl 5) s.m s.fc) := by
  rw [show c_unwrap_solver_most_5 = .seq c_unwrap_solver_most_7 c_unwrap_solver_most_8 from by kernel_rfl, seq_r]; rw [q_unwrap_solver_most_8 call hs u]; kernel_rfl
theorem q_unwrap_solver_most_4 (call : FCall) (hs : FHs) (u : Nat) :
  fxK Try.prog pol NN call c_unwrap_solver_most_4 (AV × Mem) (k_unwrap_solver_most hs u) r_unwrap_solver_most eNil r_unwrap_solver_most = (fun s => B_unwrap_solver_most_4 call hs u (s.sl 0) (s.sl 1) (s.sl 5) s.m s.fc) := by
  rw [show c_unwrap_solver_most_4 = .seq c_unwrap_solver_most_5 c_unwrap_solver_most_6 from by kernel_rfl, seq_r, q_unwrap_solver_most_6 call hs u, q_unwrap_solver_most_5 call hs u]
theorem q_unwrap_solver_most_0 (call : FCall) (hs : FHs) (u : Nat) :
  fxK Try.prog pol NN call c_unwrap_solver_most_0 (AV × Mem) (k_unwrap_solver_most hs u) r_unwrap_solver_most eNil r_unwrap_solver_most = (fun s => B_unwrap_solver_most_5 call hs u (s.sl 0) (s.sl 1) s.m s.fc) := by
  rw [show c_unwrap_solver_most_0 = .seq c_unwrap_solver_most_1 c_unwrap_solver_most_2 from by kernel_rfl, seq_r]; rw [show c_unwrap_solver_most_2 = .seq c_unwrap_solver_most_3 c_unwrap_solver_most_4 from by kernel_rfl, seq_r]; rw [q_unwrap_solver_most_4 call hs u]; kernel_rfl
theorem F_unwrap_solver_most_eq (call : FCall) (hs : FHs) (t0 t1 : AV) (m : Mem) : fxBody Try.prog pol NN call hs n_unwrap_solver_most [t0, t1] m = F_unwrap_solver_most call hs [t0, t1] m := by
  rw [fxBody_at (fn := Try.f80) (body := c_unwrap_solver_most_0) (nt := 47) (rs := [.tmp 4]) (by kernel_rfl) (by kernel_rfl) (by kernel_rfl) (by kernel_rfl) (by kernel_rfl) (by kernel_rfl)]
  exact (congrFun (q_unwrap_solver_most_0 call hs m.next) _).trans (by kernel_rfl)
theorem F_unwrap_solver_most_le (call : FCall) (hs : FHs) (args : List AV) (m : Mem) (r : AV × Mem) (h : F_unwrap_solver_most call hs args m = some r) : fxBody Try.prog pol NN call hs n_unwrap_solver_most args m = some r := by
  unfold F_unwrap_solver_most at h
  split at h
  · rw [F_unwrap_solver_most_eq]; exact h
  · cases h

/- (swath/unwrap.net).classes -/
abbrev k_unwrap_net_classes (hs : FHs) (u : Nat) : FCtx := { f := n_unwrap_net_classes, u := u, nt := 26, hs := hs }
noncomputable abbrev r_unwrap_net_classes : Fs → Option (AV × Mem) := fxRes Try.prog [.tmp 2]
noncomputable def c_unwrap_net_classes_0 : Code := nav (bodyOf n_unwrap_net_classes) []
noncomputable def c_unwrap_net_classes_1 : Code := nav (bodyOf n_unwrap_net_classes) [false]
noncomputable def c_unwrap_net_classes_2 : Code := nav (bodyOf n_unwrap_net_classes) [true]
noncomputable def c_unwrap_net_classes_3 : Code := nav (bodyOf n_unwrap_net_classes) [true, false]
noncomputable def c_unwrap_net_classes_4 : Code := nav (bodyOf n_unwrap_net_classes) [true, true]
noncomputable def c_unwrap_net_classes_5 : Code := nav (bodyOf n_unwrap_net_classes) [true, true, false]
noncomputable def c_unwrap_net_classes_6 : Code := nav (bodyOf n_unwrap_net_classes) [true, true, true]
noncomputable def c_unwrap_net_classes_7 : Code := nav (bodyOf n_unwrap_net_classes) [true, true, true, false]
noncomputable def c_unwrap_net_classes_8 : Code := nav (bodyOf n_unwrap_net_classes) [true, true, true, true]
noncomputable def c_unwrap_net_classes_9 : Code := nav (bodyOf n_unwrap_net_classes) [true, true, true, false, false]
noncomputable def c_unwrap_net_classes_10 : Code := nav (bodyOf n_unwrap_net_classes) [true, true, true, false, true]
noncomputable def c_unwrap_net_classes_11 : Code := nav (bodyOf n_unwrap_net_classes) [true, true, true, false, true, false]
noncomputable def c_unwrap_net_classes_12 : Code := nav (bodyOf n_unwrap_net_classes) [true, true, true, false, true, false, false]
theorem q_unwrap_net_classes_8 (call : FCall) (hs : FHs) (u : Nat) :
  fxK Try.prog pol NN call c_unwrap_net_classes_8 (AV × Mem) (k_unwrap_net_classes hs u) r_unwrap_net_classes eNil r_unwrap_net_classes = (fun s => B_unwrap_net_classes_0 call hs u (s.sl 1) (s.sl 4) s.m s.fc) := by
  kernel_rfl
theorem q_unwrap_net_classes_12 (call : FCall) (hs : FHs) (u : Nat) (rec0 : AV → AV → AV → AV → AV → Mem → Nat → Option (AV × Mem)) :
  fxK Try.prog pol NN call c_unwrap_net_classes_12 (AV × Mem) (k_unwrap_net_classes hs u) (fun s => rec0 (s.sl 1) (s.sl 3) (s.sl 4) (s.sl 10) (s.sl 11) s.m s.fc) (setE 0 (fun s => B_unwrap_net_classes_0 call hs u (s.sl 1) (s.sl 4) s.m s.fc) eNil) r_unwrap_net_classes = (fun s => B_unwrap_net_classes_1 call hs u rec0 (s.sl 1) (s.sl 3) (s.sl 4) (s.sl 10) (s.sl 11) s.m s.fc) := by
  kernel_rfl
theorem q_L_unwrap_net_classes_0 (call : FCall) (hs : FHs) (u : Nat) : ∀ n : Nat,
  iter (fun rec => fxK Try.prog pol NN call c_unwrap_net_classes_12 (AV × Mem) (k_unwrap_net_classes hs u) rec (setE 0 (fun s => B_unwrap_net_classes_0 call hs u (s.sl 1) (s.sl 4) s.m s.fc) eNil) r_unwrap_net_classes) n = (fun s => L_unwrap_net_classes_0 call hs u n (s.sl 1) (s.sl 3) (s.sl 4) (s.sl 10) (s.sl 11) s.m s.fc)
  | 0 => rfl
  | n + 1 => by rw [iter_succ, q_L_unwrap_net_classes_0 call hs u n, q_unwrap_net_classes_12 call hs u (L_unwrap_net_classes_0 call hs u n)]; kernel_rfl
theorem q_unwrap_net_classes_11 (call : FCall) (hs : FHs) (u : Nat) :
  fxK Try.prog pol NN call c_unwrap_net_classes_11 (AV × Mem) (k_unwrap_net_classes hs u) (fun s => B_unwrap_net_classes_0 call hs u (s.sl 1) (s.sl 4) s.m s.fc) (setE 0 (fun s => B_unwrap_net_classes_0 call hs u (s.sl 1) (s.sl 4) s.m s.fc) eNil) r_unwrap_net_classes = (fun s => L_unwrap_net_classes_0 call hs u NN (s.sl 1) (s.sl 3) (s.sl 4) (s.sl 10) (s.sl 11) s.m s.fc) := by
  rw [show c_unwrap_net_classes_11 = .loop c_unwrap_net_classes_12 from by kernel_rfl, loop_r, q_L_unwrap_net_classes_0 call hs u NN]
theorem q_unwrap_net_classes_10 (call : FCall) (hs : FHs) (u : Nat) :
  fxK Try.prog pol NN call c_unwrap_net_classes_10 (AV × Mem) (k_unwrap_net_classes hs u) (fun s => B_unwrap_net_classes_0 call hs u (s.sl 1) (s.sl 4) s.m s.fc) eNil r_unwrap_net_classes = (fun s => L_unwrap_net_classes_0 call hs u NN (s.sl 1) (s.sl 3) (s.sl 4) (s.sl 10) (s.sl 11) s.m s.fc) := by
  rw [show c_unwrap_net_classes_10 = .block 0 c_unwrap_net_classes_11 from by kernel_rfl, block_r, q_unwrap_net_classes_11 call hs u]
theorem q_unwrap_net_classes_7 (call : FCall) (hs : FHs) (u : Nat) :
  fxK Try.prog pol NN call c_unwrap_net_classes_7 (AV × Mem) (k_unwrap_net_classes hs u) (fun s => B_unwrap_net_classes_0 call hs u (s.sl 1) (s.sl 4) s.m s.fc) eNil r_unwrap_net_classes = (fun s => B_unwrap_net_classes_2 call hs u (s.sl 1) (s.sl 3) (s.sl 4) s.m s.fc) := by
  rw [show c_unwrap_net_classes_7 = .seq c_unwrap_net_classes_9 c_unwrap_net_classes_10 from by kernel_rfl, seq_r]; rw [q_unwrap_net_classes_10 call hs u]; kernel_rfl
theorem q_unwrap_net_classes_6 (call : FCall) (hs : FHs) (u : Nat) :
  fxK Try.prog pol NN call c_unwrap_net_classes_6 (AV × Mem) (k_unwrap_net_classes hs u) r_unwrap_net_classes eNil r_unwrap_net_classes = (fun s => B_unwrap_net_classes_2 call hs u (s.sl 1) (s.sl 3) (s.sl 4) s.m s.fc) := by
  rw [show c_unwrap_net_classes_6 = .seq c_unwrap_net_classes_7 c_unwrap_net_classes_8 from by kernel_rfl, seq_r, q_unwrap_net_classes_8 call hs u, q_unwrap_net_classes_7 call hs u]
theorem q_unwrap_net_classes_0 (call : FCall) (hs : FHs) (u : Nat) :
  fxK Try.prog pol NN call c_unwrap_net_classes_0 (AV × Mem) (k_unwrap_net_classes hs u) r_unwrap_net_classes eNil r_unwrap_net_classes = (fun s => B_unwrap_net_classes_3 call hs u (s.sl 0) s.m s.fc) := by
  rw [show c_unwrap_net_classes_0 = .seq c_unwrap_net_classes_1 c_unwrap_net_classes_2 from by kernel_rfl, seq_r]; rw [show c_unwrap_net_classes_2 = .seq c_unwrap_net_classes_3 c_unwrap_net_classes_4 from by kernel_rfl, seq_r]; rw [show c_unwrap_net_classes_4 = .seq c_unwrap_net_classes_5 c_unwrap_net_classes_6 from by kernel_rfl, seq_r]; rw [q_unwrap_net_classes_6 call hs u]; kernel_rfl
theorem F_unwrap_net_classes_eq (call : FCall) (hs : FHs) (t0 : AV) (m : Mem) : fxBody Try.prog pol NN call hs n_unwrap_net_classes [t0] m = F_unwrap_net_classes call hs [t0] m := by
  rw [fxBody_at (fn := Try.f81) (body := c_unwrap_net_classes_0) (nt := 26) (rs := [.tmp 2]) (by kernel_rfl) (by kernel_rfl) (by kernel_rfl) (by kernel_rfl) (by kernel_rfl) (by kernel_rfl)]
  exact (congrFun (q_unwrap_net_classes_0 call hs m.next) _).trans (by kernel_rfl)
theorem F_unwrap_net_classes_le (call : FCall) (hs : FHs) (args : List AV) (m : Mem) (r : AV × Mem) (h : F_unwrap_net_classes call hs args m = some r) : fxBody Try.prog pol NN call hs n_unwrap_net_classes args m = some r := by
  unfold F_unwrap_net_classes at h
  split at h
  · rw [F_unwrap_net_classes_eq]; exact h
  · cases h

/- slices.ContainsFunc[[]int,int] -/
abbrev k_slices_ContainsFunc_int_int (hs : FHs) (u : Nat) : FCtx := { f := n_slices_ContainsFunc_int_int, u := u, nt := 9, hs := hs }
noncomputable abbrev r_slices_ContainsFunc_int_int : Fs → Option (AV × Mem) := fxRes Try.prog [.tmp 4]
noncomputable def c_slices_ContainsFunc_int_int_0 : Code := nav (bodyOf n_slices_ContainsFunc_int_int) []
theorem q_slices_ContainsFunc_int_int_0 (call : FCall) (hs : FHs) (u : Nat) :
  fxK Try.prog pol NN call c_slices_ContainsFunc_int_int_0 (AV × Mem) (k_slices_ContainsFunc_int_int hs u) r_slices_ContainsFunc_int_int eNil r_slices_ContainsFunc_int_int = (fun s => B_slices_ContainsFunc_int_int_0 call hs u (s.sl 0) (s.sl 1) s.m s.fc) := by
  kernel_rfl
theorem F_slices_ContainsFunc_int_int_eq (call : FCall) (hs : FHs) (t0 t1 : AV) (m : Mem) : fxBody Try.prog pol NN call hs n_slices_ContainsFunc_int_int [t0, t1] m = F_slices_ContainsFunc_int_int call hs [t0, t1] m := by
  rw [fxBody_at (fn := Try.f84) (body := c_slices_ContainsFunc_int_int_0) (nt := 9) (rs := [.tmp 4]) (by kernel_rfl) (by kernel_rfl) (by kernel_rfl) (by kernel_rfl) (by kernel_rfl) (by kernel_rfl)]
  exact (congrFun (q_slices_ContainsFunc_int_int_0 call hs m.next) _).trans (by kernel_rfl)
theorem F_slices_ContainsFunc_int_int_le (call : FCall) (hs : FHs) (args : List AV) (m : Mem) (r : AV × Mem) (h : F_slices_ContainsFunc_int_int call hs args m = some r) : fxBody Try.prog pol NN call hs n_slices_ContainsFunc_int_int args m = some r := by
  unfold F_slices_ContainsFunc_int_int at h
  split at h
  · rw [F_slices_ContainsFunc_int_int_eq]; exact h
  · cases h

/- swath/unwrap.CheckTurns$1 -/
abbrev k_unwrap_CheckTurns_1 (hs : FHs) (u : Nat) : FCtx := { f := n_unwrap_CheckTurns_1, u := u, nt := 6, hs := hs }
noncomputable abbrev r_unwrap_CheckTurns_1 : Fs → Option (AV × Mem) := fxRes Try.prog [.tmp 2]
noncomputable def c_unwrap_CheckTurns_1_0 : Code := nav (bodyOf n_unwrap_CheckTurns_1) []
theorem q_unwrap_CheckTurns_1_0 (call : FCall) (hs : FHs) (u : Nat) :
  fxK Try.prog pol NN call c_unwrap_CheckTurns_1_0 (AV × Mem) (k_unwrap_CheckTurns_1 hs u) r_unwrap_CheckTurns_1 eNil r_unwrap_CheckTurns_1 = (fun s => B_unwrap_CheckTurns_1_0 call hs u (s.sl 0) s.m s.fc) := by
  kernel_rfl
theorem F_unwrap_CheckTurns_1_eq (call : FCall) (hs : FHs) (t0 : AV) (m : Mem) : fxBody Try.prog pol NN call hs n_unwrap_CheckTurns_1 [t0] m = F_unwrap_CheckTurns_1 call hs [t0] m := by
  rw [fxBody_at (fn := Try.f85) (body := c_unwrap_CheckTurns_1_0) (nt := 6) (rs := [.tmp 2]) (by kernel_rfl) (by kernel_rfl) (by kernel_rfl) (by kernel_rfl) (by kernel_rfl) (by kernel_rfl)]
  exact (congrFun (q_unwrap_CheckTurns_1_0 call hs m.next) _).trans (by kernel_rfl)
theorem F_unwrap_CheckTurns_1_le (call : FCall) (hs : FHs) (args : List AV) (m : Mem) (r : AV × Mem) (h : F_unwrap_CheckTurns_1 call hs args m = some r) : fxBody Try.prog pol NN call hs n_unwrap_CheckTurns_1 args m = some r := by
  unfold F_unwrap_CheckTurns_1 at h
  split at h
  · rw [F_unwrap_CheckTurns_1_eq]; exact h
  · cases h

/- slices.Clone[[]int,int] -/
abbrev k_slices_Clone_int_int (hs : FHs) (u : Nat) : FCtx := { f := n_slices_Clone_int_int, u := u, nt := 8, hs := hs }
noncomputable abbrev r_slices_Clone_int_int : Fs → Option (AV × Mem) := fxRes Try.prog [.tmp 2]
noncomputable def c_slices_Clone_int_int_0 : Code := nav (bodyOf n_slices_Clone_int_int) []
theorem q_slices_Clone_int_int_0 (call : FCall) (hs : FHs) (u : Nat) :
  fxK Try.prog pol NN call c_slices_Clone_int_int_0 (AV × Mem) (k_slices_Clone_int_int hs u) r_slices_Clone_int_int eNil r_slices_Clone_int_int = (fun s => B_slices_Clone_int_int_0 call hs u (s.sl 0) s.m s.fc) := by
  kernel_rfl
theorem F_slices_Clone_int_int_eq (call : FCall) (hs : FHs) (t0 : AV) (m : Mem) : fxBody Try.prog pol NN call hs n_slices_Clone_int_int [t0] m = F_slices_Clone_int_int call hs [t0] m := by
  rw [fxBody_at (fn := Try.f86) (body := c_slices_Clone_int_int_0) (nt := 8) (rs := [.tmp 2]) (by kernel_rfl) (by kernel_rfl) (by kernel_rfl) (by kernel_rfl) (by kernel_rfl) (by kernel_rfl)]
  exact (congrFun (q_slices_Clone_int_int_0 call hs m.next) _).trans (by kernel_rfl)
theorem F_slices_Clone_int_int_le (call : FCall) (hs : FHs) (args : List AV) (m : Mem) (r : AV × Mem) (h : F_slices_Clone_int_int call hs args m = some r) : fxBody Try.prog pol NN call hs n_slices_Clone_int_int args m = some r := by
  unfold F_slices_Clone_int_int at h
  split at h
  · rw [F_slices_Clone_int_int_eq]; exact h
  · cases h

/- swath/unwrap.isVoid -/
abbrev k_unwrap_isVoid (hs : FHs) (u : Nat) : FCtx := { f := n_unwrap_isVoid, u := u, nt := 5, hs := hs }
noncomputable abbrev r_unwrap_isVoid : Fs → Option (AV × Mem) := fxRes Try.prog [.tmp 2]
noncomputable def c_unwrap_isVoid_0 : Code := nav (bodyOf n_unwrap_isVoid) []
theorem q_unwrap_isVoid_0 (call : FCall) (hs : FHs) (u : Nat) :
  fxK Try.prog pol NN call c_unwrap_isVoid_0 (AV × Mem) (k_unwrap_isVoid hs u) r_unwrap_isVoid eNil r_unwrap_isVoid = (fun s => B_unwrap_isVoid_0 call hs u (s.sl 0) s.m s.fc) := by
  kernel_rfl
theorem F_unwrap_isVoid_eq (call : FCall) (hs : FHs) (t0 : AV) (m : Mem) : fxBody Try.prog pol NN call hs n_unwrap_isVoid [t0] m = F_unwrap_isVoid call hs [t0] m := by
  rw [fxBody_at (fn := Try.f87) (body := c_unwrap_isVoid_0) (nt := 5) (rs := [.tmp 2]) (by kernel_rfl) (by kernel_rfl) (by kernel_rfl) (by kernel_rfl) (by kernel_rfl) (by kernel_rfl)]
  exact (congrFun (q_unwrap_isVoid_0 call hs m.next) _).trans (by kernel_rfl)
theorem F_unwrap_isVoid_le (call : FCall) (hs : FHs) (args : List AV) (m : Mem) (r : AV × Mem) (h : F_unwrap_isVoid call hs args m = some r) : fxBody Try.prog pol NN call hs n_unwrap_isVoid args m = some r := by
  unfold F_unwrap_isVoid at h
  split at h
  · rw [F_unwrap_isVoid_eq]; exact h
  · cases h

/- swath/unwrap.mapErr -/
abbrev k_unwrap_mapErr (hs : FHs) (u : Nat) : FCtx := { f := n_unwrap_mapErr, u := u, nt := 20, hs := hs }
noncomputable abbrev r_unwrap_mapErr : Fs → Option (AV × Mem) := fxRes Try.prog [.tmp 4]
noncomputable def c_unwrap_mapErr_0 : Code := nav (bodyOf n_unwrap_mapErr) []
theorem q_unwrap_mapErr_0 (call : FCall) (hs : FHs) (u : Nat) :
  fxK Try.prog pol NN call c_unwrap_mapErr_0 (AV × Mem) (k_unwrap_mapErr hs u) r_unwrap_mapErr eNil r_unwrap_mapErr = (fun s => B_unwrap_mapErr_0 call hs u (s.sl 0) (s.sl 1) s.m s.fc) := by
  kernel_rfl
theorem F_unwrap_mapErr_eq (call : FCall) (hs : FHs) (t0 t1 : AV) (m : Mem) : fxBody Try.prog pol NN call hs n_unwrap_mapErr [t0, t1] m = F_unwrap_mapErr call hs [t0, t1] m := by
  rw [fxBody_at (fn := Try.f89) (body := c_unwrap_mapErr_0) (nt := 20) (rs := [.tmp 4]) (by kernel_rfl) (by kernel_rfl) (by kernel_rfl) (by kernel_rfl) (by kernel_rfl) (by kernel_rfl)]
  exact (congrFun (q_unwrap_mapErr_0 call hs m.next) _).trans (by kernel_rfl)
theorem F_unwrap_mapErr_le (call : FCall) (hs : FHs) (args : List AV) (m : Mem) (r : AV × Mem) (h : F_unwrap_mapErr call hs args m = some r) : fxBody Try.prog pol NN call hs n_unwrap_mapErr args m = some r := by
  unfold F_unwrap_mapErr at h
  split at h
  · rw [F_unwrap_mapErr_eq]; exact h
  · cases h

/- swath/unwrap.isNeighbour -/
abbrev k_unwrap_isNeighbour (hs : FHs) (u : Nat) : FCtx := { f := n_unwrap_isNeighbour, u := u, nt := 38, hs := hs }
noncomputable abbrev r_unwrap_isNeighbour : Fs → Option (AV × Mem) := fxRes Try.prog [.tmp 6]
noncomputable def c_unwrap_isNeighbour_0 : Code := nav (bodyOf n_unwrap_isNeighbour) []
theorem q_unwrap_isNeighbour_0 (call : FCall) (hs : FHs) (u : Nat) :
  fxK Try.prog pol NN call c_unwrap_isNeighbour_0 (AV × Mem) (k_unwrap_isNeighbour hs u) r_unwrap_isNeighbour eNil r_unwrap_isNeighbour = (fun s => B_unwrap_isNeighbour_0 call hs u (s.sl 0) (s.sl 1) (s.sl 2) s.m s.fc) := by
  kernel_rfl
theorem F_unwrap_isNeighbour_eq (call : FCall) (hs : FHs) (t0 t1 t2 : AV) (m : Mem) : fxBody Try.prog pol NN call hs n_unwrap_isNeighbour [t0, t1, t2] m = F_unwrap_isNeighbour call hs [t0, t1, t2] m := by
  rw [fxBody_at (fn := Try.f90) (body := c_unwrap_isNeighbour_0) (nt := 38) (rs := [.tmp 6]) (by kernel_rfl) (by kernel_rfl) (by kernel_rfl) (by kernel_rfl) (by kernel_rfl) (by kernel_rfl)]
  exact (congrFun (q_unwrap_isNeighbour_0 call hs m.next) _).trans (by kernel_rfl)
theorem F_unwrap_isNeighbour_le (call : FCall) (hs : FHs) (args : List AV) (m : Mem) (r : AV × Mem) (h : F_unwrap_isNeighbour call hs args m = some r) : fxBody Try.prog pol NN call hs n_unwrap_isNeighbour args m = some r := by
  unfold F_unwrap_isNeighbour at h
  split at h
  · rw [F_unwrap_isNeighbour_eq]; exact h
  · cases h

/- swath/unwrap.wrapped -/
abbrev k_unwrap_wrapped (hs : FHs) (u : Nat) : FCtx := { f := n_unwrap_wrapped, u := u, nt := 12, hs := hs }
noncomputable abbrev r_unwrap_wrapped : Fs → Option (AV × Mem) := fxRes Try.prog [.tmp 2]
noncomputable def c_unwrap_wrapped_0 : Code := nav (bodyOf n_unwrap_wrapped) []
noncomputable def c_unwrap_wrapped_1 : Code := nav (bodyOf n_unwrap_wrapped) [false]
noncomputable def c_unwrap_wrapped_2 : Code := nav (bodyOf n_unwrap_wrapped) [true]
noncomputable def c_unwrap_wrapped_3 : Code := nav (bodyOf n_unwrap_wrapped) [true, false]
noncomputable def c_unwrap_wrapped_4 : Code := nav (bodyOf n_unwrap_wrapped) [true, true]
noncomputable def c_unwrap_wrapped_5 : Code := nav (bodyOf n_unwrap_wrapped) [true, true, false]
noncomputable def c_unwrap_wrapped_6 : Code := nav (bodyOf n_unwrap_wrapped) [true, true, true]
theorem q_unwrap_wrapped_6 (call : FCall) (hs : FHs) (u : Nat) :
  fxK Try.prog pol NN call c_unwrap_wrapped_6 (AV × Mem) (k_unwrap_wrapped hs u) r_unwrap_wrapped eNil r_unwrap_wrapped = (fun s => B_unwrap_wrapped_0 call hs u (s.sl 0) s.m s.fc) := by
  kernel_rfl
theorem q_unwrap_wrapped_5 (call : FCall) (hs : FHs) (u : Nat) :
  fxK Try.prog pol NN call c_unwrap_wrapped_5 (AV × Mem) (k_unwrap_wrapped hs u) (fun s => B_unwrap_wrapped_0 call hs u (s.sl 0) s.m s.fc) eNil r_unwrap_wrapped = (fun s => B_unwrap_wrapped_1 call hs u (s.sl 0) s.m s.fc) := by
  kernel_rfl
theorem q_unwrap_wrapped_4 (call : FCall) (hs : FHs) (u : Nat) :
  fxK Try.prog pol NN call c_unwrap_wrapped_4 (AV × Mem) (k_unwrap_wrapped hs u) r_unwrap_wrapped eNil r_unwrap_wrapped = (fun s => B_unwrap_wrapped_1 call hs u (s.sl 0) s.m s.fc) := by
  rw [show c_unwrap_wrapped_4 = .seq c_unwrap_wrapped_5 c_unwrap_wrapped_6 from by kernel_rfl, seq_r, q_unwrap_wrapped_6 call hs u, q_unwrap_wrapped_5 call hs u]
theorem q_unwrap_wrapped_0 (call : FCall) (hs : FHs) (u : Nat) :
  fxK Try.prog pol NN call c_unwrap_wrapped_0 (AV × Mem) (k_unwrap_wrapped hs u) r_unwrap_wrapped eNil r_unwrap_wrapped = (fun s => B_unwrap_wrapped_2 call hs u (s.sl 0) s.m s.fc) := by
  rw [show c_unwrap_wrapped_0 = .seq c_unwrap_wrapped_1 c_unwrap_wrapped_2 from by kernel_rfl, seq_r]; rw [show c_unwrap_wrapped_2 = .seq c_unwrap_wrapped_3 c_unwrap_wrapped_4 from by kernel_rfl, seq_r]; rw [q_unwrap_wrapped_4 call hs u]; kernel_rfl
theorem F_unwrap_wrapped_eq (call : FCall) (hs : FHs) (t0 : AV) (m : Mem) : fxBody Try.prog pol NN call hs n_unwrap_wrapped [t0] m = F_unwrap_wrapped call hs [t0] m := by
  rw [fxBody_at (fn := Try.f91) (body := c_unwrap_wrapped_0) (nt := 12) (rs := [.tmp 2]) (by kernel_rfl) (by kernel_rfl) (by kernel_rfl) (by kernel_rfl) (by kernel_rfl) (by kernel_rfl)]
  exact (congrFun (q_unwrap_wrapped_0 call hs m.next) _).trans (by kernel_rfl)
theorem F_unwrap_wrapped_le (call : FCall) (hs : FHs) (args : List AV) (m : Mem) (r : AV × Mem) (h : F_unwrap_wrapped call hs args m = some r) : fxBody Try.prog pol NN call hs n_unwrap_wrapped args m = some r := by
  unfold F_unwrap_wrapped at h
  split at h
  · rw [F_unwrap_wrapped_eq]; exact h
  · cases h

/- swath/swathref05.neighbours -/
abbrev k_ref05_neighbours (hs : FHs) (u : Nat) : FCtx := { f := n_ref05_neighbours, u := u, nt := 29, hs := hs }
noncomputable abbrev r_ref05_neighbours : Fs → Option (AV × Mem) := fxRes Try.prog [.tmp 6]
noncomputable def c_ref05_neighbours_0 : Code := nav (bodyOf n_ref05_neighbours) []
theorem q_ref05_neighbours_0 (call : FCall) (hs : FHs) (u : Nat) :
  fxK Try.prog pol NN call c_ref05_neighbours_0 (AV × Mem) (k_ref05_neighbours hs u) r_ref05_neighbours eNil r_ref05_neighbours = (fun s => B_ref05_neighbours_0 call hs u (s.sl 0) (s.sl 1) (s.sl 2) s.m s.fc) := by
  kernel_rfl
theorem F_ref05_neighbours_eq (call : FCall) (hs : FHs) (t0 t1 t2 : AV) (m : Mem) : fxBody Try.prog pol NN call hs n_ref05_neighbours [t0, t1, t2] m = F_ref05_neighbours call hs [t0, t1, t2] m := by
  rw [fxBody_at (fn := Try.f92) (body := c_ref05_neighbours_0) (nt := 29) (rs := [.tmp 6]) (by kernel_rfl) (by kernel_rfl) (by kernel_rfl) (by kernel_rfl) (by kernel_rfl) (by kernel_rfl)]
  exact (congrFun (q_ref05_neighbours_0 call hs m.next) _).trans (by kernel_rfl)
theorem F_ref05_neighbours_le (call : FCall) (hs : FHs) (args : List AV) (m : Mem) (r : AV × Mem) (h : F_ref05_neighbours call hs args m = some r) : fxBody Try.prog pol NN call hs n_ref05_neighbours args m = some r := by
  unfold F_ref05_neighbours at h
  split at h
  · rw [F_ref05_neighbours_eq]; exact h
  · cases h

/- swath/swathref05.Step -/
abbrev k_ref05_Step (hs : FHs) (u : Nat) : FCtx := { f := n_ref05_Step, u := u, nt := 27, hs := hs }
noncomputable abbrev r_ref05_Step : Fs → Option (AV × Mem) := fxRes Try.prog [.tmp 6]
noncomputable def c_ref05_Step_0 : Code := nav (bodyOf n_ref05_Step) []
theorem q_ref05_Step_0 (call : FCall) (hs : FHs) (u : Nat) :
  fxK Try.prog pol NN call c_ref05_Step_0 (AV × Mem) (k_ref05_Step hs u) r_ref05_Step eNil r_ref05_Step = (fun s => B_ref05_Step_0 call hs u (s.sl 0) (s.sl 1) (s.sl 2) s.m s.fc) := by
  kernel_rfl
theorem F_ref05_Step_eq (call : FCall) (hs : FHs) (t0 t1 t2 : AV) (m : Mem) : fxBody Try.prog pol NN call hs n_ref05_Step [t0, t1, t2] m = F_ref05_Step call hs [t0, t1, t2] m := by
  rw [fxBody_at (fn := Try.f93) (body := c_ref05_Step_0) (nt := 27) (rs := [.tmp 6]) (by kernel_rfl) (by kernel_rfl) (by kernel_rfl) (by kernel_rfl) (by kernel_rfl) (by kernel_rfl)]
  exact (congrFun (q_ref05_Step_0 call hs m.next) _).trans (by kernel_rfl)
theorem F_ref05_Step_le (call : FCall) (hs : FHs) (args : List AV) (m : Mem) (r : AV × Mem) (h : F_ref05_Step call hs args m = some r) : fxBody Try.prog pol NN call hs n_ref05_Step args m = some r := by
  unfold F_ref05_Step at h
  split at h
  · rw [F_ref05_Step_eq]; exact h
  · cases h

/- (swath/unwrap.net).pairs -/
abbrev k_unwrap_net_pairs (hs : FHs) (u : Nat) : FCtx := { f := n_unwrap_net_pairs, u := u, nt := 29, hs := hs }
noncomputable abbrev r_unwrap_net_pairs : Fs → Option (AV × Mem) := fxRes Try.prog [.tmp 4]
noncomputable def c_unwrap_net_pairs_0 : Code := nav (bodyOf n_unwrap_net_pairs) []
noncomputable def c_unwrap_net_pairs_1 : Code := nav (bodyOf n_unwrap_net_pairs) [false]
noncomputable def c_unwrap_net_pairs_2 : Code := nav (bodyOf n_unwrap_net_pairs) [true]
noncomputable def c_unwrap_net_pairs_3 : Code := nav (bodyOf n_unwrap_net_pairs) [true, false]
noncomputable def c_unwrap_net_pairs_4 : Code := nav (bodyOf n_unwrap_net_pairs) [true, true]
noncomputable def c_unwrap_net_pairs_5 : Code := nav (bodyOf n_unwrap_net_pairs) [true, true, false]
noncomputable def c_unwrap_net_pairs_6 : Code := nav (bodyOf n_unwrap_net_pairs) [true, true, true]
noncomputable def c_unwrap_net_pairs_7 : Code := nav (bodyOf n_unwrap_net_pairs) [true, true, false, false]
noncomputable def c_unwrap_net_pairs_8 : Code := nav (bodyOf n_unwrap_net_pairs) [true, true, false, true]
noncomputable def c_unwrap_net_pairs_9 : Code := nav (bodyOf n_unwrap_net_pairs) [true, true, false, true, false]
noncomputable def c_unwrap_net_pairs_10 : Code := nav (bodyOf n_unwrap_net_pairs) [true, true, false, true, false, false]
noncomputable def c_unwrap_net_pairs_11 : Code := nav (bodyOf n_unwrap_net_pairs) [true, true, false, true, false, false, false]
noncomputable def c_unwrap_net_pairs_12 : Code := nav (bodyOf n_unwrap_net_pairs) [true, true, false, true, false, false, true]
noncomputable def c_unwrap_net_pairs_13 : Code := nav (bodyOf n_unwrap_net_pairs) [true, true, false, true, false, false, true, false]
noncomputable def c_unwrap_net_pairs_14 : Code := nav (bodyOf n_unwrap_net_pairs) [true, true, false, true, false, false, true, true]
noncomputable def c_unwrap_net_pairs_15 : Code := nav (bodyOf n_unwrap_net_pairs) [true, true, false, true, false, false, true, true, false]
noncomputable def c_unwrap_net_pairs_16 : Code := nav (bodyOf n_unwrap_net_pairs) [true, true, false, true, false, false, true, true, true]
theorem q_unwrap_net_pairs_6 (call : FCall) (hs : FHs) (u : Nat) :
  fxK Try.prog pol NN call c_unwrap_net_pairs_6 (AV × Mem) (k_unwrap_net_pairs hs u) r_unwrap_net_pairs eNil r_unwrap_net_pairs = (fun s => B_unwrap_net_pairs_0 call hs u (s.sl 5) s.m s.fc) := by
  kernel_rfl
theorem q_unwrap_net_pairs_16 (call : FCall) (hs : FHs) (u : Nat) (rec0 : AV → AV → AV → AV → AV → Mem → Nat → Option (AV × Mem)) :
  fxK Try.prog pol NN call c_unwrap_net_pairs_16 (AV × Mem) (k_unwrap_net_pairs hs u) (fun s => rec0 (s.sl 1) (s.sl 5) (s.sl 10) (s.sl 11) (s.sl 12) s.m s.fc) (setE 0 (fun s => B_unwrap_net_pairs_0 call hs u (s.sl 5) s.m s.fc) eNil) r_unwrap_net_pairs = (fun s => B_unwrap_net_pairs_1 call hs u rec0 (s.sl 1) (s.sl 5) (s.sl 10) (s.sl 11) (s.sl 12) s.m s.fc) := by
  kernel_rfl
theorem q_unwrap_net_pairs_15 (call : FCall) (hs : FHs) (u : Nat) (rec0 : AV → AV → AV → AV → AV → Mem → Nat → Option (AV × Mem)) :
  fxK Try.prog pol NN call c_unwrap_net_pairs_15 (AV × Mem) (k_unwrap_net_pairs hs u) (fun s => B_unwrap_net_pairs_1 call hs u rec0 (s.sl 1) (s.sl 5) (s.sl 10) (s.sl 11) (s.sl 12) s.m s.fc) (setE 0 (fun s => B_unwrap_net_pairs_0 call hs u (s.sl 5) s.m s.fc) eNil) r_unwrap_net_pairs = (fun s => B_unwrap_net_pairs_2 call hs u rec0 (s.sl 1) (s.sl 5) (s.sl 10) (s.sl 11) (s.sl 12) s.m s.fc) := by
  kernel_rfl
theorem q_unwrap_net_pairs_14 (call : FCall) (hs : FHs) (u : Nat) (rec0 : AV → AV → AV → AV → AV → Mem → Nat → Option (AV × Mem)) :
  fxK Try.prog pol NN call c_unwrap_net_pairs_14 (AV × Mem) (k_unwrap_net_pairs hs u) (fun s => rec0 (s.sl 1) (s.sl 5) (s.sl 10) (s.sl 11) (s.sl 12) s.m s.fc) (setE 0 (fun s => B_unwrap_net_pairs_0 call hs u (s.sl 5) s.m s.fc) eNil) r_unwrap_net_pairs = (fun s => B_unwrap_net_pairs_2 call hs u rec0 (s.sl 1) (s.sl 5) (s.sl 10) (s.sl 11) (s.sl 12) s.m s.fc) := by
  rw [show c_unwrap_net_pairs_14 = .seq c_unwrap_net_pairs_15 c_unwrap_net_pairs_16 from by kernel_rfl, seq_r, q_unwrap_net_pairs_16 call hs u rec0, q_unwrap_net_pairs_15 call hs u rec0]
theorem q_unwrap_net_pairs_10 (call : FCall) (hs : FHs) (u : Nat) (rec0 : AV → AV → AV → AV → AV → Mem → Nat → Option (AV × Mem)) :
  fxK Try.prog pol NN call c_unwrap_net_pairs_10 (AV × Mem) (k_unwrap_net_pairs hs u) (fun s => rec0 (s.sl 1) (s.sl 5) (s.sl 10) (s.sl 11) (s.sl 12) s.m s.fc) (setE 0 (fun s => B_unwrap_net_pairs_0 call hs u (s.sl 5) s.m s.fc) eNil) r_unwrap_net_pairs = (fun s => B_unwrap_net_pairs_3 call hs u rec0 (s.sl 1) (s.sl 5) (s.sl 10) (s.sl 11) (s.sl 12) s.m s.fc) := by
  rw [show c_unwrap_net_pairs_10 = .seq c_unwrap_net_pairs_11 c_unwrap_net_pairs_12 from by kernel_rfl, seq_r]; rw [show c_unwrap_net_pairs_12 = .seq c_unwrap_net_pairs_13 c_unwrap_net_pairs_14 from by kernel_rfl, seq_r]; rw [q_unwrap_net_pairs_14 call hs u rec0]; kernel_rfl
theorem q_L_unwrap_net_pairs_0 (call : FCall) (hs : FHs) (u : Nat) : ∀ n : Nat,
  iter (fun rec => fxK Try.prog pol NN call c_unwrap_net_pairs_10 (AV × Mem) (k_unwrap_net_pairs hs u) rec (setE 0 (fun s => B_unwrap_net_pairs_0 call hs u (s.sl 5) s.m s.fc) eNil) r_unwrap_net_pairs) n = (fun s => L_unwrap_net_pairs_0 call hs u n (s.sl 1) (s.sl 5) (s.sl 10) (s.sl 11) (s.sl 12) s.m s.fc)
  | 0 => rfl
  | n + 1 => by rw [iter_succ, q_L_unwrap_net_pairs_0 call hs u n, q_unwrap_net_pairs_10 call hs u (L_unwrap_net_pairs_0 call hs u n)]; kernel_rfl
theorem q_unwrap_net_pairs_9 (call : FCall) (hs : FHs) (u : Nat) :
  fxK Try.prog pol NN call c_unwrap_net_pairs_9 (AV × Mem) (k_unwrap_net_pairs hs u) (fun s => B_unwrap_net_pairs_0 call hs u (s.sl 5) s.m s.fc) (setE 0 (fun s => B_unwrap_net_pairs_0 call hs u (s.sl 5) s.m s.fc) eNil) r_unwrap_net_pairs = (fun s => L_unwrap_net_pairs_0 call hs u NN (s.sl 1) (s.sl 5) (s.sl 10) (s.sl 11) (s.sl 12) s.m s.fc) := by
  rw [show c_unwrap_net_pairs_9 = .loop c_unwrap_net_pairs_10 from by kernel_rfl, loop_r, q_L_unwrap_net_pairs_0 call hs u NN]
theorem q_unwrap_net_pairs_8 (call : FCall) (hs : FHs) (u : Nat) :
  fxK Try.prog pol NN call c_unwrap_net_pairs_8 (AV × Mem) (k_unwrap_net_pairs hs u) (fun s => B_unwrap_net_pairs_0 call hs u (s.sl 5) s.m s.fc) eNil r_unwrap_net_pairs = (fun s => L_unwrap_net_pairs_0 call hs u NN (s.sl 1) (s.sl 5) (s.sl 10) (s.sl 11) (s.sl 12) s.m s.fc) := by
  rw [show c_unwrap_net_pairs_8 = .block 0 c_unwrap_net_pairs_9 from by kernel_rfl, block_r, q_unwrap_net_pairs_9 call hs u]
theorem q_unwrap_net_pairs_5 (call : FCall) (hs : FHs) (u : Nat) :
  fxK Try.prog pol NN call c_unwrap_net_pairs_5 (AV × Mem) (k_unwrap_net_pairs hs u) (fun s => B_unwrap_net_pairs_0 call hs u (s.sl 5) s.m s.fc) eNil r_unwrap_net_pairs = (fun s => B_unwrap_net_pairs_4 call hs u (s.sl 1) (s.sl 2) (s.sl 5) s.m s.fc) := by
  rw [show c_unwrap_net_pairs_5 = .seq c_unwrap_net_pairs_7 c_unwrap_net_pairs_8 from by kernel_rfl, seq_r]; rw [q_unwrap_net_pairs_8 call hs u]; kernel_rfl
theorem q_unwrap_net_pairs_4 (call : FCall) (hs : FHs) (u : Nat) :
  fxK Try.prog pol NN call c_unwrap_net_pairs_4 (AV × Mem) (k_unwrap_net_pairs hs u) r_unwrap_net_pairs eNil r_unwrap_net_pairs = (fun s => B_unwrap_net_pairs_4 call hs u (s.sl 1) (s.sl 2) (s.sl 5) s.m s.fc) := by
  rw [show c_unwrap_net_pairs_4 = .seq c_unwrap_net_pairs_5 c_unwrap_net_pairs_6 from by kernel_rfl, seq_r, q_unwrap_net_pairs_6 call hs u, q_unwrap_net_pairs_5 call hs u]
theorem q_unwrap_net_pairs_0 (call : FCall) (hs : FHs) (u : Nat) :
  fxK Try.prog pol NN call c_unwrap_net_pairs_0 (AV × Mem) (k_unwrap_net_pairs hs u) r_unwrap_net_pairs eNil r_unwrap_net_pairs = (fun s => B_unwrap_net_pairs_5 call hs u (s.sl 0) (s.sl 1) s.m s.fc) := by
  rw [show c_unwrap_net_pairs_0 = .seq c_unwrap_net_pairs_1 c_unwrap_net_pairs_2 from by kernel_rfl, seq_r]; rw [show c_unwrap_net_pairs_2 = .seq c_unwrap_net_pairs_3 c_unwrap_net_pairs_4 from by kernel_rfl, seq_r]; rw [q_unwrap_net_pairs_4 call hs u]; kernel_rfl
theorem F_unwrap_net_pairs_eq (call : FCall) (hs : FHs) (t0 t1 : AV) (m : Mem) : fxBody Try.prog pol NN call hs n_unwrap_net_pairs [t0, t1] m = F_unwrap_net_pairs call hs [t0, t1] m := by
  rw [fxBody_at (fn := Try.f95) (body := c_unwrap_net_pairs_0) (nt := 29) (rs := [.tmp 4]) (by kernel_rfl) (by kernel_rfl) (by kernel_rfl) (by kernel_rfl) (by kernel_rfl) (by kernel_rfl)]
  exact (congrFun (q_unwrap_net_pairs_0 call hs m.next) _).trans (by kernel_rfl)
theorem F_unwrap_net_pairs_le (call : FCall) (hs : FHs) (args : List AV) (m : Mem) (r : AV × Mem) (h : F_unwrap_net_pairs call hs args m = some r) : fxBody Try.prog pol NN call hs n_unwrap_net_pairs args m = some r := by
  unfold F_unwrap_net_pairs at h
  split at h
  · rw [F_unwrap_net_pairs_eq]; exact h
  · cases h

/- swath/unwrap.excess -/
abbrev k_unwrap_excess (hs : FHs) (u : Nat) : FCtx := { f := n_unwrap_excess, u := u, nt := 19, hs := hs }
noncomputable abbrev r_unwrap_excess : Fs → Option (AV × Mem) := fxRes Try.prog [.tmp 4]
noncomputable def c_unwrap_excess_0 : Code := nav (bodyOf n_unwrap_excess) []
theorem q_unwrap_excess_0 (call : FCall) (hs : FHs) (u : Nat) :
  fxK Try.prog pol NN call c_unwrap_excess_0 (AV × Mem) (k_unwrap_excess hs u) r_unwrap_excess eNil r_unwrap_excess = (fun s => B_unwrap_excess_0 call hs u (s.sl 0) (s.sl 1) s.m s.fc) := by
  kernel_rfl
theorem F_unwrap_excess_eq (call : FCall) (hs : FHs) (t0 t1 : AV) (m : Mem) : fxBody Try.prog pol NN call hs n_unwrap_excess [t0, t1] m = F_unwrap_excess call hs [t0, t1] m := by
  rw [fxBody_at (fn := Try.f97) (body := c_unwrap_excess_0) (nt := 19) (rs := [.tmp 4]) (by kernel_rfl) (by kernel_rfl) (by kernel_rfl) (by kernel_rfl) (by kernel_rfl) (by kernel_rfl)]
  exact (congrFun (q_unwrap_excess_0 call hs m.next) _).trans (by kernel_rfl)
theorem F_unwrap_excess_le (call : FCall) (hs : FHs) (args : List AV) (m : Mem) (r : AV × Mem) (h : F_unwrap_excess call hs args m = some r) : fxBody Try.prog pol NN call hs n_unwrap_excess args m = some r := by
  unfold F_unwrap_excess at h
  split at h
  · rw [F_unwrap_excess_eq]; exact h
  · cases h

/- swath/swathbase.Mod -/
abbrev k_base_Mod (hs : FHs) (u : Nat) : FCtx := { f := n_base_Mod, u := u, nt := 14, hs := hs }
noncomputable abbrev r_base_Mod : Fs → Option (AV × Mem) := fxRes Try.prog [.tmp 4]
noncomputable def c_base_Mod_0 : Code := nav (bodyOf n_base_Mod) []
noncomputable def c_base_Mod_1 : Code := nav (bodyOf n_base_Mod) [false]
noncomputable def c_base_Mod_2 : Code := nav (bodyOf n_base_Mod) [true]
noncomputable def c_base_Mod_3 : Code := nav (bodyOf n_base_Mod) [true, false]
noncomputable def c_base_Mod_4 : Code := nav (bodyOf n_base_Mod) [true, true]
noncomputable def c_base_Mod_5 : Code := nav (bodyOf n_base_Mod) [true, true, false]
noncomputable def c_base_Mod_6 : Code := nav (bodyOf n_base_Mod) [true, true, true]
theorem q_base_Mod_6 (call : FCall) (hs : FHs) (u : Nat) :
  fxK Try.prog pol NN call c_base_Mod_6 (AV × Mem) (k_base_Mod hs u) r_base_Mod eNil r_base_Mod = (fun s => B_base_Mod_0 call hs u (s.sl 0) s.m s.fc) := by
  kernel_rfl
theorem q_base_Mod_5 (call : FCall) (hs : FHs) (u : Nat) :
  fxK Try.prog pol NN call c_base_Mod_5 (AV × Mem) (k_base_Mod hs u) (fun s => B_base_Mod_0 call hs u (s.sl 0) s.m s.fc) eNil r_base_Mod = (fun s => B_base_Mod_1 call hs u (s.sl 0) (s.sl 1) s.m s.fc) := by
  kernel_rfl
theorem q_base_Mod_4 (call : FCall) (hs : FHs) (u : Nat) :
  fxK Try.prog pol NN call c_base_Mod_4 (AV × Mem) (k_base_Mod hs u) r_base_Mod eNil r_base_Mod = (fun s => B_base_Mod_1 call hs u (s.sl 0) (s.sl 1) s.m s.fc) := by
  rw [show c_base_Mod_4 = .seq c_base_Mod_5 c_base_Mod_6 from by kernel_rfl, seq_r, q_base_Mod_6 call hs u, q_base_Mod_5 call hs u]
theorem q_base_Mod_0 (call : FCall) (hs : FHs) (u : Nat) :
  fxK Try.prog pol NN call c_base_Mod_0 (AV × Mem) (k_base_Mod hs u) r_base_Mod eNil r_base_Mod = (fun s => B_base_Mod_2 call hs u (s.sl 0) (s.sl 1) s.m s.fc) := by
  rw [show c_base_Mod_0 = .seq c_base_Mod_1 c_base_Mod_2 from by kernel_rfl, seq_r]; rw [show c_base_Mod_2 = .seq c_base_Mod_3 c_base_Mod_4 from by kernel_rfl, seq_r]; rw [q_base_Mod_4 call hs u]; kernel_rfl
theorem F_base_Mod_eq (call : FCall) (hs : FHs) (t0 t1 : AV) (m : Mem) : fxBody Try.prog pol NN call hs n_base_Mod [t0, t1] m = F_base_Mod call hs [t0, t1] m := by
  rw [fxBody_at (fn := Try.f99) (body := c_base_Mod_0) (nt := 14) (rs := [.tmp 4]) (by kernel_rfl) (by kernel_rfl) (by kernel_rfl) (by kernel_rfl) (by kernel_rfl) (by kernel_rfl)]
  exact (congrFun (q_base_Mod_0 call hs m.next) _).trans (by kernel_rfl)
theorem F_base_Mod_le (call : FCall) (hs : FHs) (args : List AV) (m : Mem) (r : AV × Mem) (h : F_base_Mod call hs args m = some r) : fxBody Try.prog pol NN call hs n_base_Mod args m = some r := by
  unfold F_base_Mod at h
  split at h
  · rw [F_base_Mod_eq]; exact h
  · cases h

/- swath/swathref05.Excess -/
abbrev k_ref05_Excess (hs : FHs) (u : Nat) : FCtx := { f := n_ref05_Excess, u := u, nt := 19, hs := hs }
noncomputable abbrev r_ref05_Excess : Fs → Option (AV × Mem) := fxRes Try.prog [.tmp 4]
noncomputable def c_ref05_Excess_0 : Code := nav (bodyOf n_ref05_Excess) []
theorem q_ref05_Excess_0 (call : FCall) (hs : FHs) (u : Nat) :
  fxK Try.prog pol NN call c_ref05_Excess_0 (AV × Mem) (k_ref05_Excess hs u) r_ref05_Excess eNil r_ref05_Excess = (fun s => B_ref05_Excess_0 call hs u (s.sl 0) (s.sl 1) s.m s.fc) := by
  kernel_rfl
theorem F_ref05_Excess_eq (call : FCall) (hs : FHs) (t0 t1 : AV) (m : Mem) : fxBody Try.prog pol NN call hs n_ref05_Excess [t0, t1] m = F_ref05_Excess call hs [t0, t1] m := by
  rw [fxBody_at (fn := Try.f100) (body := c_ref05_Excess_0) (nt := 19) (rs := [.tmp 4]) (by kernel_rfl) (by kernel_rfl) (by kernel_rfl) (by kernel_rfl) (by kernel_rfl) (by kernel_rfl)]
  exact (congrFun (q_ref05_Excess_0 call hs m.next) _).trans (by kernel_rfl)
theorem F_ref05_Excess_le (call : FCall) (hs : FHs) (args : List AV) (m : Mem) (r : AV × Mem) (h : F_ref05_Excess call hs args m = some r) : fxBody Try.prog pol NN call hs n_ref05_Excess args m = some r := by
  unfold F_ref05_Excess at h
  split at h
  · rw [F_ref05_Excess_eq]; exact h
  · cases h

/- swath/unwrap.Undecided$1 -/
abbrev k_unwrap_Undecided_1 (hs : FHs) (u : Nat) : FCtx := { f := n_unwrap_Undecided_1, u := u, nt := 15, hs := hs }
noncomputable abbrev r_unwrap_Undecided_1 : Fs → Option (AV × Mem) := fxRes Try.prog [.tmp 3]
noncomputable def c_unwrap_Undecided_1_0 : Code := nav (bodyOf n_unwrap_Undecided_1) []
theorem q_unwrap_Undecided_1_0 (call : FCall) (hs : FHs) (u : Nat) :
  fxK Try.prog pol NN call c_unwrap_Undecided_1_0 (AV × Mem) (k_unwrap_Undecided_1 hs u) r_unwrap_Undecided_1 eNil r_unwrap_Undecided_1 = (fun s => B_unwrap_Undecided_1_0 call hs u (s.sl 0) (s.sl 1) s.m s.fc) := by
  kernel_rfl
theorem F_unwrap_Undecided_1_eq (call : FCall) (hs : FHs) (t0 t1 : AV) (m : Mem) : fxBody Try.prog pol NN call hs n_unwrap_Undecided_1 [t0, t1] m = F_unwrap_Undecided_1 call hs [t0, t1] m := by
  rw [fxBody_at (fn := Try.f101) (body := c_unwrap_Undecided_1_0) (nt := 15) (rs := [.tmp 3]) (by kernel_rfl) (by kernel_rfl) (by kernel_rfl) (by kernel_rfl) (by kernel_rfl) (by kernel_rfl)]
  exact (congrFun (q_unwrap_Undecided_1_0 call hs m.next) _).trans (by kernel_rfl)
theorem F_unwrap_Undecided_1_le (call : FCall) (hs : FHs) (args : List AV) (m : Mem) (r : AV × Mem) (h : F_unwrap_Undecided_1 call hs args m = some r) : fxBody Try.prog pol NN call hs n_unwrap_Undecided_1 args m = some r := by
  unfold F_unwrap_Undecided_1 at h
  split at h
  · rw [F_unwrap_Undecided_1_eq]; exact h
  · cases h

/- swath/unwrap.CheckNet -/
abbrev k_unwrap_CheckNet (hs : FHs) (u : Nat) : FCtx := { f := n_unwrap_CheckNet, u := u, nt := 62, hs := hs }
noncomputable abbrev r_unwrap_CheckNet : Fs → Option (AV × Mem) := fxRes Try.prog [.tmp 2, .tmp 3]
noncomputable def c_unwrap_CheckNet_0 : Code := nav (bodyOf n_unwrap_CheckNet) []
noncomputable def c_unwrap_CheckNet_1 : Code := nav (bodyOf n_unwrap_CheckNet) [false]
noncomputable def c_unwrap_CheckNet_2 : Code := nav (bodyOf n_unwrap_CheckNet) [true]
noncomputable def c_unwrap_CheckNet_3 : Code := nav (bodyOf n_unwrap_CheckNet) [true, false]
noncomputable def c_unwrap_CheckNet_4 : Code := nav (bodyOf n_unwrap_CheckNet) [true, true]
noncomputable def c_unwrap_CheckNet_5 : Code := nav (bodyOf n_unwrap_CheckNet) [true, true, false]
noncomputable def c_unwrap_CheckNet_6 : Code := nav (bodyOf n_unwrap_CheckNet) [true, true, true]
noncomputable def c_unwrap_CheckNet_7 : Code := nav (bodyOf n_unwrap_CheckNet) [true, true, false, false]
noncomputable def c_unwrap_CheckNet_8 : Code := nav (bodyOf n_unwrap_CheckNet) [true, true, false, true]
noncomputable def c_unwrap_CheckNet_9 : Code := nav (bodyOf n_unwrap_CheckNet) [true, true, false, true, false]
noncomputable def c_unwrap_CheckNet_10 : Code := nav (bodyOf n_unwrap_CheckNet) [true, true, false, true, false, false]
theorem q_unwrap_CheckNet_6 (call : FCall) (hs : FHs) (u : Nat) :
  fxK Try.prog pol NN call c_unwrap_CheckNet_6 (AV × Mem) (k_unwrap_CheckNet hs u) r_unwrap_CheckNet eNil r_unwrap_CheckNet = (fun s => B_unwrap_CheckNet_0 call hs u s.m s.fc) := by
  kernel_rfl
theorem q_unwrap_CheckNet_10 (call : FCall) (hs : FHs) (u : Nat) (rec0 : AV → AV → AV → AV → Mem → Nat → Option (AV × Mem)) :
  fxK Try.prog pol NN call c_unwrap_CheckNet_10 (AV × Mem) (k_unwrap_CheckNet hs u) (fun s => rec0 (s.sl 1) (s.sl 17) (s.sl 18) (s.sl 19) s.m s.fc) (setE 1 (fun s => B_unwrap_CheckNet_0 call hs u s.m s.fc) eNil) r_unwrap_CheckNet = (fun s => B_unwrap_CheckNet_1 call hs u rec0 (s.sl 1) (s.sl 17) (s.sl 18) (s.sl 19) s.m s.fc) := by
  kernel_rfl
theorem q_L_unwrap_CheckNet_0 (call : FCall) (hs : FHs) (u : Nat) : ∀ n : Nat,
  iter (fun rec => fxK Try.prog pol NN call c_unwrap_CheckNet_10 (AV × Mem) (k_unwrap_CheckNet hs u) rec (setE 1 (fun s => B_unwrap_CheckNet_0 call hs u s.m s.fc) eNil) r_unwrap_CheckNet) n = (fun s => L_unwrap_CheckNet_0 call hs u n (s.sl 1) (s.sl 17) (s.sl 18) (s.sl 19) s.m s.fc)
  | 0 => rfl
  | n + 1 => by rw [iter_succ, q_L_unwrap_CheckNet_0 call hs u n, q_unwrap_CheckNet_10 call hs u (L_unwrap_CheckNet_0 call hs u n)]; kernel_rfl
theorem q_unwrap_CheckNet_9 (call : FCall) (hs : FHs) (u : Nat) :
  fxK Try.prog pol NN call c_unwrap_CheckNet_9 (AV × Mem) (k_unwrap_CheckNet hs u) (fun s => B_unwrap_CheckNet_0 call hs u s.m s.fc) (setE 1 (fun s => B_unwrap_CheckNet_0 call hs u s.m s.fc) eNil) r_unwrap_CheckNet = (fun s => L_unwrap_CheckNet_0 call hs u NN (s.sl 1) (s.sl 17) (s.sl 18) (s.sl 19) s.m s.fc) := by
  rw [show c_unwrap_CheckNet_9 = .loop c_unwrap_CheckNet_10 from by kernel_rfl, loop_r, q_L_unwrap_CheckNet_0 call hs u NN]
theorem q_unwrap_CheckNet_8 (call : FCall) (hs : FHs) (u : Nat) :
  fxK Try.prog pol NN call c_unwrap_CheckNet_8 (AV × Mem) (k_unwrap_CheckNet hs u) (fun s => B_unwrap_CheckNet_0 call hs u s.m s.fc) eNil r_unwrap_CheckNet = (fun s => L_unwrap_CheckNet_0 call hs u NN (s.sl 1) (s.sl 17) (s.sl 18) (s.sl 19) s.m s.fc) := by
  rw [show c_unwrap_CheckNet_8 = .block 1 c_unwrap_CheckNet_9 from by kernel_rfl, block_r, q_unwrap_CheckNet_9 call hs u]
theorem q_unwrap_CheckNet_5 (call : FCall) (hs : FHs) (u : Nat) :
  fxK Try.prog pol NN call c_unwrap_CheckNet_5 (AV × Mem) (k_unwrap_CheckNet hs u) (fun s => B_unwrap_CheckNet_0 call hs u s.m s.fc) eNil r_unwrap_CheckNet = (fun s => B_unwrap_CheckNet_2 call hs u (s.sl 1) s.m s.fc) := by
  rw [show c_unwrap_CheckNet_5 = .seq c_unwrap_CheckNet_7 c_unwrap_CheckNet_8 from by kernel_rfl, seq_r]; rw [q_unwrap_CheckNet_8 call hs u]; kernel_rfl
theorem q_unwrap_CheckNet_4 (call : FCall) (hs : FHs) (u : Nat) :
  fxK Try.prog pol NN call c_unwrap_CheckNet_4 (AV × Mem) (k_unwrap_CheckNet hs u) r_unwrap_CheckNet eNil r_unwrap_CheckNet = (fun s => B_unwrap_CheckNet_2 call hs u (s.sl 1) s.m s.fc) := by
  rw [show c_unwrap_CheckNet_4 = .seq c_unwrap_CheckNet_5 c_unwrap_CheckNet_6 from by kernel_rfl, seq_r, q_unwrap_CheckNet_6 call hs u, q_unwrap_CheckNet_5 call hs u]
theorem q_unwrap_CheckNet_0 (call : FCall) (hs : FHs) (u : Nat) :
  fxK Try.prog pol NN call c_unwrap_CheckNet_0 (AV × Mem) (k_unwrap_CheckNet hs u) r_unwrap_CheckNet eNil r_unwrap_CheckNet = (fun s => B_unwrap_CheckNet_3 call hs u (s.sl 0) s.m s.fc) := by
  rw [show c_unwrap_CheckNet_0 = .seq c_unwrap_CheckNet_1 c_unwrap_CheckNet_2 from by kernel_rfl, seq_r]; rw [show c_unwrap_CheckNet_2 = .seq c_unwrap_CheckNet_3 c_unwrap_CheckNet_4 from by kernel_rfl, seq_r]; rw [q_unwrap_CheckNet_4 call hs u]; kernel_rfl
theorem F_unwrap_CheckNet_eq (call : FCall) (hs : FHs) (t0 : AV) (m : Mem) : fxBody Try.prog pol NN call hs n_unwrap_CheckNet [t0] m = F_unwrap_CheckNet call hs [t0] m := by
  rw [fxBody_at (fn := Try.f102) (body := c_unwrap_CheckNet_0) (nt := 62) (rs := [.tmp 2, .tmp 3]) (by kernel_rfl) (by kernel_rfl) (by kernel_rfl) (by kernel_rfl) (by kernel_rfl) (by kernel_rfl)]
  exact (congrFun (q_unwrap_CheckNet_0 call hs m.next) _).trans (by kernel_rfl)
theorem F_unwrap_CheckNet_le (call : FCall) (hs : FHs) (args : List AV) (m : Mem) (r : AV × Mem) (h : F_unwrap_CheckNet call hs args m = some r) : fxBody Try.prog pol NN call hs n_unwrap_CheckNet args m = some r := by
  unfold F_unwrap_CheckNet at h
  split at h
  · rw [F_unwrap_CheckNet_eq]; exact h
  · cases h

/- swath/unwrap.newSolver -/
abbrev k_unwrap_newSolver (hs : FHs) (u : Nat) : FCtx := { f := n_unwrap_newSolver, u := u, nt := 132, hs := hs }
noncomputable abbrev r_unwrap_newSolver : Fs → Option (AV × Mem) := fxRes Try.prog [.tmp 2]
noncomputable def c_unwrap_newSolver_0 : Code := nav (bodyOf n_unwrap_newSolver) []
noncomputable def c_unwrap_newSolver_1 : Code := nav (bodyOf n_unwrap_newSolver) [false]
noncomputable def c_unwrap_newSolver_2 : Code := nav (bodyOf n_unwrap_newSolver) [true]
noncomputable def c_unwrap_newSolver_3 : Code := nav (bodyOf n_unwrap_newSolver) [true, false]
noncomputable def c_unwrap_newSolver_4 : Code := nav (bodyOf n_unwrap_newSolver) [true, true]
noncomputable def c_unwrap_newSolver_5 : Code := nav (bodyOf n_unwrap_newSolver) [true, true, false]
noncomputable def c_unwrap_newSolver_6 : Code := nav (bodyOf n_unwrap_newSolver) [true, true, true]
noncomputable def c_unwrap_newSolver_7 : Code := nav (bodyOf n_unwrap_newSolver) [true, true, false, false]
noncomputable def c_unwrap_newSolver_8 : Code := nav (bodyOf n_unwrap_newSolver) [true, true, false, true]
noncomputable def c_unwrap_newSolver_9 : Code := nav (bodyOf n_unwrap_newSolver) [true, true, false, true, false]
noncomputable def c_unwrap_newSolver_10 : Code := nav (bodyOf n_unwrap_newSolver) [true, true, false, true, false, false]
noncomputable def c_unwrap_newSolver_11 : Code := nav (bodyOf n_unwrap_newSolver) [true, true, false, true, false, false, false]
noncomputable def c_unwrap_newSolver_12 : Code := nav (bodyOf n_unwrap_newSolver) [true, true, false, true, false, false, true]
noncomputable def c_unwrap_newSolver_13 : Code := nav (bodyOf n_unwrap_newSolver) [true, true, false, true, false, false, true, false]
noncomputable def c_unwrap_newSolver_14 : Code := nav (bodyOf n_unwrap_newSolver) [true, true, false, true, false, false, true, true]
noncomputable def c_unwrap_newSolver_15 : Code := nav (bodyOf n_unwrap_newSolver) [true, true, false, true, false, false, true, true, false]
noncomputable def c_unwrap_newSolver_16 : Code := nav (bodyOf n_unwrap_newSolver) [true, true, false, true, false, false, true, true, true]
noncomputable def c_unwrap_newSolver_17 : Code := nav (bodyOf n_unwrap_newSolver) [true, true, false, true, false, false, true, true, false, false]
noncomputable def c_unwrap_newSolver_18 : Code := nav (bodyOf n_unwrap_newSolver) [true, true, false, true, false, false, true, true, false, false, false]
noncomputable def c_unwrap_newSolver_19 : Code := nav (bodyOf n_unwrap_newSolver) [true, true, false, true, false, false, true, true, false, false, true]
noncomputable def c_unwrap_newSolver_20 : Code := nav (bodyOf n_unwrap_newSolver) [true, true, false, true, false, false, true, true, false, false, true, false]
noncomputable def c_unwrap_newSolver_21 : Code := nav (bodyOf n_unwrap_newSolver) [true, true, false, true, false, false, true, true, false, false, true, true]
theorem q_unwrap_newSolver_6 (call : FCall) (hs : FHs) (u : Nat) :
  fxK Try.prog pol NN call c_unwrap_newSolver_6 (AV × Mem) (k_unwrap_newSolver hs u) r_unwrap_newSolver eNil r_unwrap_newSolver = (fun s => B_unwrap_newSolver_0 call hs u (s.sl 3) s.m s.fc) := by
  kernel_rfl
theorem q_unwrap_newSolver_16 (call : FCall) (hs : FHs) (u : Nat) (rec0 : AV → AV → AV → AV → Mem → Nat → Option (AV × Mem)) :
  fxK Try.prog pol NN call c_unwrap_newSolver_16 (AV × Mem) (k_unwrap_newSolver hs u) (fun s => rec0 (s.sl 3) (s.sl 28) (s.sl 29) (s.sl 30) s.m s.fc) (setE 0 (fun s => B_unwrap_newSolver_0 call hs u (s.sl 3) s.m s.fc) eNil) r_unwrap_newSolver = (fun s => B_unwrap_newSolver_1 call hs u rec0 (s.sl 3) (s.sl 28) (s.sl 29) (s.sl 30) s.m s.fc) := by
  kernel_rfl
theorem q_unwrap_newSolver_21 (call : FCall) (hs : FHs) (u : Nat) (rec0 : AV → AV → AV → AV → Mem → Nat → Option (AV × Mem)) :
  fxK Try.prog pol NN call c_unwrap_newSolver_21 (AV × Mem) (k_unwrap_newSolver hs u) (fun s => B_unwrap_newSolver_1 call hs u rec0 (s.sl 3) (s.sl 28) (s.sl 29) (s.sl 30) s.m s.fc) (setE 1 (fun s => B_unwrap_newSolver_1 call hs u rec0 (s.sl 3) (s.sl 28) (s.sl 29) (s.sl 30) s.m s.fc) (setE 0 (fun s => B_unwrap_newSolver_0 call hs u (s.sl 3) s.m s.fc) eNil)) r_unwrap_newSolver = (fun s => B_unwrap_newSolver_2 call hs u rec0 (s.sl 3) (s.sl 4) (s.sl 5) (s.sl 28) (s.sl 29) (s.sl 30) s.m s.fc) := by
  kernel_rfl
theorem q_unwrap_newSolver_20 (call : FCall) (hs : FHs) (u : Nat) (rec0 : AV → AV → AV → AV → Mem → Nat → Option (AV × Mem)) :
  fxK Try.prog pol NN call c_unwrap_newSolver_20 (AV × Mem) (k_unwrap_newSolver hs u) (fun s => B_unwrap_newSolver_2 call hs u rec0 (s.sl 3) (s.sl 4) (s.sl 5) (s.sl 28) (s.sl 29) (s.sl 30) s.m s.fc) (setE 1 (fun s => B_unwrap_newSolver_1 call hs u rec0 (s.sl 3) (s.sl 28) (s.sl 29) (s.sl 30) s.m s.fc) (setE 0 (fun s => B_unwrap_newSolver_0 call hs u (s.sl 3) s.m s.fc) eNil)) r_unwrap_newSolver = (fun s => B_unwrap_newSolver_3 call hs u rec0 (s.sl 3) (s.sl 4) (s.sl 5) (s.sl 28) (s.sl 29) (s.sl 30) s.m s.fc) := by
  kernel_rfl
theorem q_unwrap_newSolver_19 (call : FCall) (hs : FHs) (u : Nat) (rec0 : AV → AV → AV → AV → Mem → Nat → Option (AV × Mem)) :
  fxK Try.prog pol NN call c_unwrap_newSolver_19 (AV × Mem) (k_unwrap_newSolver hs u) (fun s => B_unwrap_newSolver_1 call hs u rec0 (s.sl 3) (s.sl 28) (s.sl 29) (s.sl 30) s.m s.fc) (setE 1 (fun s => B_unwrap_newSolver_1 call hs u rec0 (s.sl 3) (s.sl 28) (s.sl 29) (s.sl 30) s.m s.fc) (setE 0 (fun s => B_unwrap_newSolver_0 call hs u (s.sl 3) s.m s.fc) eNil)) r_unwrap_newSolver = (fun s => B_unwrap_newSolver_3 call hs u rec0 (s.sl 3) (s.sl 4) (s.sl 5) (s.sl 28) (s.sl 29) (s.sl 30) s.m s.fc) := by
  rw [show c_unwrap_newSolver_19 = .seq c_unwrap_newSolver_20 c_unwrap_newSolver_21 from by kernel_rfl, seq_r, q_unwrap_newSolver_21 call hs u rec0, q_unwrap_newSolver_20 call hs u rec0]
theorem q_unwrap_newSolver_17 (call : FCall) (hs : FHs) (u : Nat) (rec0 : AV → AV → AV → AV → Mem → Nat → Option (AV × Mem)) :
  fxK Try.prog pol NN call c_unwrap_newSolver_17 (AV × Mem) (k_unwrap_newSolver hs u) (fun s => B_unwrap_newSolver_1 call hs u rec0 (s.sl 3) (s.sl 28) (s.sl 29) (s.sl 30) s.m s.fc) (setE 1 (fun s => B_unwrap_newSolver_1 call hs u rec0 (s.sl 3) (s.sl 28) (s.sl 29) (s.sl 30) s.m s.fc) (setE 0 (fun s => B_unwrap_newSolver_0 call hs u (s.sl 3) s.m s.fc) eNil)) r_unwrap_newSolver = (fun s => B_unwrap_newSolver_4 call hs u rec0 (s.sl 3) (s.sl 28) (s.sl 29) (s.sl 30) s.m s.fc) := by
  rw [show c_unwrap_newSolver_17 = .seq c_unwrap_newSolver_18 c_unwrap_newSolver_19 from by kernel_rfl, seq_r]; rw [q_unwrap_newSolver_19 call hs u rec0]; kernel_rfl
theorem q_unwrap_newSolver_15 (call : FCall) (hs : FHs) (u : Nat) (rec0 : AV → AV → AV → AV → Mem → Nat → Option (AV × Mem)) :
  fxK Try.prog pol NN call c_unwrap_newSolver_15 (AV × Mem) (k_unwrap_newSolver hs u) (fun s => B_unwrap_newSolver_1 call hs u rec0 (s.sl 3) (s.sl 28) (s.sl 29) (s.sl 30) s.m s.fc) (setE 0 (fun s => B_unwrap_newSolver_0 call hs u (s.sl 3) s.m s.fc) eNil) r_unwrap_newSolver = (fun s => B_unwrap_newSolver_4 call hs u rec0 (s.sl 3) (s.sl 28) (s.sl 29) (s.sl 30) s.m s.fc) := by
  rw [show c_unwrap_newSolver_15 = .block 1 c_unwrap_newSolver_17 from by kernel_rfl, block_r, q_unwrap_newSolver_17 call hs u rec0]
theorem q_unwrap_newSolver_14 (call : FCall) (hs : FHs) (u : Nat) (rec0 : AV → AV → AV → AV → Mem → Nat → Option (AV × Mem)) :
  fxK Try.prog pol NN call c_unwrap_newSolver_14 (AV × Mem) (k_unwrap_newSolver hs u) (fun s => rec0 (s.sl 3) (s.sl 28) (s.sl 29) (s.sl 30) s.m s.fc) (setE 0 (fun s => B_unwrap_newSolver_0 call hs u (s.sl 3) s.m s.fc) eNil) r_unwrap_newSolver = (fun s => B_unwrap_newSolver_4 call hs u rec0 (s.sl 3) (s.sl 28) (s.sl 29) (s.sl 30) s.m s.fc) := by
  rw [show c_unwrap_newSolver_14 = .seq c_unwrap_newSolver_15 c_unwrap_newSolver_16 from by kernel_rfl, seq_r, q_unwrap_newSolver_16 call hs u rec0, q_unwrap_newSolver_15 call hs u rec0]
theorem q_unwrap_newSolver_10 (call : FCall) (hs : FHs) (u : Nat) (rec0 : AV → AV → AV → AV → Mem → Nat → Option (AV × Mem)) :
  fxK Try.prog pol NN call c_unwrap_newSolver_10 (AV × Mem) (k_unwrap_newSolver hs u) (fun s => rec0 (s.sl 3) (s.sl 28) (s.sl 29) (s.sl 30) s.m s.fc) (setE 0 (fun s => B_unwrap_newSolver_0 call hs u (s.sl 3) s.m s.fc) eNil) r_unwrap_newSolver = (fun s => B_unwrap_newSolver_5 call hs u rec0 (s.sl 3) (s.sl 28) (s.sl 29) (s.sl 30) s.m s.fc) := by
  rw [show c_unwrap_newSolver_10 = .seq c_unwrap_newSolver_11 c_unwrap_newSolver_12 from by kernel_rfl, seq_r]; rw [show c_unwrap_newSolver_12 = .seq c_unwrap_newSolver_13 c_unwrap_newSolver_14 from by kernel_rfl, seq_r]; rw [q_unwrap_newSolver_14 call hs u rec0]; kernel_rfl
theorem q_L_unwrap_newSolver_0 (call : FCall) (hs : FHs) (u : Nat) : ∀ n : Nat,
  iter (fun rec => fxK Try.prog pol NN call c_unwrap_newSolver_10 (AV × Mem) (k_unwrap_newSolver hs u) rec (setE 0 (fun s => B_unwrap_newSolver_0 call hs u (s.sl 3) s.m s.fc) eNil) r_unwrap_newSolver) n = (fun s => L_unwrap_newSolver_0 call hs u n (s.sl 3) (s.sl 28) (s.sl 29) (s.sl 30) s.m s.fc)
  | 0 => rfl
  | n + 1 => by rw [iter_succ, q_L_unwrap_newSolver_0 call hs u n, q_unwrap_newSolver_10 call hs u (L_unwrap_newSolver_0 call hs u n)]; kernel_rfl
theorem q_unwrap_newSolver_9 (call : FCall) (hs : FHs) (u : Nat) :
  fxK Try.prog pol NN call c_unwrap_newSolver_9 (AV × Mem) (k_unwrap_newSolver hs u) (fun s => B_unwrap_newSolver_0 call hs u (s.sl 3) s.m s.fc) (setE 0 (fun s => B_unwrap_newSolver_0 call hs u (s.sl 3) s.m s.fc) eNil) r_unwrap_newSolver = (fun s => L_unwrap_newSolver_0 call hs u NN (s.sl 3) (s.sl 28) (s.sl 29) (s.sl 30) s.m s.fc) := by
  rw [show c_unwrap_newSolver_9 = .loop c_unwrap_newSolver_10 from by kernel_rfl, loop_r, q_L_unwrap_newSolver_0 call hs u NN]
theorem q_unwrap_newSolver_8 (call : FCall) (hs : FHs) (u : Nat) :
  fxK Try.prog pol NN call c_unwrap_newSolver_8 (AV × Mem) (k_unwrap_newSolver hs u) (fun s => B_unwrap_newSolver_0 call hs u (s.sl 3) s.m s.fc) eNil r_unwrap_newSolver = (fun s => L_unwrap_newSolver_0 call hs u NN (s.sl 3) (s.sl 28) (s.sl 29) (s.sl 30) s.m s.fc) := by
  rw [show c_unwrap_newSolver_8 = .block 0 c_unwrap_newSolver_9 from by kernel_rfl, block_r, q_unwrap_newSolver_9 call hs u]
theorem q_unwrap_newSolver_5 (call : FCall) (hs : FHs) (u : Nat) :
  fxK Try.prog pol NN call c_unwrap_newSolver_5 (AV × Mem) (k_unwrap_newSolver hs u) (fun s => B_unwrap_newSolver_0 call hs u (s.sl 3) s.m s.fc) eNil r_unwrap_newSolver = (fun s => B_unwrap_newSolver_6 call hs u (s.sl 1) (s.sl 3) s.m s.fc) := by
  rw [show c_unwrap_newSolver_5 = .seq c_unwrap_newSolver_7 c_unwrap_newSolver_8 from by kernel_rfl, seq_r]; rw [q_unwrap_newSolver_8 call hs u]; kernel_rfl
theorem q_unwrap_newSolver_4 (call : FCall) (hs : FHs) (u : Nat) :
  fxK Try.prog pol NN call c_unwrap_newSolver_4 (AV × Mem) (k_unwrap_newSolver hs u) r_unwrap_newSolver eNil r_unwrap_newSolver = (fun s => B_unwrap_newSolver_6 call hs u (s.sl 1) (s.sl 3) s.m s.fc) := by
  rw [show c_unwrap_newSolver_4 = .seq c_unwrap_newSolver_5 c_unwrap_newSolver_6 from by kernel_rfl, seq_r, q_unwrap_newSolver_6 call hs u, q_unwrap_newSolver_5 call hs u]
theorem q_unwrap_newSolver_0 (call : FCall) (hs : FHs) (u : Nat) :
  fxK Try.prog pol NN call c_unwrap_newSolver_0 (AV × Mem) (k_unwrap_newSolver hs u) r_unwrap_newSolver eNil r_unwrap_newSolver = (fun s => B_unwrap_newSolver_7 call hs u (s.sl 0) s.m s.fc) := by
  rw [show c_unwrap_newSolver_0 = .seq c_unwrap_newSolver_1 c_unwrap_newSolver_2 from by kernel_rfl, seq_r]; rw [show c_unwrap_newSolver_2 = .seq c_unwrap_newSolver_3 c_unwrap_newSolver_4 from by kernel_rfl, seq_r]; rw [q_unwrap_newSolver_4 call hs u]; kernel_rfl
theorem F_unwrap_newSolver_eq (call : FCall) (hs : FHs) (t0 : AV) (m : Mem) : fxBody Try.prog pol NN call hs n_unwrap_newSolver [t0] m = F_unwrap_newSolver call hs [t0] m := by
  rw [fxBody_at (fn := Try.f103) (body := c_unwrap_newSolver_0) (nt := 132) (rs := [.tmp 2]) (by kernel_rfl) (by kernel_rfl) (by kernel_rfl) (by kernel_rfl) (by kernel_rfl) (by kernel_rfl)]
  exact (congrFun (q_unwrap_newSolver_0 call hs m.next) _).trans (by kernel_rfl)
theorem F_unwrap_newSolver_le (call : FCall) (hs : FHs) (args : List AV) (m : Mem) (r : AV × Mem) (h : F_unwrap_newSolver call hs args m = some r) : fxBody Try.prog pol NN call hs n_unwrap_newSolver args m = some r := by
  unfold F_unwrap_newSolver at h
  split at h
  · rw [F_unwrap_newSolver_eq]; exact h
  · cases h

/- slices.IndexFunc[[]int,int] -/
abbrev k_slices_IndexFunc_int_int (hs : FHs) (u : Nat) : FCtx := { f := n_slices_IndexFunc_int_int, u := u, nt := 19, hs := hs }
noncomputable abbrev r_slices_IndexFunc_int_int : Fs → Option (AV × Mem) := fxRes Try.prog [.tmp 4]
noncomputable def c_slices_IndexFunc_int_int_0 : Code := nav (bodyOf n_slices_IndexFunc_int_int) []
noncomputable def c_slices_IndexFunc_int_int_1 : Code := nav (bodyOf n_slices_IndexFunc_int_int) [false]
noncomputable def c_slices_IndexFunc_int_int_2 : Code := nav (bodyOf n_slices_IndexFunc_int_int) [true]
noncomputable def c_slices_IndexFunc_int_int_3 : Code := nav (bodyOf n_slices_IndexFunc_int_int) [true, false]
noncomputable def c_slices_IndexFunc_int_int_4 : Code := nav (bodyOf n_slices_IndexFunc_int_int) [true, true]
noncomputable def c_slices_IndexFunc_int_int_5 : Code := nav (bodyOf n_slices_IndexFunc_int_int) [true, false, false]
noncomputable def c_slices_IndexFunc_int_int_6 : Code := nav (bodyOf n_slices_IndexFunc_int_int) [true, false, true]
noncomputable def c_slices_IndexFunc_int_int_7 : Code := nav (bodyOf n_slices_IndexFunc_int_int) [true, false, true, false]
noncomputable def c_slices_IndexFunc_int_int_8 : Code := nav (bodyOf n_slices_IndexFunc_int_int) [true, false, true, false, false]
theorem q_slices_IndexFunc_int_int_4 (call : FCall) (hs : FHs) (u : Nat) :
  fxK Try.prog pol NN call c_slices_IndexFunc_int_int_4 (AV × Mem) (k_slices_IndexFunc_int_int hs u) r_slices_IndexFunc_int_int eNil r_slices_IndexFunc_int_int = (fun s => B_slices_IndexFunc_int_int_0 call hs u s.m s.fc) := by
  kernel_rfl
theorem q_slices_IndexFunc_int_int_8 (call : FCall) (hs : FHs) (u : Nat) (rec0 : AV → AV → AV → AV → Mem → Nat → Option (AV × Mem)) :
  fxK Try.prog pol NN call c_slices_IndexFunc_int_int_8 (AV × Mem) (k_slices_IndexFunc_int_int hs u) (fun s => rec0 (s.sl 0) (s.sl 1) (s.sl 7) (s.sl 8) s.m s.fc) (setE 0 (fun s => B_slices_IndexFunc_int_int_0 call hs u s.m s.fc) eNil) r_slices_IndexFunc_int_int = (fun s => B_slices_IndexFunc_int_int_1 call hs u rec0 (s.sl 0) (s.sl 1) (s.sl 7) (s.sl 8) s.m s.fc) := by
  kernel_rfl
theorem q_L_slices_IndexFunc_int_int_0 (call : FCall) (hs : FHs) (u : Nat) : ∀ n : Nat,
  iter (fun rec => fxK Try.prog pol NN call c_slices_IndexFunc_int_int_8 (AV × Mem) (k_slices_IndexFunc_int_int hs u) rec (setE 0 (fun s => B_slices_IndexFunc_int_int_0 call hs u s.m s.fc) eNil) r_slices_IndexFunc_int_int) n = (fun s => L_slices_IndexFunc_int_int_0 call hs u n (s.sl 0) (s.sl 1) (s.sl 7) (s.sl 8) s.m s.fc)
  | 0 => rfl
  | n + 1 => by rw [iter_succ, q_L_slices_IndexFunc_int_int_0 call hs u n, q_slices_IndexFunc_int_int_8 call hs u (L_slices_IndexFunc_int_int_0 call hs u n)]; kernel_rfl
theorem q_slices_IndexFunc_int_int_7 (call : FCall) (hs : FHs) (u : Nat) :
  fxK Try.prog pol NN call c_slices_IndexFunc_int_int_7 (AV × Mem) (k_slices_IndexFunc_int_int hs u) (fun s => B_slices_IndexFunc_int_int_0 call hs u s.m s.fc) (setE 0 (fun s => B_slices_IndexFunc_int_int_0 call hs u s.m s.fc) eNil) r_slices_IndexFunc_int_int = (fun s => L_slices_IndexFunc_int_int_0 call hs u NN (s.sl 0) (s.sl 1) (s.sl 7) (s.sl 8) s.m s.fc) := by
  rw [show c_slices_IndexFunc_int_int_7 = .loop c_slices_IndexFunc_int_int_8 from by kernel_rfl, loop_r, q_L_slices_IndexFunc_int_int_0 call hs u NN]
theorem q_slices_IndexFunc_int_int_6 (call : FCall) (hs : FHs) (u : Nat) :
  fxK Try.prog pol NN call c_slices_IndexFunc_int_int_6 (AV × Mem) (k_slices_IndexFunc_int_int hs u) (fun s => B_slices_IndexFunc_int_int_0 call hs u s.m s.fc) eNil r_slices_IndexFunc_int_int = (fun s => L_slices_IndexFunc_int_int_0 call hs u NN (s.sl 0) (s.sl 1) (s.sl 7) (s.sl 8) s.m s.fc) := by
  rw [show c_slices_IndexFunc_int_int_6 = .block 0 c_slices_IndexFunc_int_int_7 from by kernel_rfl, block_r, q_slices_IndexFunc_int_int_7 call hs u]
theorem q_slices_IndexFunc_int_int_3 (call : FCall) (hs : FHs) (u : Nat) :
  fxK Try.prog pol NN call c_slices_IndexFunc_int_int_3 (AV × Mem) (k_slices_IndexFunc_int_int hs u) (fun s => B_slices_IndexFunc_int_int_0 call hs u s.m s.fc) eNil r_slices_IndexFunc_int_int = (fun s => B_slices_IndexFunc_int_int_2 call hs u (s.sl 0) (s.sl 1) s.m s.fc) := by
  rw [show c_slices_IndexFunc_int_int_3 = .seq c_slices_IndexFunc_int_int_5 c_slices_IndexFunc_int_int_6 from by kernel_rfl, seq_r]; rw [q_slices_IndexFunc_int_int_6 call hs u]; kernel_rfl
theorem q_slices_IndexFunc_int_int_2 (call : FCall) (hs : FHs) (u : Nat) :
  fxK Try.prog pol NN call c_slices_IndexFunc_int_int_2 (AV × Mem) (k_slices_IndexFunc_int_int hs u) r_slices_IndexFunc_int_int eNil r_slices_IndexFunc_int_int = (fun s => B_slices_IndexFunc_int_int_2 call hs u (s.sl 0) (s.sl 1) s.m s.fc) := by
  rw [show c_slices_IndexFunc_int_int_2 = .seq c_slices_IndexFunc_int_int_3 c_slices_IndexFunc_int_int_4 from by kernel_rfl, seq_r, q_slices_IndexFunc_int_int_4 call hs u, q_slices_IndexFunc_int_int_3 call hs u]
theorem q_slices_IndexFunc_int_int_0 (call : FCall) (hs : FHs) (u : Nat) :
  fxK Try.prog pol NN call c_slices_IndexFunc_int_int_0 (AV × Mem) (k_slices_IndexFunc_int_int hs u) r_slices_IndexFunc_int_int eNil r_slices_IndexFunc_int_int = (fun s => B_slices_IndexFunc_int_int_3 call hs u (s.sl 0) (s.sl 1) s.m s.fc) := by
  rw [show c_slices_IndexFunc_int_int_0 = .seq c_slices_IndexFunc_int_int_1 c_slices_IndexFunc_int_int_2 from by kernel_rfl, seq_r]; rw [q_slices_IndexFunc_int_int_2 call hs u]; kernel_rfl
theorem F_slices_IndexFunc_int_int_eq (call : FCall) (hs : FHs) (t0 t1 : AV) (m : Mem) : fxBody Try.prog pol NN call hs n_slices_IndexFunc_int_int [t0, t1] m = F_slices_IndexFunc_int_int call hs [t0, t1] m := by
  rw [fxBody_at (fn := Try.f104) (body := c_slices_IndexFunc_int_int_0) (nt := 19) (rs := [.tmp 4]) (by kernel_rfl) (by kernel_rfl) (by kernel_rfl) (by kernel_rfl) (by kernel_rfl) (by kernel_rfl)]
  exact (congrFun (q_slices_IndexFunc_int_int_0 call hs m.next) _).trans (by kernel_rfl)
theorem F_slices_IndexFunc_int_int_le (call : FCall) (hs : FHs) (args : List AV) (m : Mem) (r : AV × Mem) (h : F_slices_IndexFunc_int_int call hs args m = some r) : fxBody Try.prog pol NN call hs n_slices_IndexFunc_int_int args m = some r := by
  unfold F_slices_IndexFunc_int_int at h
  split at h
  · rw [F_slices_IndexFunc_int_int_eq]; exact h
  · cases h

/- (swath/unwrap.net).solve$1 -/
abbrev k_unwrap_net_solve_1 (hs : FHs) (u : Nat) : FCtx := { f := n_unwrap_net_solve_1, u := u, nt := 5, hs := hs }
noncomputable abbrev r_unwrap_net_solve_1 : Fs → Option (AV × Mem) := fxRes Try.prog [.tmp 2]
noncomputable def c_unwrap_net_solve_1_0 : Code := nav (bodyOf n_unwrap_net_solve_1) []
theorem q_unwrap_net_solve_1_0 (call : FCall) (hs : FHs) (u : Nat) :
  fxK Try.prog pol NN call c_unwrap_net_solve_1_0 (AV × Mem) (k_unwrap_net_solve_1 hs u) r_unwrap_net_solve_1 eNil r_unwrap_net_solve_1 = (fun s => B_unwrap_net_solve_1_0 call hs u (s.sl 0) s.m s.fc) := by
  kernel_rfl
theorem F_unwrap_net_solve_1_eq (call : FCall) (hs : FHs) (t0 : AV) (m : Mem) : fxBody Try.prog pol NN call hs n_unwrap_net_solve_1 [t0] m = F_unwrap_net_solve_1 call hs [t0] m := by
  rw [fxBody_at (fn := Try.f105) (body := c_unwrap_net_solve_1_0) (nt := 5) (rs := [.tmp 2]) (by kernel_rfl) (by kernel_rfl) (by kernel_rfl) (by kernel_rfl) (by kernel_rfl) (by kernel_rfl)]
  exact (congrFun (q_unwrap_net_solve_1_0 call hs m.next) _).trans (by kernel_rfl)
theorem F_unwrap_net_solve_1_le (call : FCall) (hs : FHs) (args : List AV) (m : Mem) (r : AV × Mem) (h : F_unwrap_net_solve_1 call hs args m = some r) : fxBody Try.prog pol NN call hs n_unwrap_net_solve_1 args m = some r := by
  unfold F_unwrap_net_solve_1 at h
  split at h
  · rw [F_unwrap_net_solve_1_eq]; exact h
  · cases h

end Go.Ix
