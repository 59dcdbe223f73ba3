/- MADE BY PROGRAM (gen.py). What the code does, block by block. -/
import Derived.Test.YtljibmnhhdiakaaFxText0
import Derived.Test.YtljibmnhhdiakaaFxRules
import Derived.ProofKit
set_option linter.unusedVariables false
namespace Go.Ix
open Go.Proofs

/- swath/swathlaw05.UnwrapTasks -/
abbrev k_law05_UnwrapTasks (hs : FHs) (u : Nat) : FCtx := { f := n_law05_UnwrapTasks, u := u, nt := 38, hs := hs }
noncomputable abbrev r_law05_UnwrapTasks : Fs → Option (AV × Mem) := fxRes Try.prog [.tmp 2]
noncomputable def c_law05_UnwrapTasks_0 : Code := nav (bodyOf n_law05_UnwrapTasks) []
theorem q_law05_UnwrapTasks_0 (call : FCall) (hs : FHs) (u : Nat) :
  fxK Try.prog pol NN call c_law05_UnwrapTasks_0 (AV × Mem) (k_law05_UnwrapTasks hs u) r_law05_UnwrapTasks eNil r_law05_UnwrapTasks = (fun s => B_law05_UnwrapTasks_0 call hs u (s.sl 0) s.m s.fc) := by
  kernel_rfl
theorem F_law05_UnwrapTasks_eq (call : FCall) (hs : FHs) (t0 : AV) (m : Mem) : fxBody Try.prog pol NN call hs n_law05_UnwrapTasks [t0] m = F_law05_UnwrapTasks call hs [t0] m := by
  rw [fxBody_at (fn := Try.f4) (body := c_law05_UnwrapTasks_0) (nt := 38) (rs := [.tmp 2]) (by kernel_rfl) (by kernel_rfl) (by kernel_rfl) (by kernel_rfl) (by kernel_rfl) (by kernel_rfl)]
  exact (congrFun (q_law05_UnwrapTasks_0 call hs m.next) _).trans (by kernel_rfl)
theorem F_law05_UnwrapTasks_le (call : FCall) (hs : FHs) (args : List AV) (m : Mem) (r : AV × Mem) (h : F_law05_UnwrapTasks call hs args m = some r) : fxBody Try.prog pol NN call hs n_law05_UnwrapTasks args m = some r := by
  unfold F_law05_UnwrapTasks at h
  split at h
  · rw [F_law05_UnwrapTasks_eq]; exact h
  · cases h

/- swath/swathlaw05.UnwrapAlong -/
abbrev k_law05_UnwrapAlong (hs : FHs) (u : Nat) : FCtx := { f := n_law05_UnwrapAlong, u := u, nt := 56, hs := hs }
noncomputable abbrev r_law05_UnwrapAlong : Fs → Option (AV × Mem) := fxRes Try.prog [.tmp 4]
noncomputable def c_law05_UnwrapAlong_0 : Code := nav (bodyOf n_law05_UnwrapAlong) []
noncomputable def c_law05_UnwrapAlong_1 : Code := nav (bodyOf n_law05_UnwrapAlong) [false]
noncomputable def c_law05_UnwrapAlong_2 : Code := nav (bodyOf n_law05_UnwrapAlong) [true]
noncomputable def c_law05_UnwrapAlong_3 : Code := nav (bodyOf n_law05_UnwrapAlong) [true, false]
noncomputable def c_law05_UnwrapAlong_4 : Code := nav (bodyOf n_law05_UnwrapAlong) [true, true]
noncomputable def c_law05_UnwrapAlong_5 : Code := nav (bodyOf n_law05_UnwrapAlong) [true, true, false]
noncomputable def c_law05_UnwrapAlong_6 : Code := nav (bodyOf n_law05_UnwrapAlong) [true, true, true]
noncomputable def c_law05_UnwrapAlong_7 : Code := nav (bodyOf n_law05_UnwrapAlong) [true, true, true, false]
noncomputable def c_law05_UnwrapAlong_8 : Code := nav (bodyOf n_law05_UnwrapAlong) [true, true, true, true]
noncomputable def c_law05_UnwrapAlong_9 : Code := nav (bodyOf n_law05_UnwrapAlong) [true, true, true, true, false]
noncomputable def c_law05_UnwrapAlong_10 : Code := nav (bodyOf n_law05_UnwrapAlong) [true, true, true, true, true]
noncomputable def c_law05_UnwrapAlong_11 : Code := nav (bodyOf n_law05_UnwrapAlong) [true, true, true, true, true, false]
noncomputable def c_law05_UnwrapAlong_12 : Code := nav (bodyOf n_law05_UnwrapAlong) [true, true, true, true, true, true]
noncomputable def c_law05_UnwrapAlong_13 : Code := nav (bodyOf n_law05_UnwrapAlong) [true, true, true, true, true, true, false]
noncomputable def c_law05_UnwrapAlong_14 : Code := nav (bodyOf n_law05_UnwrapAlong) [true, true, true, true, true, true, true]
theorem q_law05_UnwrapAlong_14 (call : FCall) (hs : FHs) (u : Nat) :
  fxK Try.prog pol NN call c_law05_UnwrapAlong_14 (AV × Mem) (k_law05_UnwrapAlong hs u) r_law05_UnwrapAlong eNil r_law05_UnwrapAlong = (fun s => B_law05_UnwrapAlong_0 call hs u (s.sl 5) (s.sl 6) (s.sl 7) (s.sl 8) s.m s.fc) := by
  kernel_rfl
theorem q_law05_UnwrapAlong_13 (call : FCall) (hs : FHs) (u : Nat) :
  fxK Try.prog pol NN call c_law05_UnwrapAlong_13 (AV × Mem) (k_law05_UnwrapAlong hs u) (fun s => B_law05_UnwrapAlong_0 call hs u (s.sl 5) (s.sl 6) (s.sl 7) (s.sl 8) s.m s.fc) eNil r_law05_UnwrapAlong = (fun s => B_law05_UnwrapAlong_1 call hs u (s.sl 1) (s.sl 2) (s.sl 5) (s.sl 6) (s.sl 7) (s.sl 8) s.m s.fc) := by
  kernel_rfl
theorem q_law05_UnwrapAlong_12 (call : FCall) (hs : FHs) (u : Nat) :
  fxK Try.prog pol NN call c_law05_UnwrapAlong_12 (AV × Mem) (k_law05_UnwrapAlong hs u) r_law05_UnwrapAlong eNil r_law05_UnwrapAlong = (fun s => B_law05_UnwrapAlong_1 call hs u (s.sl 1) (s.sl 2) (s.sl 5) (s.sl 6) (s.sl 7) (s.sl 8) s.m s.fc) := by
  rw [show c_law05_UnwrapAlong_12 = .seq c_law05_UnwrapAlong_13 c_law05_UnwrapAlong_14 from by kernel_rfl, seq_r, q_law05_UnwrapAlong_14 call hs u, q_law05_UnwrapAlong_13 call hs u]
theorem q_law05_UnwrapAlong_0 (call : FCall) (hs : FHs) (u : Nat) :
  fxK Try.prog pol NN call c_law05_UnwrapAlong_0 (AV × Mem) (k_law05_UnwrapAlong hs u) r_law05_UnwrapAlong eNil r_law05_UnwrapAlong = (fun s => B_law05_UnwrapAlong_2 call hs u (s.sl 0) (s.sl 1) s.m s.fc) := by
  rw [show c_law05_UnwrapAlong_0 = .seq c_law05_UnwrapAlong_1 c_law05_UnwrapAlong_2 from by kernel_rfl, seq_r]; rw [show c_law05_UnwrapAlong_2 = .seq c_law05_UnwrapAlong_3 c_law05_UnwrapAlong_4 from by kernel_rfl, seq_r]; rw [show c_law05_UnwrapAlong_4 = .seq c_law05_UnwrapAlong_5 c_law05_UnwrapAlong_6 from by kernel_rfl, seq_r]; rw [show c_law05_UnwrapAlong_6 = .seq c_law05_UnwrapAlong_7 c_law05_UnwrapAlong_8 from by kernel_rfl, seq_r]; rw [show c_law05_UnwrapAlong_8 = .seq c_law05_UnwrapAlong_9 c_law05_UnwrapAlong_10 from by kernel_rfl, seq_r]; rw [show c_law05_UnwrapAlong_10 = .seq c_law05_UnwrapAlong_11 c_law05_UnwrapAlong_12 from by kernel_rfl, seq_r]; rw [q_law05_UnwrapAlong_12 call hs u]; kernel_rfl
theorem F_law05_UnwrapAlong_eq (call : FCall) (hs : FHs) (t0 t1 : AV) (m : Mem) : fxBody Try.prog pol NN call hs n_law05_UnwrapAlong [t0, t1] m = F_law05_UnwrapAlong call hs [t0, t1] m := by
  rw [fxBody_at (fn := Try.f11) (body := c_law05_UnwrapAlong_0) (nt := 56) (rs := [.tmp 4]) (by kernel_rfl) (by kernel_rfl) (by kernel_rfl) (by kernel_rfl) (by kernel_rfl) (by kernel_rfl)]
  exact (congrFun (q_law05_UnwrapAlong_0 call hs m.next) _).trans (by kernel_rfl)
theorem F_law05_UnwrapAlong_le (call : FCall) (hs : FHs) (args : List AV) (m : Mem) (r : AV × Mem) (h : F_law05_UnwrapAlong call hs args m = some r) : fxBody Try.prog pol NN call hs n_law05_UnwrapAlong args m = some r := by
  unfold F_law05_UnwrapAlong at h
  split at h
  · rw [F_law05_UnwrapAlong_eq]; exact h
  · cases h

/- swath/swathlaw05.awake -/
abbrev k_law05_awake (hs : FHs) (u : Nat) : FCtx := { f := n_law05_awake, u := u, nt := 79, hs := hs }
noncomputable abbrev r_law05_awake : Fs → Option (AV × Mem) := fxRes Try.prog [.tmp 0]
noncomputable def c_law05_awake_0 : Code := nav (bodyOf n_law05_awake) []
theorem q_law05_awake_0 (call : FCall) (hs : FHs) (u : Nat) :
  fxK Try.prog pol NN call c_law05_awake_0 (AV × Mem) (k_law05_awake hs u) r_law05_awake eNil r_law05_awake = (fun s => B_law05_awake_0 call hs u s.m s.fc) := by
  kernel_rfl
theorem F_law05_awake_eq (call : FCall) (hs : FHs) (m : Mem) : fxBody Try.prog pol NN call hs n_law05_awake [] m = F_law05_awake call hs [] m := by
  rw [fxBody_at (fn := Try.f15) (body := c_law05_awake_0) (nt := 79) (rs := [.tmp 0]) (by kernel_rfl) (by kernel_rfl) (by kernel_rfl) (by kernel_rfl) (by kernel_rfl) (by kernel_rfl)]
  exact (congrFun (q_law05_awake_0 call hs m.next) _).trans (by kernel_rfl)
theorem F_law05_awake_le (call : FCall) (hs : FHs) (args : List AV) (m : Mem) (r : AV × Mem) (h : F_law05_awake call hs args m = some r) : fxBody Try.prog pol NN call hs n_law05_awake args m = some r := by
  unfold F_law05_awake at h
  split at h
  · rw [F_law05_awake_eq]; exact h
  · cases h

/- swath/swathlaw05.Few -/
abbrev k_law05_Few (hs : FHs) (u : Nat) : FCtx := { f := n_law05_Few, u := u, nt := 56, hs := hs }
noncomputable abbrev r_law05_Few : Fs → Option (AV × Mem) := fxRes Try.prog [.tmp 2]
noncomputable def c_law05_Few_0 : Code := nav (bodyOf n_law05_Few) []
noncomputable def c_law05_Few_1 : Code := nav (bodyOf n_law05_Few) [false]
noncomputable def c_law05_Few_2 : Code := nav (bodyOf n_law05_Few) [true]
noncomputable def c_law05_Few_3 : Code := nav (bodyOf n_law05_Few) [true, false]
noncomputable def c_law05_Few_4 : Code := nav (bodyOf n_law05_Few) [true, true]
noncomputable def c_law05_Few_5 : Code := nav (bodyOf n_law05_Few) [true, true, false]
noncomputable def c_law05_Few_6 : Code := nav (bodyOf n_law05_Few) [true, true, true]
noncomputable def c_law05_Few_7 : Code := nav (bodyOf n_law05_Few) [true, true, true, false]
noncomputable def c_law05_Few_8 : Code := nav (bodyOf n_law05_Few) [true, true, true, true]
noncomputable def c_law05_Few_9 : Code := nav (bodyOf n_law05_Few) [true, true, true, false, false]
noncomputable def c_law05_Few_10 : Code := nav (bodyOf n_law05_Few) [true, true, true, false, true]
noncomputable def c_law05_Few_11 : Code := nav (bodyOf n_law05_Few) [true, true, true, false, true, false]
noncomputable def c_law05_Few_12 : Code := nav (bodyOf n_law05_Few) [true, true, true, false, true, false, false]
theorem q_law05_Few_8 (call : FCall) (hs : FHs) (u : Nat) :
  fxK Try.prog pol NN call c_law05_Few_8 (AV × Mem) (k_law05_Few hs u) r_law05_Few eNil r_law05_Few = (fun s => B_law05_Few_0 call hs u s.m s.fc) := by
  kernel_rfl
theorem q_law05_Few_12 (call : FCall) (hs : FHs) (u : Nat) (rec0 : AV → AV → Mem → Nat → Option (AV × Mem)) :
  fxK Try.prog pol NN call c_law05_Few_12 (AV × Mem) (k_law05_Few hs u) (fun s => rec0 (s.sl 1) (s.sl 3) s.m s.fc) (setE 0 (fun s => B_law05_Few_0 call hs u s.m s.fc) eNil) r_law05_Few = (fun s => B_law05_Few_1 call hs u rec0 (s.sl 1) (s.sl 3) s.m s.fc) := by
  kernel_rfl
theorem q_L_law05_Few_0 (call : FCall) (hs : FHs) (u : Nat) : ∀ n : Nat,
  iter (fun rec => fxK Try.prog pol NN call c_law05_Few_12 (AV × Mem) (k_law05_Few hs u) rec (setE 0 (fun s => B_law05_Few_0 call hs u s.m s.fc) eNil) r_law05_Few) n = (fun s => L_law05_Few_0 call hs u n (s.sl 1) (s.sl 3) s.m s.fc)
  | 0 => rfl
  | n + 1 => by rw [iter_succ, q_L_law05_Few_0 call hs u n, q_law05_Few_12 call hs u (L_law05_Few_0 call hs u n)]; kernel_rfl
theorem q_law05_Few_11 (call : FCall) (hs : FHs) (u : Nat) :
  fxK Try.prog pol NN call c_law05_Few_11 (AV × Mem) (k_law05_Few hs u) (fun s => B_law05_Few_0 call hs u s.m s.fc) (setE 0 (fun s => B_law05_Few_0 call hs u s.m s.fc) eNil) r_law05_Few = (fun s => L_law05_Few_0 call hs u NN (s.sl 1) (s.sl 3) s.m s.fc) := by
  rw [show c_law05_Few_11 = .loop c_law05_Few_12 from by kernel_rfl, loop_r, q_L_law05_Few_0 call hs u NN]
theorem q_law05_Few_10 (call : FCall) (hs : FHs) (u : Nat) :
  fxK Try.prog pol NN call c_law05_Few_10 (AV × Mem) (k_law05_Few hs u) (fun s => B_law05_Few_0 call hs u s.m s.fc) eNil r_law05_Few = (fun s => L_law05_Few_0 call hs u NN (s.sl 1) (s.sl 3) s.m s.fc) := by
  rw [show c_law05_Few_10 = .block 0 c_law05_Few_11 from by kernel_rfl, block_r, q_law05_Few_11 call hs u]
theorem q_law05_Few_7 (call : FCall) (hs : FHs) (u : Nat) :
  fxK Try.prog pol NN call c_law05_Few_7 (AV × Mem) (k_law05_Few hs u) (fun s => B_law05_Few_0 call hs u s.m s.fc) eNil r_law05_Few = (fun s => B_law05_Few_2 call hs u (s.sl 1) s.m s.fc) := by
  rw [show c_law05_Few_7 = .seq c_law05_Few_9 c_law05_Few_10 from by kernel_rfl, seq_r]; rw [q_law05_Few_10 call hs u]; kernel_rfl
theorem q_law05_Few_6 (call : FCall) (hs : FHs) (u : Nat) :
  fxK Try.prog pol NN call c_law05_Few_6 (AV × Mem) (k_law05_Few hs u) r_law05_Few eNil r_law05_Few = (fun s => B_law05_Few_2 call hs u (s.sl 1) s.m s.fc) := by
  rw [show c_law05_Few_6 = .seq c_law05_Few_7 c_law05_Few_8 from by kernel_rfl, seq_r, q_law05_Few_8 call hs u, q_law05_Few_7 call hs u]
theorem q_law05_Few_0 (call : FCall) (hs : FHs) (u : Nat) :
  fxK Try.prog pol NN call c_law05_Few_0 (AV × Mem) (k_law05_Few hs u) r_law05_Few eNil r_law05_Few = (fun s => B_law05_Few_3 call hs u (s.sl 0) s.m s.fc) := by
  rw [show c_law05_Few_0 = .seq c_law05_Few_1 c_law05_Few_2 from by kernel_rfl, seq_r]; rw [show c_law05_Few_2 = .seq c_law05_Few_3 c_law05_Few_4 from by kernel_rfl, seq_r]; rw [show c_law05_Few_4 = .seq c_law05_Few_5 c_law05_Few_6 from by kernel_rfl, seq_r]; rw [q_law05_Few_6 call hs u]; kernel_rfl
theorem F_law05_Few_eq (call : FCall) (hs : FHs) (t0 : AV) (m : Mem) : fxBody Try.prog pol NN call hs n_law05_Few [t0] m = F_law05_Few call hs [t0] m := by
  rw [fxBody_at (fn := Try.f16) (body := c_law05_Few_0) (nt := 56) (rs := [.tmp 2]) (by kernel_rfl) (by kernel_rfl) (by kernel_rfl) (by kernel_rfl) (by kernel_rfl) (by kernel_rfl)]
  exact (congrFun (q_law05_Few_0 call hs m.next) _).trans (by kernel_rfl)
theorem F_law05_Few_le (call : FCall) (hs : FHs) (args : List AV) (m : Mem) (r : AV × Mem) (h : F_law05_Few call hs args m = some r) : fxBody Try.prog pol NN call hs n_law05_Few args m = some r := by
  unfold F_law05_Few at h
  split at h
  · rw [F_law05_Few_eq]; exact h
  · cases h

/- swath/unwrap.SolveNet -/
abbrev k_unwrap_SolveNet (hs : FHs) (u : Nat) : FCtx := { f := n_unwrap_SolveNet, u := u, nt := 33, hs := hs }
noncomputable abbrev r_unwrap_SolveNet : Fs → Option (AV × Mem) := fxRes Try.prog [.tmp 2, .tmp 3, .tmp 4, .tmp 5]
noncomputable def c_unwrap_SolveNet_0 : Code := nav (bodyOf n_unwrap_SolveNet) []
theorem q_unwrap_SolveNet_0 (call : FCall) (hs : FHs) (u : Nat) :
  fxK Try.prog pol NN call c_unwrap_SolveNet_0 (AV × Mem) (k_unwrap_SolveNet hs u) r_unwrap_SolveNet eNil r_unwrap_SolveNet = (fun s => B_unwrap_SolveNet_0 call hs u (s.sl 0) s.m s.fc) := by
  kernel_rfl
theorem F_unwrap_SolveNet_eq (call : FCall) (hs : FHs) (t0 : AV) (m : Mem) : fxBody Try.prog pol NN call hs n_unwrap_SolveNet [t0] m = F_unwrap_SolveNet call hs [t0] m := by
  rw [fxBody_at (fn := Try.f17) (body := c_unwrap_SolveNet_0) (nt := 33) (rs := [.tmp 2, .tmp 3, .tmp 4, .tmp 5]) (by kernel_rfl) (by kernel_rfl) (by kernel_rfl) (by kernel_rfl) (by kernel_rfl) (by kernel_rfl)]
  exact (congrFun (q_unwrap_SolveNet_0 call hs m.next) _).trans (by kernel_rfl)
theorem F_unwrap_SolveNet_le (call : FCall) (hs : FHs) (args : List AV) (m : Mem) (r : AV × Mem) (h : F_unwrap_SolveNet call hs args m = some r) : fxBody Try.prog pol NN call hs n_unwrap_SolveNet args m = some r := by
  unfold F_unwrap_SolveNet at h
  split at h
  · rw [F_unwrap_SolveNet_eq]; exact h
  · cases h

/- swath/swathref05.CopyNet -/
abbrev k_ref05_CopyNet (hs : FHs) (u : Nat) : FCtx := { f := n_ref05_CopyNet, u := u, nt := 10, hs := hs }
noncomputable abbrev r_ref05_CopyNet : Fs → Option (AV × Mem) := fxRes Try.prog [.cell 2 y_api_UnwrapNet]
noncomputable def c_ref05_CopyNet_0 : Code := nav (bodyOf n_ref05_CopyNet) []
theorem q_ref05_CopyNet_0 (call : FCall) (hs : FHs) (u : Nat) :
  fxK Try.prog pol NN call c_ref05_CopyNet_0 (AV × Mem) (k_ref05_CopyNet hs u) r_ref05_CopyNet eNil r_ref05_CopyNet = (fun s => B_ref05_CopyNet_0 call hs u (s.sl 0) s.m s.fc) := by
  kernel_rfl
theorem F_ref05_CopyNet_eq (call : FCall) (hs : FHs) (t0 : AV) (m : Mem) : fxBody Try.prog pol NN call hs n_ref05_CopyNet [t0] m = F_ref05_CopyNet call hs [t0] m := by
  rw [fxBody_at (fn := Try.f18) (body := c_ref05_CopyNet_0) (nt := 10) (rs := [.cell 2 y_api_UnwrapNet]) (by kernel_rfl) (by kernel_rfl) (by kernel_rfl) (by kernel_rfl) (by kernel_rfl) (by kernel_rfl)]
  exact (congrFun (q_ref05_CopyNet_0 call hs m.next) _).trans (by kernel_rfl)
theorem F_ref05_CopyNet_le (call : FCall) (hs : FHs) (args : List AV) (m : Mem) (r : AV × Mem) (h : F_ref05_CopyNet call hs args m = some r) : fxBody Try.prog pol NN call hs n_ref05_CopyNet args m = some r := by
  unfold F_ref05_CopyNet at h
  split at h
  · rw [F_ref05_CopyNet_eq]; exact h
  · cases h

/- swath/swathref05.Err -/
abbrev k_ref05_Err (hs : FHs) (u : Nat) : FCtx := { f := n_ref05_Err, u := u, nt := 11, hs := hs }
noncomputable abbrev r_ref05_Err : Fs → Option (AV × Mem) := fxRes Try.prog [.tmp 2]
noncomputable def c_ref05_Err_0 : Code := nav (bodyOf n_ref05_Err) []
theorem q_ref05_Err_0 (call : FCall) (hs : FHs) (u : Nat) :
  fxK Try.prog pol NN call c_ref05_Err_0 (AV × Mem) (k_ref05_Err hs u) r_ref05_Err eNil r_ref05_Err = (fun s => B_ref05_Err_0 call hs u (s.sl 0) s.m s.fc) := by
  kernel_rfl
theorem F_ref05_Err_eq (call : FCall) (hs : FHs) (t0 : AV) (m : Mem) : fxBody Try.prog pol NN call hs n_ref05_Err [t0] m = F_ref05_Err call hs [t0] m := by
  rw [fxBody_at (fn := Try.f19) (body := c_ref05_Err_0) (nt := 11) (rs := [.tmp 2]) (by kernel_rfl) (by kernel_rfl) (by kernel_rfl) (by kernel_rfl) (by kernel_rfl) (by kernel_rfl)]
  exact (congrFun (q_ref05_Err_0 call hs m.next) _).trans (by kernel_rfl)
theorem F_ref05_Err_le (call : FCall) (hs : FHs) (args : List AV) (m : Mem) (r : AV × Mem) (h : F_ref05_Err call hs args m = some r) : fxBody Try.prog pol NN call hs n_ref05_Err args m = some r := by
  unfold F_ref05_Err at h
  split at h
  · rw [F_ref05_Err_eq]; exact h
  · cases h

/- swath/swathref05.CheckTurns -/
abbrev k_ref05_CheckTurns (hs : FHs) (u : Nat) : FCtx := { f := n_ref05_CheckTurns, u := u, nt := 27, hs := hs }
noncomputable abbrev r_ref05_CheckTurns : Fs → Option (AV × Mem) := fxRes Try.prog [.tmp 4, .tmp 5]
noncomputable def c_ref05_CheckTurns_0 : Code := nav (bodyOf n_ref05_CheckTurns) []
noncomputable def c_ref05_CheckTurns_1 : Code := nav (bodyOf n_ref05_CheckTurns) [false]
noncomputable def c_ref05_CheckTurns_2 : Code := nav (bodyOf n_ref05_CheckTurns) [true]
noncomputable def c_ref05_CheckTurns_3 : Code := nav (bodyOf n_ref05_CheckTurns) [true, false]
noncomputable def c_ref05_CheckTurns_4 : Code := nav (bodyOf n_ref05_CheckTurns) [true, true]
noncomputable def c_ref05_CheckTurns_5 : Code := nav (bodyOf n_ref05_CheckTurns) [true, true, false]
noncomputable def c_ref05_CheckTurns_6 : Code := nav (bodyOf n_ref05_CheckTurns) [true, true, true]
noncomputable def c_ref05_CheckTurns_7 : Code := nav (bodyOf n_ref05_CheckTurns) [true, true, false, false]
noncomputable def c_ref05_CheckTurns_8 : Code := nav (bodyOf n_ref05_CheckTurns) [true, true, false, true]
noncomputable def c_ref05_CheckTurns_9 : Code := nav (bodyOf n_ref05_CheckTurns) [true, true, false, true, false]
noncomputable def c_ref05_CheckTurns_10 : Code := nav (bodyOf n_ref05_CheckTurns) [true, true, false, true, false, false]
theorem q_ref05_CheckTurns_6 (call : FCall) (hs : FHs) (u : Nat) :
  fxK Try.prog pol NN call c_ref05_CheckTurns_6 (AV × Mem) (k_ref05_CheckTurns hs u) r_ref05_CheckTurns eNil r_ref05_CheckTurns = (fun s => B_ref05_CheckTurns_0 call hs u (s.sl 1) (s.sl 2) s.m s.fc) := by
  kernel_rfl
theorem q_ref05_CheckTurns_10 (call : FCall) (hs : FHs) (u : Nat) (rec0 : AV → AV → AV → Mem → Nat → Option (AV × Mem)) :
  fxK Try.prog pol NN call c_ref05_CheckTurns_10 (AV × Mem) (k_ref05_CheckTurns hs u) (fun s => rec0 (s.sl 1) (s.sl 2) (s.sl 6) s.m s.fc) (setE 0 (fun s => B_ref05_CheckTurns_0 call hs u (s.sl 1) (s.sl 2) s.m s.fc) eNil) r_ref05_CheckTurns = (fun s => B_ref05_CheckTurns_1 call hs u rec0 (s.sl 1) (s.sl 2) (s.sl 6) s.m s.fc) := by
  kernel_rfl
theorem q_L_ref05_CheckTurns_0 (call : FCall) (hs : FHs) (u : Nat) : ∀ n : Nat,
  iter (fun rec => fxK Try.prog pol NN call c_ref05_CheckTurns_10 (AV × Mem) (k_ref05_CheckTurns hs u) rec (setE 0 (fun s => B_ref05_CheckTurns_0 call hs u (s.sl 1) (s.sl 2) s.m s.fc) eNil) r_ref05_CheckTurns) n = (fun s => L_ref05_CheckTurns_0 call hs u n (s.sl 1) (s.sl 2) (s.sl 6) s.m s.fc)
  | 0 => rfl
  | n + 1 => by rw [iter_succ, q_L_ref05_CheckTurns_0 call hs u n, q_ref05_CheckTurns_10 call hs u (L_ref05_CheckTurns_0 call hs u n)]; kernel_rfl
theorem q_ref05_CheckTurns_9 (call : FCall) (hs : FHs) (u : Nat) :
  fxK Try.prog pol NN call c_ref05_CheckTurns_9 (AV × Mem) (k_ref05_CheckTurns hs u) (fun s => B_ref05_CheckTurns_0 call hs u (s.sl 1) (s.sl 2) s.m s.fc) (setE 0 (fun s => B_ref05_CheckTurns_0 call hs u (s.sl 1) (s.sl 2) s.m s.fc) eNil) r_ref05_CheckTurns = (fun s => L_ref05_CheckTurns_0 call hs u NN (s.sl 1) (s.sl 2) (s.sl 6) s.m s.fc) := by
  rw [show c_ref05_CheckTurns_9 = .loop c_ref05_CheckTurns_10 from by kernel_rfl, loop_r, q_L_ref05_CheckTurns_0 call hs u NN]
theorem q_ref05_CheckTurns_8 (call : FCall) (hs : FHs) (u : Nat) :
  fxK Try.prog pol NN call c_ref05_CheckTurns_8 (AV × Mem) (k_ref05_CheckTurns hs u) (fun s => B_ref05_CheckTurns_0 call hs u (s.sl 1) (s.sl 2) s.m s.fc) eNil r_ref05_CheckTurns = (fun s => L_ref05_CheckTurns_0 call hs u NN (s.sl 1) (s.sl 2) (s.sl 6) s.m s.fc) := by
  rw [show c_ref05_CheckTurns_8 = .block 0 c_ref05_CheckTurns_9 from by kernel_rfl, block_r, q_ref05_CheckTurns_9 call hs u]
theorem q_ref05_CheckTurns_5 (call : FCall) (hs : FHs) (u : Nat) :
  fxK Try.prog pol NN call c_ref05_CheckTurns_5 (AV × Mem) (k_ref05_CheckTurns hs u) (fun s => B_ref05_CheckTurns_0 call hs u (s.sl 1) (s.sl 2) s.m s.fc) eNil r_ref05_CheckTurns = (fun s => B_ref05_CheckTurns_2 call hs u (s.sl 1) (s.sl 2) s.m s.fc) := by
  rw [show c_ref05_CheckTurns_5 = .seq c_ref05_CheckTurns_7 c_ref05_CheckTurns_8 from by kernel_rfl, seq_r]; rw [q_ref05_CheckTurns_8 call hs u]; kernel_rfl
theorem q_ref05_CheckTurns_4 (call : FCall) (hs : FHs) (u : Nat) :
  fxK Try.prog pol NN call c_ref05_CheckTurns_4 (AV × Mem) (k_ref05_CheckTurns hs u) r_ref05_CheckTurns eNil r_ref05_CheckTurns = (fun s => B_ref05_CheckTurns_2 call hs u (s.sl 1) (s.sl 2) s.m s.fc) := by
  rw [show c_ref05_CheckTurns_4 = .seq c_ref05_CheckTurns_5 c_ref05_CheckTurns_6 from by kernel_rfl, seq_r, q_ref05_CheckTurns_6 call hs u, q_ref05_CheckTurns_5 call hs u]
theorem q_ref05_CheckTurns_0 (call : FCall) (hs : FHs) (u : Nat) :
  fxK Try.prog pol NN call c_ref05_CheckTurns_0 (AV × Mem) (k_ref05_CheckTurns hs u) r_ref05_CheckTurns eNil r_ref05_CheckTurns = (fun s => B_ref05_CheckTurns_3 call hs u (s.sl 0) (s.sl 1) s.m s.fc) := by
  rw [show c_ref05_CheckTurns_0 = .seq c_ref05_CheckTurns_1 c_ref05_CheckTurns_2 from by kernel_rfl, seq_r]; rw [show c_ref05_CheckTurns_2 = .seq c_ref05_CheckTurns_3 c_ref05_CheckTurns_4 from by kernel_rfl, seq_r]; rw [q_ref05_CheckTurns_4 call hs u]; kernel_rfl
theorem F_ref05_CheckTurns_eq (call : FCall) (hs : FHs) (t0 t1 : AV) (m : Mem) : fxBody Try.prog pol NN call hs n_ref05_CheckTurns [t0, t1] m = F_ref05_CheckTurns call hs [t0, t1] m := by
  rw [fxBody_at (fn := Try.f20) (body := c_ref05_CheckTurns_0) (nt := 27) (rs := [.tmp 4, .tmp 5]) (by kernel_rfl) (by kernel_rfl) (by kernel_rfl) (by kernel_rfl) (by kernel_rfl) (by kernel_rfl)]
  exact (congrFun (q_ref05_CheckTurns_0 call hs m.next) _).trans (by kernel_rfl)
theorem F_ref05_CheckTurns_le (call : FCall) (hs : FHs) (args : List AV) (m : Mem) (r : AV × Mem) (h : F_ref05_CheckTurns call hs args m = some r) : fxBody Try.prog pol NN call hs n_ref05_CheckTurns args m = some r := by
  unfold F_ref05_CheckTurns at h
  split at h
  · rw [F_ref05_CheckTurns_eq]; exact h
  · cases h

/- swath/swathlaw05.small -/
abbrev k_law05_small (hs : FHs) (u : Nat) : FCtx := { f := n_law05_small, u := u, nt := 56, hs := hs }
noncomputable abbrev r_law05_small : Fs → Option (AV × Mem) := fxRes Try.prog [.tmp 2]
noncomputable def c_law05_small_0 : Code := nav (bodyOf n_law05_small) []
noncomputable def c_law05_small_1 : Code := nav (bodyOf n_law05_small) [false]
noncomputable def c_law05_small_2 : Code := nav (bodyOf n_law05_small) [true]
noncomputable def c_law05_small_3 : Code := nav (bodyOf n_law05_small) [true, false]
noncomputable def c_law05_small_4 : Code := nav (bodyOf n_law05_small) [true, true]
noncomputable def c_law05_small_5 : Code := nav (bodyOf n_law05_small) [true, true, false]
noncomputable def c_law05_small_6 : Code := nav (bodyOf n_law05_small) [true, true, true]
noncomputable def c_law05_small_7 : Code := nav (bodyOf n_law05_small) [true, true, true, false]
noncomputable def c_law05_small_8 : Code := nav (bodyOf n_law05_small) [true, true, true, true]
noncomputable def c_law05_small_9 : Code := nav (bodyOf n_law05_small) [true, true, true, true, false]
noncomputable def c_law05_small_10 : Code := nav (bodyOf n_law05_small) [true, true, true, true, true]
noncomputable def c_law05_small_11 : Code := nav (bodyOf n_law05_small) [true, true, true, true, true, false]
noncomputable def c_law05_small_12 : Code := nav (bodyOf n_law05_small) [true, true, true, true, true, true]
noncomputable def c_law05_small_13 : Code := nav (bodyOf n_law05_small) [true, true, true, true, true, false, false]
noncomputable def c_law05_small_14 : Code := nav (bodyOf n_law05_small) [true, true, true, true, true, false, true]
noncomputable def c_law05_small_15 : Code := nav (bodyOf n_law05_small) [true, true, true, true, true, false, true, false]
noncomputable def c_law05_small_16 : Code := nav (bodyOf n_law05_small) [true, true, true, true, true, false, true, false, false]
noncomputable def c_law05_small_17 : Code := nav (bodyOf n_law05_small) [true, true, true, true, false, false]
noncomputable def c_law05_small_18 : Code := nav (bodyOf n_law05_small) [true, true, true, true, false, true]
noncomputable def c_law05_small_19 : Code := nav (bodyOf n_law05_small) [true, true, true, true, false, true, false]
noncomputable def c_law05_small_20 : Code := nav (bodyOf n_law05_small) [true, true, true, true, false, true, false, false]
theorem q_law05_small_12 (call : FCall) (hs : FHs) (u : Nat) :
  fxK Try.prog pol NN call c_law05_small_12 (AV × Mem) (k_law05_small hs u) r_law05_small eNil r_law05_small = (fun s => B_law05_small_0 call hs u s.m s.fc) := by
  kernel_rfl
theorem q_law05_small_16 (call : FCall) (hs : FHs) (u : Nat) (rec0 : AV → AV → Mem → Nat → Option (AV × Mem)) :
  fxK Try.prog pol NN call c_law05_small_16 (AV × Mem) (k_law05_small hs u) (fun s => rec0 (s.sl 1) (s.sl 4) s.m s.fc) (setE 2 (fun s => B_law05_small_0 call hs u s.m s.fc) eNil) r_law05_small = (fun s => B_law05_small_1 call hs u rec0 (s.sl 1) (s.sl 4) s.m s.fc) := by
  kernel_rfl
theorem q_L_law05_small_0 (call : FCall) (hs : FHs) (u : Nat) : ∀ n : Nat,
  iter (fun rec => fxK Try.prog pol NN call c_law05_small_16 (AV × Mem) (k_law05_small hs u) rec (setE 2 (fun s => B_law05_small_0 call hs u s.m s.fc) eNil) r_law05_small) n = (fun s => L_law05_small_0 call hs u n (s.sl 1) (s.sl 4) s.m s.fc)
  | 0 => rfl
  | n + 1 => by rw [iter_succ, q_L_law05_small_0 call hs u n, q_law05_small_16 call hs u (L_law05_small_0 call hs u n)]; kernel_rfl
theorem q_law05_small_15 (call : FCall) (hs : FHs) (u : Nat) :
  fxK Try.prog pol NN call c_law05_small_15 (AV × Mem) (k_law05_small hs u) (fun s => B_law05_small_0 call hs u s.m s.fc) (setE 2 (fun s => B_law05_small_0 call hs u s.m s.fc) eNil) r_law05_small = (fun s => L_law05_small_0 call hs u NN (s.sl 1) (s.sl 4) s.m s.fc) := by
  rw [show c_law05_small_15 = .loop c_law05_small_16 from by kernel_rfl, loop_r, q_L_law05_small_0 call hs u NN]
theorem q_law05_small_14 (call : FCall) (hs : FHs) (u : Nat) :
  fxK Try.prog pol NN call c_law05_small_14 (AV × Mem) (k_law05_small hs u) (fun s => B_law05_small_0 call hs u s.m s.fc) eNil r_law05_small = (fun s => L_law05_small_0 call hs u NN (s.sl 1) (s.sl 4) s.m s.fc) := by
  rw [show c_law05_small_14 = .block 2 c_law05_small_15 from by kernel_rfl, block_r, q_law05_small_15 call hs u]
theorem q_law05_small_11 (call : FCall) (hs : FHs) (u : Nat) :
  fxK Try.prog pol NN call c_law05_small_11 (AV × Mem) (k_law05_small hs u) (fun s => B_law05_small_0 call hs u s.m s.fc) eNil r_law05_small = (fun s => B_law05_small_2 call hs u (s.sl 1) s.m s.fc) := by
  rw [show c_law05_small_11 = .seq c_law05_small_13 c_law05_small_14 from by kernel_rfl, seq_r]; rw [q_law05_small_14 call hs u]; kernel_rfl
theorem q_law05_small_10 (call : FCall) (hs : FHs) (u : Nat) :
  fxK Try.prog pol NN call c_law05_small_10 (AV × Mem) (k_law05_small hs u) r_law05_small eNil r_law05_small = (fun s => B_law05_small_2 call hs u (s.sl 1) s.m s.fc) := by
  rw [show c_law05_small_10 = .seq c_law05_small_11 c_law05_small_12 from by kernel_rfl, seq_r, q_law05_small_12 call hs u, q_law05_small_11 call hs u]
theorem q_law05_small_20 (call : FCall) (hs : FHs) (u : Nat) (rec1 : AV → AV → Mem → Nat → Option (AV × Mem)) :
  fxK Try.prog pol NN call c_law05_small_20 (AV × Mem) (k_law05_small hs u) (fun s => rec1 (s.sl 1) (s.sl 3) s.m s.fc) (setE 0 (fun s => B_law05_small_2 call hs u (s.sl 1) s.m s.fc) eNil) r_law05_small = (fun s => B_law05_small_3 call hs u rec1 (s.sl 1) (s.sl 3) s.m s.fc) := by
  kernel_rfl
theorem q_L_law05_small_1 (call : FCall) (hs : FHs) (u : Nat) : ∀ n : Nat,
  iter (fun rec => fxK Try.prog pol NN call c_law05_small_20 (AV × Mem) (k_law05_small hs u) rec (setE 0 (fun s => B_law05_small_2 call hs u (s.sl 1) s.m s.fc) eNil) r_law05_small) n = (fun s => L_law05_small_1 call hs u n (s.sl 1) (s.sl 3) s.m s.fc)
  | 0 => rfl
  | n + 1 => by rw [iter_succ, q_L_law05_small_1 call hs u n, q_law05_small_20 call hs u (L_law05_small_1 call hs u n)]; kernel_rfl
theorem q_law05_small_19 (call : FCall) (hs : FHs) (u : Nat) :
  fxK Try.prog pol NN call c_law05_small_19 (AV × Mem) (k_law05_small hs u) (fun s => B_law05_small_2 call hs u (s.sl 1) s.m s.fc) (setE 0 (fun s => B_law05_small_2 call hs u (s.sl 1) s.m s.fc) eNil) r_law05_small = (fun s => L_law05_small_1 call hs u NN (s.sl 1) (s.sl 3) s.m s.fc) := by
  rw [show c_law05_small_19 = .loop c_law05_small_20 from by kernel_rfl, loop_r, q_L_law05_small_1 call hs u NN]
theorem q_law05_small_18 (call : FCall) (hs : FHs) (u : Nat) :
  fxK Try.prog pol NN call c_law05_small_18 (AV × Mem) (k_law05_small hs u) (fun s => B_law05_small_2 call hs u (s.sl 1) s.m s.fc) eNil r_law05_small = (fun s => L_law05_small_1 call hs u NN (s.sl 1) (s.sl 3) s.m s.fc) := by
  rw [show c_law05_small_18 = .block 0 c_law05_small_19 from by kernel_rfl, block_r, q_law05_small_19 call hs u]
theorem q_law05_small_9 (call : FCall) (hs : FHs) (u : Nat) :
  fxK Try.prog pol NN call c_law05_small_9 (AV × Mem) (k_law05_small hs u) (fun s => B_law05_small_2 call hs u (s.sl 1) s.m s.fc) eNil r_law05_small = (fun s => B_law05_small_4 call hs u (s.sl 1) s.m s.fc) := by
  rw [show c_law05_small_9 = .seq c_law05_small_17 c_law05_small_18 from by kernel_rfl, seq_r]; rw [q_law05_small_18 call hs u]; kernel_rfl
theorem q_law05_small_8 (call : FCall) (hs : FHs) (u : Nat) :
  fxK Try.prog pol NN call c_law05_small_8 (AV × Mem) (k_law05_small hs u) r_law05_small eNil r_law05_small = (fun s => B_law05_small_4 call hs u (s.sl 1) s.m s.fc) := by
  rw [show c_law05_small_8 = .seq c_law05_small_9 c_law05_small_10 from by kernel_rfl, seq_r, q_law05_small_10 call hs u, q_law05_small_9 call hs u]
theorem q_law05_small_0 (call : FCall) (hs : FHs) (u : Nat) :
  fxK Try.prog pol NN call c_law05_small_0 (AV × Mem) (k_law05_small hs u) r_law05_small eNil r_law05_small = (fun s => B_law05_small_5 call hs u (s.sl 0) s.m s.fc) := by
  rw [show c_law05_small_0 = .seq c_law05_small_1 c_law05_small_2 from by kernel_rfl, seq_r]; rw [show c_law05_small_2 = .seq c_law05_small_3 c_law05_small_4 from by kernel_rfl, seq_r]; rw [show c_law05_small_4 = .seq c_law05_small_5 c_law05_small_6 from by kernel_rfl, seq_r]; rw [show c_law05_small_6 = .seq c_law05_small_7 c_law05_small_8 from by kernel_rfl, seq_r]; rw [q_law05_small_8 call hs u]; kernel_rfl
theorem F_law05_small_eq (call : FCall) (hs : FHs) (t0 : AV) (m : Mem) : fxBody Try.prog pol NN call hs n_law05_small [t0] m = F_law05_small call hs [t0] m := by
  rw [fxBody_at (fn := Try.f25) (body := c_law05_small_0) (nt := 56) (rs := [.tmp 2]) (by kernel_rfl) (by kernel_rfl) (by kernel_rfl) (by kernel_rfl) (by kernel_rfl) (by kernel_rfl)]
  exact (congrFun (q_law05_small_0 call hs m.next) _).trans (by kernel_rfl)
theorem F_law05_small_le (call : FCall) (hs : FHs) (args : List AV) (m : Mem) (r : AV × Mem) (h : F_law05_small call hs args m = some r) : fxBody Try.prog pol NN call hs n_law05_small args m = some r := by
  unfold F_law05_small at h
  split at h
  · rw [F_law05_small_eq]; exact h
  · cases h

/- swath/unwrap.NetOf -/
abbrev k_unwrap_NetOf (hs : FHs) (u : Nat) : FCtx := { f := n_unwrap_NetOf, u := u, nt := 13, hs := hs }
noncomputable abbrev r_unwrap_NetOf : Fs → Option (AV × Mem) := fxRes Try.prog [.cell 2 y_api_UnwrapNet, .tmp 3]
noncomputable def c_unwrap_NetOf_0 : Code := nav (bodyOf n_unwrap_NetOf) []
theorem q_unwrap_NetOf_0 (call : FCall) (hs : FHs) (u : Nat) :
  fxK Try.prog pol NN call c_unwrap_NetOf_0 (AV × Mem) (k_unwrap_NetOf hs u) r_unwrap_NetOf eNil r_unwrap_NetOf = (fun s => B_unwrap_NetOf_0 call hs u (s.sl 0) s.m s.fc) := by
  kernel_rfl
theorem F_unwrap_NetOf_eq (call : FCall) (hs : FHs) (t0 : AV) (m : Mem) : fxBody Try.prog pol NN call hs n_unwrap_NetOf [t0] m = F_unwrap_NetOf call hs [t0] m := by
  rw [fxBody_at (fn := Try.f26) (body := c_unwrap_NetOf_0) (nt := 13) (rs := [.cell 2 y_api_UnwrapNet, .tmp 3]) (by kernel_rfl) (by kernel_rfl) (by kernel_rfl) (by kernel_rfl) (by kernel_rfl) (by kernel_rfl)]
  exact (congrFun (q_unwrap_NetOf_0 call hs m.next) _).trans (by kernel_rfl)
theorem F_unwrap_NetOf_le (call : FCall) (hs : FHs) (args : List AV) (m : Mem) (r : AV × Mem) (h : F_unwrap_NetOf call hs args m = some r) : fxBody Try.prog pol NN call hs n_unwrap_NetOf args m = some r := by
  unfold F_unwrap_NetOf at h
  split at h
  · rw [F_unwrap_NetOf_eq]; exact h
  · cases h

/- swath/swathref05.CopyTask -/
abbrev k_ref05_CopyTask (hs : FHs) (u : Nat) : FCtx := { f := n_ref05_CopyTask, u := u, nt := 13, hs := hs }
noncomputable abbrev r_ref05_CopyTask : Fs → Option (AV × Mem) := fxRes Try.prog [.cell 2 y_api_UnwrapTask]
noncomputable def c_ref05_CopyTask_0 : Code := nav (bodyOf n_ref05_CopyTask) []
theorem q_ref05_CopyTask_0 (call : FCall) (hs : FHs) (u : Nat) :
  fxK Try.prog pol NN call c_ref05_CopyTask_0 (AV × Mem) (k_ref05_CopyTask hs u) r_ref05_CopyTask eNil r_ref05_CopyTask = (fun s => B_ref05_CopyTask_0 call hs u (s.sl 0) s.m s.fc) := by
  kernel_rfl
theorem F_ref05_CopyTask_eq (call : FCall) (hs : FHs) (t0 : AV) (m : Mem) : fxBody Try.prog pol NN call hs n_ref05_CopyTask [t0] m = F_ref05_CopyTask call hs [t0] m := by
  rw [fxBody_at (fn := Try.f27) (body := c_ref05_CopyTask_0) (nt := 13) (rs := [.cell 2 y_api_UnwrapTask]) (by kernel_rfl) (by kernel_rfl) (by kernel_rfl) (by kernel_rfl) (by kernel_rfl) (by kernel_rfl)]
  exact (congrFun (q_ref05_CopyTask_0 call hs m.next) _).trans (by kernel_rfl)
theorem F_ref05_CopyTask_le (call : FCall) (hs : FHs) (args : List AV) (m : Mem) (r : AV × Mem) (h : F_ref05_CopyTask call hs args m = some r) : fxBody Try.prog pol NN call hs n_ref05_CopyTask args m = some r := by
  unfold F_ref05_CopyTask at h
  split at h
  · rw [F_ref05_CopyTask_eq]; exact h
  · cases h

/- swath/swathref05.CheckTask -/
abbrev k_ref05_CheckTask (hs : FHs) (u : Nat) : FCtx := { f := n_ref05_CheckTask, u := u, nt := 83, hs := hs }
noncomputable abbrev r_ref05_CheckTask : Fs → Option (AV × Mem) := fxRes Try.prog [.tmp 2]
noncomputable def c_ref05_CheckTask_0 : Code := nav (bodyOf n_ref05_CheckTask) []
noncomputable def c_ref05_CheckTask_1 : Code := nav (bodyOf n_ref05_CheckTask) [false]
noncomputable def c_ref05_CheckTask_2 : Code := nav (bodyOf n_ref05_CheckTask) [true]
noncomputable def c_ref05_CheckTask_3 : Code := nav (bodyOf n_ref05_CheckTask) [true, false]
noncomputable def c_ref05_CheckTask_4 : Code := nav (bodyOf n_ref05_CheckTask) [true, true]
noncomputable def c_ref05_CheckTask_5 : Code := nav (bodyOf n_ref05_CheckTask) [true, true, false]
noncomputable def c_ref05_CheckTask_6 : Code := nav (bodyOf n_ref05_CheckTask) [true, true, true]
noncomputable def c_ref05_CheckTask_7 : Code := nav (bodyOf n_ref05_CheckTask) [true, true, true, false]
noncomputable def c_ref05_CheckTask_8 : Code := nav (bodyOf n_ref05_CheckTask) [true, true, true, true]
noncomputable def c_ref05_CheckTask_9 : Code := nav (bodyOf n_ref05_CheckTask) [true, true, true, true, false]
noncomputable def c_ref05_CheckTask_10 : Code := nav (bodyOf n_ref05_CheckTask) [true, true, true, true, true]
noncomputable def c_ref05_CheckTask_11 : Code := nav (bodyOf n_ref05_CheckTask) [true, true, true, true, true, false]
noncomputable def c_ref05_CheckTask_12 : Code := nav (bodyOf n_ref05_CheckTask) [true, true, true, true, true, true]
noncomputable def c_ref05_CheckTask_13 : Code := nav (bodyOf n_ref05_CheckTask) [true, true, true, true, true, true, false]
noncomputable def c_ref05_CheckTask_14 : Code := nav (bodyOf n_ref05_CheckTask) [true, true, true, true, true, true, true]
noncomputable def c_ref05_CheckTask_15 : Code := nav (bodyOf n_ref05_CheckTask) [true, true, true, true, true, true, true, false]
noncomputable def c_ref05_CheckTask_16 : Code := nav (bodyOf n_ref05_CheckTask) [true, true, true, true, true, true, true, true]
noncomputable def c_ref05_CheckTask_17 : Code := nav (bodyOf n_ref05_CheckTask) [true, true, true, true, true, true, true, false, false]
noncomputable def c_ref05_CheckTask_18 : Code := nav (bodyOf n_ref05_CheckTask) [true, true, true, true, true, true, true, false, true]
noncomputable def c_ref05_CheckTask_19 : Code := nav (bodyOf n_ref05_CheckTask) [true, true, true, true, true, true, true, false, true, false]
noncomputable def c_ref05_CheckTask_20 : Code := nav (bodyOf n_ref05_CheckTask) [true, true, true, true, true, true, true, false, true, false, false]
noncomputable def c_ref05_CheckTask_21 : Code := nav (bodyOf n_ref05_CheckTask) [true, true, true, true, true, true, false, false]
noncomputable def c_ref05_CheckTask_22 : Code := nav (bodyOf n_ref05_CheckTask) [true, true, true, true, true, true, false, true]
noncomputable def c_ref05_CheckTask_23 : Code := nav (bodyOf n_ref05_CheckTask) [true, true, true, true, true, true, false, true, false]
noncomputable def c_ref05_CheckTask_24 : Code := nav (bodyOf n_ref05_CheckTask) [true, true, true, true, true, true, false, true, false, false]
theorem q_ref05_CheckTask_16 (call : FCall) (hs : FHs) (u : Nat) :
  fxK Try.prog pol NN call c_ref05_CheckTask_16 (AV × Mem) (k_ref05_CheckTask hs u) r_ref05_CheckTask eNil r_ref05_CheckTask = (fun s => B_ref05_CheckTask_0 call hs u s.m s.fc) := by
  kernel_rfl
theorem q_ref05_CheckTask_20 (call : FCall) (hs : FHs) (u : Nat) (rec0 : AV → AV → Mem → Nat → Option (AV × Mem)) :
  fxK Try.prog pol NN call c_ref05_CheckTask_20 (AV × Mem) (k_ref05_CheckTask hs u) (fun s => rec0 (s.sl 1) (s.sl 7) s.m s.fc) (setE 2 (fun s => B_ref05_CheckTask_0 call hs u s.m s.fc) eNil) r_ref05_CheckTask = (fun s => B_ref05_CheckTask_1 call hs u rec0 (s.sl 1) (s.sl 7) s.m s.fc) := by
  kernel_rfl
theorem q_L_ref05_CheckTask_0 (call : FCall) (hs : FHs) (u : Nat) : ∀ n : Nat,
  iter (fun rec => fxK Try.prog pol NN call c_ref05_CheckTask_20 (AV × Mem) (k_ref05_CheckTask hs u) rec (setE 2 (fun s => B_ref05_CheckTask_0 call hs u s.m s.fc) eNil) r_ref05_CheckTask) n = (fun s => L_ref05_CheckTask_0 call hs u n (s.sl 1) (s.sl 7) s.m s.fc)
  | 0 => rfl
  | n + 1 => by rw [iter_succ, q_L_ref05_CheckTask_0 call hs u n, q_ref05_CheckTask_20 call hs u (L_ref05_CheckTask_0 call hs u n)]; kernel_rfl
theorem q_ref05_CheckTask_19 (call : FCall) (hs : FHs) (u : Nat) :
  fxK Try.prog pol NN call c_ref05_CheckTask_19 (AV × Mem) (k_ref05_CheckTask hs u) (fun s => B_ref05_CheckTask_0 call hs u s.m s.fc) (setE 2 (fun s => B_ref05_CheckTask_0 call hs u s.m s.fc) eNil) r_ref05_CheckTask = (fun s => L_ref05_CheckTask_0 call hs u NN (s.sl 1) (s.sl 7) s.m s.fc) := by
  rw [show c_ref05_CheckTask_19 = .loop c_ref05_CheckTask_20 from by kernel_rfl, loop_r, q_L_ref05_CheckTask_0 call hs u NN]
theorem q_ref05_CheckTask_18 (call : FCall) (hs : FHs) (u : Nat) :
  fxK Try.prog pol NN call c_ref05_CheckTask_18 (AV × Mem) (k_ref05_CheckTask hs u) (fun s => B_ref05_CheckTask_0 call hs u s.m s.fc) eNil r_ref05_CheckTask = (fun s => L_ref05_CheckTask_0 call hs u NN (s.sl 1) (s.sl 7) s.m s.fc) := by
  rw [show c_ref05_CheckTask_18 = .block 2 c_ref05_CheckTask_19 from by kernel_rfl, block_r, q_ref05_CheckTask_19 call hs u]
theorem q_ref05_CheckTask_15 (call : FCall) (hs : FHs) (u : Nat) :
  fxK Try.prog pol NN call c_ref05_CheckTask_15 (AV × Mem) (k_ref05_CheckTask hs u) (fun s => B_ref05_CheckTask_0 call hs u s.m s.fc) eNil r_ref05_CheckTask = (fun s => B_ref05_CheckTask_2 call hs u (s.sl 1) s.m s.fc) := by
  rw [show c_ref05_CheckTask_15 = .seq c_ref05_CheckTask_17 c_ref05_CheckTask_18 from by kernel_rfl, seq_r]; rw [q_ref05_CheckTask_18 call hs u]; kernel_rfl
theorem q_ref05_CheckTask_14 (call : FCall) (hs : FHs) (u : Nat) :
  fxK Try.prog pol NN call c_ref05_CheckTask_14 (AV × Mem) (k_ref05_CheckTask hs u) r_ref05_CheckTask eNil r_ref05_CheckTask = (fun s => B_ref05_CheckTask_2 call hs u (s.sl 1) s.m s.fc) := by
  rw [show c_ref05_CheckTask_14 = .seq c_ref05_CheckTask_15 c_ref05_CheckTask_16 from by kernel_rfl, seq_r, q_ref05_CheckTask_16 call hs u, q_ref05_CheckTask_15 call hs u]
theorem q_ref05_CheckTask_24 (call : FCall) (hs : FHs) (u : Nat) (rec1 : AV → AV → Mem → Nat → Option (AV × Mem)) :
  fxK Try.prog pol NN call c_ref05_CheckTask_24 (AV × Mem) (k_ref05_CheckTask hs u) (fun s => rec1 (s.sl 1) (s.sl 6) s.m s.fc) (setE 0 (fun s => B_ref05_CheckTask_2 call hs u (s.sl 1) s.m s.fc) eNil) r_ref05_CheckTask = (fun s => B_ref05_CheckTask_3 call hs u rec1 (s.sl 1) (s.sl 6) s.m s.fc) := by
  kernel_rfl
theorem q_L_ref05_CheckTask_1 (call : FCall) (hs : FHs) (u : Nat) : ∀ n : Nat,
  iter (fun rec => fxK Try.prog pol NN call c_ref05_CheckTask_24 (AV × Mem) (k_ref05_CheckTask hs u) rec (setE 0 (fun s => B_ref05_CheckTask_2 call hs u (s.sl 1) s.m s.fc) eNil) r_ref05_CheckTask) n = (fun s => L_ref05_CheckTask_1 call hs u n (s.sl 1) (s.sl 6) s.m s.fc)
  | 0 => rfl
  | n + 1 => by rw [iter_succ, q_L_ref05_CheckTask_1 call hs u n, q_ref05_CheckTask_24 call hs u (L_ref05_CheckTask_1 call hs u n)]; kernel_rfl
theorem q_ref05_CheckTask_23 (call : FCall) (hs : FHs) (u : Nat) :
  fxK Try.prog pol NN call c_ref05_CheckTask_23 (AV × Mem) (k_ref05_CheckTask hs u) (fun s => B_ref05_CheckTask_2 call hs u (s.sl 1) s.m s.fc) (setE 0 (fun s => B_ref05_CheckTask_2 call hs u (s.sl 1) s.m s.fc) eNil) r_ref05_CheckTask = (fun s => L_ref05_CheckTask_1 call hs u NN (s.sl 1) (s.sl 6) s.m s.fc) := by
  rw [show c_ref05_CheckTask_23 = .loop c_ref05_CheckTask_24 from by kernel_rfl, loop_r, q_L_ref05_CheckTask_1 call hs u NN]
theorem q_ref05_CheckTask_22 (call : FCall) (hs : FHs) (u : Nat) :
  fxK Try.prog pol NN call c_ref05_CheckTask_22 (AV × Mem) (k_ref05_CheckTask hs u) (fun s => B_ref05_CheckTask_2 call hs u (s.sl 1) s.m s.fc) eNil r_ref05_CheckTask = (fun s => L_ref05_CheckTask_1 call hs u NN (s.sl 1) (s.sl 6) s.m s.fc) := by
  rw [show c_ref05_CheckTask_22 = .block 0 c_ref05_CheckTask_23 from by kernel_rfl, block_r, q_ref05_CheckTask_23 call hs u]
theorem q_ref05_CheckTask_13 (call : FCall) (hs : FHs) (u : Nat) :
  fxK Try.prog pol NN call c_ref05_CheckTask_13 (AV × Mem) (k_ref05_CheckTask hs u) (fun s => B_ref05_CheckTask_2 call hs u (s.sl 1) s.m s.fc) eNil r_ref05_CheckTask = (fun s => B_ref05_CheckTask_4 call hs u (s.sl 1) s.m s.fc) := by
  rw [show c_ref05_CheckTask_13 = .seq c_ref05_CheckTask_21 c_ref05_CheckTask_22 from by kernel_rfl, seq_r]; rw [q_ref05_CheckTask_22 call hs u]; kernel_rfl
theorem q_ref05_CheckTask_12 (call : FCall) (hs : FHs) (u : Nat) :
  fxK Try.prog pol NN call c_ref05_CheckTask_12 (AV × Mem) (k_ref05_CheckTask hs u) r_ref05_CheckTask eNil r_ref05_CheckTask = (fun s => B_ref05_CheckTask_4 call hs u (s.sl 1) s.m s.fc) := by
  rw [show c_ref05_CheckTask_12 = .seq c_ref05_CheckTask_13 c_ref05_CheckTask_14 from by kernel_rfl, seq_r, q_ref05_CheckTask_14 call hs u, q_ref05_CheckTask_13 call hs u]
theorem q_ref05_CheckTask_0 (call : FCall) (hs : FHs) (u : Nat) :
  fxK Try.prog pol NN call c_ref05_CheckTask_0 (AV × Mem) (k_ref05_CheckTask hs u) r_ref05_CheckTask eNil r_ref05_CheckTask = (fun s => B_ref05_CheckTask_5 call hs u (s.sl 0) s.m s.fc) := by
  rw [show c_ref05_CheckTask_0 = .seq c_ref05_CheckTask_1 c_ref05_CheckTask_2 from by kernel_rfl, seq_r]; rw [show c_ref05_CheckTask_2 = .seq c_ref05_CheckTask_3 c_ref05_CheckTask_4 from by kernel_rfl, seq_r]; rw [show c_ref05_CheckTask_4 = .seq c_ref05_CheckTask_5 c_ref05_CheckTask_6 from by kernel_rfl, seq_r]; rw [show c_ref05_CheckTask_6 = .seq c_ref05_CheckTask_7 c_ref05_CheckTask_8 from by kernel_rfl, seq_r]; rw [show c_ref05_CheckTask_8 = .seq c_ref05_CheckTask_9 c_ref05_CheckTask_10 from by kernel_rfl, seq_r]; rw [show c_ref05_CheckTask_10 = .seq c_ref05_CheckTask_11 c_ref05_CheckTask_12 from by kernel_rfl, seq_r]; rw [q_ref05_CheckTask_12 call hs u]; kernel_rfl
theorem F_ref05_CheckTask_eq (call : FCall) (hs : FHs) (t0 : AV) (m : Mem) : fxBody Try.prog pol NN call hs n_ref05_CheckTask [t0] m = F_ref05_CheckTask call hs [t0] m := by
  rw [fxBody_at (fn := Try.f28) (body := c_ref05_CheckTask_0) (nt := 83) (rs := [.tmp 2]) (by kernel_rfl) (by kernel_rfl) (by kernel_rfl) (by kernel_rfl) (by kernel_rfl) (by kernel_rfl)]
  exact (congrFun (q_ref05_CheckTask_0 call hs m.next) _).trans (by kernel_rfl)
theorem F_ref05_CheckTask_le (call : FCall) (hs : FHs) (args : List AV) (m : Mem) (r : AV × Mem) (h : F_ref05_CheckTask call hs args m = some r) : fxBody Try.prog pol NN call hs n_ref05_CheckTask args m = some r := by
  unfold F_ref05_CheckTask at h
  split at h
  · rw [F_ref05_CheckTask_eq]; exact h
  · cases h

/- swath/unwrap.CheckTask -/
abbrev k_unwrap_CheckTask (hs : FHs) (u : Nat) : FCtx := { f := n_unwrap_CheckTask, u := u, nt := 67, hs := hs }
noncomputable abbrev r_unwrap_CheckTask : Fs → Option (AV × Mem) := fxRes Try.prog [.tmp 2]
noncomputable def c_unwrap_CheckTask_0 : Code := nav (bodyOf n_unwrap_CheckTask) []
noncomputable def c_unwrap_CheckTask_1 : Code := nav (bodyOf n_unwrap_CheckTask) [false]
noncomputable def c_unwrap_CheckTask_2 : Code := nav (bodyOf n_unwrap_CheckTask) [true]
noncomputable def c_unwrap_CheckTask_3 : Code := nav (bodyOf n_unwrap_CheckTask) [true, false]
noncomputable def c_unwrap_CheckTask_4 : Code := nav (bodyOf n_unwrap_CheckTask) [true, true]
noncomputable def c_unwrap_CheckTask_5 : Code := nav (bodyOf n_unwrap_CheckTask) [true, true, false]
noncomputable def c_unwrap_CheckTask_6 : Code := nav (bodyOf n_unwrap_CheckTask) [true, true, true]
noncomputable def c_unwrap_CheckTask_7 : Code := nav (bodyOf n_unwrap_CheckTask) [true, true, true, false]
noncomputable def c_unwrap_CheckTask_8 : Code := nav (bodyOf n_unwrap_CheckTask) [true, true, true, true]
noncomputable def c_unwrap_CheckTask_9 : Code := nav (bodyOf n_unwrap_CheckTask) [true, true, true, true, false]
noncomputable def c_unwrap_CheckTask_10 : Code := nav (bodyOf n_unwrap_CheckTask) [true, true, true, true, true]
noncomputable def c_unwrap_CheckTask_11 : Code := nav (bodyOf n_unwrap_CheckTask) [true, true, true, true, true, false]
noncomputable def c_unwrap_CheckTask_12 : Code := nav (bodyOf n_unwrap_CheckTask) [true, true, true, true, true, true]
noncomputable def c_unwrap_CheckTask_13 : Code := nav (bodyOf n_unwrap_CheckTask) [true, true, true, true, true, true, false]
noncomputable def c_unwrap_CheckTask_14 : Code := nav (bodyOf n_unwrap_CheckTask) [true, true, true, true, true, true, true]
noncomputable def c_unwrap_CheckTask_15 : Code := nav (bodyOf n_unwrap_CheckTask) [true, true, true, true, true, true, false, false]
noncomputable def c_unwrap_CheckTask_16 : Code := nav (bodyOf n_unwrap_CheckTask) [true, true, true, true, true, true, false, true]
noncomputable def c_unwrap_CheckTask_17 : Code := nav (bodyOf n_unwrap_CheckTask) [true, true, true, true, true, true, false, true, false]
noncomputable def c_unwrap_CheckTask_18 : Code := nav (bodyOf n_unwrap_CheckTask) [true, true, true, true, true, true, false, true, false, false]
theorem q_unwrap_CheckTask_14 (call : FCall) (hs : FHs) (u : Nat) :
  fxK Try.prog pol NN call c_unwrap_CheckTask_14 (AV × Mem) (k_unwrap_CheckTask hs u) r_unwrap_CheckTask eNil r_unwrap_CheckTask = (fun s => B_unwrap_CheckTask_0 call hs u s.m s.fc) := by
  kernel_rfl
theorem q_unwrap_CheckTask_18 (call : FCall) (hs : FHs) (u : Nat) (rec0 : AV → AV → AV → Mem → Nat → Option (AV × Mem)) :
  fxK Try.prog pol NN call c_unwrap_CheckTask_18 (AV × Mem) (k_unwrap_CheckTask hs u) (fun s => rec0 (s.sl 57) (s.sl 58) (s.sl 59) s.m s.fc) (setE 0 (fun s => B_unwrap_CheckTask_0 call hs u s.m s.fc) eNil) r_unwrap_CheckTask = (fun s => B_unwrap_CheckTask_1 call hs u rec0 (s.sl 57) (s.sl 58) (s.sl 59) s.m s.fc) := by
  kernel_rfl
theorem q_L_unwrap_CheckTask_0 (call : FCall) (hs : FHs) (u : Nat) : ∀ n : Nat,
  iter (fun rec => fxK Try.prog pol NN call c_unwrap_CheckTask_18 (AV × Mem) (k_unwrap_CheckTask hs u) rec (setE 0 (fun s => B_unwrap_CheckTask_0 call hs u s.m s.fc) eNil) r_unwrap_CheckTask) n = (fun s => L_unwrap_CheckTask_0 call hs u n (s.sl 57) (s.sl 58) (s.sl 59) s.m s.fc)
  | 0 => rfl
  | n + 1 => by rw [iter_succ, q_L_unwrap_CheckTask_0 call hs u n, q_unwrap_CheckTask_18 call hs u (L_unwrap_CheckTask_0 call hs u n)]; kernel_rfl
theorem q_unwrap_CheckTask_17 (call : FCall) (hs : FHs) (u : Nat) :
  fxK Try.prog pol NN call c_unwrap_CheckTask_17 (AV × Mem) (k_unwrap_CheckTask hs u) (fun s => B_unwrap_CheckTask_0 call hs u s.m s.fc) (setE 0 (fun s => B_unwrap_CheckTask_0 call hs u s.m s.fc) eNil) r_unwrap_CheckTask = (fun s => L_unwrap_CheckTask_0 call hs u NN (s.sl 57) (s.sl 58) (s.sl 59) s.m s.fc) := by
  rw [show c_unwrap_CheckTask_17 = .loop c_unwrap_CheckTask_18 from by kernel_rfl, loop_r, q_L_unwrap_CheckTask_0 call hs u NN]
theorem q_unwrap_CheckTask_16 (call : FCall) (hs : FHs) (u : Nat) :
  fxK Try.prog pol NN call c_unwrap_CheckTask_16 (AV × Mem) (k_unwrap_CheckTask hs u) (fun s => B_unwrap_CheckTask_0 call hs u s.m s.fc) eNil r_unwrap_CheckTask = (fun s => L_unwrap_CheckTask_0 call hs u NN (s.sl 57) (s.sl 58) (s.sl 59) s.m s.fc) := by
  rw [show c_unwrap_CheckTask_16 = .block 0 c_unwrap_CheckTask_17 from by kernel_rfl, block_r, q_unwrap_CheckTask_17 call hs u]
theorem q_unwrap_CheckTask_13 (call : FCall) (hs : FHs) (u : Nat) :
  fxK Try.prog pol NN call c_unwrap_CheckTask_13 (AV × Mem) (k_unwrap_CheckTask hs u) (fun s => B_unwrap_CheckTask_0 call hs u s.m s.fc) eNil r_unwrap_CheckTask = (fun s => B_unwrap_CheckTask_2 call hs u (s.sl 1) s.m s.fc) := by
  rw [show c_unwrap_CheckTask_13 = .seq c_unwrap_CheckTask_15 c_unwrap_CheckTask_16 from by kernel_rfl, seq_r]; rw [q_unwrap_CheckTask_16 call hs u]; kernel_rfl
theorem q_unwrap_CheckTask_12 (call : FCall) (hs : FHs) (u : Nat) :
  fxK Try.prog pol NN call c_unwrap_CheckTask_12 (AV × Mem) (k_unwrap_CheckTask hs u) r_unwrap_CheckTask eNil r_unwrap_CheckTask = (fun s => B_unwrap_CheckTask_2 call hs u (s.sl 1) s.m s.fc) := by
  rw [show c_unwrap_CheckTask_12 = .seq c_unwrap_CheckTask_13 c_unwrap_CheckTask_14 from by kernel_rfl, seq_r, q_unwrap_CheckTask_14 call hs u, q_unwrap_CheckTask_13 call hs u]
theorem q_unwrap_CheckTask_0 (call : FCall) (hs : FHs) (u : Nat) :
  fxK Try.prog pol NN call c_unwrap_CheckTask_0 (AV × Mem) (k_unwrap_CheckTask hs u) r_unwrap_CheckTask eNil r_unwrap_CheckTask = (fun s => B_unwrap_CheckTask_3 call hs u (s.sl 0) s.m s.fc) := by
  rw [show c_unwrap_CheckTask_0 = .seq c_unwrap_CheckTask_1 c_unwrap_CheckTask_2 from by kernel_rfl, seq_r]; rw [show c_unwrap_CheckTask_2 = .seq c_unwrap_CheckTask_3 c_unwrap_CheckTask_4 from by kernel_rfl, seq_r]; rw [show c_unwrap_CheckTask_4 = .seq c_unwrap_CheckTask_5 c_unwrap_CheckTask_6 from by kernel_rfl, seq_r]; rw [show c_unwrap_CheckTask_6 = .seq c_unwrap_CheckTask_7 c_unwrap_CheckTask_8 from by kernel_rfl, seq_r]; rw [show c_unwrap_CheckTask_8 = .seq c_unwrap_CheckTask_9 c_unwrap_CheckTask_10 from by kernel_rfl, seq_r]; rw [show c_unwrap_CheckTask_10 = .seq c_unwrap_CheckTask_11 c_unwrap_CheckTask_12 from by kernel_rfl, seq_r]; rw [q_unwrap_CheckTask_12 call hs u]; kernel_rfl
theorem F_unwrap_CheckTask_eq (call : FCall) (hs : FHs) (t0 : AV) (m : Mem) : fxBody Try.prog pol NN call hs n_unwrap_CheckTask [t0] m = F_unwrap_CheckTask call hs [t0] m := by
  rw [fxBody_at (fn := Try.f29) (body := c_unwrap_CheckTask_0) (nt := 67) (rs := [.tmp 2]) (by kernel_rfl) (by kernel_rfl) (by kernel_rfl) (by kernel_rfl) (by kernel_rfl) (by kernel_rfl)]
  exact (congrFun (q_unwrap_CheckTask_0 call hs m.next) _).trans (by kernel_rfl)
theorem F_unwrap_CheckTask_le (call : FCall) (hs : FHs) (args : List AV) (m : Mem) (r : AV × Mem) (h : F_unwrap_CheckTask call hs args m = some r) : fxBody Try.prog pol NN call hs n_unwrap_CheckTask args m = some r := by
  unfold F_unwrap_CheckTask at h
  split at h
  · rw [F_unwrap_CheckTask_eq]; exact h
  · cases h

/- swath/swathref05.SameNet -/
abbrev k_ref05_SameNet (hs : FHs) (u : Nat) : FCtx := { f := n_ref05_SameNet, u := u, nt := 38, hs := hs }
noncomputable abbrev r_ref05_SameNet : Fs → Option (AV × Mem) := fxRes Try.prog [.tmp 4]
noncomputable def c_ref05_SameNet_0 : Code := nav (bodyOf n_ref05_SameNet) []
noncomputable def c_ref05_SameNet_1 : Code := nav (bodyOf n_ref05_SameNet) [false]
noncomputable def c_ref05_SameNet_2 : Code := nav (bodyOf n_ref05_SameNet) [true]
noncomputable def c_ref05_SameNet_3 : Code := nav (bodyOf n_ref05_SameNet) [true, false]
noncomputable def c_ref05_SameNet_4 : Code := nav (bodyOf n_ref05_SameNet) [true, true]
noncomputable def c_ref05_SameNet_5 : Code := nav (bodyOf n_ref05_SameNet) [true, true, false]
noncomputable def c_ref05_SameNet_6 : Code := nav (bodyOf n_ref05_SameNet) [true, true, true]
noncomputable def c_ref05_SameNet_7 : Code := nav (bodyOf n_ref05_SameNet) [true, true, false, false]
noncomputable def c_ref05_SameNet_8 : Code := nav (bodyOf n_ref05_SameNet) [true, true, false, true]
noncomputable def c_ref05_SameNet_9 : Code := nav (bodyOf n_ref05_SameNet) [true, true, false, true, false]
noncomputable def c_ref05_SameNet_10 : Code := nav (bodyOf n_ref05_SameNet) [true, true, false, true, false, false]
theorem q_ref05_SameNet_6 (call : FCall) (hs : FHs) (u : Nat) :
  fxK Try.prog pol NN call c_ref05_SameNet_6 (AV × Mem) (k_ref05_SameNet hs u) r_ref05_SameNet eNil r_ref05_SameNet = (fun s => B_ref05_SameNet_0 call hs u s.m s.fc) := by
  kernel_rfl
theorem q_ref05_SameNet_10 (call : FCall) (hs : FHs) (u : Nat) (rec0 : AV → AV → AV → Mem → Nat → Option (AV × Mem)) :
  fxK Try.prog pol NN call c_ref05_SameNet_10 (AV × Mem) (k_ref05_SameNet hs u) (fun s => rec0 (s.sl 2) (s.sl 3) (s.sl 5) s.m s.fc) (setE 0 (fun s => B_ref05_SameNet_0 call hs u s.m s.fc) eNil) r_ref05_SameNet = (fun s => B_ref05_SameNet_1 call hs u rec0 (s.sl 2) (s.sl 3) (s.sl 5) s.m s.fc) := by
  kernel_rfl
theorem q_L_ref05_SameNet_0 (call : FCall) (hs : FHs) (u : Nat) : ∀ n : Nat,
  iter (fun rec => fxK Try.prog pol NN call c_ref05_SameNet_10 (AV × Mem) (k_ref05_SameNet hs u) rec (setE 0 (fun s => B_ref05_SameNet_0 call hs u s.m s.fc) eNil) r_ref05_SameNet) n = (fun s => L_ref05_SameNet_0 call hs u n (s.sl 2) (s.sl 3) (s.sl 5) s.m s.fc)
  | 0 => rfl
  | n + 1 => by rw [iter_succ, q_L_ref05_SameNet_0 call hs u n, q_ref05_SameNet_10 call hs u (L_ref05_SameNet_0 call hs u n)]; kernel_rfl
theorem q_ref05_SameNet_9 (call : FCall) (hs : FHs) (u : Nat) :
  fxK Try.prog pol NN call c_ref05_SameNet_9 (AV × Mem) (k_ref05_SameNet hs u) (fun s => B_ref05_SameNet_0 call hs u s.m s.fc) (setE 0 (fun s => B_ref05_SameNet_0 call hs u s.m s.fc) eNil) r_ref05_SameNet = (fun s => L_ref05_SameNet_0 call hs u NN (s.sl 2) (s.sl 3) (s.sl 5) s.m s.fc) := by
  rw [show c_ref05_SameNet_9 = .loop c_ref05_SameNet_10 from by kernel_rfl, loop_r, q_L_ref05_SameNet_0 call hs u NN]
theorem q_ref05_SameNet_8 (call : FCall) (hs : FHs) (u : Nat) :
  fxK Try.prog pol NN call c_ref05_SameNet_8 (AV × Mem) (k_ref05_SameNet hs u) (fun s => B_ref05_SameNet_0 call hs u s.m s.fc) eNil r_ref05_SameNet = (fun s => L_ref05_SameNet_0 call hs u NN (s.sl 2) (s.sl 3) (s.sl 5) s.m s.fc) := by
  rw [show c_ref05_SameNet_8 = .block 0 c_ref05_SameNet_9 from by kernel_rfl, block_r, q_ref05_SameNet_9 call hs u]
theorem q_ref05_SameNet_5 (call : FCall) (hs : FHs) (u : Nat) :
  fxK Try.prog pol NN call c_ref05_SameNet_5 (AV × Mem) (k_ref05_SameNet hs u) (fun s => B_ref05_SameNet_0 call hs u s.m s.fc) eNil r_ref05_SameNet = (fun s => B_ref05_SameNet_2 call hs u (s.sl 2) (s.sl 3) s.m s.fc) := by
  rw [show c_ref05_SameNet_5 = .seq c_ref05_SameNet_7 c_ref05_SameNet_8 from by kernel_rfl, seq_r]; rw [q_ref05_SameNet_8 call hs u]; kernel_rfl
theorem q_ref05_SameNet_4 (call : FCall) (hs : FHs) (u : Nat) :
  fxK Try.prog pol NN call c_ref05_SameNet_4 (AV × Mem) (k_ref05_SameNet hs u) r_ref05_SameNet eNil r_ref05_SameNet = (fun s => B_ref05_SameNet_2 call hs u (s.sl 2) (s.sl 3) s.m s.fc) := by
  rw [show c_ref05_SameNet_4 = .seq c_ref05_SameNet_5 c_ref05_SameNet_6 from by kernel_rfl, seq_r, q_ref05_SameNet_6 call hs u, q_ref05_SameNet_5 call hs u]
theorem q_ref05_SameNet_0 (call : FCall) (hs : FHs) (u : Nat) :
  fxK Try.prog pol NN call c_ref05_SameNet_0 (AV × Mem) (k_ref05_SameNet hs u) r_ref05_SameNet eNil r_ref05_SameNet = (fun s => B_ref05_SameNet_3 call hs u (s.sl 0) (s.sl 1) s.m s.fc) := by
  rw [show c_ref05_SameNet_0 = .seq c_ref05_SameNet_1 c_ref05_SameNet_2 from by kernel_rfl, seq_r]; rw [show c_ref05_SameNet_2 = .seq c_ref05_SameNet_3 c_ref05_SameNet_4 from by kernel_rfl, seq_r]; rw [q_ref05_SameNet_4 call hs u]; kernel_rfl
theorem F_ref05_SameNet_eq (call : FCall) (hs : FHs) (t0 t1 : AV) (m : Mem) : fxBody Try.prog pol NN call hs n_ref05_SameNet [t0, t1] m = F_ref05_SameNet call hs [t0, t1] m := by
  rw [fxBody_at (fn := Try.f30) (body := c_ref05_SameNet_0) (nt := 38) (rs := [.tmp 4]) (by kernel_rfl) (by kernel_rfl) (by kernel_rfl) (by kernel_rfl) (by kernel_rfl) (by kernel_rfl)]
  exact (congrFun (q_ref05_SameNet_0 call hs m.next) _).trans (by kernel_rfl)
theorem F_ref05_SameNet_le (call : FCall) (hs : FHs) (args : List AV) (m : Mem) (r : AV × Mem) (h : F_ref05_SameNet call hs args m = some r) : fxBody Try.prog pol NN call hs n_ref05_SameNet args m = some r := by
  unfold F_ref05_SameNet at h
  split at h
  · rw [F_ref05_SameNet_eq]; exact h
  · cases h

/- swath/swathref05.NetOf -/
abbrev k_ref05_NetOf (hs : FHs) (u : Nat) : FCtx := { f := n_ref05_NetOf, u := u, nt := 119, hs := hs }
noncomputable abbrev r_ref05_NetOf : Fs → Option (AV × Mem) := fxRes Try.prog [.cell 2 y_api_UnwrapNet]
noncomputable def c_ref05_NetOf_0 : Code := nav (bodyOf n_ref05_NetOf) []
noncomputable def c_ref05_NetOf_1 : Code := nav (bodyOf n_ref05_NetOf) [false]
noncomputable def c_ref05_NetOf_2 : Code := nav (bodyOf n_ref05_NetOf) [true]
noncomputable def c_ref05_NetOf_3 : Code := nav (bodyOf n_ref05_NetOf) [true, false]
noncomputable def c_ref05_NetOf_4 : Code := nav (bodyOf n_ref05_NetOf) [true, true]
noncomputable def c_ref05_NetOf_5 : Code := nav (bodyOf n_ref05_NetOf) [true, true, false]
noncomputable def c_ref05_NetOf_6 : Code := nav (bodyOf n_ref05_NetOf) [true, true, true]
noncomputable def c_ref05_NetOf_7 : Code := nav (bodyOf n_ref05_NetOf) [true, true, true, false]
noncomputable def c_ref05_NetOf_8 : Code := nav (bodyOf n_ref05_NetOf) [true, true, true, true]
noncomputable def c_ref05_NetOf_9 : Code := nav (bodyOf n_ref05_NetOf) [true, true, true, true, false]
noncomputable def c_ref05_NetOf_10 : Code := nav (bodyOf n_ref05_NetOf) [true, true, true, true, true]
noncomputable def c_ref05_NetOf_11 : Code := nav (bodyOf n_ref05_NetOf) [true, true, true, true, false, false]
noncomputable def c_ref05_NetOf_12 : Code := nav (bodyOf n_ref05_NetOf) [true, true, true, true, false, true]
noncomputable def c_ref05_NetOf_13 : Code := nav (bodyOf n_ref05_NetOf) [true, true, true, true, false, true, false]
noncomputable def c_ref05_NetOf_14 : Code := nav (bodyOf n_ref05_NetOf) [true, true, true, true, false, true, false, false]
noncomputable def c_ref05_NetOf_15 : Code := nav (bodyOf n_ref05_NetOf) [true, true, true, true, false, true, false, false, false]
noncomputable def c_ref05_NetOf_16 : Code := nav (bodyOf n_ref05_NetOf) [true, true, true, true, false, true, false, false, true]
noncomputable def c_ref05_NetOf_17 : Code := nav (bodyOf n_ref05_NetOf) [true, true, true, true, false, true, false, false, true, false]
noncomputable def c_ref05_NetOf_18 : Code := nav (bodyOf n_ref05_NetOf) [true, true, true, true, false, true, false, false, true, true]
noncomputable def c_ref05_NetOf_19 : Code := nav (bodyOf n_ref05_NetOf) [true, true, true, true, false, true, false, false, true, false, false]
noncomputable def c_ref05_NetOf_20 : Code := nav (bodyOf n_ref05_NetOf) [true, true, true, true, false, true, false, false, true, false, false, false]
noncomputable def c_ref05_NetOf_21 : Code := nav (bodyOf n_ref05_NetOf) [true, true, true, true, false, true, false, false, true, false, false, true]
noncomputable def c_ref05_NetOf_22 : Code := nav (bodyOf n_ref05_NetOf) [true, true, true, true, false, true, false, false, true, false, false, true, false]
noncomputable def c_ref05_NetOf_23 : Code := nav (bodyOf n_ref05_NetOf) [true, true, true, true, false, true, false, false, true, false, false, true, false, false]
noncomputable def c_ref05_NetOf_24 : Code := nav (bodyOf n_ref05_NetOf) [true, true, true, true, false, true, false, false, true, false, false, true, false, false, false]
noncomputable def c_ref05_NetOf_25 : Code := nav (bodyOf n_ref05_NetOf) [true, true, true, true, false, true, false, false, true, false, false, true, false, false, true]
noncomputable def c_ref05_NetOf_26 : Code := nav (bodyOf n_ref05_NetOf) [true, true, true, true, false, true, false, false, true, false, false, true, false, false, true, false]
noncomputable def c_ref05_NetOf_27 : Code := nav (bodyOf n_ref05_NetOf) [true, true, true, true, false, true, false, false, true, false, false, true, false, false, true, true]
noncomputable def c_ref05_NetOf_28 : Code := nav (bodyOf n_ref05_NetOf) [true, true, true, false, false]
noncomputable def c_ref05_NetOf_29 : Code := nav (bodyOf n_ref05_NetOf) [true, true, true, false, true]
noncomputable def c_ref05_NetOf_30 : Code := nav (bodyOf n_ref05_NetOf) [true, true, true, false, true, false]
noncomputable def c_ref05_NetOf_31 : Code := nav (bodyOf n_ref05_NetOf) [true, true, true, false, true, false, false]
noncomputable def c_ref05_NetOf_32 : Code := nav (bodyOf n_ref05_NetOf) [true, true, true, false, true, false, false, false]
noncomputable def c_ref05_NetOf_33 : Code := nav (bodyOf n_ref05_NetOf) [true, true, true, false, true, false, false, true]
noncomputable def c_ref05_NetOf_34 : Code := nav (bodyOf n_ref05_NetOf) [true, true, true, false, true, false, false, true, false]
noncomputable def c_ref05_NetOf_35 : Code := nav (bodyOf n_ref05_NetOf) [true, true, true, false, true, false, false, true, true]
noncomputable def c_ref05_NetOf_36 : Code := nav (bodyOf n_ref05_NetOf) [true, true, true, false, true, false, false, true, false, false]
noncomputable def c_ref05_NetOf_37 : Code := nav (bodyOf n_ref05_NetOf) [true, true, true, false, true, false, false, true, false, false, false]
noncomputable def c_ref05_NetOf_38 : Code := nav (bodyOf n_ref05_NetOf) [true, true, true, false, true, false, false, true, false, false, true]
noncomputable def c_ref05_NetOf_39 : Code := nav (bodyOf n_ref05_NetOf) [true, true, true, false, true, false, false, true, false, false, true, false]
noncomputable def c_ref05_NetOf_40 : Code := nav (bodyOf n_ref05_NetOf) [true, true, true, false, true, false, false, true, false, false, true, false, false]
noncomputable def c_ref05_NetOf_41 : Code := nav (bodyOf n_ref05_NetOf) [true, true, true, false, true, false, false, true, false, false, true, false, false, false]
noncomputable def c_ref05_NetOf_42 : Code := nav (bodyOf n_ref05_NetOf) [true, true, true, false, true, false, false, true, false, false, true, false, false, true]
noncomputable def c_ref05_NetOf_43 : Code := nav (bodyOf n_ref05_NetOf) [true, true, true, false, true, false, false, true, false, false, true, false, false, true, false]
noncomputable def c_ref05_NetOf_44 : Code := nav (bodyOf n_ref05_NetOf) [true, true, true, false, true, false, false, true, false, false, true, false, false, true, true]
theorem q_ref05_NetOf_10 (call : FCall) (hs : FHs) (u : Nat) :
  fxK Try.prog pol NN call c_ref05_NetOf_10 (AV × Mem) (k_ref05_NetOf hs u) r_ref05_NetOf eNil r_ref05_NetOf = (fun s => B_ref05_NetOf_0 call hs u (s.sl 2) (s.sl 4) s.m s.fc) := by
  kernel_rfl
theorem q_ref05_NetOf_18 (call : FCall) (hs : FHs) (u : Nat) (rec0 : AV → AV → AV → AV → AV → Mem → Nat → Option (AV × Mem)) :
  fxK Try.prog pol NN call c_ref05_NetOf_18 (AV × Mem) (k_ref05_NetOf hs u) (fun s => rec0 (s.sl 1) (s.sl 2) (s.sl 3) (s.sl 4) (s.sl 9) s.m s.fc) (setE 4 (fun s => B_ref05_NetOf_0 call hs u (s.sl 2) (s.sl 4) s.m s.fc) eNil) r_ref05_NetOf = (fun s => B_ref05_NetOf_1 call hs u rec0 (s.sl 1) (s.sl 2) (s.sl 3) (s.sl 4) (s.sl 9) s.m s.fc) := by
  kernel_rfl
theorem q_ref05_NetOf_27 (call : FCall) (hs : FHs) (u : Nat) (rec0 : AV → AV → AV → AV → AV → Mem → Nat → Option (AV × Mem)) (rec1 : AV → AV → AV → AV → AV → AV → Mem → Nat → Option (AV × Mem)) :
  fxK Try.prog pol NN call c_ref05_NetOf_27 (AV × Mem) (k_ref05_NetOf hs u) (fun s => rec1 (s.sl 1) (s.sl 2) (s.sl 3) (s.sl 4) (s.sl 9) (s.sl 10) s.m s.fc) (setE 6 (fun s => B_ref05_NetOf_1 call hs u rec0 (s.sl 1) (s.sl 2) (s.sl 3) (s.sl 4) (s.sl 9) s.m s.fc) (setE 5 (fun s => B_ref05_NetOf_1 call hs u rec0 (s.sl 1) (s.sl 2) (s.sl 3) (s.sl 4) (s.sl 9) s.m s.fc) (setE 4 (fun s => B_ref05_NetOf_0 call hs u (s.sl 2) (s.sl 4) s.m s.fc) eNil))) r_ref05_NetOf = (fun s => B_ref05_NetOf_2 call hs u rec0 rec1 (s.sl 1) (s.sl 2) (s.sl 3) (s.sl 4) (s.sl 9) (s.sl 10) s.m s.fc) := by
  kernel_rfl
theorem q_ref05_NetOf_26 (call : FCall) (hs : FHs) (u : Nat) (rec0 : AV → AV → AV → AV → AV → Mem → Nat → Option (AV × Mem)) (rec1 : AV → AV → AV → AV → AV → AV → Mem → Nat → Option (AV × Mem)) :
  fxK Try.prog pol NN call c_ref05_NetOf_26 (AV × Mem) (k_ref05_NetOf hs u) (fun s => B_ref05_NetOf_2 call hs u rec0 rec1 (s.sl 1) (s.sl 2) (s.sl 3) (s.sl 4) (s.sl 9) (s.sl 10) s.m s.fc) (setE 6 (fun s => B_ref05_NetOf_1 call hs u rec0 (s.sl 1) (s.sl 2) (s.sl 3) (s.sl 4) (s.sl 9) s.m s.fc) (setE 5 (fun s => B_ref05_NetOf_1 call hs u rec0 (s.sl 1) (s.sl 2) (s.sl 3) (s.sl 4) (s.sl 9) s.m s.fc) (setE 4 (fun s => B_ref05_NetOf_0 call hs u (s.sl 2) (s.sl 4) s.m s.fc) eNil))) r_ref05_NetOf = (fun s => B_ref05_NetOf_3 call hs u rec0 rec1 (s.sl 1) (s.sl 2) (s.sl 3) (s.sl 4) (s.sl 9) (s.sl 10) s.m s.fc) := by
  kernel_rfl
theorem q_ref05_NetOf_25 (call : FCall) (hs : FHs) (u : Nat) (rec0 : AV → AV → AV → AV → AV → Mem → Nat → Option (AV × Mem)) (rec1 : AV → AV → AV → AV → AV → AV → Mem → Nat → Option (AV × Mem)) :
  fxK Try.prog pol NN call c_ref05_NetOf_25 (AV × Mem) (k_ref05_NetOf hs u) (fun s => rec1 (s.sl 1) (s.sl 2) (s.sl 3) (s.sl 4) (s.sl 9) (s.sl 10) s.m s.fc) (setE 6 (fun s => B_ref05_NetOf_1 call hs u rec0 (s.sl 1) (s.sl 2) (s.sl 3) (s.sl 4) (s.sl 9) s.m s.fc) (setE 5 (fun s => B_ref05_NetOf_1 call hs u rec0 (s.sl 1) (s.sl 2) (s.sl 3) (s.sl 4) (s.sl 9) s.m s.fc) (setE 4 (fun s => B_ref05_NetOf_0 call hs u (s.sl 2) (s.sl 4) s.m s.fc) eNil))) r_ref05_NetOf = (fun s => B_ref05_NetOf_3 call hs u rec0 rec1 (s.sl 1) (s.sl 2) (s.sl 3) (s.sl 4) (s.sl 9) (s.sl 10) s.m s.fc) := by
  rw [show c_ref05_NetOf_25 = .seq c_ref05_NetOf_26 c_ref05_NetOf_27 from by kernel_rfl, seq_r, q_ref05_NetOf_27 call hs u rec0 rec1, q_ref05_NetOf_26 call hs u rec0 rec1]
theorem q_ref05_NetOf_23 (call : FCall) (hs : FHs) (u : Nat) (rec0 : AV → AV → AV → AV → AV → Mem → Nat → Option (AV × Mem)) (rec1 : AV → AV → AV → AV → AV → AV → Mem → Nat → Option (AV × Mem)) :
  fxK Try.prog pol NN call c_ref05_NetOf_23 (AV × Mem) (k_ref05_NetOf hs u) (fun s => rec1 (s.sl 1) (s.sl 2) (s.sl 3) (s.sl 4) (s.sl 9) (s.sl 10) s.m s.fc) (setE 6 (fun s => B_ref05_NetOf_1 call hs u rec0 (s.sl 1) (s.sl 2) (s.sl 3) (s.sl 4) (s.sl 9) s.m s.fc) (setE 5 (fun s => B_ref05_NetOf_1 call hs u rec0 (s.sl 1) (s.sl 2) (s.sl 3) (s.sl 4) (s.sl 9) s.m s.fc) (setE 4 (fun s => B_ref05_NetOf_0 call hs u (s.sl 2) (s.sl 4) s.m s.fc) eNil))) r_ref05_NetOf = (fun s => B_ref05_NetOf_4 call hs u rec0 rec1 (s.sl 1) (s.sl 2) (s.sl 3) (s.sl 4) (s.sl 9) (s.sl 10) s.m s.fc) := by
  rw [show c_ref05_NetOf_23 = .seq c_ref05_NetOf_24 c_ref05_NetOf_25 from by kernel_rfl, seq_r]; rw [q_ref05_NetOf_25 call hs u rec0 rec1]; kernel_rfl
theorem q_L_ref05_NetOf_1 (call : FCall) (hs : FHs) (u : Nat) (rec0 : AV → AV → AV → AV → AV → Mem → Nat → Option (AV × Mem)) : ∀ n : Nat,
  iter (fun rec => fxK Try.prog pol NN call c_ref05_NetOf_23 (AV × Mem) (k_ref05_NetOf hs u) rec (setE 6 (fun s => B_ref05_NetOf_1 call hs u rec0 (s.sl 1) (s.sl 2) (s.sl 3) (s.sl 4) (s.sl 9) s.m s.fc) (setE 5 (fun s => B_ref05_NetOf_1 call hs u rec0 (s.sl 1) (s.sl 2) (s.sl 3) (s.sl 4) (s.sl 9) s.m s.fc) (setE 4 (fun s => B_ref05_NetOf_0 call hs u (s.sl 2) (s.sl 4) s.m s.fc) eNil))) r_ref05_NetOf) n = (fun s => L_ref05_NetOf_1 call hs u rec0 n (s.sl 1) (s.sl 2) (s.sl 3) (s.sl 4) (s.sl 9) (s.sl 10) s.m s.fc)
  | 0 => rfl
  | n + 1 => by rw [iter_succ, q_L_ref05_NetOf_1 call hs u rec0 n, q_ref05_NetOf_23 call hs u rec0 (L_ref05_NetOf_1 call hs u rec0 n)]; kernel_rfl
theorem q_ref05_NetOf_22 (call : FCall) (hs : FHs) (u : Nat) (rec0 : AV → AV → AV → AV → AV → Mem → Nat → Option (AV × Mem)) :
  fxK Try.prog pol NN call c_ref05_NetOf_22 (AV × Mem) (k_ref05_NetOf hs u) (fun s => B_ref05_NetOf_1 call hs u rec0 (s.sl 1) (s.sl 2) (s.sl 3) (s.sl 4) (s.sl 9) s.m s.fc) (setE 6 (fun s => B_ref05_NetOf_1 call hs u rec0 (s.sl 1) (s.sl 2) (s.sl 3) (s.sl 4) (s.sl 9) s.m s.fc) (setE 5 (fun s => B_ref05_NetOf_1 call hs u rec0 (s.sl 1) (s.sl 2) (s.sl 3) (s.sl 4) (s.sl 9) s.m s.fc) (setE 4 (fun s => B_ref05_NetOf_0 call hs u (s.sl 2) (s.sl 4) s.m s.fc) eNil))) r_ref05_NetOf = (fun s => L_ref05_NetOf_1 call hs u rec0 NN (s.sl 1) (s.sl 2) (s.sl 3) (s.sl 4) (s.sl 9) (s.sl 10) s.m s.fc) := by
  rw [show c_ref05_NetOf_22 = .loop c_ref05_NetOf_23 from by kernel_rfl, loop_r, q_L_ref05_NetOf_1 call hs u rec0 NN]
theorem q_ref05_NetOf_21 (call : FCall) (hs : FHs) (u : Nat) (rec0 : AV → AV → AV → AV → AV → Mem → Nat → Option (AV × Mem)) :
  fxK Try.prog pol NN call c_ref05_NetOf_21 (AV × Mem) (k_ref05_NetOf hs u) (fun s => B_ref05_NetOf_1 call hs u rec0 (s.sl 1) (s.sl 2) (s.sl 3) (s.sl 4) (s.sl 9) s.m s.fc) (setE 5 (fun s => B_ref05_NetOf_1 call hs u rec0 (s.sl 1) (s.sl 2) (s.sl 3) (s.sl 4) (s.sl 9) s.m s.fc) (setE 4 (fun s => B_ref05_NetOf_0 call hs u (s.sl 2) (s.sl 4) s.m s.fc) eNil)) r_ref05_NetOf = (fun s => L_ref05_NetOf_1 call hs u rec0 NN (s.sl 1) (s.sl 2) (s.sl 3) (s.sl 4) (s.sl 9) (s.sl 10) s.m s.fc) := by
  rw [show c_ref05_NetOf_21 = .block 6 c_ref05_NetOf_22 from by kernel_rfl, block_r, q_ref05_NetOf_22 call hs u rec0]
theorem q_ref05_NetOf_19 (call : FCall) (hs : FHs) (u : Nat) (rec0 : AV → AV → AV → AV → AV → Mem → Nat → Option (AV × Mem)) :
  fxK Try.prog pol NN call c_ref05_NetOf_19 (AV × Mem) (k_ref05_NetOf hs u) (fun s => B_ref05_NetOf_1 call hs u rec0 (s.sl 1) (s.sl 2) (s.sl 3) (s.sl 4) (s.sl 9) s.m s.fc) (setE 5 (fun s => B_ref05_NetOf_1 call hs u rec0 (s.sl 1) (s.sl 2) (s.sl 3) (s.sl 4) (s.sl 9) s.m s.fc) (setE 4 (fun s => B_ref05_NetOf_0 call hs u (s.sl 2) (s.sl 4) s.m s.fc) eNil)) r_ref05_NetOf = (fun s => B_ref05_NetOf_5 call hs u rec0 (s.sl 1) (s.sl 2) (s.sl 3) (s.sl 4) (s.sl 9) s.m s.fc) := by
  rw [show c_ref05_NetOf_19 = .seq c_ref05_NetOf_20 c_ref05_NetOf_21 from by kernel_rfl, seq_r]; rw [q_ref05_NetOf_21 call hs u rec0]; kernel_rfl
theorem q_ref05_NetOf_17 (call : FCall) (hs : FHs) (u : Nat) (rec0 : AV → AV → AV → AV → AV → Mem → Nat → Option (AV × Mem)) :
  fxK Try.prog pol NN call c_ref05_NetOf_17 (AV × Mem) (k_ref05_NetOf hs u) (fun s => B_ref05_NetOf_1 call hs u rec0 (s.sl 1) (s.sl 2) (s.sl 3) (s.sl 4) (s.sl 9) s.m s.fc) (setE 4 (fun s => B_ref05_NetOf_0 call hs u (s.sl 2) (s.sl 4) s.m s.fc) eNil) r_ref05_NetOf = (fun s => B_ref05_NetOf_5 call hs u rec0 (s.sl 1) (s.sl 2) (s.sl 3) (s.sl 4) (s.sl 9) s.m s.fc) := by
  rw [show c_ref05_NetOf_17 = .block 5 c_ref05_NetOf_19 from by kernel_rfl, block_r, q_ref05_NetOf_19 call hs u rec0]
theorem q_ref05_NetOf_16 (call : FCall) (hs : FHs) (u : Nat) (rec0 : AV → AV → AV → AV → AV → Mem → Nat → Option (AV × Mem)) :
  fxK Try.prog pol NN call c_ref05_NetOf_16 (AV × Mem) (k_ref05_NetOf hs u) (fun s => rec0 (s.sl 1) (s.sl 2) (s.sl 3) (s.sl 4) (s.sl 9) s.m s.fc) (setE 4 (fun s => B_ref05_NetOf_0 call hs u (s.sl 2) (s.sl 4) s.m s.fc) eNil) r_ref05_NetOf = (fun s => B_ref05_NetOf_5 call hs u rec0 (s.sl 1) (s.sl 2) (s.sl 3) (s.sl 4) (s.sl 9) s.m s.fc) := by
  rw [show c_ref05_NetOf_16 = .seq c_ref05_NetOf_17 c_ref05_NetOf_18 from by kernel_rfl, seq_r, q_ref05_NetOf_18 call hs u rec0, q_ref05_NetOf_17 call hs u rec0]
theorem q_ref05_NetOf_14 (call : FCall) (hs : FHs) (u : Nat) (rec0 : AV → AV → AV → AV → AV → Mem → Nat → Option (AV × Mem)) :
  fxK Try.prog pol NN call c_ref05_NetOf_14 (AV × Mem) (k_ref05_NetOf hs u) (fun s => rec0 (s.sl 1) (s.sl 2) (s.sl 3) (s.sl 4) (s.sl 9) s.m s.fc) (setE 4 (fun s => B_ref05_NetOf_0 call hs u (s.sl 2) (s.sl 4) s.m s.fc) eNil) r_ref05_NetOf = (fun s => B_ref05_NetOf_6 call hs u rec0 (s.sl 1) (s.sl 2) (s.sl 3) (s.sl 4) (s.sl 9) s.m s.fc) := by
  rw [show c_ref05_NetOf_14 = .seq c_ref05_NetOf_15 c_ref05_NetOf_16 from by kernel_rfl, seq_r]; rw [q_ref05_NetOf_16 call hs u rec0]; kernel_rfl
theorem q_L_ref05_NetOf_0 (call : FCall) (hs : FHs) (u : Nat) : ∀ n : Nat,
  iter (fun rec => fxK Try.prog pol NN call c_ref05_NetOf_14 (AV × Mem) (k_ref05_NetOf hs u) rec (setE 4 (fun s => B_ref05_NetOf_0 call hs u (s.sl 2) (s.sl 4) s.m s.fc) eNil) r_ref05_NetOf) n = (fun s => L_ref05_NetOf_0 call hs u n (s.sl 1) (s.sl 2) (s.sl 3) (s.sl 4) (s.sl 9) s.m s.fc)
  | 0 => rfl
  | n + 1 => by rw [iter_succ, q_L_ref05_NetOf_0 call hs u n, q_ref05_NetOf_14 call hs u (L_ref05_NetOf_0 call hs u n)]; kernel_rfl
theorem q_ref05_NetOf_13 (call : FCall) (hs : FHs) (u : Nat) :
  fxK Try.prog pol NN call c_ref05_NetOf_13 (AV × Mem) (k_ref05_NetOf hs u) (fun s => B_ref05_NetOf_0 call hs u (s.sl 2) (s.sl 4) s.m s.fc) (setE 4 (fun s => B_ref05_NetOf_0 call hs u (s.sl 2) (s.sl 4) s.m s.fc) eNil) r_ref05_NetOf = (fun s => L_ref05_NetOf_0 call hs u NN (s.sl 1) (s.sl 2) (s.sl 3) (s.sl 4) (s.sl 9) s.m s.fc) := by
  rw [show c_ref05_NetOf_13 = .loop c_ref05_NetOf_14 from by kernel_rfl, loop_r, q_L_ref05_NetOf_0 call hs u NN]
theorem q_ref05_NetOf_12 (call : FCall) (hs : FHs) (u : Nat) :
  fxK Try.prog pol NN call c_ref05_NetOf_12 (AV × Mem) (k_ref05_NetOf hs u) (fun s => B_ref05_NetOf_0 call hs u (s.sl 2) (s.sl 4) s.m s.fc) eNil r_ref05_NetOf = (fun s => L_ref05_NetOf_0 call hs u NN (s.sl 1) (s.sl 2) (s.sl 3) (s.sl 4) (s.sl 9) s.m s.fc) := by
  rw [show c_ref05_NetOf_12 = .block 4 c_ref05_NetOf_13 from by kernel_rfl, block_r, q_ref05_NetOf_13 call hs u]
theorem q_ref05_NetOf_9 (call : FCall) (hs : FHs) (u : Nat) :
  fxK Try.prog pol NN call c_ref05_NetOf_9 (AV × Mem) (k_ref05_NetOf hs u) (fun s => B_ref05_NetOf_0 call hs u (s.sl 2) (s.sl 4) s.m s.fc) eNil r_ref05_NetOf = (fun s => B_ref05_NetOf_7 call hs u (s.sl 1) (s.sl 2) (s.sl 3) (s.sl 4) s.m s.fc) := by
  rw [show c_ref05_NetOf_9 = .seq c_ref05_NetOf_11 c_ref05_NetOf_12 from by kernel_rfl, seq_r]; rw [q_ref05_NetOf_12 call hs u]; kernel_rfl
theorem q_ref05_NetOf_8 (call : FCall) (hs : FHs) (u : Nat) :
  fxK Try.prog pol NN call c_ref05_NetOf_8 (AV × Mem) (k_ref05_NetOf hs u) r_ref05_NetOf eNil r_ref05_NetOf = (fun s => B_ref05_NetOf_7 call hs u (s.sl 1) (s.sl 2) (s.sl 3) (s.sl 4) s.m s.fc) := by
  rw [show c_ref05_NetOf_8 = .seq c_ref05_NetOf_9 c_ref05_NetOf_10 from by kernel_rfl, seq_r, q_ref05_NetOf_10 call hs u, q_ref05_NetOf_9 call hs u]
theorem q_ref05_NetOf_35 (call : FCall) (hs : FHs) (u : Nat) (rec2 : AV → AV → AV → AV → AV → Mem → Nat → Option (AV × Mem)) :
  fxK Try.prog pol NN call c_ref05_NetOf_35 (AV × Mem) (k_ref05_NetOf hs u) (fun s => rec2 (s.sl 1) (s.sl 2) (s.sl 3) (s.sl 4) (s.sl 5) s.m s.fc) (setE 0 (fun s => B_ref05_NetOf_7 call hs u (s.sl 1) (s.sl 2) (s.sl 3) (s.sl 4) s.m s.fc) eNil) r_ref05_NetOf = (fun s => B_ref05_NetOf_8 call hs u rec2 (s.sl 1) (s.sl 2) (s.sl 3) (s.sl 4) (s.sl 5) s.m s.fc) := by
  kernel_rfl
theorem q_ref05_NetOf_44 (call : FCall) (hs : FHs) (u : Nat) (rec2 : AV → AV → AV → AV → AV → Mem → Nat → Option (AV × Mem)) (rec3 : AV → AV → AV → AV → AV → AV → Mem → Nat → Option (AV × Mem)) :
  fxK Try.prog pol NN call c_ref05_NetOf_44 (AV × Mem) (k_ref05_NetOf hs u) (fun s => rec3 (s.sl 1) (s.sl 2) (s.sl 3) (s.sl 4) (s.sl 5) (s.sl 6) s.m s.fc) (setE 2 (fun s => B_ref05_NetOf_8 call hs u rec2 (s.sl 1) (s.sl 2) (s.sl 3) (s.sl 4) (s.sl 5) s.m s.fc) (setE 1 (fun s => B_ref05_NetOf_8 call hs u rec2 (s.sl 1) (s.sl 2) (s.sl 3) (s.sl 4) (s.sl 5) s.m s.fc) (setE 0 (fun s => B_ref05_NetOf_7 call hs u (s.sl 1) (s.sl 2) (s.sl 3) (s.sl 4) s.m s.fc) eNil))) r_ref05_NetOf = (fun s => B_ref05_NetOf_9 call hs u rec2 rec3 (s.sl 1) (s.sl 2) (s.sl 3) (s.sl 4) (s.sl 5) (s.sl 6) s.m s.fc) := by
  kernel_rfl
theorem q_ref05_NetOf_43 (call : FCall) (hs : FHs) (u : Nat) (rec2 : AV → AV → AV → AV → AV → Mem → Nat → Option (AV × Mem)) (rec3 : AV → AV → AV → AV → AV → AV → Mem → Nat → Option (AV × Mem)) :
  fxK Try.prog pol NN call c_ref05_NetOf_43 (AV × Mem) (k_ref05_NetOf hs u) (fun s => B_ref05_NetOf_9 call hs u rec2 rec3 (s.sl 1) (s.sl 2) (s.sl 3) (s.sl 4) (s.sl 5) (s.sl 6) s.m s.fc) (setE 2 (fun s => B_ref05_NetOf_8 call hs u rec2 (s.sl 1) (s.sl 2) (s.sl 3) (s.sl 4) (s.sl 5) s.m s.fc) (setE 1 (fun s => B_ref05_NetOf_8 call hs u rec2 (s.sl 1) (s.sl 2) (s.sl 3) (s.sl 4) (s.sl 5) s.m s.fc) (setE 0 (fun s => B_ref05_NetOf_7 call hs u (s.sl 1) (s.sl 2) (s.sl 3) (s.sl 4) s.m s.fc) eNil))) r_ref05_NetOf = (fun s => B_ref05_NetOf_10 call hs u rec2 rec3 (s.sl 1) (s.sl 2) (s.sl 3) (s.sl 4) (s.sl 5) (s.sl 6) s.m s.fc) := by
  kernel_rfl
theorem q_ref05_NetOf_42 (call : FCall) (hs : FHs) (u : Nat) (rec2 : AV → AV → AV → AV → AV → Mem → Nat → Option (AV × Mem)) (rec3 : AV → AV → AV → AV → AV → AV → Mem → Nat → Option (AV × Mem)) :
  fxK Try.prog pol NN call c_ref05_NetOf_42 (AV × Mem) (k_ref05_NetOf hs u) (fun s => rec3 (s.sl 1) (s.sl 2) (s.sl 3) (s.sl 4) (s.sl 5) (s.sl 6) s.m s.fc) (setE 2 (fun s => B_ref05_NetOf_8 call hs u rec2 (s.sl 1) (s.sl 2) (s.sl 3) (s.sl 4) (s.sl 5) s.m s.fc) (setE 1 (fun s => B_ref05_NetOf_8 call hs u rec2 (s.sl 1) (s.sl 2) (s.sl 3) (s.sl 4) (s.sl 5) s.m s.fc) (setE 0 (fun s => B_ref05_NetOf_7 call hs u (s.sl 1) (s.sl 2) (s.sl 3) (s.sl 4) s.m s.fc) eNil))) r_ref05_NetOf = (fun s => B_ref05_NetOf_10 call hs u rec2 rec3 (s.sl 1) (s.sl 2) (s.sl 3) (s.sl 4) (s.sl 5) (s.sl 6) s.m s.fc) := by
  rw [show c_ref05_NetOf_42 = .seq c_ref05_NetOf_43 c_ref05_NetOf_44 from by kernel_rfl, seq_r, q_ref05_NetOf_44 call hs u rec2 rec3, q_ref05_NetOf_43 call hs u rec2 rec3]
theorem q_ref05_NetOf_40 (call : FCall) (hs : FHs) (u : Nat) (rec2 : AV → AV → AV → AV → AV → Mem → Nat → Option (AV × Mem)) (rec3 : AV → AV → AV → AV → AV → AV → Mem → Nat → Option (AV × Mem)) :
  fxK Try.prog pol NN call c_ref05_NetOf_40 (AV × Mem) (k_ref05_NetOf hs u) (fun s => rec3 (s.sl 1) (s.sl 2) (s.sl 3) (s.sl 4) (s.sl 5) (s.sl 6) s.m s.fc) (setE 2 (fun s => B_ref05_NetOf_8 call hs u rec2 (s.sl 1) (s.sl 2) (s.sl 3) (s.sl 4) (s.sl 5) s.m s.fc) (setE 1 (fun s => B_ref05_NetOf_8 call hs u rec2 (s.sl 1) (s.sl 2) (s.sl 3) (s.sl 4) (s.sl 5) s.m s.fc) (setE 0 (fun s => B_ref05_NetOf_7 call hs u (s.sl 1) (s.sl 2) (s.sl 3) (s.sl 4) s.m s.fc) eNil))) r_ref05_NetOf = (fun s => B_ref05_NetOf_11 call hs u rec2 rec3 (s.sl 1) (s.sl 2) (s.sl 3) (s.sl 4) (s.sl 5) (s.sl 6) s.m s.fc) := by
  rw [show c_ref05_NetOf_40 = .seq c_ref05_NetOf_41 c_ref05_NetOf_42 from by kernel_rfl, seq_r]; rw [q_ref05_NetOf_42 call hs u rec2 rec3]; kernel_rfl
theorem q_L_ref05_NetOf_3 (call : FCall) (hs : FHs) (u : Nat) (rec2 : AV → AV → AV → AV → AV → Mem → Nat → Option (AV × Mem)) : ∀ n : Nat,
  iter (fun rec => fxK Try.prog pol NN call c_ref05_NetOf_40 (AV × Mem) (k_ref05_NetOf hs u) rec (setE 2 (fun s => B_ref05_NetOf_8 call hs u rec2 (s.sl 1) (s.sl 2) (s.sl 3) (s.sl 4) (s.sl 5) s.m s.fc) (setE 1 (fun s => B_ref05_NetOf_8 call hs u rec2 (s.sl 1) (s.sl 2) (s.sl 3) (s.sl 4) (s.sl 5) s.m s.fc) (setE 0 (fun s => B_ref05_NetOf_7 call hs u (s.sl 1) (s.sl 2) (s.sl 3) (s.sl 4) s.m s.fc) eNil))) r_ref05_NetOf) n = (fun s => L_ref05_NetOf_3 call hs u rec2 n (s.sl 1) (s.sl 2) (s.sl 3) (s.sl 4) (s.sl 5) (s.sl 6) s.m s.fc)
  | 0 => rfl
  | n + 1 => by rw [iter_succ, q_L_ref05_NetOf_3 call hs u rec2 n, q_ref05_NetOf_40 call hs u rec2 (L_ref05_NetOf_3 call hs u rec2 n)]; kernel_rfl
theorem q_ref05_NetOf_39 (call : FCall) (hs : FHs) (u : Nat) (rec2 : AV → AV → AV → AV → AV → Mem → Nat → Option (AV × Mem)) :
  fxK Try.prog pol NN call c_ref05_NetOf_39 (AV × Mem) (k_ref05_NetOf hs u) (fun s => B_ref05_NetOf_8 call hs u rec2 (s.sl 1) (s.sl 2) (s.sl 3) (s.sl 4) (s.sl 5) s.m s.fc) (setE 2 (fun s => B_ref05_NetOf_8 call hs u rec2 (s.sl 1) (s.sl 2) (s.sl 3) (s.sl 4) (s.sl 5) s.m s.fc) (setE 1 (fun s => B_ref05_NetOf_8 call hs u rec2 (s.sl 1) (s.sl 2) (s.sl 3) (s.sl 4) (s.sl 5) s.m s.fc) (setE 0 (fun s => B_ref05_NetOf_7 call hs u (s.sl 1) (s.sl 2) (s.sl 3) (s.sl 4) s.m s.fc) eNil))) r_ref05_NetOf = (fun s => L_ref05_NetOf_3 call hs u rec2 NN (s.sl 1) (s.sl 2) (s.sl 3) (s.sl 4) (s.sl 5) (s.sl 6) s.m s.fc) := by
  rw [show c_ref05_NetOf_39 = .loop c_ref05_NetOf_40 from by kernel_rfl, loop_r, q_L_ref05_NetOf_3 call hs u rec2 NN]
theorem q_ref05_NetOf_38 (call : FCall) (hs : FHs) (u : Nat) (rec2 : AV → AV → AV → AV → AV → Mem → Nat → Option (AV × Mem)) :
  fxK Try.prog pol NN call c_ref05_NetOf_38 (AV × Mem) (k_ref05_NetOf hs u) (fun s => B_ref05_NetOf_8 call hs u rec2 (s.sl 1) (s.sl 2) (s.sl 3) (s.sl 4) (s.sl 5) s.m s.fc) (setE 1 (fun s => B_ref05_NetOf_8 call hs u rec2 (s.sl 1) (s.sl 2) (s.sl 3) (s.sl 4) (s.sl 5) s.m s.fc) (setE 0 (fun s => B_ref05_NetOf_7 call hs u (s.sl 1) (s.sl 2) (s.sl 3) (s.sl 4) s.m s.fc) eNil)) r_ref05_NetOf = (fun s => L_ref05_NetOf_3 call hs u rec2 NN (s.sl 1) (s.sl 2) (s.sl 3) (s.sl 4) (s.sl 5) (s.sl 6) s.m s.fc) := by
  rw [show c_ref05_NetOf_38 = .block 2 c_ref05_NetOf_39 from by kernel_rfl, block_r, q_ref05_NetOf_39 call hs u rec2]
theorem q_ref05_NetOf_36 (call : FCall) (hs : FHs) (u : Nat) (rec2 : AV → AV → AV → AV → AV → Mem → Nat → Option (AV × Mem)) :
  fxK Try.prog pol NN call c_ref05_NetOf_36 (AV × Mem) (k_ref05_NetOf hs u) (fun s => B_ref05_NetOf_8 call hs u rec2 (s.sl 1) (s.sl 2) (s.sl 3) (s.sl 4) (s.sl 5) s.m s.fc) (setE 1 (fun s => B_ref05_NetOf_8 call hs u rec2 (s.sl 1) (s.sl 2) (s.sl 3) (s.sl 4) (s.sl 5) s.m s.fc) (setE 0 (fun s => B_ref05_NetOf_7 call hs u (s.sl 1) (s.sl 2) (s.sl 3) (s.sl 4) s.m s.fc) eNil)) r_ref05_NetOf = (fun s => B_ref05_NetOf_12 call hs u rec2 (s.sl 1) (s.sl 2) (s.sl 3) (s.sl 4) (s.sl 5) s.m s.fc) := by
  rw [show c_ref05_NetOf_36 = .seq c_ref05_NetOf_37 c_ref05_NetOf_38 from by kernel_rfl, seq_r]; rw [q_ref05_NetOf_38 call hs u rec2]; kernel_rfl
theorem q_ref05_NetOf_34 (call : FCall) (hs : FHs) (u : Nat) (rec2 : AV → AV → AV → AV → AV → Mem → Nat → Option (AV × Mem)) :
  fxK Try.prog pol NN call c_ref05_NetOf_34 (AV × Mem) (k_ref05_NetOf hs u) (fun s => B_ref05_NetOf_8 call hs u rec2 (s.sl 1) (s.sl 2) (s.sl 3) (s.sl 4) (s.sl 5) s.m s.fc) (setE 0 (fun s => B_ref05_NetOf_7 call hs u (s.sl 1) (s.sl 2) (s.sl 3) (s.sl 4) s.m s.fc) eNil) r_ref05_NetOf = (fun s => B_ref05_NetOf_12 call hs u rec2 (s.sl 1) (s.sl 2) (s.sl 3) (s.sl 4) (s.sl 5) s.m s.fc) := by
  rw [show c_ref05_NetOf_34 = .block 1 c_ref05_NetOf_36 from by kernel_rfl, block_r, q_ref05_NetOf_36 call hs u rec2]
theorem q_ref05_NetOf_33 (call : FCall) (hs : FHs) (u : Nat) (rec2 : AV → AV → AV → AV → AV → Mem → Nat → Option (AV × Mem)) :
  fxK Try.prog pol NN call c_ref05_NetOf_33 (AV × Mem) (k_ref05_NetOf hs u) (fun s => rec2 (s.sl 1) (s.sl 2) (s.sl 3) (s.sl 4) (s.sl 5) s.m s.fc) (setE 0 (fun s => B_ref05_NetOf_7 call hs u (s.sl 1) (s.sl 2) (s.sl 3) (s.sl 4) s.m s.fc) eNil) r_ref05_NetOf = (fun s => B_ref05_NetOf_12 call hs u rec2 (s.sl 1) (s.sl 2) (s.sl 3) (s.sl 4) (s.sl 5) s.m s.fc) := by
  rw [show c_ref05_NetOf_33 = .seq c_ref05_NetOf_34 c_ref05_NetOf_35 from by kernel_rfl, seq_r, q_ref05_NetOf_35 call hs u rec2, q_ref05_NetOf_34 call hs u rec2]
theorem q_ref05_NetOf_31 (call : FCall) (hs : FHs) (u : Nat) (rec2 : AV → AV → AV → AV → AV → Mem → Nat → Option (AV × Mem)) :
  fxK Try.prog pol NN call c_ref05_NetOf_31 (AV × Mem) (k_ref05_NetOf hs u) (fun s => rec2 (s.sl 1) (s.sl 2) (s.sl 3) (s.sl 4) (s.sl 5) s.m s.fc) (setE 0 (fun s => B_ref05_NetOf_7 call hs u (s.sl 1) (s.sl 2) (s.sl 3) (s.sl 4) s.m s.fc) eNil) r_ref05_NetOf = (fun s => B_ref05_NetOf_13 call hs u rec2 (s.sl 1) (s.sl 2) (s.sl 3) (s.sl 4) (s.sl 5) s.m s.fc) := by
  rw [show c_ref05_NetOf_31 = .seq c_ref05_NetOf_32 c_ref05_NetOf_33 from by kernel_rfl, seq_r]; rw [q_ref05_NetOf_33 call hs u rec2]; kernel_rfl
theorem q_L_ref05_NetOf_2 (call : FCall) (hs : FHs) (u : Nat) : ∀ n : Nat,
  iter (fun rec => fxK Try.prog pol NN call c_ref05_NetOf_31 (AV × Mem) (k_ref05_NetOf hs u) rec (setE 0 (fun s => B_ref05_NetOf_7 call hs u (s.sl 1) (s.sl 2) (s.sl 3) (s.sl 4) s.m s.fc) eNil) r_ref05_NetOf) n = (fun s => L_ref05_NetOf_2 call hs u n (s.sl 1) (s.sl 2) (s.sl 3) (s.sl 4) (s.sl 5) s.m s.fc)
  | 0 => rfl
  | n + 1 => by rw [iter_succ, q_L_ref05_NetOf_2 call hs u n, q_ref05_NetOf_31 call hs u (L_ref05_NetOf_2 call hs u n)]; kernel_rfl
theorem q_ref05_NetOf_30 (call : FCall) (hs : FHs) (u : Nat) :
  fxK Try.prog pol NN call c_ref05_NetOf_30 (AV × Mem) (k_ref05_NetOf hs u) (fun s => B_ref05_NetOf_7 call hs u (s.sl 1) (s.sl 2) (s.sl 3) (s.sl 4) s.m s.fc) (setE 0 (fun s => B_ref05_NetOf_7 call hs u (s.sl 1) (s.sl 2) (s.sl 3) (s.sl 4) s.m s.fc) eNil) r_ref05_NetOf = (fun s => L_ref05_NetOf_2 call hs u NN (s.sl 1) (s.sl 2) (s.sl 3) (s.sl 4) (s.sl 5) s.m s.fc) := by
  rw [show c_ref05_NetOf_30 = .loop c_ref05_NetOf_31 from by kernel_rfl, loop_r, q_L_ref05_NetOf_2 call hs u NN]
theorem q_ref05_NetOf_29 (call : FCall) (hs : FHs) (u : Nat) :
  fxK Try.prog pol NN call c_ref05_NetOf_29 (AV × Mem) (k_ref05_NetOf hs u) (fun s => B_ref05_NetOf_7 call hs u (s.sl 1) (s.sl 2) (s.sl 3) (s.sl 4) s.m s.fc) eNil r_ref05_NetOf = (fun s => L_ref05_NetOf_2 call hs u NN (s.sl 1) (s.sl 2) (s.sl 3) (s.sl 4) (s.sl 5) s.m s.fc) := by
  rw [show c_ref05_NetOf_29 = .block 0 c_ref05_NetOf_30 from by kernel_rfl, block_r, q_ref05_NetOf_30 call hs u]
theorem q_ref05_NetOf_7 (call : FCall) (hs : FHs) (u : Nat) :
  fxK Try.prog pol NN call c_ref05_NetOf_7 (AV × Mem) (k_ref05_NetOf hs u) (fun s => B_ref05_NetOf_7 call hs u (s.sl 1) (s.sl 2) (s.sl 3) (s.sl 4) s.m s.fc) eNil r_ref05_NetOf = (fun s => B_ref05_NetOf_14 call hs u (s.sl 1) (s.sl 2) (s.sl 3) (s.sl 4) s.m s.fc) := by
  rw [show c_ref05_NetOf_7 = .seq c_ref05_NetOf_28 c_ref05_NetOf_29 from by kernel_rfl, seq_r]; rw [q_ref05_NetOf_29 call hs u]; kernel_rfl
theorem q_ref05_NetOf_6 (call : FCall) (hs : FHs) (u : Nat) :
  fxK Try.prog pol NN call c_ref05_NetOf_6 (AV × Mem) (k_ref05_NetOf hs u) r_ref05_NetOf eNil r_ref05_NetOf = (fun s => B_ref05_NetOf_14 call hs u (s.sl 1) (s.sl 2) (s.sl 3) (s.sl 4) s.m s.fc) := by
  rw [show c_ref05_NetOf_6 = .seq c_ref05_NetOf_7 c_ref05_NetOf_8 from by kernel_rfl, seq_r, q_ref05_NetOf_8 call hs u, q_ref05_NetOf_7 call hs u]
theorem q_ref05_NetOf_0 (call : FCall) (hs : FHs) (u : Nat) :
  fxK Try.prog pol NN call c_ref05_NetOf_0 (AV × Mem) (k_ref05_NetOf hs u) r_ref05_NetOf eNil r_ref05_NetOf = (fun s => B_ref05_NetOf_15 call hs u (s.sl 0) s.m s.fc) := by
  rw [show c_ref05_NetOf_0 = .seq c_ref05_NetOf_1 c_ref05_NetOf_2 from by kernel_rfl, seq_r]; rw [show c_ref05_NetOf_2 = .seq c_ref05_NetOf_3 c_ref05_NetOf_4 from by kernel_rfl, seq_r]; rw [show c_ref05_NetOf_4 = .seq c_ref05_NetOf_5 c_ref05_NetOf_6 from by kernel_rfl, seq_r]; rw [q_ref05_NetOf_6 call hs u]; kernel_rfl
theorem F_ref05_NetOf_eq (call : FCall) (hs : FHs) (t0 : AV) (m : Mem) : fxBody Try.prog pol NN call hs n_ref05_NetOf [t0] m = F_ref05_NetOf call hs [t0] m := by
  rw [fxBody_at (fn := Try.f31) (body := c_ref05_NetOf_0) (nt := 119) (rs := [.cell 2 y_api_UnwrapNet]) (by kernel_rfl) (by kernel_rfl) (by kernel_rfl) (by kernel_rfl) (by kernel_rfl) (by kernel_rfl)]
  exact (congrFun (q_ref05_NetOf_0 call hs m.next) _).trans (by kernel_rfl)
theorem F_ref05_NetOf_le (call : FCall) (hs : FHs) (args : List AV) (m : Mem) (r : AV × Mem) (h : F_ref05_NetOf call hs args m = some r) : fxBody Try.prog pol NN call hs n_ref05_NetOf args m = some r := by
  unfold F_ref05_NetOf at h
  split at h
  · rw [F_ref05_NetOf_eq]; exact h
  · cases h

/- swath/unwrap.NetBetween -/
abbrev k_unwrap_NetBetween (hs : FHs) (u : Nat) : FCtx := { f := n_unwrap_NetBetween, u := u, nt := 66, hs := hs }
noncomputable abbrev r_unwrap_NetBetween : Fs → Option (AV × Mem) := fxRes Try.prog [.cell 6 y_api_Range, .tmp 7]
noncomputable def c_unwrap_NetBetween_0 : Code := nav (bodyOf n_unwrap_NetBetween) []
theorem q_unwrap_NetBetween_0 (call : FCall) (hs : FHs) (u : Nat) :
  fxK Try.prog pol NN call c_unwrap_NetBetween_0 (AV × Mem) (k_unwrap_NetBetween hs u) r_unwrap_NetBetween eNil r_unwrap_NetBetween = (fun s => B_unwrap_NetBetween_0 call hs u (s.sl 0) (s.sl 1) (s.sl 2) s.m s.fc) := by
  kernel_rfl
theorem F_unwrap_NetBetween_eq (call : FCall) (hs : FHs) (t0 t1 t2 : AV) (m : Mem) : fxBody Try.prog pol NN call hs n_unwrap_NetBetween [t0, t1, t2] m = F_unwrap_NetBetween call hs [t0, t1, t2] m := by
  rw [fxBody_at (fn := Try.f32) (body := c_unwrap_NetBetween_0) (nt := 66) (rs := [.cell 6 y_api_Range, .tmp 7]) (by kernel_rfl) (by kernel_rfl) (by kernel_rfl) (by kernel_rfl) (by kernel_rfl) (by kernel_rfl)]
  exact (congrFun (q_unwrap_NetBetween_0 call hs m.next) _).trans (by kernel_rfl)
theorem F_unwrap_NetBetween_le (call : FCall) (hs : FHs) (args : List AV) (m : Mem) (r : AV × Mem) (h : F_unwrap_NetBetween call hs args m = some r) : fxBody Try.prog pol NN call hs n_unwrap_NetBetween args m = some r := by
  unfold F_unwrap_NetBetween at h
  split at h
  · rw [F_unwrap_NetBetween_eq]; exact h
  · cases h

/- swath/swathbase.Ints -/
abbrev k_base_Ints (hs : FHs) (u : Nat) : FCtx := { f := n_base_Ints, u := u, nt := 26, hs := hs }
noncomputable abbrev r_base_Ints : Fs → Option (AV × Mem) := fxRes Try.prog [.tmp 4]
noncomputable def c_base_Ints_0 : Code := nav (bodyOf n_base_Ints) []
noncomputable def c_base_Ints_1 : Code := nav (bodyOf n_base_Ints) [false]
noncomputable def c_base_Ints_2 : Code := nav (bodyOf n_base_Ints) [true]
noncomputable def c_base_Ints_3 : Code := nav (bodyOf n_base_Ints) [true, false]
noncomputable def c_base_Ints_4 : Code := nav (bodyOf n_base_Ints) [true, true]
noncomputable def c_base_Ints_5 : Code := nav (bodyOf n_base_Ints) [true, true, false]
noncomputable def c_base_Ints_6 : Code := nav (bodyOf n_base_Ints) [true, true, true]
noncomputable def c_base_Ints_7 : Code := nav (bodyOf n_base_Ints) [true, true, false, false]
noncomputable def c_base_Ints_8 : Code := nav (bodyOf n_base_Ints) [true, true, false, true]
noncomputable def c_base_Ints_9 : Code := nav (bodyOf n_base_Ints) [true, true, false, true, false]
noncomputable def c_base_Ints_10 : Code := nav (bodyOf n_base_Ints) [true, true, false, true, false, false]
theorem q_base_Ints_6 (call : FCall) (hs : FHs) (u : Nat) :
  fxK Try.prog pol NN call c_base_Ints_6 (AV × Mem) (k_base_Ints hs u) r_base_Ints eNil r_base_Ints = (fun s => B_base_Ints_0 call hs u s.m s.fc) := by
  kernel_rfl
theorem q_base_Ints_10 (call : FCall) (hs : FHs) (u : Nat) (rec0 : AV → AV → AV → Mem → Nat → Option (AV × Mem)) :
  fxK Try.prog pol NN call c_base_Ints_10 (AV × Mem) (k_base_Ints hs u) (fun s => rec0 (s.sl 0) (s.sl 1) (s.sl 5) s.m s.fc) (setE 0 (fun s => B_base_Ints_0 call hs u s.m s.fc) eNil) r_base_Ints = (fun s => B_base_Ints_1 call hs u rec0 (s.sl 0) (s.sl 1) (s.sl 5) s.m s.fc) := by
  kernel_rfl
theorem q_L_base_Ints_0 (call : FCall) (hs : FHs) (u : Nat) : ∀ n : Nat,
  iter (fun rec => fxK Try.prog pol NN call c_base_Ints_10 (AV × Mem) (k_base_Ints hs u) rec (setE 0 (fun s => B_base_Ints_0 call hs u s.m s.fc) eNil) r_base_Ints) n = (fun s => L_base_Ints_0 call hs u n (s.sl 0) (s.sl 1) (s.sl 5) s.m s.fc)
  | 0 => rfl
  | n + 1 => by rw [iter_succ, q_L_base_Ints_0 call hs u n, q_base_Ints_10 call hs u (L_base_Ints_0 call hs u n)]; kernel_rfl
theorem q_base_Ints_9 (call : FCall) (hs : FHs) (u : Nat) :
  fxK Try.prog pol NN call c_base_Ints_9 (AV × Mem) (k_base_Ints hs u) (fun s => B_base_Ints_0 call hs u s.m s.fc) (setE 0 (fun s => B_base_Ints_0 call hs u s.m s.fc) eNil) r_base_Ints = (fun s => L_base_Ints_0 call hs u NN (s.sl 0) (s.sl 1) (s.sl 5) s.m s.fc) := by
  rw [show c_base_Ints_9 = .loop c_base_Ints_10 from by kernel_rfl, loop_r, q_L_base_Ints_0 call hs u NN]
theorem q_base_Ints_8 (call : FCall) (hs : FHs) (u : Nat) :
  fxK Try.prog pol NN call c_base_Ints_8 (AV × Mem) (k_base_Ints hs u) (fun s => B_base_Ints_0 call hs u s.m s.fc) eNil r_base_Ints = (fun s => L_base_Ints_0 call hs u NN (s.sl 0) (s.sl 1) (s.sl 5) s.m s.fc) := by
  rw [show c_base_Ints_8 = .block 0 c_base_Ints_9 from by kernel_rfl, block_r, q_base_Ints_9 call hs u]
theorem q_base_Ints_5 (call : FCall) (hs : FHs) (u : Nat) :
  fxK Try.prog pol NN call c_base_Ints_5 (AV × Mem) (k_base_Ints hs u) (fun s => B_base_Ints_0 call hs u s.m s.fc) eNil r_base_Ints = (fun s => B_base_Ints_2 call hs u (s.sl 0) (s.sl 1) s.m s.fc) := by
  rw [show c_base_Ints_5 = .seq c_base_Ints_7 c_base_Ints_8 from by kernel_rfl, seq_r]; rw [q_base_Ints_8 call hs u]; kernel_rfl
theorem q_base_Ints_4 (call : FCall) (hs : FHs) (u : Nat) :
  fxK Try.prog pol NN call c_base_Ints_4 (AV × Mem) (k_base_Ints hs u) r_base_Ints eNil r_base_Ints = (fun s => B_base_Ints_2 call hs u (s.sl 0) (s.sl 1) s.m s.fc) := by
  rw [show c_base_Ints_4 = .seq c_base_Ints_5 c_base_Ints_6 from by kernel_rfl, seq_r, q_base_Ints_6 call hs u, q_base_Ints_5 call hs u]
theorem q_base_Ints_0 (call : FCall) (hs : FHs) (u : Nat) :
  fxK Try.prog pol NN call c_base_Ints_0 (AV × Mem) (k_base_Ints hs u) r_base_Ints eNil r_base_Ints = (fun s => B_base_Ints_3 call hs u (s.sl 0) (s.sl 1) s.m s.fc) := by
  rw [show c_base_Ints_0 = .seq c_base_Ints_1 c_base_Ints_2 from by kernel_rfl, seq_r]; rw [show c_base_Ints_2 = .seq c_base_Ints_3 c_base_Ints_4 from by kernel_rfl, seq_r]; rw [q_base_Ints_4 call hs u]; kernel_rfl
theorem F_base_Ints_eq (call : FCall) (hs : FHs) (t0 t1 : AV) (m : Mem) : fxBody Try.prog pol NN call hs n_base_Ints [t0, t1] m = F_base_Ints call hs [t0, t1] m := by
  rw [fxBody_at (fn := Try.f34) (body := c_base_Ints_0) (nt := 26) (rs := [.tmp 4]) (by kernel_rfl) (by kernel_rfl) (by kernel_rfl) (by kernel_rfl) (by kernel_rfl) (by kernel_rfl)]
  exact (congrFun (q_base_Ints_0 call hs m.next) _).trans (by kernel_rfl)
theorem F_base_Ints_le (call : FCall) (hs : FHs) (args : List AV) (m : Mem) (r : AV × Mem) (h : F_base_Ints call hs args m = some r) : fxBody Try.prog pol NN call hs n_base_Ints args m = some r := by
  unfold F_base_Ints at h
  split at h
  · rw [F_base_Ints_eq]; exact h
  · cases h

/- swath/swathbase.Within -/
abbrev k_base_Within (hs : FHs) (u : Nat) : FCtx := { f := n_base_Within, u := u, nt := 15, hs := hs }
noncomputable abbrev r_base_Within : Fs → Option (AV × Mem) := fxRes Try.prog [.tmp 6]
noncomputable def c_base_Within_0 : Code := nav (bodyOf n_base_Within) []
theorem q_base_Within_0 (call : FCall) (hs : FHs) (u : Nat) :
  fxK Try.prog pol NN call c_base_Within_0 (AV × Mem) (k_base_Within hs u) r_base_Within eNil r_base_Within = (fun s => B_base_Within_0 call hs u (s.sl 0) (s.sl 1) (s.sl 2) s.m s.fc) := by
  kernel_rfl
theorem F_base_Within_eq (call : FCall) (hs : FHs) (t0 t1 t2 : AV) (m : Mem) : fxBody Try.prog pol NN call hs n_base_Within [t0, t1, t2] m = F_base_Within call hs [t0, t1, t2] m := by
  rw [fxBody_at (fn := Try.f36) (body := c_base_Within_0) (nt := 15) (rs := [.tmp 6]) (by kernel_rfl) (by kernel_rfl) (by kernel_rfl) (by kernel_rfl) (by kernel_rfl) (by kernel_rfl)]
  exact (congrFun (q_base_Within_0 call hs m.next) _).trans (by kernel_rfl)
theorem F_base_Within_le (call : FCall) (hs : FHs) (args : List AV) (m : Mem) (r : AV × Mem) (h : F_base_Within call hs args m = some r) : fxBody Try.prog pol NN call hs n_base_Within args m = some r := by
  unfold F_base_Within at h
  split at h
  · rw [F_base_Within_eq]; exact h
  · cases h

/- swath/unwrap.CheckTurns -/
abbrev k_unwrap_CheckTurns (hs : FHs) (u : Nat) : FCtx := { f := n_unwrap_CheckTurns, u := u, nt := 29, hs := hs }
noncomputable abbrev r_unwrap_CheckTurns : Fs → Option (AV × Mem) := fxRes Try.prog [.tmp 4, .tmp 5]
noncomputable def c_unwrap_CheckTurns_0 : Code := nav (bodyOf n_unwrap_CheckTurns) []
theorem q_unwrap_CheckTurns_0 (call : FCall) (hs : FHs) (u : Nat) :
  fxK Try.prog pol NN call c_unwrap_CheckTurns_0 (AV × Mem) (k_unwrap_CheckTurns hs u) r_unwrap_CheckTurns eNil r_unwrap_CheckTurns = (fun s => B_unwrap_CheckTurns_0 call hs u (s.sl 0) (s.sl 1) s.m s.fc) := by
  kernel_rfl
theorem F_unwrap_CheckTurns_eq (call : FCall) (hs : FHs) (t0 t1 : AV) (m : Mem) : fxBody Try.prog pol NN call hs n_unwrap_CheckTurns [t0, t1] m = F_unwrap_CheckTurns call hs [t0, t1] m := by
  rw [fxBody_at (fn := Try.f39) (body := c_unwrap_CheckTurns_0) (nt := 29) (rs := [.tmp 4, .tmp 5]) (by kernel_rfl) (by kernel_rfl) (by kernel_rfl) (by kernel_rfl) (by kernel_rfl) (by kernel_rfl)]
  exact (congrFun (q_unwrap_CheckTurns_0 call hs m.next) _).trans (by kernel_rfl)
theorem F_unwrap_CheckTurns_le (call : FCall) (hs : FHs) (args : List AV) (m : Mem) (r : AV × Mem) (h : F_unwrap_CheckTurns call hs args m = some r) : fxBody Try.prog pol NN call hs n_unwrap_CheckTurns args m = some r := by
  unfold F_unwrap_CheckTurns at h
  split at h
  · rw [F_unwrap_CheckTurns_eq]; exact h
  · cases h

/- swath/swathbase.CopyInts -/
abbrev k_base_CopyInts (hs : FHs) (u : Nat) : FCtx := { f := n_base_CopyInts, u := u, nt := 6, hs := hs }
noncomputable abbrev r_base_CopyInts : Fs → Option (AV × Mem) := fxRes Try.prog [.tmp 2]
noncomputable def c_base_CopyInts_0 : Code := nav (bodyOf n_base_CopyInts) []
theorem q_base_CopyInts_0 (call : FCall) (hs : FHs) (u : Nat) :
  fxK Try.prog pol NN call c_base_CopyInts_0 (AV × Mem) (k_base_CopyInts hs u) r_base_CopyInts eNil r_base_CopyInts = (fun s => B_base_CopyInts_0 call hs u (s.sl 0) s.m s.fc) := by
  kernel_rfl
theorem F_base_CopyInts_eq (call : FCall) (hs : FHs) (t0 : AV) (m : Mem) : fxBody Try.prog pol NN call hs n_base_CopyInts [t0] m = F_base_CopyInts call hs [t0] m := by
  rw [fxBody_at (fn := Try.f40) (body := c_base_CopyInts_0) (nt := 6) (rs := [.tmp 2]) (by kernel_rfl) (by kernel_rfl) (by kernel_rfl) (by kernel_rfl) (by kernel_rfl) (by kernel_rfl)]
  exact (congrFun (q_base_CopyInts_0 call hs m.next) _).trans (by kernel_rfl)
theorem F_base_CopyInts_le (call : FCall) (hs : FHs) (args : List AV) (m : Mem) (r : AV × Mem) (h : F_base_CopyInts call hs args m = some r) : fxBody Try.prog pol NN call hs n_base_CopyInts args m = some r := by
  unfold F_base_CopyInts at h
  split at h
  · rw [F_base_CopyInts_eq]; exact h
  · cases h

/- swath/unwrap.Unwrap -/
abbrev k_unwrap_Unwrap (hs : FHs) (u : Nat) : FCtx := { f := n_unwrap_Unwrap, u := u, nt := 72, hs := hs }
noncomputable abbrev r_unwrap_Unwrap : Fs → Option (AV × Mem) := fxRes Try.prog [.cell 2 y_api_PhaseMap, .tmp 3, .tmp 4, .tmp 5]
noncomputable def c_unwrap_Unwrap_0 : Code := nav (bodyOf n_unwrap_Unwrap) []
noncomputable def c_unwrap_Unwrap_1 : Code := nav (bodyOf n_unwrap_Unwrap) [false]
noncomputable def c_unwrap_Unwrap_2 : Code := nav (bodyOf n_unwrap_Unwrap) [true]
noncomputable def c_unwrap_Unwrap_3 : Code := nav (bodyOf n_unwrap_Unwrap) [true, false]
noncomputable def c_unwrap_Unwrap_4 : Code := nav (bodyOf n_unwrap_Unwrap) [true, true]
noncomputable def c_unwrap_Unwrap_5 : Code := nav (bodyOf n_unwrap_Unwrap) [true, true, false]
noncomputable def c_unwrap_Unwrap_6 : Code := nav (bodyOf n_unwrap_Unwrap) [true, true, true]
noncomputable def c_unwrap_Unwrap_7 : Code := nav (bodyOf n_unwrap_Unwrap) [true, true, true, false]
noncomputable def c_unwrap_Unwrap_8 : Code := nav (bodyOf n_unwrap_Unwrap) [true, true, true, true]
noncomputable def c_unwrap_Unwrap_9 : Code := nav (bodyOf n_unwrap_Unwrap) [true, true, true, true, false]
noncomputable def c_unwrap_Unwrap_10 : Code := nav (bodyOf n_unwrap_Unwrap) [true, true, true, true, true]
noncomputable def c_unwrap_Unwrap_11 : Code := nav (bodyOf n_unwrap_Unwrap) [true, true, true, true, true, false]
noncomputable def c_unwrap_Unwrap_12 : Code := nav (bodyOf n_unwrap_Unwrap) [true, true, true, true, true, true]
noncomputable def c_unwrap_Unwrap_13 : Code := nav (bodyOf n_unwrap_Unwrap) [true, true, true, true, true, false, false]
noncomputable def c_unwrap_Unwrap_14 : Code := nav (bodyOf n_unwrap_Unwrap) [true, true, true, true, true, false, true]
noncomputable def c_unwrap_Unwrap_15 : Code := nav (bodyOf n_unwrap_Unwrap) [true, true, true, true, true, false, true, false]
noncomputable def c_unwrap_Unwrap_16 : Code := nav (bodyOf n_unwrap_Unwrap) [true, true, true, true, true, false, true, false, false]
noncomputable def c_unwrap_Unwrap_17 : Code := nav (bodyOf n_unwrap_Unwrap) [true, true, true, true, true, false, true, false, false, false]
noncomputable def c_unwrap_Unwrap_18 : Code := nav (bodyOf n_unwrap_Unwrap) [true, true, true, true, true, false, true, false, false, true]
noncomputable def c_unwrap_Unwrap_19 : Code := nav (bodyOf n_unwrap_Unwrap) [true, true, true, true, true, false, true, false, false, true, false]
noncomputable def c_unwrap_Unwrap_20 : Code := nav (bodyOf n_unwrap_Unwrap) [true, true, true, true, true, false, true, false, false, true, true]
noncomputable def c_unwrap_Unwrap_21 : Code := nav (bodyOf n_unwrap_Unwrap) [true, true, true, true, true, false, true, false, false, true, true, false]
noncomputable def c_unwrap_Unwrap_22 : Code := nav (bodyOf n_unwrap_Unwrap) [true, true, true, true, true, false, true, false, false, true, true, true]
theorem q_unwrap_Unwrap_12 (call : FCall) (hs : FHs) (u : Nat) :
  fxK Try.prog pol NN call c_unwrap_Unwrap_12 (AV × Mem) (k_unwrap_Unwrap hs u) r_unwrap_Unwrap eNil r_unwrap_Unwrap = (fun s => B_unwrap_Unwrap_0 call hs u (s.sl 2) (s.sl 7) (s.sl 8) (s.sl 9) s.m s.fc) := by
  kernel_rfl
theorem q_unwrap_Unwrap_22 (call : FCall) (hs : FHs) (u : Nat) (rec0 : AV → AV → AV → AV → AV → AV → AV → Mem → Nat → Option (AV × Mem)) :
  fxK Try.prog pol NN call c_unwrap_Unwrap_22 (AV × Mem) (k_unwrap_Unwrap hs u) (fun s => rec0 (s.sl 2) (s.sl 7) (s.sl 8) (s.sl 9) (s.sl 37) (s.sl 38) (s.sl 39) s.m s.fc) (setE 0 (fun s => B_unwrap_Unwrap_0 call hs u (s.sl 2) (s.sl 7) (s.sl 8) (s.sl 9) s.m s.fc) eNil) r_unwrap_Unwrap = (fun s => B_unwrap_Unwrap_1 call hs u rec0 (s.sl 2) (s.sl 7) (s.sl 8) (s.sl 9) (s.sl 37) (s.sl 38) (s.sl 39) s.m s.fc) := by
  kernel_rfl
theorem q_unwrap_Unwrap_21 (call : FCall) (hs : FHs) (u : Nat) (rec0 : AV → AV → AV → AV → AV → AV → AV → Mem → Nat → Option (AV × Mem)) :
  fxK Try.prog pol NN call c_unwrap_Unwrap_21 (AV × Mem) (k_unwrap_Unwrap hs u) (fun s => B_unwrap_Unwrap_1 call hs u rec0 (s.sl 2) (s.sl 7) (s.sl 8) (s.sl 9) (s.sl 37) (s.sl 38) (s.sl 39) s.m s.fc) (setE 0 (fun s => B_unwrap_Unwrap_0 call hs u (s.sl 2) (s.sl 7) (s.sl 8) (s.sl 9) s.m s.fc) eNil) r_unwrap_Unwrap = (fun s => B_unwrap_Unwrap_2 call hs u rec0 (s.sl 2) (s.sl 7) (s.sl 8) (s.sl 9) (s.sl 37) (s.sl 38) (s.sl 39) s.m s.fc) := by
  kernel_rfl
theorem q_unwrap_Unwrap_20 (call : FCall) (hs : FHs) (u : Nat) (rec0 : AV → AV → AV → AV → AV → AV → AV → Mem → Nat → Option (AV × Mem)) :
  fxK Try.prog pol NN call c_unwrap_Unwrap_20 (AV × Mem) (k_unwrap_Unwrap hs u) (fun s => rec0 (s.sl 2) (s.sl 7) (s.sl 8) (s.sl 9) (s.sl 37) (s.sl 38) (s.sl 39) s.m s.fc) (setE 0 (fun s => B_unwrap_Unwrap_0 call hs u (s.sl 2) (s.sl 7) (s.sl 8) (s.sl 9) s.m s.fc) eNil) r_unwrap_Unwrap = (fun s => B_unwrap_Unwrap_2 call hs u rec0 (s.sl 2) (s.sl 7) (s.sl 8) (s.sl 9) (s.sl 37) (s.sl 38) (s.sl 39) s.m s.fc) := by
  rw [show c_unwrap_Unwrap_20 = .seq c_unwrap_Unwrap_21 c_unwrap_Unwrap_22 from by kernel_rfl, seq_r, q_unwrap_Unwrap_22 call hs u rec0, q_unwrap_Unwrap_21 call hs u rec0]
theorem q_unwrap_Unwrap_16 (call : FCall) (hs : FHs) (u : Nat) (rec0 : AV → AV → AV → AV → AV → AV → AV → Mem → Nat → Option (AV × Mem)) :
  fxK Try.prog pol NN call c_unwrap_Unwrap_16 (AV × Mem) (k_unwrap_Unwrap hs u) (fun s => rec0 (s.sl 2) (s.sl 7) (s.sl 8) (s.sl 9) (s.sl 37) (s.sl 38) (s.sl 39) s.m s.fc) (setE 0 (fun s => B_unwrap_Unwrap_0 call hs u (s.sl 2) (s.sl 7) (s.sl 8) (s.sl 9) s.m s.fc) eNil) r_unwrap_Unwrap = (fun s => B_unwrap_Unwrap_3 call hs u rec0 (s.sl 2) (s.sl 7) (s.sl 8) (s.sl 9) (s.sl 37) (s.sl 38) (s.sl 39) s.m s.fc) := by
  rw [show c_unwrap_Unwrap_16 = .seq c_unwrap_Unwrap_17 c_unwrap_Unwrap_18 from by kernel_rfl, seq_r]; rw [show c_unwrap_Unwrap_18 = .seq c_unwrap_Unwrap_19 c_unwrap_Unwrap_20 from by kernel_rfl, seq_r]; rw [q_unwrap_Unwrap_20 call hs u rec0]; kernel_rfl
theorem q_L_unwrap_Unwrap_0 (call : FCall) (hs : FHs) (u : Nat) : ∀ n : Nat,
  iter (fun rec => fxK Try.prog pol NN call c_unwrap_Unwrap_16 (AV × Mem) (k_unwrap_Unwrap hs u) rec (setE 0 (fun s => B_unwrap_Unwrap_0 call hs u (s.sl 2) (s.sl 7) (s.sl 8) (s.sl 9) s.m s.fc) eNil) r_unwrap_Unwrap) n = (fun s => L_unwrap_Unwrap_0 call hs u n (s.sl 2) (s.sl 7) (s.sl 8) (s.sl 9) (s.sl 37) (s.sl 38) (s.sl 39) s.m s.fc)
  | 0 => rfl
  | n + 1 => by rw [iter_succ, q_L_unwrap_Unwrap_0 call hs u n, q_unwrap_Unwrap_16 call hs u (L_unwrap_Unwrap_0 call hs u n)]; kernel_rfl
theorem q_unwrap_Unwrap_15 (call : FCall) (hs : FHs) (u : Nat) :
  fxK Try.prog pol NN call c_unwrap_Unwrap_15 (AV × Mem) (k_unwrap_Unwrap hs u) (fun s => B_unwrap_Unwrap_0 call hs u (s.sl 2) (s.sl 7) (s.sl 8) (s.sl 9) s.m s.fc) (setE 0 (fun s => B_unwrap_Unwrap_0 call hs u (s.sl 2) (s.sl 7) (s.sl 8) (s.sl 9) s.m s.fc) eNil) r_unwrap_Unwrap = (fun s => L_unwrap_Unwrap_0 call hs u NN (s.sl 2) (s.sl 7) (s.sl 8) (s.sl 9) (s.sl 37) (s.sl 38) (s.sl 39) s.m s.fc) := by
  rw [show c_unwrap_Unwrap_15 = .loop c_unwrap_Unwrap_16 from by kernel_rfl, loop_r, q_L_unwrap_Unwrap_0 call hs u NN]
theorem q_unwrap_Unwrap_14 (call : FCall) (hs : FHs) (u : Nat) :
  fxK Try.prog pol NN call c_unwrap_Unwrap_14 (AV × Mem) (k_unwrap_Unwrap hs u) (fun s => B_unwrap_Unwrap_0 call hs u (s.sl 2) (s.sl 7) (s.sl 8) (s.sl 9) s.m s.fc) eNil r_unwrap_Unwrap = (fun s => L_unwrap_Unwrap_0 call hs u NN (s.sl 2) (s.sl 7) (s.sl 8) (s.sl 9) (s.sl 37) (s.sl 38) (s.sl 39) s.m s.fc) := by
  rw [show c_unwrap_Unwrap_14 = .block 0 c_unwrap_Unwrap_15 from by kernel_rfl, block_r, q_unwrap_Unwrap_15 call hs u]
theorem q_unwrap_Unwrap_11 (call : FCall) (hs : FHs) (u : Nat) :
  fxK Try.prog pol NN call c_unwrap_Unwrap_11 (AV × Mem) (k_unwrap_Unwrap hs u) (fun s => B_unwrap_Unwrap_0 call hs u (s.sl 2) (s.sl 7) (s.sl 8) (s.sl 9) s.m s.fc) eNil r_unwrap_Unwrap = (fun s => B_unwrap_Unwrap_4 call hs u (s.sl 2) (s.sl 7) (s.sl 8) (s.sl 9) s.m s.fc) := by
  rw [show c_unwrap_Unwrap_11 = .seq c_unwrap_Unwrap_13 c_unwrap_Unwrap_14 from by kernel_rfl, seq_r]; rw [q_unwrap_Unwrap_14 call hs u]; kernel_rfl
theorem q_unwrap_Unwrap_10 (call : FCall) (hs : FHs) (u : Nat) :
  fxK Try.prog pol NN call c_unwrap_Unwrap_10 (AV × Mem) (k_unwrap_Unwrap hs u) r_unwrap_Unwrap eNil r_unwrap_Unwrap = (fun s => B_unwrap_Unwrap_4 call hs u (s.sl 2) (s.sl 7) (s.sl 8) (s.sl 9) s.m s.fc) := by
  rw [show c_unwrap_Unwrap_10 = .seq c_unwrap_Unwrap_11 c_unwrap_Unwrap_12 from by kernel_rfl, seq_r, q_unwrap_Unwrap_12 call hs u, q_unwrap_Unwrap_11 call hs u]
theorem q_unwrap_Unwrap_0 (call : FCall) (hs : FHs) (u : Nat) :
  fxK Try.prog pol NN call c_unwrap_Unwrap_0 (AV × Mem) (k_unwrap_Unwrap hs u) r_unwrap_Unwrap eNil r_unwrap_Unwrap = (fun s => B_unwrap_Unwrap_5 call hs u (s.sl 0) s.m s.fc) := by
  rw [show c_unwrap_Unwrap_0 = .seq c_unwrap_Unwrap_1 c_unwrap_Unwrap_2 from by kernel_rfl, seq_r]; rw [show c_unwrap_Unwrap_2 = .seq c_unwrap_Unwrap_3 c_unwrap_Unwrap_4 from by kernel_rfl, seq_r]; rw [show c_unwrap_Unwrap_4 = .seq c_unwrap_Unwrap_5 c_unwrap_Unwrap_6 from by kernel_rfl, seq_r]; rw [show c_unwrap_Unwrap_6 = .seq c_unwrap_Unwrap_7 c_unwrap_Unwrap_8 from by kernel_rfl, seq_r]; rw [show c_unwrap_Unwrap_8 = .seq c_unwrap_Unwrap_9 c_unwrap_Unwrap_10 from by kernel_rfl, seq_r]; rw [q_unwrap_Unwrap_10 call hs u]; kernel_rfl
theorem F_unwrap_Unwrap_eq (call : FCall) (hs : FHs) (t0 : AV) (m : Mem) : fxBody Try.prog pol NN call hs n_unwrap_Unwrap [t0] m = F_unwrap_Unwrap call hs [t0] m := by
  rw [fxBody_at (fn := Try.f42) (body := c_unwrap_Unwrap_0) (nt := 72) (rs := [.cell 2 y_api_PhaseMap, .tmp 3, .tmp 4, .tmp 5]) (by kernel_rfl) (by kernel_rfl) (by kernel_rfl) (by kernel_rfl) (by kernel_rfl) (by kernel_rfl)]
  exact (congrFun (q_unwrap_Unwrap_0 call hs m.next) _).trans (by kernel_rfl)
theorem F_unwrap_Unwrap_le (call : FCall) (hs : FHs) (args : List AV) (m : Mem) (r : AV × Mem) (h : F_unwrap_Unwrap call hs args m = some r) : fxBody Try.prog pol NN call hs n_unwrap_Unwrap args m = some r := by
  unfold F_unwrap_Unwrap at h
  split at h
  · rw [F_unwrap_Unwrap_eq]; exact h
  · cases h

/- swath/unwrap.Along -/
abbrev k_unwrap_Along (hs : FHs) (u : Nat) : FCtx := { f := n_unwrap_Along, u := u, nt := 101, hs := hs }
noncomputable abbrev r_unwrap_Along : Fs → Option (AV × Mem) := fxRes Try.prog [.tmp 4, .tmp 5]
noncomputable def c_unwrap_Along_0 : Code := nav (bodyOf n_unwrap_Along) []
noncomputable def c_unwrap_Along_1 : Code := nav (bodyOf n_unwrap_Along) [false]
noncomputable def c_unwrap_Along_2 : Code := nav (bodyOf n_unwrap_Along) [true]
noncomputable def c_unwrap_Along_3 : Code := nav (bodyOf n_unwrap_Along) [true, false]
noncomputable def c_unwrap_Along_4 : Code := nav (bodyOf n_unwrap_Along) [true, true]
noncomputable def c_unwrap_Along_5 : Code := nav (bodyOf n_unwrap_Along) [true, true, false]
noncomputable def c_unwrap_Along_6 : Code := nav (bodyOf n_unwrap_Along) [true, true, true]
noncomputable def c_unwrap_Along_7 : Code := nav (bodyOf n_unwrap_Along) [true, true, true, false]
noncomputable def c_unwrap_Along_8 : Code := nav (bodyOf n_unwrap_Along) [true, true, true, true]
noncomputable def c_unwrap_Along_9 : Code := nav (bodyOf n_unwrap_Along) [true, true, true, true, false]
noncomputable def c_unwrap_Along_10 : Code := nav (bodyOf n_unwrap_Along) [true, true, true, true, true]
noncomputable def c_unwrap_Along_11 : Code := nav (bodyOf n_unwrap_Along) [true, true, true, true, false, false]
noncomputable def c_unwrap_Along_12 : Code := nav (bodyOf n_unwrap_Along) [true, true, true, true, false, true]
noncomputable def c_unwrap_Along_13 : Code := nav (bodyOf n_unwrap_Along) [true, true, true, true, false, true, false]
noncomputable def c_unwrap_Along_14 : Code := nav (bodyOf n_unwrap_Along) [true, true, true, true, false, true, false, false]
noncomputable def c_unwrap_Along_15 : Code := nav (bodyOf n_unwrap_Along) [true, true, true, true, false, true, false, false, false]
noncomputable def c_unwrap_Along_16 : Code := nav (bodyOf n_unwrap_Along) [true, true, true, true, false, true, false, false, true]
noncomputable def c_unwrap_Along_17 : Code := nav (bodyOf n_unwrap_Along) [true, true, true, true, false, true, false, false, true, false]
noncomputable def c_unwrap_Along_18 : Code := nav (bodyOf n_unwrap_Along) [true, true, true, true, false, true, false, false, true, true]
noncomputable def c_unwrap_Along_19 : Code := nav (bodyOf n_unwrap_Along) [true, true, true, true, false, true, false, false, true, true, false]
noncomputable def c_unwrap_Along_20 : Code := nav (bodyOf n_unwrap_Along) [true, true, true, true, false, true, false, false, true, true, true]
noncomputable def c_unwrap_Along_21 : Code := nav (bodyOf n_unwrap_Along) [true, true, true, true, false, true, false, false, true, true, false, false]
noncomputable def c_unwrap_Along_22 : Code := nav (bodyOf n_unwrap_Along) [true, true, true, true, false, true, false, false, true, true, false, false, false]
noncomputable def c_unwrap_Along_23 : Code := nav (bodyOf n_unwrap_Along) [true, true, true, true, false, true, false, false, true, true, false, false, true]
noncomputable def c_unwrap_Along_24 : Code := nav (bodyOf n_unwrap_Along) [true, true, true, true, false, true, false, false, true, true, false, false, true, false]
noncomputable def c_unwrap_Along_25 : Code := nav (bodyOf n_unwrap_Along) [true, true, true, true, false, true, false, false, true, true, false, false, true, true]
noncomputable def c_unwrap_Along_26 : Code := nav (bodyOf n_unwrap_Along) [true, true, true, true, false, true, false, false, true, true, false, false, true, true, false]
noncomputable def c_unwrap_Along_27 : Code := nav (bodyOf n_unwrap_Along) [true, true, true, true, false, true, false, false, true, true, false, false, true, true, true]
noncomputable def c_unwrap_Along_28 : Code := nav (bodyOf n_unwrap_Along) [true, true, true, true, false, true, false, false, true, true, false, false, true, true, true, false]
noncomputable def c_unwrap_Along_29 : Code := nav (bodyOf n_unwrap_Along) [true, true, true, true, false, true, false, false, true, true, false, false, true, true, true, true]
theorem q_unwrap_Along_10 (call : FCall) (hs : FHs) (u : Nat) :
  fxK Try.prog pol NN call c_unwrap_Along_10 (AV × Mem) (k_unwrap_Along hs u) r_unwrap_Along eNil r_unwrap_Along = (fun s => B_unwrap_Along_0 call hs u (s.sl 7) s.m s.fc) := by
  kernel_rfl
theorem q_unwrap_Along_20 (call : FCall) (hs : FHs) (u : Nat) (rec0 : AV → AV → AV → AV → AV → AV → Mem → Nat → Option (AV × Mem)) :
  fxK Try.prog pol NN call c_unwrap_Along_20 (AV × Mem) (k_unwrap_Along hs u) (fun s => rec0 (s.sl 1) (s.sl 2) (s.sl 7) (s.sl 21) (s.sl 22) (s.sl 23) s.m s.fc) (setE 0 (fun s => B_unwrap_Along_0 call hs u (s.sl 7) s.m s.fc) eNil) r_unwrap_Along = (fun s => B_unwrap_Along_1 call hs u rec0 (s.sl 1) (s.sl 2) (s.sl 7) (s.sl 21) (s.sl 22) (s.sl 23) s.m s.fc) := by
  kernel_rfl
theorem q_unwrap_Along_29 (call : FCall) (hs : FHs) (u : Nat) (rec0 : AV → AV → AV → AV → AV → AV → Mem → Nat → Option (AV × Mem)) :
  fxK Try.prog pol NN call c_unwrap_Along_29 (AV × Mem) (k_unwrap_Along hs u) (fun s => B_unwrap_Along_1 call hs u rec0 (s.sl 1) (s.sl 2) (s.sl 7) (s.sl 21) (s.sl 22) (s.sl 23) s.m s.fc) (setE 1 (fun s => B_unwrap_Along_1 call hs u rec0 (s.sl 1) (s.sl 2) (s.sl 7) (s.sl 21) (s.sl 22) (s.sl 23) s.m s.fc) (setE 0 (fun s => B_unwrap_Along_0 call hs u (s.sl 7) s.m s.fc) eNil)) r_unwrap_Along = (fun s => B_unwrap_Along_2 call hs u rec0 (s.sl 1) (s.sl 2) (s.sl 7) (s.sl 8) (s.sl 10) (s.sl 11) (s.sl 12) (s.sl 21) (s.sl 22) (s.sl 23) s.m s.fc) := by
  kernel_rfl
theorem q_unwrap_Along_28 (call : FCall) (hs : FHs) (u : Nat) (rec0 : AV → AV → AV → AV → AV → AV → Mem → Nat → Option (AV × Mem)) :
  fxK Try.prog pol NN call c_unwrap_Along_28 (AV × Mem) (k_unwrap_Along hs u) (fun s => B_unwrap_Along_2 call hs u rec0 (s.sl 1) (s.sl 2) (s.sl 7) (s.sl 8) (s.sl 10) (s.sl 11) (s.sl 12) (s.sl 21) (s.sl 22) (s.sl 23) s.m s.fc) (setE 1 (fun s => B_unwrap_Along_1 call hs u rec0 (s.sl 1) (s.sl 2) (s.sl 7) (s.sl 21) (s.sl 22) (s.sl 23) s.m s.fc) (setE 0 (fun s => B_unwrap_Along_0 call hs u (s.sl 7) s.m s.fc) eNil)) r_unwrap_Along = (fun s => B_unwrap_Along_3 call hs u rec0 (s.sl 1) (s.sl 2) (s.sl 7) (s.sl 8) (s.sl 10) (s.sl 11) (s.sl 12) (s.sl 21) (s.sl 22) (s.sl 23) s.m s.fc) := by
  kernel_rfl
theorem q_unwrap_Along_27 (call : FCall) (hs : FHs) (u : Nat) (rec0 : AV → AV → AV → AV → AV → AV → Mem → Nat → Option (AV × Mem)) :
  fxK Try.prog pol NN call c_unwrap_Along_27 (AV × Mem) (k_unwrap_Along hs u) (fun s => B_unwrap_Along_1 call hs u rec0 (s.sl 1) (s.sl 2) (s.sl 7) (s.sl 21) (s.sl 22) (s.sl 23) s.m s.fc) (setE 1 (fun s => B_unwrap_Along_1 call hs u rec0 (s.sl 1) (s.sl 2) (s.sl 7) (s.sl 21) (s.sl 22) (s.sl 23) s.m s.fc) (setE 0 (fun s => B_unwrap_Along_0 call hs u (s.sl 7) s.m s.fc) eNil)) r_unwrap_Along = (fun s => B_unwrap_Along_3 call hs u rec0 (s.sl 1) (s.sl 2) (s.sl 7) (s.sl 8) (s.sl 10) (s.sl 11) (s.sl 12) (s.sl 21) (s.sl 22) (s.sl 23) s.m s.fc) := by
  rw [show c_unwrap_Along_27 = .seq c_unwrap_Along_28 c_unwrap_Along_29 from by kernel_rfl, seq_r, q_unwrap_Along_29 call hs u rec0, q_unwrap_Along_28 call hs u rec0]
theorem q_unwrap_Along_21 (call : FCall) (hs : FHs) (u : Nat) (rec0 : AV → AV → AV → AV → AV → AV → Mem → Nat → Option (AV × Mem)) :
  fxK Try.prog pol NN call c_unwrap_Along_21 (AV × Mem) (k_unwrap_Along hs u) (fun s => B_unwrap_Along_1 call hs u rec0 (s.sl 1) (s.sl 2) (s.sl 7) (s.sl 21) (s.sl 22) (s.sl 23) s.m s.fc) (setE 1 (fun s => B_unwrap_Along_1 call hs u rec0 (s.sl 1) (s.sl 2) (s.sl 7) (s.sl 21) (s.sl 22) (s.sl 23) s.m s.fc) (setE 0 (fun s => B_unwrap_Along_0 call hs u (s.sl 7) s.m s.fc) eNil)) r_unwrap_Along = (fun s => B_unwrap_Along_4 call hs u rec0 (s.sl 1) (s.sl 2) (s.sl 7) (s.sl 21) (s.sl 22) (s.sl 23) s.m s.fc) := by
  rw [show c_unwrap_Along_21 = .seq c_unwrap_Along_22 c_unwrap_Along_23 from by kernel_rfl, seq_r]; rw [show c_unwrap_Along_23 = .seq c_unwrap_Along_24 c_unwrap_Along_25 from by kernel_rfl, seq_r]; rw [show c_unwrap_Along_25 = .seq c_unwrap_Along_26 c_unwrap_Along_27 from by kernel_rfl, seq_r]; rw [q_unwrap_Along_27 call hs u rec0]; kernel_rfl
theorem q_unwrap_Along_19 (call : FCall) (hs : FHs) (u : Nat) (rec0 : AV → AV → AV → AV → AV → AV → Mem → Nat → Option (AV × Mem)) :
  fxK Try.prog pol NN call c_unwrap_Along_19 (AV × Mem) (k_unwrap_Along hs u) (fun s => B_unwrap_Along_1 call hs u rec0 (s.sl 1) (s.sl 2) (s.sl 7) (s.sl 21) (s.sl 22) (s.sl 23) s.m s.fc) (setE 0 (fun s => B_unwrap_Along_0 call hs u (s.sl 7) s.m s.fc) eNil) r_unwrap_Along = (fun s => B_unwrap_Along_4 call hs u rec0 (s.sl 1) (s.sl 2) (s.sl 7) (s.sl 21) (s.sl 22) (s.sl 23) s.m s.fc) := by
  rw [show c_unwrap_Along_19 = .block 1 c_unwrap_Along_21 from by kernel_rfl, block_r, q_unwrap_Along_21 call hs u rec0]
theorem q_unwrap_Along_18 (call : FCall) (hs : FHs) (u : Nat) (rec0 : AV → AV → AV → AV → AV → AV → Mem → Nat → Option (AV × Mem)) :
  fxK Try.prog pol NN call c_unwrap_Along_18 (AV × Mem) (k_unwrap_Along hs u) (fun s => rec0 (s.sl 1) (s.sl 2) (s.sl 7) (s.sl 21) (s.sl 22) (s.sl 23) s.m s.fc) (setE 0 (fun s => B_unwrap_Along_0 call hs u (s.sl 7) s.m s.fc) eNil) r_unwrap_Along = (fun s => B_unwrap_Along_4 call hs u rec0 (s.sl 1) (s.sl 2) (s.sl 7) (s.sl 21) (s.sl 22) (s.sl 23) s.m s.fc) := by
  rw [show c_unwrap_Along_18 = .seq c_unwrap_Along_19 c_unwrap_Along_20 from by kernel_rfl, seq_r, q_unwrap_Along_20 call hs u rec0, q_unwrap_Along_19 call hs u rec0]
theorem q_unwrap_Along_14 (call : FCall) (hs : FHs) (u : Nat) (rec0 : AV → AV → AV → AV → AV → AV → Mem → Nat → Option (AV × Mem)) :
  fxK Try.prog pol NN call c_unwrap_Along_14 (AV × Mem) (k_unwrap_Along hs u) (fun s => rec0 (s.sl 1) (s.sl 2) (s.sl 7) (s.sl 21) (s.sl 22) (s.sl 23) s.m s.fc) (setE 0 (fun s => B_unwrap_Along_0 call hs u (s.sl 7) s.m s.fc) eNil) r_unwrap_Along = (fun s => B_unwrap_Along_5 call hs u rec0 (s.sl 1) (s.sl 2) (s.sl 7) (s.sl 21) (s.sl 22) (s.sl 23) s.m s.fc) := by
  rw [show c_unwrap_Along_14 = .seq c_unwrap_Along_15 c_unwrap_Along_16 from by kernel_rfl, seq_r]; rw [show c_unwrap_Along_16 = .seq c_unwrap_Along_17 c_unwrap_Along_18 from by kernel_rfl, seq_r]; rw [q_unwrap_Along_18 call hs u rec0]; kernel_rfl
theorem q_L_unwrap_Along_0 (call : FCall) (hs : FHs) (u : Nat) : ∀ n : Nat,
  iter (fun rec => fxK Try.prog pol NN call c_unwrap_Along_14 (AV × Mem) (k_unwrap_Along hs u) rec (setE 0 (fun s => B_unwrap_Along_0 call hs u (s.sl 7) s.m s.fc) eNil) r_unwrap_Along) n = (fun s => L_unwrap_Along_0 call hs u n (s.sl 1) (s.sl 2) (s.sl 7) (s.sl 21) (s.sl 22) (s.sl 23) s.m s.fc)
  | 0 => rfl
  | n + 1 => by rw [iter_succ, q_L_unwrap_Along_0 call hs u n, q_unwrap_Along_14 call hs u (L_unwrap_Along_0 call hs u n)]; kernel_rfl
theorem q_unwrap_Along_13 (call : FCall) (hs : FHs) (u : Nat) :
  fxK Try.prog pol NN call c_unwrap_Along_13 (AV × Mem) (k_unwrap_Along hs u) (fun s => B_unwrap_Along_0 call hs u (s.sl 7) s.m s.fc) (setE 0 (fun s => B_unwrap_Along_0 call hs u (s.sl 7) s.m s.fc) eNil) r_unwrap_Along = (fun s => L_unwrap_Along_0 call hs u NN (s.sl 1) (s.sl 2) (s.sl 7) (s.sl 21) (s.sl 22) (s.sl 23) s.m s.fc) := by
  rw [show c_unwrap_Along_13 = .loop c_unwrap_Along_14 from by kernel_rfl, loop_r, q_L_unwrap_Along_0 call hs u NN]
theorem q_unwrap_Along_12 (call : FCall) (hs : FHs) (u : Nat) :
  fxK Try.prog pol NN call c_unwrap_Along_12 (AV × Mem) (k_unwrap_Along hs u) (fun s => B_unwrap_Along_0 call hs u (s.sl 7) s.m s.fc) eNil r_unwrap_Along = (fun s => L_unwrap_Along_0 call hs u NN (s.sl 1) (s.sl 2) (s.sl 7) (s.sl 21) (s.sl 22) (s.sl 23) s.m s.fc) := by
  rw [show c_unwrap_Along_12 = .block 0 c_unwrap_Along_13 from by kernel_rfl, block_r, q_unwrap_Along_13 call hs u]
theorem q_unwrap_Along_9 (call : FCall) (hs : FHs) (u : Nat) :
  fxK Try.prog pol NN call c_unwrap_Along_9 (AV × Mem) (k_unwrap_Along hs u) (fun s => B_unwrap_Along_0 call hs u (s.sl 7) s.m s.fc) eNil r_unwrap_Along = (fun s => B_unwrap_Along_6 call hs u (s.sl 1) (s.sl 2) (s.sl 7) s.m s.fc) := by
  rw [show c_unwrap_Along_9 = .seq c_unwrap_Along_11 c_unwrap_Along_12 from by kernel_rfl, seq_r]; rw [q_unwrap_Along_12 call hs u]; kernel_rfl
theorem q_unwrap_Along_8 (call : FCall) (hs : FHs) (u : Nat) :
  fxK Try.prog pol NN call c_unwrap_Along_8 (AV × Mem) (k_unwrap_Along hs u) r_unwrap_Along eNil r_unwrap_Along = (fun s => B_unwrap_Along_6 call hs u (s.sl 1) (s.sl 2) (s.sl 7) s.m s.fc) := by
  rw [show c_unwrap_Along_8 = .seq c_unwrap_Along_9 c_unwrap_Along_10 from by kernel_rfl, seq_r, q_unwrap_Along_10 call hs u, q_unwrap_Along_9 call hs u]
theorem q_unwrap_Along_0 (call : FCall) (hs : FHs) (u : Nat) :
  fxK Try.prog pol NN call c_unwrap_Along_0 (AV × Mem) (k_unwrap_Along hs u) r_unwrap_Along eNil r_unwrap_Along = (fun s => B_unwrap_Along_7 call hs u (s.sl 0) (s.sl 1) s.m s.fc) := by
  rw [show c_unwrap_Along_0 = .seq c_unwrap_Along_1 c_unwrap_Along_2 from by kernel_rfl, seq_r]; rw [show c_unwrap_Along_2 = .seq c_unwrap_Along_3 c_unwrap_Along_4 from by kernel_rfl, seq_r]; rw [show c_unwrap_Along_4 = .seq c_unwrap_Along_5 c_unwrap_Along_6 from by kernel_rfl, seq_r]; rw [show c_unwrap_Along_6 = .seq c_unwrap_Along_7 c_unwrap_Along_8 from by kernel_rfl, seq_r]; rw [q_unwrap_Along_8 call hs u]; kernel_rfl
theorem F_unwrap_Along_eq (call : FCall) (hs : FHs) (t0 t1 : AV) (m : Mem) : fxBody Try.prog pol NN call hs n_unwrap_Along [t0, t1] m = F_unwrap_Along call hs [t0, t1] m := by
  rw [fxBody_at (fn := Try.f47) (body := c_unwrap_Along_0) (nt := 101) (rs := [.tmp 4, .tmp 5]) (by kernel_rfl) (by kernel_rfl) (by kernel_rfl) (by kernel_rfl) (by kernel_rfl) (by kernel_rfl)]
  exact (congrFun (q_unwrap_Along_0 call hs m.next) _).trans (by kernel_rfl)
theorem F_unwrap_Along_le (call : FCall) (hs : FHs) (args : List AV) (m : Mem) (r : AV × Mem) (h : F_unwrap_Along call hs args m = some r) : fxBody Try.prog pol NN call hs n_unwrap_Along args m = some r := by
  unfold F_unwrap_Along at h
  split at h
  · rw [F_unwrap_Along_eq]; exact h
  · cases h

/- swath/swathref05.CopyMap -/
abbrev k_ref05_CopyMap (hs : FHs) (u : Nat) : FCtx := { f := n_ref05_CopyMap, u := u, nt := 11, hs := hs }
noncomputable abbrev r_ref05_CopyMap : Fs → Option (AV × Mem) := fxRes Try.prog [.cell 2 y_api_PhaseMap]
noncomputable def c_ref05_CopyMap_0 : Code := nav (bodyOf n_ref05_CopyMap) []
theorem q_ref05_CopyMap_0 (call : FCall) (hs : FHs) (u : Nat) :
  fxK Try.prog pol NN call c_ref05_CopyMap_0 (AV × Mem) (k_ref05_CopyMap hs u) r_ref05_CopyMap eNil r_ref05_CopyMap = (fun s => B_ref05_CopyMap_0 call hs u (s.sl 0) s.m s.fc) := by
  kernel_rfl
theorem F_ref05_CopyMap_eq (call : FCall) (hs : FHs) (t0 : AV) (m : Mem) : fxBody Try.prog pol NN call hs n_ref05_CopyMap [t0] m = F_ref05_CopyMap call hs [t0] m := by
  rw [fxBody_at (fn := Try.f48) (body := c_ref05_CopyMap_0) (nt := 11) (rs := [.cell 2 y_api_PhaseMap]) (by kernel_rfl) (by kernel_rfl) (by kernel_rfl) (by kernel_rfl) (by kernel_rfl) (by kernel_rfl)]
  exact (congrFun (q_ref05_CopyMap_0 call hs m.next) _).trans (by kernel_rfl)
theorem F_ref05_CopyMap_le (call : FCall) (hs : FHs) (args : List AV) (m : Mem) (r : AV × Mem) (h : F_ref05_CopyMap call hs args m = some r) : fxBody Try.prog pol NN call hs n_ref05_CopyMap args m = some r := by
  unfold F_ref05_CopyMap at h
  split at h
  · rw [F_ref05_CopyMap_eq]; exact h
  · cases h

/- swath/swathref05.WrappedErr -/
abbrev k_ref05_WrappedErr (hs : FHs) (u : Nat) : FCtx := { f := n_ref05_WrappedErr, u := u, nt := 18, hs := hs }
noncomputable abbrev r_ref05_WrappedErr : Fs → Option (AV × Mem) := fxRes Try.prog [.tmp 2]
noncomputable def c_ref05_WrappedErr_0 : Code := nav (bodyOf n_ref05_WrappedErr) []
theorem q_ref05_WrappedErr_0 (call : FCall) (hs : FHs) (u : Nat) :
  fxK Try.prog pol NN call c_ref05_WrappedErr_0 (AV × Mem) (k_ref05_WrappedErr hs u) r_ref05_WrappedErr eNil r_ref05_WrappedErr = (fun s => B_ref05_WrappedErr_0 call hs u (s.sl 0) s.m s.fc) := by
  kernel_rfl
theorem F_ref05_WrappedErr_eq (call : FCall) (hs : FHs) (t0 : AV) (m : Mem) : fxBody Try.prog pol NN call hs n_ref05_WrappedErr [t0] m = F_ref05_WrappedErr call hs [t0] m := by
  rw [fxBody_at (fn := Try.f49) (body := c_ref05_WrappedErr_0) (nt := 18) (rs := [.tmp 2]) (by kernel_rfl) (by kernel_rfl) (by kernel_rfl) (by kernel_rfl) (by kernel_rfl) (by kernel_rfl)]
  exact (congrFun (q_ref05_WrappedErr_0 call hs m.next) _).trans (by kernel_rfl)
theorem F_ref05_WrappedErr_le (call : FCall) (hs : FHs) (args : List AV) (m : Mem) (r : AV × Mem) (h : F_ref05_WrappedErr call hs args m = some r) : fxBody Try.prog pol NN call hs n_ref05_WrappedErr args m = some r := by
  unfold F_ref05_WrappedErr at h
  split at h
  · rw [F_ref05_WrappedErr_eq]; exact h
  · cases h

/- swath/swathref05.Along -/
abbrev k_ref05_Along (hs : FHs) (u : Nat) : FCtx := { f := n_ref05_Along, u := u, nt := 77, hs := hs }
noncomputable abbrev r_ref05_Along : Fs → Option (AV × Mem) := fxRes Try.prog [.tmp 4, .tmp 5]
noncomputable def c_ref05_Along_0 : Code := nav (bodyOf n_ref05_Along) []
noncomputable def c_ref05_Along_1 : Code := nav (bodyOf n_ref05_Along) [false]
noncomputable def c_ref05_Along_2 : Code := nav (bodyOf n_ref05_Along) [true]
noncomputable def c_ref05_Along_3 : Code := nav (bodyOf n_ref05_Along) [true, false]
noncomputable def c_ref05_Along_4 : Code := nav (bodyOf n_ref05_Along) [true, true]
noncomputable def c_ref05_Along_5 : Code := nav (bodyOf n_ref05_Along) [true, true, false]
noncomputable def c_ref05_Along_6 : Code := nav (bodyOf n_ref05_Along) [true, true, true]
noncomputable def c_ref05_Along_7 : Code := nav (bodyOf n_ref05_Along) [true, true, true, false]
noncomputable def c_ref05_Along_8 : Code := nav (bodyOf n_ref05_Along) [true, true, true, true]
noncomputable def c_ref05_Along_9 : Code := nav (bodyOf n_ref05_Along) [true, true, true, false, false]
noncomputable def c_ref05_Along_10 : Code := nav (bodyOf n_ref05_Along) [true, true, true, false, true]
noncomputable def c_ref05_Along_11 : Code := nav (bodyOf n_ref05_Along) [true, true, true, false, true, false]
noncomputable def c_ref05_Along_12 : Code := nav (bodyOf n_ref05_Along) [true, true, true, false, true, false, false]
noncomputable def c_ref05_Along_13 : Code := nav (bodyOf n_ref05_Along) [true, true, true, false, true, false, false, false]
noncomputable def c_ref05_Along_14 : Code := nav (bodyOf n_ref05_Along) [true, true, true, false, true, false, false, true]
noncomputable def c_ref05_Along_15 : Code := nav (bodyOf n_ref05_Along) [true, true, true, false, true, false, false, true, false]
noncomputable def c_ref05_Along_16 : Code := nav (bodyOf n_ref05_Along) [true, true, true, false, true, false, false, true, true]
theorem q_ref05_Along_8 (call : FCall) (hs : FHs) (u : Nat) :
  fxK Try.prog pol NN call c_ref05_Along_8 (AV × Mem) (k_ref05_Along hs u) r_ref05_Along eNil r_ref05_Along = (fun s => B_ref05_Along_0 call hs u (s.sl 6) s.m s.fc) := by
  kernel_rfl
theorem q_ref05_Along_16 (call : FCall) (hs : FHs) (u : Nat) (rec0 : AV → AV → AV → AV → Mem → Nat → Option (AV × Mem)) :
  fxK Try.prog pol NN call c_ref05_Along_16 (AV × Mem) (k_ref05_Along hs u) (fun s => rec0 (s.sl 1) (s.sl 2) (s.sl 6) (s.sl 7) s.m s.fc) (setE 0 (fun s => B_ref05_Along_0 call hs u (s.sl 6) s.m s.fc) eNil) r_ref05_Along = (fun s => B_ref05_Along_1 call hs u rec0 (s.sl 1) (s.sl 2) (s.sl 6) (s.sl 7) s.m s.fc) := by
  kernel_rfl
theorem q_ref05_Along_15 (call : FCall) (hs : FHs) (u : Nat) (rec0 : AV → AV → AV → AV → Mem → Nat → Option (AV × Mem)) :
  fxK Try.prog pol NN call c_ref05_Along_15 (AV × Mem) (k_ref05_Along hs u) (fun s => B_ref05_Along_1 call hs u rec0 (s.sl 1) (s.sl 2) (s.sl 6) (s.sl 7) s.m s.fc) (setE 0 (fun s => B_ref05_Along_0 call hs u (s.sl 6) s.m s.fc) eNil) r_ref05_Along = (fun s => B_ref05_Along_2 call hs u rec0 (s.sl 1) (s.sl 2) (s.sl 6) (s.sl 7) s.m s.fc) := by
  kernel_rfl
theorem q_ref05_Along_14 (call : FCall) (hs : FHs) (u : Nat) (rec0 : AV → AV → AV → AV → Mem → Nat → Option (AV × Mem)) :
  fxK Try.prog pol NN call c_ref05_Along_14 (AV × Mem) (k_ref05_Along hs u) (fun s => rec0 (s.sl 1) (s.sl 2) (s.sl 6) (s.sl 7) s.m s.fc) (setE 0 (fun s => B_ref05_Along_0 call hs u (s.sl 6) s.m s.fc) eNil) r_ref05_Along = (fun s => B_ref05_Along_2 call hs u rec0 (s.sl 1) (s.sl 2) (s.sl 6) (s.sl 7) s.m s.fc) := by
  rw [show c_ref05_Along_14 = .seq c_ref05_Along_15 c_ref05_Along_16 from by kernel_rfl, seq_r, q_ref05_Along_16 call hs u rec0, q_ref05_Along_15 call hs u rec0]
theorem q_ref05_Along_12 (call : FCall) (hs : FHs) (u : Nat) (rec0 : AV → AV → AV → AV → Mem → Nat → Option (AV × Mem)) :
  fxK Try.prog pol NN call c_ref05_Along_12 (AV × Mem) (k_ref05_Along hs u) (fun s => rec0 (s.sl 1) (s.sl 2) (s.sl 6) (s.sl 7) s.m s.fc) (setE 0 (fun s => B_ref05_Along_0 call hs u (s.sl 6) s.m s.fc) eNil) r_ref05_Along = (fun s => B_ref05_Along_3 call hs u rec0 (s.sl 1) (s.sl 2) (s.sl 6) (s.sl 7) s.m s.fc) := by
  rw [show c_ref05_Along_12 = .seq c_ref05_Along_13 c_ref05_Along_14 from by kernel_rfl, seq_r]; rw [q_ref05_Along_14 call hs u rec0]; kernel_rfl
theorem q_L_ref05_Along_0 (call : FCall) (hs : FHs) (u : Nat) : ∀ n : Nat,
  iter (fun rec => fxK Try.prog pol NN call c_ref05_Along_12 (AV × Mem) (k_ref05_Along hs u) rec (setE 0 (fun s => B_ref05_Along_0 call hs u (s.sl 6) s.m s.fc) eNil) r_ref05_Along) n = (fun s => L_ref05_Along_0 call hs u n (s.sl 1) (s.sl 2) (s.sl 6) (s.sl 7) s.m s.fc)
  | 0 => rfl
  | n + 1 => by rw [iter_succ, q_L_ref05_Along_0 call hs u n, q_ref05_Along_12 call hs u (L_ref05_Along_0 call hs u n)]; kernel_rfl
theorem q_ref05_Along_11 (call : FCall) (hs : FHs) (u : Nat) :
  fxK Try.prog pol NN call c_ref05_Along_11 (AV × Mem) (k_ref05_Along hs u) (fun s => B_ref05_Along_0 call hs u (s.sl 6) s.m s.fc) (setE 0 (fun s => B_ref05_Along_0 call hs u (s.sl 6) s.m s.fc) eNil) r_ref05_Along = (fun s => L_ref05_Along_0 call hs u NN (s.sl 1) (s.sl 2) (s.sl 6) (s.sl 7) s.m s.fc) := by
  rw [show c_ref05_Along_11 = .loop c_ref05_Along_12 from by kernel_rfl, loop_r, q_L_ref05_Along_0 call hs u NN]
theorem q_ref05_Along_10 (call : FCall) (hs : FHs) (u : Nat) :
  fxK Try.prog pol NN call c_ref05_Along_10 (AV × Mem) (k_ref05_Along hs u) (fun s => B_ref05_Along_0 call hs u (s.sl 6) s.m s.fc) eNil r_ref05_Along = (fun s => L_ref05_Along_0 call hs u NN (s.sl 1) (s.sl 2) (s.sl 6) (s.sl 7) s.m s.fc) := by
  rw [show c_ref05_Along_10 = .block 0 c_ref05_Along_11 from by kernel_rfl, block_r, q_ref05_Along_11 call hs u]
theorem q_ref05_Along_7 (call : FCall) (hs : FHs) (u : Nat) :
  fxK Try.prog pol NN call c_ref05_Along_7 (AV × Mem) (k_ref05_Along hs u) (fun s => B_ref05_Along_0 call hs u (s.sl 6) s.m s.fc) eNil r_ref05_Along = (fun s => B_ref05_Along_4 call hs u (s.sl 1) (s.sl 2) (s.sl 6) s.m s.fc) := by
  rw [show c_ref05_Along_7 = .seq c_ref05_Along_9 c_ref05_Along_10 from by kernel_rfl, seq_r]; rw [q_ref05_Along_10 call hs u]; kernel_rfl
theorem q_ref05_Along_6 (call : FCall) (hs : FHs) (u : Nat) :
  fxK Try.prog pol NN call c_ref05_Along_6 (AV × Mem) (k_ref05_Along hs u) r_ref05_Along eNil r_ref05_Along = (fun s => B_ref05_Along_4 call hs u (s.sl 1) (s.sl 2) (s.sl 6) s.m s.fc) := by
  rw [show c_ref05_Along_6 = .seq c_ref05_Along_7 c_ref05_Along_8 from by kernel_rfl, seq_r, q_ref05_Along_8 call hs u, q_ref05_Along_7 call hs u]
theorem q_ref05_Along_0 (call : FCall) (hs : FHs) (u : Nat) :
  fxK Try.prog pol NN call c_ref05_Along_0 (AV × Mem) (k_ref05_Along hs u) r_ref05_Along eNil r_ref05_Along = (fun s => B_ref05_Along_5 call hs u (s.sl 0) (s.sl 1) s.m s.fc) := by
  rw [show c_ref05_Along_0 = .seq c_ref05_Along_1 c_ref05_Along_2 from by kernel_rfl, seq_r]; rw [show c_ref05_Along_2 = .seq c_ref05_Along_3 c_ref05_Along_4 from by kernel_rfl, seq_r]; rw [show c_ref05_Along_4 = .seq c_ref05_Along_5 c_ref05_Along_6 from by kernel_rfl, seq_r]; rw [q_ref05_Along_6 call hs u]; kernel_rfl
theorem F_ref05_Along_eq (call : FCall) (hs : FHs) (t0 t1 : AV) (m : Mem) : fxBody Try.prog pol NN call hs n_ref05_Along [t0, t1] m = F_ref05_Along call hs [t0, t1] m := by
  rw [fxBody_at (fn := Try.f50) (body := c_ref05_Along_0) (nt := 77) (rs := [.tmp 4, .tmp 5]) (by kernel_rfl) (by kernel_rfl) (by kernel_rfl) (by kernel_rfl) (by kernel_rfl) (by kernel_rfl)]
  exact (congrFun (q_ref05_Along_0 call hs m.next) _).trans (by kernel_rfl)
theorem F_ref05_Along_le (call : FCall) (hs : FHs) (args : List AV) (m : Mem) (r : AV × Mem) (h : F_ref05_Along call hs args m = some r) : fxBody Try.prog pol NN call hs n_ref05_Along args m = some r := by
  unfold F_ref05_Along at h
  split at h
  · rw [F_ref05_Along_eq]; exact h
  · cases h

/- swath/swathref05.Cost -/
abbrev k_ref05_Cost (hs : FHs) (u : Nat) : FCtx := { f := n_ref05_Cost, u := u, nt := 32, hs := hs }
noncomputable abbrev r_ref05_Cost : Fs → Option (AV × Mem) := fxRes Try.prog [.tmp 4]
noncomputable def c_ref05_Cost_0 : Code := nav (bodyOf n_ref05_Cost) []
noncomputable def c_ref05_Cost_1 : Code := nav (bodyOf n_ref05_Cost) [false]
noncomputable def c_ref05_Cost_2 : Code := nav (bodyOf n_ref05_Cost) [true]
noncomputable def c_ref05_Cost_3 : Code := nav (bodyOf n_ref05_Cost) [true, false]
noncomputable def c_ref05_Cost_4 : Code := nav (bodyOf n_ref05_Cost) [true, true]
noncomputable def c_ref05_Cost_5 : Code := nav (bodyOf n_ref05_Cost) [true, true, false]
noncomputable def c_ref05_Cost_6 : Code := nav (bodyOf n_ref05_Cost) [true, true, true]
noncomputable def c_ref05_Cost_7 : Code := nav (bodyOf n_ref05_Cost) [true, true, false, false]
noncomputable def c_ref05_Cost_8 : Code := nav (bodyOf n_ref05_Cost) [true, true, false, true]
noncomputable def c_ref05_Cost_9 : Code := nav (bodyOf n_ref05_Cost) [true, true, false, true, false]
noncomputable def c_ref05_Cost_10 : Code := nav (bodyOf n_ref05_Cost) [true, true, false, true, false, false]
theorem q_ref05_Cost_6 (call : FCall) (hs : FHs) (u : Nat) :
  fxK Try.prog pol NN call c_ref05_Cost_6 (AV × Mem) (k_ref05_Cost hs u) r_ref05_Cost eNil r_ref05_Cost = (fun s => B_ref05_Cost_0 call hs u (s.sl 5) s.m s.fc) := by
  kernel_rfl
theorem q_ref05_Cost_10 (call : FCall) (hs : FHs) (u : Nat) (rec0 : AV → AV → AV → AV → Mem → Nat → Option (AV × Mem)) :
  fxK Try.prog pol NN call c_ref05_Cost_10 (AV × Mem) (k_ref05_Cost hs u) (fun s => rec0 (s.sl 1) (s.sl 2) (s.sl 5) (s.sl 6) s.m s.fc) (setE 0 (fun s => B_ref05_Cost_0 call hs u (s.sl 5) s.m s.fc) eNil) r_ref05_Cost = (fun s => B_ref05_Cost_1 call hs u rec0 (s.sl 1) (s.sl 2) (s.sl 5) (s.sl 6) s.m s.fc) := by
  kernel_rfl
theorem q_L_ref05_Cost_0 (call : FCall) (hs : FHs) (u : Nat) : ∀ n : Nat,
  iter (fun rec => fxK Try.prog pol NN call c_ref05_Cost_10 (AV × Mem) (k_ref05_Cost hs u) rec (setE 0 (fun s => B_ref05_Cost_0 call hs u (s.sl 5) s.m s.fc) eNil) r_ref05_Cost) n = (fun s => L_ref05_Cost_0 call hs u n (s.sl 1) (s.sl 2) (s.sl 5) (s.sl 6) s.m s.fc)
  | 0 => rfl
  | n + 1 => by rw [iter_succ, q_L_ref05_Cost_0 call hs u n, q_ref05_Cost_10 call hs u (L_ref05_Cost_0 call hs u n)]; kernel_rfl
theorem q_ref05_Cost_9 (call : FCall) (hs : FHs) (u : Nat) :
  fxK Try.prog pol NN call c_ref05_Cost_9 (AV × Mem) (k_ref05_Cost hs u) (fun s => B_ref05_Cost_0 call hs u (s.sl 5) s.m s.fc) (setE 0 (fun s => B_ref05_Cost_0 call hs u (s.sl 5) s.m s.fc) eNil) r_ref05_Cost = (fun s => L_ref05_Cost_0 call hs u NN (s.sl 1) (s.sl 2) (s.sl 5) (s.sl 6) s.m s.fc) := by
  rw [show c_ref05_Cost_9 = .loop c_ref05_Cost_10 from by kernel_rfl, loop_r, q_L_ref05_Cost_0 call hs u NN]
theorem q_ref05_Cost_8 (call : FCall) (hs : FHs) (u : Nat) :
  fxK Try.prog pol NN call c_ref05_Cost_8 (AV × Mem) (k_ref05_Cost hs u) (fun s => B_ref05_Cost_0 call hs u (s.sl 5) s.m s.fc) eNil r_ref05_Cost = (fun s => L_ref05_Cost_0 call hs u NN (s.sl 1) (s.sl 2) (s.sl 5) (s.sl 6) s.m s.fc) := by
  rw [show c_ref05_Cost_8 = .block 0 c_ref05_Cost_9 from by kernel_rfl, block_r, q_ref05_Cost_9 call hs u]
theorem q_ref05_Cost_5 (call : FCall) (hs : FHs) (u : Nat) :
  fxK Try.prog pol NN call c_ref05_Cost_5 (AV × Mem) (k_ref05_Cost hs u) (fun s => B_ref05_Cost_0 call hs u (s.sl 5) s.m s.fc) eNil r_ref05_Cost = (fun s => B_ref05_Cost_2 call hs u (s.sl 1) (s.sl 2) (s.sl 5) s.m s.fc) := by
  rw [show c_ref05_Cost_5 = .seq c_ref05_Cost_7 c_ref05_Cost_8 from by kernel_rfl, seq_r]; rw [q_ref05_Cost_8 call hs u]; kernel_rfl
theorem q_ref05_Cost_4 (call : FCall) (hs : FHs) (u : Nat) :
  fxK Try.prog pol NN call c_ref05_Cost_4 (AV × Mem) (k_ref05_Cost hs u) r_ref05_Cost eNil r_ref05_Cost = (fun s => B_ref05_Cost_2 call hs u (s.sl 1) (s.sl 2) (s.sl 5) s.m s.fc) := by
  rw [show c_ref05_Cost_4 = .seq c_ref05_Cost_5 c_ref05_Cost_6 from by kernel_rfl, seq_r, q_ref05_Cost_6 call hs u, q_ref05_Cost_5 call hs u]
theorem q_ref05_Cost_0 (call : FCall) (hs : FHs) (u : Nat) :
  fxK Try.prog pol NN call c_ref05_Cost_0 (AV × Mem) (k_ref05_Cost hs u) r_ref05_Cost eNil r_ref05_Cost = (fun s => B_ref05_Cost_3 call hs u (s.sl 0) (s.sl 1) s.m s.fc) := by
  rw [show c_ref05_Cost_0 = .seq c_ref05_Cost_1 c_ref05_Cost_2 from by kernel_rfl, seq_r]; rw [show c_ref05_Cost_2 = .seq c_ref05_Cost_3 c_ref05_Cost_4 from by kernel_rfl, seq_r]; rw [q_ref05_Cost_4 call hs u]; kernel_rfl
theorem F_ref05_Cost_eq (call : FCall) (hs : FHs) (t0 t1 : AV) (m : Mem) : fxBody Try.prog pol NN call hs n_ref05_Cost [t0, t1] m = F_ref05_Cost call hs [t0, t1] m := by
  rw [fxBody_at (fn := Try.f55) (body := c_ref05_Cost_0) (nt := 32) (rs := [.tmp 4]) (by kernel_rfl) (by kernel_rfl) (by kernel_rfl) (by kernel_rfl) (by kernel_rfl) (by kernel_rfl)]
  exact (congrFun (q_ref05_Cost_0 call hs m.next) _).trans (by kernel_rfl)
theorem F_ref05_Cost_le (call : FCall) (hs : FHs) (args : List AV) (m : Mem) (r : AV × Mem) (h : F_ref05_Cost call hs args m = some r) : fxBody Try.prog pol NN call hs n_ref05_Cost args m = some r := by
  unfold F_ref05_Cost at h
  split at h
  · rw [F_ref05_Cost_eq]; exact h
  · cases h

/- swath/unwrap.Undecided -/
abbrev k_unwrap_Undecided (hs : FHs) (u : Nat) : FCtx := { f := n_unwrap_Undecided, u := u, nt := 20, hs := hs }
noncomputable abbrev r_unwrap_Undecided : Fs → Option (AV × Mem) := fxRes Try.prog [.tmp 2, .tmp 3]
noncomputable def c_unwrap_Undecided_0 : Code := nav (bodyOf n_unwrap_Undecided) []
theorem q_unwrap_Undecided_0 (call : FCall) (hs : FHs) (u : Nat) :
  fxK Try.prog pol NN call c_unwrap_Undecided_0 (AV × Mem) (k_unwrap_Undecided hs u) r_unwrap_Undecided eNil r_unwrap_Undecided = (fun s => B_unwrap_Undecided_0 call hs u (s.sl 0) s.m s.fc) := by
  kernel_rfl
theorem F_unwrap_Undecided_eq (call : FCall) (hs : FHs) (t0 : AV) (m : Mem) : fxBody Try.prog pol NN call hs n_unwrap_Undecided [t0] m = F_unwrap_Undecided call hs [t0] m := by
  rw [fxBody_at (fn := Try.f58) (body := c_unwrap_Undecided_0) (nt := 20) (rs := [.tmp 2, .tmp 3]) (by kernel_rfl) (by kernel_rfl) (by kernel_rfl) (by kernel_rfl) (by kernel_rfl) (by kernel_rfl)]
  exact (congrFun (q_unwrap_Undecided_0 call hs m.next) _).trans (by kernel_rfl)
theorem F_unwrap_Undecided_le (call : FCall) (hs : FHs) (args : List AV) (m : Mem) (r : AV × Mem) (h : F_unwrap_Undecided call hs args m = some r) : fxBody Try.prog pol NN call hs n_unwrap_Undecided args m = some r := by
  unfold F_unwrap_Undecided at h
  split at h
  · rw [F_unwrap_Undecided_eq]; exact h
  · cases h

/- swath/swathlaw05.Loop -/
abbrev k_law05_Loop (hs : FHs) (u : Nat) : FCtx := { f := n_law05_Loop, u := u, nt := 9, hs := hs }
noncomputable abbrev r_law05_Loop : Fs → Option (AV × Mem) := fxRes Try.prog [.cell 2 y_api_UnwrapNet]
noncomputable def c_law05_Loop_0 : Code := nav (bodyOf n_law05_Loop) []
theorem q_law05_Loop_0 (call : FCall) (hs : FHs) (u : Nat) :
  fxK Try.prog pol NN call c_law05_Loop_0 (AV × Mem) (k_law05_Loop hs u) r_law05_Loop eNil r_law05_Loop = (fun s => B_law05_Loop_0 call hs u (s.sl 0) s.m s.fc) := by
  kernel_rfl
theorem F_law05_Loop_eq (call : FCall) (hs : FHs) (t0 : AV) (m : Mem) : fxBody Try.prog pol NN call hs n_law05_Loop [t0] m = F_law05_Loop call hs [t0] m := by
  rw [fxBody_at (fn := Try.f60) (body := c_law05_Loop_0) (nt := 9) (rs := [.cell 2 y_api_UnwrapNet]) (by kernel_rfl) (by kernel_rfl) (by kernel_rfl) (by kernel_rfl) (by kernel_rfl) (by kernel_rfl)]
  exact (congrFun (q_law05_Loop_0 call hs m.next) _).trans (by kernel_rfl)
theorem F_law05_Loop_le (call : FCall) (hs : FHs) (args : List AV) (m : Mem) (r : AV × Mem) (h : F_law05_Loop call hs args m = some r) : fxBody Try.prog pol NN call hs n_law05_Loop args m = some r := by
  unfold F_law05_Loop at h
  split at h
  · rw [F_law05_Loop_eq]; exact h
  · cases h

/- swath/swathlaw05.Square -/
abbrev k_law05_Square (hs : FHs) (u : Nat) : FCtx := { f := n_law05_Square, u := u, nt := 20, hs := hs }
noncomputable abbrev r_law05_Square : Fs → Option (AV × Mem) := fxRes Try.prog [.cell 2 y_api_UnwrapTask]
noncomputable def c_law05_Square_0 : Code := nav (bodyOf n_law05_Square) []
noncomputable def c_law05_Square_1 : Code := nav (bodyOf n_law05_Square) [false]
noncomputable def c_law05_Square_2 : Code := nav (bodyOf n_law05_Square) [true]
noncomputable def c_law05_Square_3 : Code := nav (bodyOf n_law05_Square) [true, false]
noncomputable def c_law05_Square_4 : Code := nav (bodyOf n_law05_Square) [true, true]
noncomputable def c_law05_Square_5 : Code := nav (bodyOf n_law05_Square) [true, true, false]
noncomputable def c_law05_Square_6 : Code := nav (bodyOf n_law05_Square) [true, true, true]
theorem q_law05_Square_6 (call : FCall) (hs : FHs) (u : Nat) :
  fxK Try.prog pol NN call c_law05_Square_6 (AV × Mem) (k_law05_Square hs u) r_law05_Square eNil r_law05_Square = (fun s => B_law05_Square_0 call hs u (s.sl 2) (s.sl 3) s.m s.fc) := by
  kernel_rfl
theorem q_law05_Square_5 (call : FCall) (hs : FHs) (u : Nat) :
  fxK Try.prog pol NN call c_law05_Square_5 (AV × Mem) (k_law05_Square hs u) (fun s => B_law05_Square_0 call hs u (s.sl 2) (s.sl 3) s.m s.fc) eNil r_law05_Square = (fun s => B_law05_Square_1 call hs u (s.sl 0) (s.sl 2) (s.sl 3) s.m s.fc) := by
  kernel_rfl
theorem q_law05_Square_4 (call : FCall) (hs : FHs) (u : Nat) :
  fxK Try.prog pol NN call c_law05_Square_4 (AV × Mem) (k_law05_Square hs u) r_law05_Square eNil r_law05_Square = (fun s => B_law05_Square_1 call hs u (s.sl 0) (s.sl 2) (s.sl 3) s.m s.fc) := by
  rw [show c_law05_Square_4 = .seq c_law05_Square_5 c_law05_Square_6 from by kernel_rfl, seq_r, q_law05_Square_6 call hs u, q_law05_Square_5 call hs u]
theorem q_law05_Square_0 (call : FCall) (hs : FHs) (u : Nat) :
  fxK Try.prog pol NN call c_law05_Square_0 (AV × Mem) (k_law05_Square hs u) r_law05_Square eNil r_law05_Square = (fun s => B_law05_Square_2 call hs u (s.sl 0) s.m s.fc) := by
  rw [show c_law05_Square_0 = .seq c_law05_Square_1 c_law05_Square_2 from by kernel_rfl, seq_r]; rw [show c_law05_Square_2 = .seq c_law05_Square_3 c_law05_Square_4 from by kernel_rfl, seq_r]; rw [q_law05_Square_4 call hs u]; kernel_rfl
theorem F_law05_Square_eq (call : FCall) (hs : FHs) (t0 : AV) (m : Mem) : fxBody Try.prog pol NN call hs n_law05_Square [t0] m = F_law05_Square call hs [t0] m := by
  rw [fxBody_at (fn := Try.f61) (body := c_law05_Square_0) (nt := 20) (rs := [.cell 2 y_api_UnwrapTask]) (by kernel_rfl) (by kernel_rfl) (by kernel_rfl) (by kernel_rfl) (by kernel_rfl) (by kernel_rfl)]
  exact (congrFun (q_law05_Square_0 call hs m.next) _).trans (by kernel_rfl)
theorem F_law05_Square_le (call : FCall) (hs : FHs) (args : List AV) (m : Mem) (r : AV × Mem) (h : F_law05_Square call hs args m = some r) : fxBody Try.prog pol NN call hs n_law05_Square args m = some r := by
  unfold F_law05_Square at h
  split at h
  · rw [F_law05_Square_eq]; exact h
  · cases h

/- swath/swathbase.Size -/
abbrev k_base_Size (hs : FHs) (u : Nat) : FCtx := { f := n_base_Size, u := u, nt := 7, hs := hs }
noncomputable abbrev r_base_Size : Fs → Option (AV × Mem) := fxRes Try.prog [.tmp 2]
noncomputable def c_base_Size_0 : Code := nav (bodyOf n_base_Size) []
theorem q_base_Size_0 (call : FCall) (hs : FHs) (u : Nat) :
  fxK Try.prog pol NN call c_base_Size_0 (AV × Mem) (k_base_Size hs u) r_base_Size eNil r_base_Size = (fun s => B_base_Size_0 call hs u (s.sl 0) s.m s.fc) := by
  kernel_rfl
theorem F_base_Size_eq (call : FCall) (hs : FHs) (t0 : AV) (m : Mem) : fxBody Try.prog pol NN call hs n_base_Size [t0] m = F_base_Size call hs [t0] m := by
  rw [fxBody_at (fn := Try.f62) (body := c_base_Size_0) (nt := 7) (rs := [.tmp 2]) (by kernel_rfl) (by kernel_rfl) (by kernel_rfl) (by kernel_rfl) (by kernel_rfl) (by kernel_rfl)]
  exact (congrFun (q_base_Size_0 call hs m.next) _).trans (by kernel_rfl)
theorem F_base_Size_le (call : FCall) (hs : FHs) (args : List AV) (m : Mem) (r : AV × Mem) (h : F_base_Size call hs args m = some r) : fxBody Try.prog pol NN call hs n_base_Size args m = some r := by
  unfold F_base_Size at h
  split at h
  · rw [F_base_Size_eq]; exact h
  · cases h

/- swath/unwrap.open -/
abbrev k_unwrap_open (hs : FHs) (u : Nat) : FCtx := { f := n_unwrap_open, u := u, nt := 14, hs := hs }
noncomputable abbrev r_unwrap_open : Fs → Option (AV × Mem) := fxRes Try.prog [.cell 2 y_unwrap_net, .tmp 3]
noncomputable def c_unwrap_open_0 : Code := nav (bodyOf n_unwrap_open) []
theorem q_unwrap_open_0 (call : FCall) (hs : FHs) (u : Nat) :
  fxK Try.prog pol NN call c_unwrap_open_0 (AV × Mem) (k_unwrap_open hs u) r_unwrap_open eNil r_unwrap_open = (fun s => B_unwrap_open_0 call hs u (s.sl 0) s.m s.fc) := by
  kernel_rfl
theorem F_unwrap_open_eq (call : FCall) (hs : FHs) (t0 : AV) (m : Mem) : fxBody Try.prog pol NN call hs n_unwrap_open [t0] m = F_unwrap_open call hs [t0] m := by
  rw [fxBody_at (fn := Try.f63) (body := c_unwrap_open_0) (nt := 14) (rs := [.cell 2 y_unwrap_net, .tmp 3]) (by kernel_rfl) (by kernel_rfl) (by kernel_rfl) (by kernel_rfl) (by kernel_rfl) (by kernel_rfl)]
  exact (congrFun (q_unwrap_open_0 call hs m.next) _).trans (by kernel_rfl)
theorem F_unwrap_open_le (call : FCall) (hs : FHs) (args : List AV) (m : Mem) (r : AV × Mem) (h : F_unwrap_open call hs args m = some r) : fxBody Try.prog pol NN call hs n_unwrap_open args m = some r := by
  unfold F_unwrap_open at h
  split at h
  · rw [F_unwrap_open_eq]; exact h
  · cases h

/- (swath/unwrap.net).solve -/
abbrev k_unwrap_net_solve (hs : FHs) (u : Nat) : FCtx := { f := n_unwrap_net_solve, u := u, nt := 64, hs := hs }
noncomputable abbrev r_unwrap_net_solve : Fs → Option (AV × Mem) := fxRes Try.prog [.tmp 2]
noncomputable def c_unwrap_net_solve_0 : Code := nav (bodyOf n_unwrap_net_solve) []
noncomputable def c_unwrap_net_solve_1 : Code := nav (bodyOf n_unwrap_net_solve) [false]
noncomputable def c_unwrap_net_solve_2 : Code := nav (bodyOf n_unwrap_net_solve) [true]
noncomputable def c_unwrap_net_solve_3 : Code := nav (bodyOf n_unwrap_net_solve) [true, false]
noncomputable def c_unwrap_net_solve_4 : Code := nav (bodyOf n_unwrap_net_solve) [true, true]
noncomputable def c_unwrap_net_solve_5 : Code := nav (bodyOf n_unwrap_net_solve) [true, true, false]
noncomputable def c_unwrap_net_solve_6 : Code := nav (bodyOf n_unwrap_net_solve) [true, true, true]
noncomputable def c_unwrap_net_solve_7 : Code := nav (bodyOf n_unwrap_net_solve) [true, true, true, false]
noncomputable def c_unwrap_net_solve_8 : Code := nav (bodyOf n_unwrap_net_solve) [true, true, true, true]
noncomputable def c_unwrap_net_solve_9 : Code := nav (bodyOf n_unwrap_net_solve) [true, true, true, true, false]
noncomputable def c_unwrap_net_solve_10 : Code := nav (bodyOf n_unwrap_net_solve) [true, true, true, true, true]
noncomputable def c_unwrap_net_solve_11 : Code := nav (bodyOf n_unwrap_net_solve) [true, true, true, true, true, false]
noncomputable def c_unwrap_net_solve_12 : Code := nav (bodyOf n_unwrap_net_solve) [true, true, true, true, true, true]
noncomputable def c_unwrap_net_solve_13 : Code := nav (bodyOf n_unwrap_net_solve) [true, true, true, true, true, false, false]
noncomputable def c_unwrap_net_solve_14 : Code := nav (bodyOf n_unwrap_net_solve) [true, true, true, true, true, false, true]
noncomputable def c_unwrap_net_solve_15 : Code := nav (bodyOf n_unwrap_net_solve) [true, true, true, true, true, false, true, false]
noncomputable def c_unwrap_net_solve_16 : Code := nav (bodyOf n_unwrap_net_solve) [true, true, true, true, true, false, true, false, false]
noncomputable def c_unwrap_net_solve_17 : Code := nav (bodyOf n_unwrap_net_solve) [true, true, true, true, true, false, true, false, false, false]
noncomputable def c_unwrap_net_solve_18 : Code := nav (bodyOf n_unwrap_net_solve) [true, true, true, true, true, false, true, false, false, true]
noncomputable def c_unwrap_net_solve_19 : Code := nav (bodyOf n_unwrap_net_solve) [true, true, true, true, true, false, true, false, false, true, false]
noncomputable def c_unwrap_net_solve_20 : Code := nav (bodyOf n_unwrap_net_solve) [true, true, true, true, true, false, true, false, false, true, true]
noncomputable def c_unwrap_net_solve_21 : Code := nav (bodyOf n_unwrap_net_solve) [true, true, true, true, true, false, true, false, false, true, true, false]
noncomputable def c_unwrap_net_solve_22 : Code := nav (bodyOf n_unwrap_net_solve) [true, true, true, true, true, false, true, false, false, true, true, true]
noncomputable def c_unwrap_net_solve_23 : Code := nav (bodyOf n_unwrap_net_solve) [true, true, true, true, true, false, true, false, false, true, true, false, false]
noncomputable def c_unwrap_net_solve_24 : Code := nav (bodyOf n_unwrap_net_solve) [true, true, true, true, true, false, true, false, false, true, true, false, false, false]
noncomputable def c_unwrap_net_solve_25 : Code := nav (bodyOf n_unwrap_net_solve) [true, true, true, true, true, false, true, false, false, true, true, false, false, true]
noncomputable def c_unwrap_net_solve_26 : Code := nav (bodyOf n_unwrap_net_solve) [true, true, true, true, true, false, true, false, false, true, true, false, false, true, false]
noncomputable def c_unwrap_net_solve_27 : Code := nav (bodyOf n_unwrap_net_solve) [true, true, true, true, true, false, true, false, false, true, true, false, false, true, true]
noncomputable def c_unwrap_net_solve_28 : Code := nav (bodyOf n_unwrap_net_solve) [true, true, false, false]
noncomputable def c_unwrap_net_solve_29 : Code := nav (bodyOf n_unwrap_net_solve) [true, true, false, false, false]
theorem q_unwrap_net_solve_12 (call : FCall) (hs : FHs) (u : Nat) :
  fxK Try.prog pol NN call c_unwrap_net_solve_12 (AV × Mem) (k_unwrap_net_solve hs u) r_unwrap_net_solve eNil r_unwrap_net_solve = (fun s => B_unwrap_net_solve_0 call hs u (s.sl 3) s.m s.fc) := by
  kernel_rfl
theorem q_unwrap_net_solve_22 (call : FCall) (hs : FHs) (u : Nat) (rec0 : AV → AV → AV → AV → AV → Mem → Nat → Option (AV × Mem)) :
  fxK Try.prog pol NN call c_unwrap_net_solve_22 (AV × Mem) (k_unwrap_net_solve hs u) (fun s => rec0 (s.sl 3) (s.sl 6) (s.sl 26) (s.sl 27) (s.sl 28) s.m s.fc) (setE 2 (fun s => B_unwrap_net_solve_0 call hs u (s.sl 3) s.m s.fc) eNil) r_unwrap_net_solve = (fun s => B_unwrap_net_solve_1 call hs u rec0 (s.sl 3) (s.sl 6) (s.sl 26) (s.sl 27) (s.sl 28) s.m s.fc) := by
  kernel_rfl
theorem q_unwrap_net_solve_27 (call : FCall) (hs : FHs) (u : Nat) (rec0 : AV → AV → AV → AV → AV → Mem → Nat → Option (AV × Mem)) :
  fxK Try.prog pol NN call c_unwrap_net_solve_27 (AV × Mem) (k_unwrap_net_solve hs u) (fun s => B_unwrap_net_solve_1 call hs u rec0 (s.sl 3) (s.sl 6) (s.sl 26) (s.sl 27) (s.sl 28) s.m s.fc) (setE 3 (fun s => B_unwrap_net_solve_1 call hs u rec0 (s.sl 3) (s.sl 6) (s.sl 26) (s.sl 27) (s.sl 28) s.m s.fc) (setE 2 (fun s => B_unwrap_net_solve_0 call hs u (s.sl 3) s.m s.fc) eNil)) r_unwrap_net_solve = (fun s => B_unwrap_net_solve_2 call hs u rec0 (s.sl 3) (s.sl 6) (s.sl 7) (s.sl 8) (s.sl 26) (s.sl 27) (s.sl 28) s.m s.fc) := by
  kernel_rfl
theorem q_unwrap_net_solve_26 (call : FCall) (hs : FHs) (u : Nat) (rec0 : AV → AV → AV → AV → AV → Mem → Nat → Option (AV × Mem)) :
  fxK Try.prog pol NN call c_unwrap_net_solve_26 (AV × Mem) (k_unwrap_net_solve hs u) (fun s => B_unwrap_net_solve_2 call hs u rec0 (s.sl 3) (s.sl 6) (s.sl 7) (s.sl 8) (s.sl 26) (s.sl 27) (s.sl 28) s.m s.fc) (setE 3 (fun s => B_unwrap_net_solve_1 call hs u rec0 (s.sl 3) (s.sl 6) (s.sl 26) (s.sl 27) (s.sl 28) s.m s.fc) (setE 2 (fun s => B_unwrap_net_solve_0 call hs u (s.sl 3) s.m s.fc) eNil)) r_unwrap_net_solve = (fun s => B_unwrap_net_solve_3 call hs u rec0 (s.sl 3) (s.sl 6) (s.sl 7) (s.sl 8) (s.sl 26) (s.sl 27) (s.sl 28) s.m s.fc) := by
  kernel_rfl
theorem q_unwrap_net_solve_25 (call : FCall) (hs : FHs) (u : Nat) (rec0 : AV → AV → AV → AV → AV → Mem → Nat → Option (AV × Mem)) :
  fxK Try.prog pol NN call c_unwrap_net_solve_25 (AV × Mem) (k_unwrap_net_solve hs u) (fun s => B_unwrap_net_solve_1 call hs u rec0 (s.sl 3) (s.sl 6) (s.sl 26) (s.sl 27) (s.sl 28) s.m s.fc) (setE 3 (fun s => B_unwrap_net_solve_1 call hs u rec0 (s.sl 3) (s.sl 6) (s.sl 26) (s.sl 27) (s.sl 28) s.m s.fc) (setE 2 (fun s => B_unwrap_net_solve_0 call hs u (s.sl 3) s.m s.fc) eNil)) r_unwrap_net_solve = (fun s => B_unwrap_net_solve_3 call hs u rec0 (s.sl 3) (s.sl 6) (s.sl 7) (s.sl 8) (s.sl 26) (s.sl 27) (s.sl 28) s.m s.fc) := by
  rw [show c_unwrap_net_solve_25 = .seq c_unwrap_net_solve_26 c_unwrap_net_solve_27 from by kernel_rfl, seq_r, q_unwrap_net_solve_27 call hs u rec0, q_unwrap_net_solve_26 call hs u rec0]
theorem q_unwrap_net_solve_23 (call : FCall) (hs : FHs) (u : Nat) (rec0 : AV → AV → AV → AV → AV → Mem → Nat → Option (AV × Mem)) :
  fxK Try.prog pol NN call c_unwrap_net_solve_23 (AV × Mem) (k_unwrap_net_solve hs u) (fun s => B_unwrap_net_solve_1 call hs u rec0 (s.sl 3) (s.sl 6) (s.sl 26) (s.sl 27) (s.sl 28) s.m s.fc) (setE 3 (fun s => B_unwrap_net_solve_1 call hs u rec0 (s.sl 3) (s.sl 6) (s.sl 26) (s.sl 27) (s.sl 28) s.m s.fc) (setE 2 (fun s => B_unwrap_net_solve_0 call hs u (s.sl 3) s.m s.fc) eNil)) r_unwrap_net_solve = (fun s => B_unwrap_net_solve_4 call hs u rec0 (s.sl 3) (s.sl 6) (s.sl 26) (s.sl 27) (s.sl 28) s.m s.fc) := by
  rw [show c_unwrap_net_solve_23 = .seq c_unwrap_net_solve_24 c_unwrap_net_solve_25 from by kernel_rfl, seq_r]; rw [q_unwrap_net_solve_25 call hs u rec0]; kernel_rfl
theorem q_unwrap_net_solve_21 (call : FCall) (hs : FHs) (u : Nat) (rec0 : AV → AV → AV → AV → AV → Mem → Nat → Option (AV × Mem)) :
  fxK Try.prog pol NN call c_unwrap_net_solve_21 (AV × Mem) (k_unwrap_net_solve hs u) (fun s => B_unwrap_net_solve_1 call hs u rec0 (s.sl 3) (s.sl 6) (s.sl 26) (s.sl 27) (s.sl 28) s.m s.fc) (setE 2 (fun s => B_unwrap_net_solve_0 call hs u (s.sl 3) s.m s.fc) eNil) r_unwrap_net_solve = (fun s => B_unwrap_net_solve_4 call hs u rec0 (s.sl 3) (s.sl 6) (s.sl 26) (s.sl 27) (s.sl 28) s.m s.fc) := by
  rw [show c_unwrap_net_solve_21 = .block 3 c_unwrap_net_solve_23 from by kernel_rfl, block_r, q_unwrap_net_solve_23 call hs u rec0]
theorem q_unwrap_net_solve_20 (call : FCall) (hs : FHs) (u : Nat) (rec0 : AV → AV → AV → AV → AV → Mem → Nat → Option (AV × Mem)) :
  fxK Try.prog pol NN call c_unwrap_net_solve_20 (AV × Mem) (k_unwrap_net_solve hs u) (fun s => rec0 (s.sl 3) (s.sl 6) (s.sl 26) (s.sl 27) (s.sl 28) s.m s.fc) (setE 2 (fun s => B_unwrap_net_solve_0 call hs u (s.sl 3) s.m s.fc) eNil) r_unwrap_net_solve = (fun s => B_unwrap_net_solve_4 call hs u rec0 (s.sl 3) (s.sl 6) (s.sl 26) (s.sl 27) (s.sl 28) s.m s.fc) := by
  rw [show c_unwrap_net_solve_20 = .seq c_unwrap_net_solve_21 c_unwrap_net_solve_22 from by kernel_rfl, seq_r, q_unwrap_net_solve_22 call hs u rec0, q_unwrap_net_solve_21 call hs u rec0]
theorem q_unwrap_net_solve_16 (call : FCall) (hs : FHs) (u : Nat) (rec0 : AV → AV → AV → AV → AV → Mem → Nat → Option (AV × Mem)) :
  fxK Try.prog pol NN call c_unwrap_net_solve_16 (AV × Mem) (k_unwrap_net_solve hs u) (fun s => rec0 (s.sl 3) (s.sl 6) (s.sl 26) (s.sl 27) (s.sl 28) s.m s.fc) (setE 2 (fun s => B_unwrap_net_solve_0 call hs u (s.sl 3) s.m s.fc) eNil) r_unwrap_net_solve = (fun s => B_unwrap_net_solve_5 call hs u rec0 (s.sl 3) (s.sl 6) (s.sl 26) (s.sl 27) (s.sl 28) s.m s.fc) := by
  rw [show c_unwrap_net_solve_16 = .seq c_unwrap_net_solve_17 c_unwrap_net_solve_18 from by kernel_rfl, seq_r]; rw [show c_unwrap_net_solve_18 = .seq c_unwrap_net_solve_19 c_unwrap_net_solve_20 from by kernel_rfl, seq_r]; rw [q_unwrap_net_solve_20 call hs u rec0]; kernel_rfl
theorem q_L_unwrap_net_solve_0 (call : FCall) (hs : FHs) (u : Nat) : ∀ n : Nat,
  iter (fun rec => fxK Try.prog pol NN call c_unwrap_net_solve_16 (AV × Mem) (k_unwrap_net_solve hs u) rec (setE 2 (fun s => B_unwrap_net_solve_0 call hs u (s.sl 3) s.m s.fc) eNil) r_unwrap_net_solve) n = (fun s => L_unwrap_net_solve_0 call hs u n (s.sl 3) (s.sl 6) (s.sl 26) (s.sl 27) (s.sl 28) s.m s.fc)
  | 0 => rfl
  | n + 1 => by rw [iter_succ, q_L_unwrap_net_solve_0 call hs u n, q_unwrap_net_solve_16 call hs u (L_unwrap_net_solve_0 call hs u n)]; kernel_rfl
theorem q_unwrap_net_solve_15 (call : FCall) (hs : FHs) (u : Nat) :
  fxK Try.prog pol NN call c_unwrap_net_solve_15 (AV × Mem) (k_unwrap_net_solve hs u) (fun s => B_unwrap_net_solve_0 call hs u (s.sl 3) s.m s.fc) (setE 2 (fun s => B_unwrap_net_solve_0 call hs u (s.sl 3) s.m s.fc) eNil) r_unwrap_net_solve = (fun s => L_unwrap_net_solve_0 call hs u NN (s.sl 3) (s.sl 6) (s.sl 26) (s.sl 27) (s.sl 28) s.m s.fc) := by
  rw [show c_unwrap_net_solve_15 = .loop c_unwrap_net_solve_16 from by kernel_rfl, loop_r, q_L_unwrap_net_solve_0 call hs u NN]
theorem q_unwrap_net_solve_14 (call : FCall) (hs : FHs) (u : Nat) :
  fxK Try.prog pol NN call c_unwrap_net_solve_14 (AV × Mem) (k_unwrap_net_solve hs u) (fun s => B_unwrap_net_solve_0 call hs u (s.sl 3) s.m s.fc) eNil r_unwrap_net_solve = (fun s => L_unwrap_net_solve_0 call hs u NN (s.sl 3) (s.sl 6) (s.sl 26) (s.sl 27) (s.sl 28) s.m s.fc) := by
  rw [show c_unwrap_net_solve_14 = .block 2 c_unwrap_net_solve_15 from by kernel_rfl, block_r, q_unwrap_net_solve_15 call hs u]
theorem q_unwrap_net_solve_11 (call : FCall) (hs : FHs) (u : Nat) :
  fxK Try.prog pol NN call c_unwrap_net_solve_11 (AV × Mem) (k_unwrap_net_solve hs u) (fun s => B_unwrap_net_solve_0 call hs u (s.sl 3) s.m s.fc) eNil r_unwrap_net_solve = (fun s => B_unwrap_net_solve_6 call hs u (s.sl 3) (s.sl 5) (s.sl 6) s.m s.fc) := by
  rw [show c_unwrap_net_solve_11 = .seq c_unwrap_net_solve_13 c_unwrap_net_solve_14 from by kernel_rfl, seq_r]; rw [q_unwrap_net_solve_14 call hs u]; kernel_rfl
theorem q_unwrap_net_solve_10 (call : FCall) (hs : FHs) (u : Nat) :
  fxK Try.prog pol NN call c_unwrap_net_solve_10 (AV × Mem) (k_unwrap_net_solve hs u) r_unwrap_net_solve eNil r_unwrap_net_solve = (fun s => B_unwrap_net_solve_6 call hs u (s.sl 3) (s.sl 5) (s.sl 6) s.m s.fc) := by
  rw [show c_unwrap_net_solve_10 = .seq c_unwrap_net_solve_11 c_unwrap_net_solve_12 from by kernel_rfl, seq_r, q_unwrap_net_solve_12 call hs u, q_unwrap_net_solve_11 call hs u]
theorem q_unwrap_net_solve_6 (call : FCall) (hs : FHs) (u : Nat) :
  fxK Try.prog pol NN call c_unwrap_net_solve_6 (AV × Mem) (k_unwrap_net_solve hs u) r_unwrap_net_solve eNil r_unwrap_net_solve = (fun s => B_unwrap_net_solve_7 call hs u (s.sl 1) (s.sl 3) s.m s.fc) := by
  rw [show c_unwrap_net_solve_6 = .seq c_unwrap_net_solve_7 c_unwrap_net_solve_8 from by kernel_rfl, seq_r]; rw [show c_unwrap_net_solve_8 = .seq c_unwrap_net_solve_9 c_unwrap_net_solve_10 from by kernel_rfl, seq_r]; rw [q_unwrap_net_solve_10 call hs u]; kernel_rfl
theorem q_unwrap_net_solve_29 (call : FCall) (hs : FHs) (u : Nat) (rec1 : AV → AV → Mem → Nat → Option (AV × Mem)) :
  fxK Try.prog pol NN call c_unwrap_net_solve_29 (AV × Mem) (k_unwrap_net_solve hs u) (fun s => rec1 (s.sl 1) (s.sl 3) s.m s.fc) (setE 0 (fun s => B_unwrap_net_solve_7 call hs u (s.sl 1) (s.sl 3) s.m s.fc) eNil) r_unwrap_net_solve = (fun s => B_unwrap_net_solve_8 call hs u rec1 (s.sl 1) (s.sl 3) s.m s.fc) := by
  kernel_rfl
theorem q_L_unwrap_net_solve_1 (call : FCall) (hs : FHs) (u : Nat) : ∀ n : Nat,
  iter (fun rec => fxK Try.prog pol NN call c_unwrap_net_solve_29 (AV × Mem) (k_unwrap_net_solve hs u) rec (setE 0 (fun s => B_unwrap_net_solve_7 call hs u (s.sl 1) (s.sl 3) s.m s.fc) eNil) r_unwrap_net_solve) n = (fun s => L_unwrap_net_solve_1 call hs u n (s.sl 1) (s.sl 3) s.m s.fc)
  | 0 => rfl
  | n + 1 => by rw [iter_succ, q_L_unwrap_net_solve_1 call hs u n, q_unwrap_net_solve_29 call hs u (L_unwrap_net_solve_1 call hs u n)]; kernel_rfl
theorem q_unwrap_net_solve_28 (call : FCall) (hs : FHs) (u : Nat) :
  fxK Try.prog pol NN call c_unwrap_net_solve_28 (AV × Mem) (k_unwrap_net_solve hs u) (fun s => B_unwrap_net_solve_7 call hs u (s.sl 1) (s.sl 3) s.m s.fc) (setE 0 (fun s => B_unwrap_net_solve_7 call hs u (s.sl 1) (s.sl 3) s.m s.fc) eNil) r_unwrap_net_solve = (fun s => L_unwrap_net_solve_1 call hs u NN (s.sl 1) (s.sl 3) s.m s.fc) := by
  rw [show c_unwrap_net_solve_28 = .loop c_unwrap_net_solve_29 from by kernel_rfl, loop_r, q_L_unwrap_net_solve_1 call hs u NN]
theorem q_unwrap_net_solve_5 (call : FCall) (hs : FHs) (u : Nat) :
  fxK Try.prog pol NN call c_unwrap_net_solve_5 (AV × Mem) (k_unwrap_net_solve hs u) (fun s => B_unwrap_net_solve_7 call hs u (s.sl 1) (s.sl 3) s.m s.fc) eNil r_unwrap_net_solve = (fun s => L_unwrap_net_solve_1 call hs u NN (s.sl 1) (s.sl 3) s.m s.fc) := by
  rw [show c_unwrap_net_solve_5 = .block 0 c_unwrap_net_solve_28 from by kernel_rfl, block_r, q_unwrap_net_solve_28 call hs u]
theorem q_unwrap_net_solve_4 (call : FCall) (hs : FHs) (u : Nat) :
  fxK Try.prog pol NN call c_unwrap_net_solve_4 (AV × Mem) (k_unwrap_net_solve hs u) r_unwrap_net_solve eNil r_unwrap_net_solve = (fun s => L_unwrap_net_solve_1 call hs u NN (s.sl 1) (s.sl 3) s.m s.fc) := by
  rw [show c_unwrap_net_solve_4 = .seq c_unwrap_net_solve_5 c_unwrap_net_solve_6 from by kernel_rfl, seq_r, q_unwrap_net_solve_6 call hs u, q_unwrap_net_solve_5 call hs u]
theorem q_unwrap_net_solve_0 (call : FCall) (hs : FHs) (u : Nat) :
  fxK Try.prog pol NN call c_unwrap_net_solve_0 (AV × Mem) (k_unwrap_net_solve hs u) r_unwrap_net_solve eNil r_unwrap_net_solve = (fun s => B_unwrap_net_solve_9 call hs u (s.sl 0) s.m s.fc) := by
  rw [show c_unwrap_net_solve_0 = .seq c_unwrap_net_solve_1 c_unwrap_net_solve_2 from by kernel_rfl, seq_r]; rw [show c_unwrap_net_solve_2 = .seq c_unwrap_net_solve_3 c_unwrap_net_solve_4 from by kernel_rfl, seq_r]; rw [q_unwrap_net_solve_4 call hs u]; kernel_rfl
theorem F_unwrap_net_solve_eq (call : FCall) (hs : FHs) (t0 : AV) (m : Mem) : fxBody Try.prog pol NN call hs n_unwrap_net_solve [t0] m = F_unwrap_net_solve call hs [t0] m := by
  rw [fxBody_at (fn := Try.f64) (body := c_unwrap_net_solve_0) (nt := 64) (rs := [.tmp 2]) (by kernel_rfl) (by kernel_rfl) (by kernel_rfl) (by kernel_rfl) (by kernel_rfl) (by kernel_rfl)]
  exact (congrFun (q_unwrap_net_solve_0 call hs m.next) _).trans (by kernel_rfl)
theorem F_unwrap_net_solve_le (call : FCall) (hs : FHs) (args : List AV) (m : Mem) (r : AV × Mem) (h : F_unwrap_net_solve call hs args m = some r) : fxBody Try.prog pol NN call hs n_unwrap_net_solve args m = some r := by
  unfold F_unwrap_net_solve at h
  split at h
  · rw [F_unwrap_net_solve_eq]; exact h
  · cases h

/- (swath/unwrap.net).cost -/
abbrev k_unwrap_net_cost (hs : FHs) (u : Nat) : FCtx := { f := n_unwrap_net_cost, u := u, nt := 27, hs := hs }
noncomputable abbrev r_unwrap_net_cost : Fs → Option (AV × Mem) := fxRes Try.prog [.tmp 4]
noncomputable def c_unwrap_net_cost_0 : Code := nav (bodyOf n_unwrap_net_cost) []
noncomputable def c_unwrap_net_cost_1 : Code := nav (bodyOf n_unwrap_net_cost) [false]
noncomputable def c_unwrap_net_cost_2 : Code := nav (bodyOf n_unwrap_net_cost) [true]
noncomputable def c_unwrap_net_cost_3 : Code := nav (bodyOf n_unwrap_net_cost) [true, false]
noncomputable def c_unwrap_net_cost_4 : Code := nav (bodyOf n_unwrap_net_cost) [true, true]
noncomputable def c_unwrap_net_cost_5 : Code := nav (bodyOf n_unwrap_net_cost) [true, true, false]
noncomputable def c_unwrap_net_cost_6 : Code := nav (bodyOf n_unwrap_net_cost) [true, true, true]
noncomputable def c_unwrap_net_cost_7 : Code := nav (bodyOf n_unwrap_net_cost) [true, true, false, false]
noncomputable def c_unwrap_net_cost_8 : Code := nav (bodyOf n_unwrap_net_cost) [true, true, false, true]
noncomputable def c_unwrap_net_cost_9 : Code := nav (bodyOf n_unwrap_net_cost) [true, true, false, true, false]
noncomputable def c_unwrap_net_cost_10 : Code := nav (bodyOf n_unwrap_net_cost) [true, true, false, true, false, false]
theorem q_unwrap_net_cost_6 (call : FCall) (hs : FHs) (u : Nat) :
  fxK Try.prog pol NN call c_unwrap_net_cost_6 (AV × Mem) (k_unwrap_net_cost hs u) r_unwrap_net_cost eNil r_unwrap_net_cost = (fun s => B_unwrap_net_cost_0 call hs u (s.sl 5) s.m s.fc) := by
  kernel_rfl
theorem q_unwrap_net_cost_10 (call : FCall) (hs : FHs) (u : Nat) (rec0 : AV → AV → AV → AV → AV → Mem → Nat → Option (AV × Mem)) :
  fxK Try.prog pol NN call c_unwrap_net_cost_10 (AV × Mem) (k_unwrap_net_cost hs u) (fun s => rec0 (s.sl 1) (s.sl 5) (s.sl 10) (s.sl 11) (s.sl 12) s.m s.fc) (setE 0 (fun s => B_unwrap_net_cost_0 call hs u (s.sl 5) s.m s.fc) eNil) r_unwrap_net_cost = (fun s => B_unwrap_net_cost_1 call hs u rec0 (s.sl 1) (s.sl 5) (s.sl 10) (s.sl 11) (s.sl 12) s.m s.fc) := by
  kernel_rfl
theorem q_L_unwrap_net_cost_0 (call : FCall) (hs : FHs) (u : Nat) : ∀ n : Nat,
  iter (fun rec => fxK Try.prog pol NN call c_unwrap_net_cost_10 (AV × Mem) (k_unwrap_net_cost hs u) rec (setE 0 (fun s => B_unwrap_net_cost_0 call hs u (s.sl 5) s.m s.fc) eNil) r_unwrap_net_cost) n = (fun s => L_unwrap_net_cost_0 call hs u n (s.sl 1) (s.sl 5) (s.sl 10) (s.sl 11) (s.sl 12) s.m s.fc)
  | 0 => rfl
  | n + 1 => by rw [iter_succ, q_L_unwrap_net_cost_0 call hs u n, q_unwrap_net_cost_10 call hs u (L_unwrap_net_cost_0 call hs u n)]; kernel_rfl
theorem q_unwrap_net_cost_9 (call : FCall) (hs : FHs) (u : Nat) :
  fxK Try.prog pol NN call c_unwrap_net_cost_9 (AV × Mem) (k_unwrap_net_cost hs u) (fun s => B_unwrap_net_cost_0 call hs u (s.sl 5) s.m s.fc) (setE 0 (fun s => B_unwrap_net_cost_0 call hs u (s.sl 5) s.m s.fc) eNil) r_unwrap_net_cost = (fun s => L_unwrap_net_cost_0 call hs u NN (s.sl 1) (s.sl 5) (s.sl 10) (s.sl 11) (s.sl 12) s.m s.fc) := by
  rw [show c_unwrap_net_cost_9 = .loop c_unwrap_net_cost_10 from by kernel_rfl, loop_r, q_L_unwrap_net_cost_0 call hs u NN]
theorem q_unwrap_net_cost_8 (call : FCall) (hs : FHs) (u : Nat) :
  fxK Try.prog pol NN call c_unwrap_net_cost_8 (AV × Mem) (k_unwrap_net_cost hs u) (fun s => B_unwrap_net_cost_0 call hs u (s.sl 5) s.m s.fc) eNil r_unwrap_net_cost = (fun s => L_unwrap_net_cost_0 call hs u NN (s.sl 1) (s.sl 5) (s.sl 10) (s.sl 11) (s.sl 12) s.m s.fc) := by
  rw [show c_unwrap_net_cost_8 = .block 0 c_unwrap_net_cost_9 from by kernel_rfl, block_r, q_unwrap_net_cost_9 call hs u]
theorem q_unwrap_net_cost_5 (call : FCall) (hs : FHs) (u : Nat) :
  fxK Try.prog pol NN call c_unwrap_net_cost_5 (AV × Mem) (k_unwrap_net_cost hs u) (fun s => B_unwrap_net_cost_0 call hs u (s.sl 5) s.m s.fc) eNil r_unwrap_net_cost = (fun s => B_unwrap_net_cost_2 call hs u (s.sl 1) (s.sl 2) (s.sl 5) s.m s.fc) := by
  rw [show c_unwrap_net_cost_5 = .seq c_unwrap_net_cost_7 c_unwrap_net_cost_8 from by kernel_rfl, seq_r]; rw [q_unwrap_net_cost_8 call hs u]; kernel_rfl
theorem q_unwrap_net_cost_4 (call : FCall) (hs : FHs) (u : Nat) :
  fxK Try.prog pol NN call c_unwrap_net_cost_4 (AV × Mem) (k_unwrap_net_cost hs u) r_unwrap_net_cost eNil r_unwrap_net_cost = (fun s => B_unwrap_net_cost_2 call hs u (s.sl 1) (s.sl 2) (s.sl 5) s.m s.fc) := by
  rw [show c_unwrap_net_cost_4 = .seq c_unwrap_net_cost_5 c_unwrap_net_cost_6 from by kernel_rfl, seq_r, q_unwrap_net_cost_6 call hs u, q_unwrap_net_cost_5 call hs u]
theorem q_unwrap_net_cost_0 (call : FCall) (hs : FHs) (u : Nat) :
  fxK Try.prog pol NN call c_unwrap_net_cost_0 (AV × Mem) (k_unwrap_net_cost hs u) r_unwrap_net_cost eNil r_unwrap_net_cost = (fun s => B_unwrap_net_cost_3 call hs u (s.sl 0) (s.sl 1) s.m s.fc) := by
  rw [show c_unwrap_net_cost_0 = .seq c_unwrap_net_cost_1 c_unwrap_net_cost_2 from by kernel_rfl, seq_r]; rw [show c_unwrap_net_cost_2 = .seq c_unwrap_net_cost_3 c_unwrap_net_cost_4 from by kernel_rfl, seq_r]; rw [q_unwrap_net_cost_4 call hs u]; kernel_rfl
theorem F_unwrap_net_cost_eq (call : FCall) (hs : FHs) (t0 t1 : AV) (m : Mem) : fxBody Try.prog pol NN call hs n_unwrap_net_cost [t0, t1] m = F_unwrap_net_cost call hs [t0, t1] m := by
  rw [fxBody_at (fn := Try.f65) (body := c_unwrap_net_cost_0) (nt := 27) (rs := [.tmp 4]) (by kernel_rfl) (by kernel_rfl) (by kernel_rfl) (by kernel_rfl) (by kernel_rfl) (by kernel_rfl)]
  exact (congrFun (q_unwrap_net_cost_0 call hs m.next) _).trans (by kernel_rfl)
theorem F_unwrap_net_cost_le (call : FCall) (hs : FHs) (args : List AV) (m : Mem) (r : AV × Mem) (h : F_unwrap_net_cost call hs args m = some r) : fxBody Try.prog pol NN call hs n_unwrap_net_cost args m = some r := by
  unfold F_unwrap_net_cost at h
  split at h
  · rw [F_unwrap_net_cost_eq]; exact h
  · cases h

/- swath/swathref05.CheckNet -/
abbrev k_ref05_CheckNet (hs : FHs) (u : Nat) : FCtx := { f := n_ref05_CheckNet, u := u, nt := 60, hs := hs }
noncomputable abbrev r_ref05_CheckNet : Fs → Option (AV × Mem) := fxRes Try.prog [.tmp 2, .tmp 3]
noncomputable def c_ref05_CheckNet_0 : Code := nav (bodyOf n_ref05_CheckNet) []
noncomputable def c_ref05_CheckNet_1 : Code := nav (bodyOf n_ref05_CheckNet) [false]
noncomputable def c_ref05_CheckNet_2 : Code := nav (bodyOf n_ref05_CheckNet) [true]
noncomputable def c_ref05_CheckNet_3 : Code := nav (bodyOf n_ref05_CheckNet) [true, false]
noncomputable def c_ref05_CheckNet_4 : Code := nav (bodyOf n_ref05_CheckNet) [true, true]
noncomputable def c_ref05_CheckNet_5 : Code := nav (bodyOf n_ref05_CheckNet) [true, true, false]
noncomputable def c_ref05_CheckNet_6 : Code := nav (bodyOf n_ref05_CheckNet) [true, true, true]
noncomputable def c_ref05_CheckNet_7 : Code := nav (bodyOf n_ref05_CheckNet) [true, true, true, false]
noncomputable def c_ref05_CheckNet_8 : Code := nav (bodyOf n_ref05_CheckNet) [true, true, true, true]
noncomputable def c_ref05_CheckNet_9 : Code := nav (bodyOf n_ref05_CheckNet) [true, true, true, false, false]
noncomputable def c_ref05_CheckNet_10 : Code := nav (bodyOf n_ref05_CheckNet) [true, true, true, false, true]
noncomputable def c_ref05_CheckNet_11 : Code := nav (bodyOf n_ref05_CheckNet) [true, true, true, false, true, false]
noncomputable def c_ref05_CheckNet_12 : Code := nav (bodyOf n_ref05_CheckNet) [true, true, true, false, true, false, false]
theorem q_ref05_CheckNet_8 (call : FCall) (hs : FHs) (u : Nat) :
  fxK Try.prog pol NN call c_ref05_CheckNet_8 (AV × Mem) (k_ref05_CheckNet hs u) r_ref05_CheckNet eNil r_ref05_CheckNet = (fun s => B_ref05_CheckNet_0 call hs u s.m s.fc) := by
  kernel_rfl
theorem q_ref05_CheckNet_12 (call : FCall) (hs : FHs) (u : Nat) (rec0 : AV → AV → Mem → Nat → Option (AV × Mem)) :
  fxK Try.prog pol NN call c_ref05_CheckNet_12 (AV × Mem) (k_ref05_CheckNet hs u) (fun s => rec0 (s.sl 1) (s.sl 4) s.m s.fc) (setE 0 (fun s => B_ref05_CheckNet_0 call hs u s.m s.fc) eNil) r_ref05_CheckNet = (fun s => B_ref05_CheckNet_1 call hs u rec0 (s.sl 1) (s.sl 4) s.m s.fc) := by
  kernel_rfl
theorem q_L_ref05_CheckNet_0 (call : FCall) (hs : FHs) (u : Nat) : ∀ n : Nat,
  iter (fun rec => fxK Try.prog pol NN call c_ref05_CheckNet_12 (AV × Mem) (k_ref05_CheckNet hs u) rec (setE 0 (fun s => B_ref05_CheckNet_0 call hs u s.m s.fc) eNil) r_ref05_CheckNet) n = (fun s => L_ref05_CheckNet_0 call hs u n (s.sl 1) (s.sl 4) s.m s.fc)
  | 0 => rfl
  | n + 1 => by rw [iter_succ, q_L_ref05_CheckNet_0 call hs u n, q_ref05_CheckNet_12 call hs u (L_ref05_CheckNet_0 call hs u n)]; kernel_rfl
theorem q_ref05_CheckNet_11 (call : FCall) (hs : FHs) (u : Nat) :
  fxK Try.prog pol NN call c_ref05_CheckNet_11 (AV × Mem) (k_ref05_CheckNet hs u) (fun s => B_ref05_CheckNet_0 call hs u s.m s.fc) (setE 0 (fun s => B_ref05_CheckNet_0 call hs u s.m s.fc) eNil) r_ref05_CheckNet = (fun s => L_ref05_CheckNet_0 call hs u NN (s.sl 1) (s.sl 4) s.m s.fc) := by
  rw [show c_ref05_CheckNet_11 = .loop c_ref05_CheckNet_12 from by kernel_rfl, loop_r, q_L_ref05_CheckNet_0 call hs u NN]
theorem q_ref05_CheckNet_10 (call : FCall) (hs : FHs) (u : Nat) :
  fxK Try.prog pol NN call c_ref05_CheckNet_10 (AV × Mem) (k_ref05_CheckNet hs u) (fun s => B_ref05_CheckNet_0 call hs u s.m s.fc) eNil r_ref05_CheckNet = (fun s => L_ref05_CheckNet_0 call hs u NN (s.sl 1) (s.sl 4) s.m s.fc) := by
  rw [show c_ref05_CheckNet_10 = .block 0 c_ref05_CheckNet_11 from by kernel_rfl, block_r, q_ref05_CheckNet_11 call hs u]
theorem q_ref05_CheckNet_7 (call : FCall) (hs : FHs) (u : Nat) :
  fxK Try.prog pol NN call c_ref05_CheckNet_7 (AV × Mem) (k_ref05_CheckNet hs u) (fun s => B_ref05_CheckNet_0 call hs u s.m s.fc) eNil r_ref05_CheckNet = (fun s => B_ref05_CheckNet_2 call hs u (s.sl 1) s.m s.fc) := by
  rw [show c_ref05_CheckNet_7 = .seq c_ref05_CheckNet_9 c_ref05_CheckNet_10 from by kernel_rfl, seq_r]; rw [q_ref05_CheckNet_10 call hs u]; kernel_rfl
theorem q_ref05_CheckNet_6 (call : FCall) (hs : FHs) (u : Nat) :
  fxK Try.prog pol NN call c_ref05_CheckNet_6 (AV × Mem) (k_ref05_CheckNet hs u) r_ref05_CheckNet eNil r_ref05_CheckNet = (fun s => B_ref05_CheckNet_2 call hs u (s.sl 1) s.m s.fc) := by
  rw [show c_ref05_CheckNet_6 = .seq c_ref05_CheckNet_7 c_ref05_CheckNet_8 from by kernel_rfl, seq_r, q_ref05_CheckNet_8 call hs u, q_ref05_CheckNet_7 call hs u]
theorem q_ref05_CheckNet_0 (call : FCall) (hs : FHs) (u : Nat) :
  fxK Try.prog pol NN call c_ref05_CheckNet_0 (AV × Mem) (k_ref05_CheckNet hs u) r_ref05_CheckNet eNil r_ref05_CheckNet = (fun s => B_ref05_CheckNet_3 call hs u (s.sl 0) s.m s.fc) := by
  rw [show c_ref05_CheckNet_0 = .seq c_ref05_CheckNet_1 c_ref05_CheckNet_2 from by kernel_rfl, seq_r]; rw [show c_ref05_CheckNet_2 = .seq c_ref05_CheckNet_3 c_ref05_CheckNet_4 from by kernel_rfl, seq_r]; rw [show c_ref05_CheckNet_4 = .seq c_ref05_CheckNet_5 c_ref05_CheckNet_6 from by kernel_rfl, seq_r]; rw [q_ref05_CheckNet_6 call hs u]; kernel_rfl
theorem F_ref05_CheckNet_eq (call : FCall) (hs : FHs) (t0 : AV) (m : Mem) : fxBody Try.prog pol NN call hs n_ref05_CheckNet [t0] m = F_ref05_CheckNet call hs [t0] m := by
  rw [fxBody_at (fn := Try.f66) (body := c_ref05_CheckNet_0) (nt := 60) (rs := [.tmp 2, .tmp 3]) (by kernel_rfl) (by kernel_rfl) (by kernel_rfl) (by kernel_rfl) (by kernel_rfl) (by kernel_rfl)]
  exact (congrFun (q_ref05_CheckNet_0 call hs m.next) _).trans (by kernel_rfl)
theorem F_ref05_CheckNet_le (call : FCall) (hs : FHs) (args : List AV) (m : Mem) (r : AV × Mem) (h : F_ref05_CheckNet call hs args m = some r) : fxBody Try.prog pol NN call hs n_ref05_CheckNet args m = some r := by
  unfold F_ref05_CheckNet at h
  split at h
  · rw [F_ref05_CheckNet_eq]; exact h
  · cases h

/- swath/unwrap.netOf -/
abbrev k_unwrap_netOf (hs : FHs) (u : Nat) : FCtx := { f := n_unwrap_netOf, u := u, nt := 71, hs := hs }
noncomputable abbrev r_unwrap_netOf : Fs → Option (AV × Mem) := fxRes Try.prog [.cell 2 y_api_UnwrapNet]
noncomputable def c_unwrap_netOf_0 : Code := nav (bodyOf n_unwrap_netOf) []
noncomputable def c_unwrap_netOf_1 : Code := nav (bodyOf n_unwrap_netOf) [false]
noncomputable def c_unwrap_netOf_2 : Code := nav (bodyOf n_unwrap_netOf) [true]
noncomputable def c_unwrap_netOf_3 : Code := nav (bodyOf n_unwrap_netOf) [true, false]
noncomputable def c_unwrap_netOf_4 : Code := nav (bodyOf n_unwrap_netOf) [true, true]
noncomputable def c_unwrap_netOf_5 : Code := nav (bodyOf n_unwrap_netOf) [true, true, false]
noncomputable def c_unwrap_netOf_6 : Code := nav (bodyOf n_unwrap_netOf) [true, true, true]
noncomputable def c_unwrap_netOf_7 : Code := nav (bodyOf n_unwrap_netOf) [true, true, true, false]
noncomputable def c_unwrap_netOf_8 : Code := nav (bodyOf n_unwrap_netOf) [true, true, true, true]
noncomputable def c_unwrap_netOf_9 : Code := nav (bodyOf n_unwrap_netOf) [true, true, true, true, false]
noncomputable def c_unwrap_netOf_10 : Code := nav (bodyOf n_unwrap_netOf) [true, true, true, true, true]
noncomputable def c_unwrap_netOf_11 : Code := nav (bodyOf n_unwrap_netOf) [true, true, true, true, false, false]
noncomputable def c_unwrap_netOf_12 : Code := nav (bodyOf n_unwrap_netOf) [true, true, true, true, false, true]
noncomputable def c_unwrap_netOf_13 : Code := nav (bodyOf n_unwrap_netOf) [true, true, true, true, false, true, false]
noncomputable def c_unwrap_netOf_14 : Code := nav (bodyOf n_unwrap_netOf) [true, true, true, true, false, true, false, false]
noncomputable def c_unwrap_netOf_15 : Code := nav (bodyOf n_unwrap_netOf) [true, true, true, true, false, true, false, true]
theorem q_unwrap_netOf_10 (call : FCall) (hs : FHs) (u : Nat) :
  fxK Try.prog pol NN call c_unwrap_netOf_10 (AV × Mem) (k_unwrap_netOf hs u) r_unwrap_netOf eNil r_unwrap_netOf = (fun s => B_unwrap_netOf_0 call hs u (s.sl 2) (s.sl 4) s.m s.fc) := by
  kernel_rfl
theorem q_unwrap_netOf_15 (call : FCall) (hs : FHs) (u : Nat) :
  fxK Try.prog pol NN call c_unwrap_netOf_15 Mem (k_unwrap_netOf hs u) (fun s => some s.m) eNil fNil = (fun s => B_unwrap_netOf_1 call hs u (s.sl 3) (s.sl 4) (s.sl 5) (s.sl 6) (s.sl 7) s.m s.fc) := by
  kernel_rfl
theorem q_unwrap_netOf_14 (call : FCall) (hs : FHs) (u : Nat) :
  fxK Try.prog pol NN call c_unwrap_netOf_14 Mem (k_unwrap_netOf hs u) (fun s => B_unwrap_netOf_1 call hs u (s.sl 3) (s.sl 4) (s.sl 5) (s.sl 6) (s.sl 7) s.m s.fc) eNil fNil = (fun s => B_unwrap_netOf_2 call hs u (s.sl 3) (s.sl 4) (s.sl 5) (s.sl 27) (s.sl 28) s.m s.fc) := by
  kernel_rfl
theorem q_unwrap_netOf_13 (call : FCall) (hs : FHs) (u : Nat) :
  fxK Try.prog pol NN call c_unwrap_netOf_13 (AV × Mem) (k_unwrap_netOf hs u) (fun s => B_unwrap_netOf_0 call hs u (s.sl 2) (s.sl 4) s.m s.fc) (setE 0 (fun s => B_unwrap_netOf_0 call hs u (s.sl 2) (s.sl 4) s.m s.fc) eNil) r_unwrap_netOf = (fun s => B_unwrap_netOf_3 call hs u (s.sl 2) (s.sl 3) (s.sl 4) (s.sl 5) (s.sl 26) s.m s.fc) := by
  rw [show c_unwrap_netOf_13 = .rangeFunc (.tmp 26) #[27, 28] c_unwrap_netOf_14 c_unwrap_netOf_15 from by kernel_rfl, rng_r (H := fun u s => B_unwrap_netOf_2 call hs u (s.sl 3) (s.sl 4) (s.sl 5) (s.sl 27) (s.sl 28) s.m s.fc) (by intro u; exact (congrArg (fun Y => fxK Try.prog pol NN call c_unwrap_netOf_14 Mem (k_unwrap_netOf hs u) Y eNil fNil) (q_unwrap_netOf_15 call hs u)).trans (q_unwrap_netOf_14 call hs u))]; kernel_rfl
theorem q_unwrap_netOf_12 (call : FCall) (hs : FHs) (u : Nat) :
  fxK Try.prog pol NN call c_unwrap_netOf_12 (AV × Mem) (k_unwrap_netOf hs u) (fun s => B_unwrap_netOf_0 call hs u (s.sl 2) (s.sl 4) s.m s.fc) eNil r_unwrap_netOf = (fun s => B_unwrap_netOf_3 call hs u (s.sl 2) (s.sl 3) (s.sl 4) (s.sl 5) (s.sl 26) s.m s.fc) := by
  rw [show c_unwrap_netOf_12 = .block 0 c_unwrap_netOf_13 from by kernel_rfl, block_r, q_unwrap_netOf_13 call hs u]
theorem q_unwrap_netOf_9 (call : FCall) (hs : FHs) (u : Nat) :
  fxK Try.prog pol NN call c_unwrap_netOf_9 (AV × Mem) (k_unwrap_netOf hs u) (fun s => B_unwrap_netOf_0 call hs u (s.sl 2) (s.sl 4) s.m s.fc) eNil r_unwrap_netOf = (fun s => B_unwrap_netOf_4 call hs u (s.sl 2) (s.sl 3) (s.sl 4) (s.sl 5) s.m s.fc) := by
  rw [show c_unwrap_netOf_9 = .seq c_unwrap_netOf_11 c_unwrap_netOf_12 from by kernel_rfl, seq_r]; rw [q_unwrap_netOf_12 call hs u]; kernel_rfl
theorem q_unwrap_netOf_8 (call : FCall) (hs : FHs) (u : Nat) :
  fxK Try.prog pol NN call c_unwrap_netOf_8 (AV × Mem) (k_unwrap_netOf hs u) r_unwrap_netOf eNil r_unwrap_netOf = (fun s => B_unwrap_netOf_4 call hs u (s.sl 2) (s.sl 3) (s.sl 4) (s.sl 5) s.m s.fc) := by
  rw [show c_unwrap_netOf_8 = .seq c_unwrap_netOf_9 c_unwrap_netOf_10 from by kernel_rfl, seq_r, q_unwrap_netOf_10 call hs u, q_unwrap_netOf_9 call hs u]
theorem q_unwrap_netOf_0 (call : FCall) (hs : FHs) (u : Nat) :
  fxK Try.prog pol NN call c_unwrap_netOf_0 (AV × Mem) (k_unwrap_netOf hs u) r_unwrap_netOf eNil r_unwrap_netOf = (fun s => B_unwrap_netOf_5 call hs u (s.sl 0) s.m s.fc) := by
  rw [show c_unwrap_netOf_0 = .seq c_unwrap_netOf_1 c_unwrap_netOf_2 from by kernel_rfl, seq_r]; rw [show c_unwrap_netOf_2 = .seq c_unwrap_netOf_3 c_unwrap_netOf_4 from by kernel_rfl, seq_r]; rw [show c_unwrap_netOf_4 = .seq c_unwrap_netOf_5 c_unwrap_netOf_6 from by kernel_rfl, seq_r]; rw [show c_unwrap_netOf_6 = .seq c_unwrap_netOf_7 c_unwrap_netOf_8 from by kernel_rfl, seq_r]; rw [q_unwrap_netOf_8 call hs u]; kernel_rfl
theorem F_unwrap_netOf_eq (call : FCall) (hs : FHs) (t0 : AV) (m : Mem) : fxBody Try.prog pol NN call hs n_unwrap_netOf [t0] m = F_unwrap_netOf call hs [t0] m := by
  rw [fxBody_at (fn := Try.f69) (body := c_unwrap_netOf_0) (nt := 71) (rs := [.cell 2 y_api_UnwrapNet]) (by kernel_rfl) (by kernel_rfl) (by kernel_rfl) (by kernel_rfl) (by kernel_rfl) (by kernel_rfl)]
  exact (congrFun (q_unwrap_netOf_0 call hs m.next) _).trans (by kernel_rfl)
theorem F_unwrap_netOf_le (call : FCall) (hs : FHs) (args : List AV) (m : Mem) (r : AV × Mem) (h : F_unwrap_netOf call hs args m = some r) : fxBody Try.prog pol NN call hs n_unwrap_netOf args m = some r := by
  unfold F_unwrap_netOf at h
  split at h
  · rw [F_unwrap_netOf_eq]; exact h
  · cases h

/- swath/swathref05.sizeErr -/
abbrev k_ref05_sizeErr (hs : FHs) (u : Nat) : FCtx := { f := n_ref05_sizeErr, u := u, nt := 20, hs := hs }
noncomputable abbrev r_ref05_sizeErr : Fs → Option (AV × Mem) := fxRes Try.prog [.tmp 6]
noncomputable def c_ref05_sizeErr_0 : Code := nav (bodyOf n_ref05_sizeErr) []
theorem q_ref05_sizeErr_0 (call : FCall) (hs : FHs) (u : Nat) :
  fxK Try.prog pol NN call c_ref05_sizeErr_0 (AV × Mem) (k_ref05_sizeErr hs u) r_ref05_sizeErr eNil r_ref05_sizeErr = (fun s => B_ref05_sizeErr_0 call hs u (s.sl 0) (s.sl 1) (s.sl 2) s.m s.fc) := by
  kernel_rfl
theorem F_ref05_sizeErr_eq (call : FCall) (hs : FHs) (t0 t1 t2 : AV) (m : Mem) : fxBody Try.prog pol NN call hs n_ref05_sizeErr [t0, t1, t2] m = F_ref05_sizeErr call hs [t0, t1, t2] m := by
  rw [fxBody_at (fn := Try.f70) (body := c_ref05_sizeErr_0) (nt := 20) (rs := [.tmp 6]) (by kernel_rfl) (by kernel_rfl) (by kernel_rfl) (by kernel_rfl) (by kernel_rfl) (by kernel_rfl)]
  exact (congrFun (q_ref05_sizeErr_0 call hs m.next) _).trans (by kernel_rfl)
theorem F_ref05_sizeErr_le (call : FCall) (hs : FHs) (args : List AV) (m : Mem) (r : AV × Mem) (h : F_ref05_sizeErr call hs args m = some r) : fxBody Try.prog pol NN call hs n_ref05_sizeErr args m = some r := by
  unfold F_ref05_sizeErr at h
  split at h
  · rw [F_ref05_sizeErr_eq]; exact h
  · cases h

/- swath/swathref05.wrappedErr -/
abbrev k_ref05_wrappedErr (hs : FHs) (u : Nat) : FCtx := { f := n_ref05_wrappedErr, u := u, nt := 23, hs := hs }
noncomputable abbrev r_ref05_wrappedErr : Fs → Option (AV × Mem) := fxRes Try.prog [.tmp 2]
noncomputable def c_ref05_wrappedErr_0 : Code := nav (bodyOf n_ref05_wrappedErr) []
noncomputable def c_ref05_wrappedErr_1 : Code := nav (bodyOf n_ref05_wrappedErr) [false]
noncomputable def c_ref05_wrappedErr_2 : Code := nav (bodyOf n_ref05_wrappedErr) [true]
noncomputable def c_ref05_wrappedErr_3 : Code := nav (bodyOf n_ref05_wrappedErr) [true, false]
noncomputable def c_ref05_wrappedErr_4 : Code := nav (bodyOf n_ref05_wrappedErr) [true, true]
noncomputable def c_ref05_wrappedErr_5 : Code := nav (bodyOf n_ref05_wrappedErr) [true, false, false]
noncomputable def c_ref05_wrappedErr_6 : Code := nav (bodyOf n_ref05_wrappedErr) [true, false, true]
noncomputable def c_ref05_wrappedErr_7 : Code := nav (bodyOf n_ref05_wrappedErr) [true, false, true, false]
noncomputable def c_ref05_wrappedErr_8 : Code := nav (bodyOf n_ref05_wrappedErr) [true, false, true, false, false]
theorem q_ref05_wrappedErr_4 (call : FCall) (hs : FHs) (u : Nat) :
  fxK Try.prog pol NN call c_ref05_wrappedErr_4 (AV × Mem) (k_ref05_wrappedErr hs u) r_ref05_wrappedErr eNil r_ref05_wrappedErr = (fun s => B_ref05_wrappedErr_0 call hs u s.m s.fc) := by
  kernel_rfl
theorem q_ref05_wrappedErr_8 (call : FCall) (hs : FHs) (u : Nat) (rec0 : AV → AV → Mem → Nat → Option (AV × Mem)) :
  fxK Try.prog pol NN call c_ref05_wrappedErr_8 (AV × Mem) (k_ref05_wrappedErr hs u) (fun s => rec0 (s.sl 0) (s.sl 3) s.m s.fc) (setE 0 (fun s => B_ref05_wrappedErr_0 call hs u s.m s.fc) eNil) r_ref05_wrappedErr = (fun s => B_ref05_wrappedErr_1 call hs u rec0 (s.sl 0) (s.sl 3) s.m s.fc) := by
  kernel_rfl
theorem q_L_ref05_wrappedErr_0 (call : FCall) (hs : FHs) (u : Nat) : ∀ n : Nat,
  iter (fun rec => fxK Try.prog pol NN call c_ref05_wrappedErr_8 (AV × Mem) (k_ref05_wrappedErr hs u) rec (setE 0 (fun s => B_ref05_wrappedErr_0 call hs u s.m s.fc) eNil) r_ref05_wrappedErr) n = (fun s => L_ref05_wrappedErr_0 call hs u n (s.sl 0) (s.sl 3) s.m s.fc)
  | 0 => rfl
  | n + 1 => by rw [iter_succ, q_L_ref05_wrappedErr_0 call hs u n, q_ref05_wrappedErr_8 call hs u (L_ref05_wrappedErr_0 call hs u n)]; kernel_rfl
theorem q_ref05_wrappedErr_7 (call : FCall) (hs : FHs) (u : Nat) :
  fxK Try.prog pol NN call c_ref05_wrappedErr_7 (AV × Mem) (k_ref05_wrappedErr hs u) (fun s => B_ref05_wrappedErr_0 call hs u s.m s.fc) (setE 0 (fun s => B_ref05_wrappedErr_0 call hs u s.m s.fc) eNil) r_ref05_wrappedErr = (fun s => L_ref05_wrappedErr_0 call hs u NN (s.sl 0) (s.sl 3) s.m s.fc) := by
  rw [show c_ref05_wrappedErr_7 = .loop c_ref05_wrappedErr_8 from by kernel_rfl, loop_r, q_L_ref05_wrappedErr_0 call hs u NN]
theorem q_ref05_wrappedErr_6 (call : FCall) (hs : FHs) (u : Nat) :
  fxK Try.prog pol NN call c_ref05_wrappedErr_6 (AV × Mem) (k_ref05_wrappedErr hs u) (fun s => B_ref05_wrappedErr_0 call hs u s.m s.fc) eNil r_ref05_wrappedErr = (fun s => L_ref05_wrappedErr_0 call hs u NN (s.sl 0) (s.sl 3) s.m s.fc) := by
  rw [show c_ref05_wrappedErr_6 = .block 0 c_ref05_wrappedErr_7 from by kernel_rfl, block_r, q_ref05_wrappedErr_7 call hs u]
theorem q_ref05_wrappedErr_3 (call : FCall) (hs : FHs) (u : Nat) :
  fxK Try.prog pol NN call c_ref05_wrappedErr_3 (AV × Mem) (k_ref05_wrappedErr hs u) (fun s => B_ref05_wrappedErr_0 call hs u s.m s.fc) eNil r_ref05_wrappedErr = (fun s => B_ref05_wrappedErr_2 call hs u (s.sl 0) s.m s.fc) := by
  rw [show c_ref05_wrappedErr_3 = .seq c_ref05_wrappedErr_5 c_ref05_wrappedErr_6 from by kernel_rfl, seq_r]; rw [q_ref05_wrappedErr_6 call hs u]; kernel_rfl
theorem q_ref05_wrappedErr_2 (call : FCall) (hs : FHs) (u : Nat) :
  fxK Try.prog pol NN call c_ref05_wrappedErr_2 (AV × Mem) (k_ref05_wrappedErr hs u) r_ref05_wrappedErr eNil r_ref05_wrappedErr = (fun s => B_ref05_wrappedErr_2 call hs u (s.sl 0) s.m s.fc) := by
  rw [show c_ref05_wrappedErr_2 = .seq c_ref05_wrappedErr_3 c_ref05_wrappedErr_4 from by kernel_rfl, seq_r, q_ref05_wrappedErr_4 call hs u, q_ref05_wrappedErr_3 call hs u]
theorem q_ref05_wrappedErr_0 (call : FCall) (hs : FHs) (u : Nat) :
  fxK Try.prog pol NN call c_ref05_wrappedErr_0 (AV × Mem) (k_ref05_wrappedErr hs u) r_ref05_wrappedErr eNil r_ref05_wrappedErr = (fun s => B_ref05_wrappedErr_3 call hs u (s.sl 0) s.m s.fc) := by
  rw [show c_ref05_wrappedErr_0 = .seq c_ref05_wrappedErr_1 c_ref05_wrappedErr_2 from by kernel_rfl, seq_r]; rw [q_ref05_wrappedErr_2 call hs u]; kernel_rfl
theorem F_ref05_wrappedErr_eq (call : FCall) (hs : FHs) (t0 : AV) (m : Mem) : fxBody Try.prog pol NN call hs n_ref05_wrappedErr [t0] m = F_ref05_wrappedErr call hs [t0] m := by
  rw [fxBody_at (fn := Try.f71) (body := c_ref05_wrappedErr_0) (nt := 23) (rs := [.tmp 2]) (by kernel_rfl) (by kernel_rfl) (by kernel_rfl) (by kernel_rfl) (by kernel_rfl) (by kernel_rfl)]
  exact (congrFun (q_ref05_wrappedErr_0 call hs m.next) _).trans (by kernel_rfl)
theorem F_ref05_wrappedErr_le (call : FCall) (hs : FHs) (args : List AV) (m : Mem) (r : AV × Mem) (h : F_ref05_wrappedErr call hs args m = some r) : fxBody Try.prog pol NN call hs n_ref05_wrappedErr args m = some r := by
  unfold F_ref05_wrappedErr at h
  split at h
  · rw [F_ref05_wrappedErr_eq]; exact h
  · cases h

/- swath/unwrap.sizeErr -/
abbrev k_unwrap_sizeErr (hs : FHs) (u : Nat) : FCtx := { f := n_unwrap_sizeErr, u := u, nt := 22, hs := hs }
noncomputable abbrev r_unwrap_sizeErr : Fs → Option (AV × Mem) := fxRes Try.prog [.tmp 6]
noncomputable def c_unwrap_sizeErr_0 : Code := nav (bodyOf n_unwrap_sizeErr) []
theorem q_unwrap_sizeErr_0 (call : FCall) (hs : FHs) (u : Nat) :
  fxK Try.prog pol NN call c_unwrap_sizeErr_0 (AV × Mem) (k_unwrap_sizeErr hs u) r_unwrap_sizeErr eNil r_unwrap_sizeErr = (fun s => B_unwrap_sizeErr_0 call hs u (s.sl 0) (s.sl 1) (s.sl 2) s.m s.fc) := by
  kernel_rfl
theorem F_unwrap_sizeErr_eq (call : FCall) (hs : FHs) (t0 t1 t2 : AV) (m : Mem) : fxBody Try.prog pol NN call hs n_unwrap_sizeErr [t0, t1, t2] m = F_unwrap_sizeErr call hs [t0, t1, t2] m := by
  rw [fxBody_at (fn := Try.f72) (body := c_unwrap_sizeErr_0) (nt := 22) (rs := [.tmp 6]) (by kernel_rfl) (by kernel_rfl) (by kernel_rfl) (by kernel_rfl) (by kernel_rfl) (by kernel_rfl)]
  exact (congrFun (q_unwrap_sizeErr_0 call hs m.next) _).trans (by kernel_rfl)
theorem F_unwrap_sizeErr_le (call : FCall) (hs : FHs) (args : List AV) (m : Mem) (r : AV × Mem) (h : F_unwrap_sizeErr call hs args m = some r) : fxBody Try.prog pol NN call hs n_unwrap_sizeErr args m = some r := by
  unfold F_unwrap_sizeErr at h
  split at h
  · rw [F_unwrap_sizeErr_eq]; exact h
  · cases h

/- swath/unwrap.phasesErr -/
abbrev k_unwrap_phasesErr (hs : FHs) (u : Nat) : FCtx := { f := n_unwrap_phasesErr, u := u, nt := 9, hs := hs }
noncomputable abbrev r_unwrap_phasesErr : Fs → Option (AV × Mem) := fxRes Try.prog [.tmp 4]
noncomputable def c_unwrap_phasesErr_0 : Code := nav (bodyOf n_unwrap_phasesErr) []
theorem q_unwrap_phasesErr_0 (call : FCall) (hs : FHs) (u : Nat) :
  fxK Try.prog pol NN call c_unwrap_phasesErr_0 (AV × Mem) (k_unwrap_phasesErr hs u) r_unwrap_phasesErr eNil r_unwrap_phasesErr = (fun s => B_unwrap_phasesErr_0 call hs u (s.sl 0) (s.sl 1) s.m s.fc) := by
  kernel_rfl
theorem F_unwrap_phasesErr_eq (call : FCall) (hs : FHs) (t0 t1 : AV) (m : Mem) : fxBody Try.prog pol NN call hs n_unwrap_phasesErr [t0, t1] m = F_unwrap_phasesErr call hs [t0, t1] m := by
  rw [fxBody_at (fn := Try.f73) (body := c_unwrap_phasesErr_0) (nt := 9) (rs := [.tmp 4]) (by kernel_rfl) (by kernel_rfl) (by kernel_rfl) (by kernel_rfl) (by kernel_rfl) (by kernel_rfl)]
  exact (congrFun (q_unwrap_phasesErr_0 call hs m.next) _).trans (by kernel_rfl)
theorem F_unwrap_phasesErr_le (call : FCall) (hs : FHs) (args : List AV) (m : Mem) (r : AV × Mem) (h : F_unwrap_phasesErr call hs args m = some r) : fxBody Try.prog pol NN call hs n_unwrap_phasesErr args m = some r := by
  unfold F_unwrap_phasesErr at h
  split at h
  · rw [F_unwrap_phasesErr_eq]; exact h
  · cases h

/- swath/unwrap.isWrapped -/
abbrev k_unwrap_isWrapped (hs : FHs) (u : Nat) : FCtx := { f := n_unwrap_isWrapped, u := u, nt := 7, hs := hs }
noncomputable abbrev r_unwrap_isWrapped : Fs → Option (AV × Mem) := fxRes Try.prog [.tmp 2]
noncomputable def c_unwrap_isWrapped_0 : Code := nav (bodyOf n_unwrap_isWrapped) []
theorem q_unwrap_isWrapped_0 (call : FCall) (hs : FHs) (u : Nat) :
  fxK Try.prog pol NN call c_unwrap_isWrapped_0 (AV × Mem) (k_unwrap_isWrapped hs u) r_unwrap_isWrapped eNil r_unwrap_isWrapped = (fun s => B_unwrap_isWrapped_0 call hs u (s.sl 0) s.m s.fc) := by
  kernel_rfl
theorem F_unwrap_isWrapped_eq (call : FCall) (hs : FHs) (t0 : AV) (m : Mem) : fxBody Try.prog pol NN call hs n_unwrap_isWrapped [t0] m = F_unwrap_isWrapped call hs [t0] m := by
  rw [fxBody_at (fn := Try.f74) (body := c_unwrap_isWrapped_0) (nt := 7) (rs := [.tmp 2]) (by kernel_rfl) (by kernel_rfl) (by kernel_rfl) (by kernel_rfl) (by kernel_rfl) (by kernel_rfl)]
  exact (congrFun (q_unwrap_isWrapped_0 call hs m.next) _).trans (by kernel_rfl)
theorem F_unwrap_isWrapped_le (call : FCall) (hs : FHs) (args : List AV) (m : Mem) (r : AV × Mem) (h : F_unwrap_isWrapped call hs args m = some r) : fxBody Try.prog pol NN call hs n_unwrap_isWrapped args m = some r := by
  unfold F_unwrap_isWrapped at h
  split at h
  · rw [F_unwrap_isWrapped_eq]; exact h
  · cases h

/- slices.Concat[[]int,int] -/
abbrev k_slices_Concat_int_int (hs : FHs) (u : Nat) : FCtx := { f := n_slices_Concat_int_int, u := u, nt := 36, hs := hs }
noncomputable abbrev r_slices_Concat_int_int : Fs → Option (AV × Mem) := fxRes Try.prog [.tmp 2]
noncomputable def c_slices_Concat_int_int_0 : Code := nav (bodyOf n_slices_Concat_int_int) []
noncomputable def c_slices_Concat_int_int_1 : Code := nav (bodyOf n_slices_Concat_int_int) [false]
noncomputable def c_slices_Concat_int_int_2 : Code := nav (bodyOf n_slices_Concat_int_int) [true]
noncomputable def c_slices_Concat_int_int_3 : Code := nav (bodyOf n_slices_Concat_int_int) [true, false]
noncomputable def c_slices_Concat_int_int_4 : Code := nav (bodyOf n_slices_Concat_int_int) [true, true]
noncomputable def c_slices_Concat_int_int_5 : Code := nav (bodyOf n_slices_Concat_int_int) [true, true, false]
noncomputable def c_slices_Concat_int_int_6 : Code := nav (bodyOf n_slices_Concat_int_int) [true, true, true]
noncomputable def c_slices_Concat_int_int_7 : Code := nav (bodyOf n_slices_Concat_int_int) [true, true, true, false]
noncomputable def c_slices_Concat_int_int_8 : Code := nav (bodyOf n_slices_Concat_int_int) [true, true, true, true]
noncomputable def c_slices_Concat_int_int_9 : Code := nav (bodyOf n_slices_Concat_int_int) [true, true, true, true, false]
noncomputable def c_slices_Concat_int_int_10 : Code := nav (bodyOf n_slices_Concat_int_int) [true, true, true, true, true]
noncomputable def c_slices_Concat_int_int_11 : Code := nav (bodyOf n_slices_Concat_int_int) [true, true, true, true, false, false]
noncomputable def c_slices_Concat_int_int_12 : Code := nav (bodyOf n_slices_Concat_int_int) [true, true, true, true, false, true]
noncomputable def c_slices_Concat_int_int_13 : Code := nav (bodyOf n_slices_Concat_int_int) [true, true, true, true, false, true, false]
noncomputable def c_slices_Concat_int_int_14 : Code := nav (bodyOf n_slices_Concat_int_int) [true, true, true, true, false, true, false, false]
noncomputable def c_slices_Concat_int_int_15 : Code := nav (bodyOf n_slices_Concat_int_int) [true, true, false, false]
noncomputable def c_slices_Concat_int_int_16 : Code := nav (bodyOf n_slices_Concat_int_int) [true, true, false, true]
noncomputable def c_slices_Concat_int_int_17 : Code := nav (bodyOf n_slices_Concat_int_int) [true, true, false, true, false]
noncomputable def c_slices_Concat_int_int_18 : Code := nav (bodyOf n_slices_Concat_int_int) [true, true, false, true, false, false]
noncomputable def c_slices_Concat_int_int_19 : Code := nav (bodyOf n_slices_Concat_int_int) [true, true, false, true, false, false, false]
noncomputable def c_slices_Concat_int_int_20 : Code := nav (bodyOf n_slices_Concat_int_int) [true, true, false, true, false, false, true]
noncomputable def c_slices_Concat_int_int_21 : Code := nav (bodyOf n_slices_Concat_int_int) [true, true, false, true, false, false, true, false]
noncomputable def c_slices_Concat_int_int_22 : Code := nav (bodyOf n_slices_Concat_int_int) [true, true, false, true, false, false, true, true]
noncomputable def c_slices_Concat_int_int_23 : Code := nav (bodyOf n_slices_Concat_int_int) [true, true, false, true, false, false, true, true, false]
noncomputable def c_slices_Concat_int_int_24 : Code := nav (bodyOf n_slices_Concat_int_int) [true, true, false, true, false, false, true, true, true]
theorem q_slices_Concat_int_int_10 (call : FCall) (hs : FHs) (u : Nat) :
  fxK Try.prog pol NN call c_slices_Concat_int_int_10 (AV × Mem) (k_slices_Concat_int_int hs u) r_slices_Concat_int_int eNil r_slices_Concat_int_int = (fun s => B_slices_Concat_int_int_0 call hs u (s.sl 6) s.m s.fc) := by
  kernel_rfl
theorem q_slices_Concat_int_int_14 (call : FCall) (hs : FHs) (u : Nat) (rec0 : AV → AV → AV → AV → Mem → Nat → Option (AV × Mem)) :
  fxK Try.prog pol NN call c_slices_Concat_int_int_14 (AV × Mem) (k_slices_Concat_int_int hs u) (fun s => rec0 (s.sl 6) (s.sl 25) (s.sl 26) (s.sl 27) s.m s.fc) (setE 2 (fun s => B_slices_Concat_int_int_0 call hs u (s.sl 6) s.m s.fc) eNil) r_slices_Concat_int_int = (fun s => B_slices_Concat_int_int_1 call hs u rec0 (s.sl 6) (s.sl 25) (s.sl 26) (s.sl 27) s.m s.fc) := by
  kernel_rfl
theorem q_L_slices_Concat_int_int_0 (call : FCall) (hs : FHs) (u : Nat) : ∀ n : Nat,
  iter (fun rec => fxK Try.prog pol NN call c_slices_Concat_int_int_14 (AV × Mem) (k_slices_Concat_int_int hs u) rec (setE 2 (fun s => B_slices_Concat_int_int_0 call hs u (s.sl 6) s.m s.fc) eNil) r_slices_Concat_int_int) n = (fun s => L_slices_Concat_int_int_0 call hs u n (s.sl 6) (s.sl 25) (s.sl 26) (s.sl 27) s.m s.fc)
  | 0 => rfl
  | n + 1 => by rw [iter_succ, q_L_slices_Concat_int_int_0 call hs u n, q_slices_Concat_int_int_14 call hs u (L_slices_Concat_int_int_0 call hs u n)]; kernel_rfl
theorem q_slices_Concat_int_int_13 (call : FCall) (hs : FHs) (u : Nat) :
  fxK Try.prog pol NN call c_slices_Concat_int_int_13 (AV × Mem) (k_slices_Concat_int_int hs u) (fun s => B_slices_Concat_int_int_0 call hs u (s.sl 6) s.m s.fc) (setE 2 (fun s => B_slices_Concat_int_int_0 call hs u (s.sl 6) s.m s.fc) eNil) r_slices_Concat_int_int = (fun s => L_slices_Concat_int_int_0 call hs u NN (s.sl 6) (s.sl 25) (s.sl 26) (s.sl 27) s.m s.fc) := by
  rw [show c_slices_Concat_int_int_13 = .loop c_slices_Concat_int_int_14 from by kernel_rfl, loop_r, q_L_slices_Concat_int_int_0 call hs u NN]
theorem q_slices_Concat_int_int_12 (call : FCall) (hs : FHs) (u : Nat) :
  fxK Try.prog pol NN call c_slices_Concat_int_int_12 (AV × Mem) (k_slices_Concat_int_int hs u) (fun s => B_slices_Concat_int_int_0 call hs u (s.sl 6) s.m s.fc) eNil r_slices_Concat_int_int = (fun s => L_slices_Concat_int_int_0 call hs u NN (s.sl 6) (s.sl 25) (s.sl 26) (s.sl 27) s.m s.fc) := by
  rw [show c_slices_Concat_int_int_12 = .block 2 c_slices_Concat_int_int_13 from by kernel_rfl, block_r, q_slices_Concat_int_int_13 call hs u]
theorem q_slices_Concat_int_int_9 (call : FCall) (hs : FHs) (u : Nat) :
  fxK Try.prog pol NN call c_slices_Concat_int_int_9 (AV × Mem) (k_slices_Concat_int_int hs u) (fun s => B_slices_Concat_int_int_0 call hs u (s.sl 6) s.m s.fc) eNil r_slices_Concat_int_int = (fun s => B_slices_Concat_int_int_2 call hs u (s.sl 0) (s.sl 6) s.m s.fc) := by
  rw [show c_slices_Concat_int_int_9 = .seq c_slices_Concat_int_int_11 c_slices_Concat_int_int_12 from by kernel_rfl, seq_r]; rw [q_slices_Concat_int_int_12 call hs u]; kernel_rfl
theorem q_slices_Concat_int_int_8 (call : FCall) (hs : FHs) (u : Nat) :
  fxK Try.prog pol NN call c_slices_Concat_int_int_8 (AV × Mem) (k_slices_Concat_int_int hs u) r_slices_Concat_int_int eNil r_slices_Concat_int_int = (fun s => B_slices_Concat_int_int_2 call hs u (s.sl 0) (s.sl 6) s.m s.fc) := by
  rw [show c_slices_Concat_int_int_8 = .seq c_slices_Concat_int_int_9 c_slices_Concat_int_int_10 from by kernel_rfl, seq_r, q_slices_Concat_int_int_10 call hs u, q_slices_Concat_int_int_9 call hs u]
theorem q_slices_Concat_int_int_6 (call : FCall) (hs : FHs) (u : Nat) :
  fxK Try.prog pol NN call c_slices_Concat_int_int_6 (AV × Mem) (k_slices_Concat_int_int hs u) r_slices_Concat_int_int eNil r_slices_Concat_int_int = (fun s => B_slices_Concat_int_int_3 call hs u (s.sl 0) (s.sl 3) s.m s.fc) := by
  rw [show c_slices_Concat_int_int_6 = .seq c_slices_Concat_int_int_7 c_slices_Concat_int_int_8 from by kernel_rfl, seq_r]; rw [q_slices_Concat_int_int_8 call hs u]; kernel_rfl
theorem q_slices_Concat_int_int_24 (call : FCall) (hs : FHs) (u : Nat) (rec1 : AV → AV → AV → AV → AV → Mem → Nat → Option (AV × Mem)) :
  fxK Try.prog pol NN call c_slices_Concat_int_int_24 (AV × Mem) (k_slices_Concat_int_int hs u) (fun s => rec1 (s.sl 0) (s.sl 3) (s.sl 9) (s.sl 10) (s.sl 11) s.m s.fc) (setE 0 (fun s => B_slices_Concat_int_int_3 call hs u (s.sl 0) (s.sl 3) s.m s.fc) eNil) r_slices_Concat_int_int = (fun s => B_slices_Concat_int_int_4 call hs u rec1 (s.sl 0) (s.sl 3) (s.sl 9) (s.sl 10) (s.sl 11) s.m s.fc) := by
  kernel_rfl
theorem q_slices_Concat_int_int_23 (call : FCall) (hs : FHs) (u : Nat) (rec1 : AV → AV → AV → AV → AV → Mem → Nat → Option (AV × Mem)) :
  fxK Try.prog pol NN call c_slices_Concat_int_int_23 (AV × Mem) (k_slices_Concat_int_int hs u) (fun s => B_slices_Concat_int_int_4 call hs u rec1 (s.sl 0) (s.sl 3) (s.sl 9) (s.sl 10) (s.sl 11) s.m s.fc) (setE 0 (fun s => B_slices_Concat_int_int_3 call hs u (s.sl 0) (s.sl 3) s.m s.fc) eNil) r_slices_Concat_int_int = (fun s => B_slices_Concat_int_int_5 call hs u rec1 (s.sl 0) (s.sl 3) (s.sl 9) (s.sl 10) (s.sl 11) s.m s.fc) := by
  kernel_rfl
theorem q_slices_Concat_int_int_22 (call : FCall) (hs : FHs) (u : Nat) (rec1 : AV → AV → AV → AV → AV → Mem → Nat → Option (AV × Mem)) :
  fxK Try.prog pol NN call c_slices_Concat_int_int_22 (AV × Mem) (k_slices_Concat_int_int hs u) (fun s => rec1 (s.sl 0) (s.sl 3) (s.sl 9) (s.sl 10) (s.sl 11) s.m s.fc) (setE 0 (fun s => B_slices_Concat_int_int_3 call hs u (s.sl 0) (s.sl 3) s.m s.fc) eNil) r_slices_Concat_int_int = (fun s => B_slices_Concat_int_int_5 call hs u rec1 (s.sl 0) (s.sl 3) (s.sl 9) (s.sl 10) (s.sl 11) s.m s.fc) := by
  rw [show c_slices_Concat_int_int_22 = .seq c_slices_Concat_int_int_23 c_slices_Concat_int_int_24 from by kernel_rfl, seq_r, q_slices_Concat_int_int_24 call hs u rec1, q_slices_Concat_int_int_23 call hs u rec1]
theorem q_slices_Concat_int_int_18 (call : FCall) (hs : FHs) (u : Nat) (rec1 : AV → AV → AV → AV → AV → Mem → Nat → Option (AV × Mem)) :
  fxK Try.prog pol NN call c_slices_Concat_int_int_18 (AV × Mem) (k_slices_Concat_int_int hs u) (fun s => rec1 (s.sl 0) (s.sl 3) (s.sl 9) (s.sl 10) (s.sl 11) s.m s.fc) (setE 0 (fun s => B_slices_Concat_int_int_3 call hs u (s.sl 0) (s.sl 3) s.m s.fc) eNil) r_slices_Concat_int_int = (fun s => B_slices_Concat_int_int_6 call hs u rec1 (s.sl 0) (s.sl 3) (s.sl 9) (s.sl 10) (s.sl 11) s.m s.fc) := by
  rw [show c_slices_Concat_int_int_18 = .seq c_slices_Concat_int_int_19 c_slices_Concat_int_int_20 from by kernel_rfl, seq_r]; rw [show c_slices_Concat_int_int_20 = .seq c_slices_Concat_int_int_21 c_slices_Concat_int_int_22 from by kernel_rfl, seq_r]; rw [q_slices_Concat_int_int_22 call hs u rec1]; kernel_rfl
theorem q_L_slices_Concat_int_int_1 (call : FCall) (hs : FHs) (u : Nat) : ∀ n : Nat,
  iter (fun rec => fxK Try.prog pol NN call c_slices_Concat_int_int_18 (AV × Mem) (k_slices_Concat_int_int hs u) rec (setE 0 (fun s => B_slices_Concat_int_int_3 call hs u (s.sl 0) (s.sl 3) s.m s.fc) eNil) r_slices_Concat_int_int) n = (fun s => L_slices_Concat_int_int_1 call hs u n (s.sl 0) (s.sl 3) (s.sl 9) (s.sl 10) (s.sl 11) s.m s.fc)
  | 0 => rfl
  | n + 1 => by rw [iter_succ, q_L_slices_Concat_int_int_1 call hs u n, q_slices_Concat_int_int_18 call hs u (L_slices_Concat_int_int_1 call hs u n)]; kernel_rfl
theorem q_slices_Concat_int_int_17 (call : FCall) (hs : FHs) (u : Nat) :
  fxK Try.prog pol NN call c_slices_Concat_int_int_17 (AV × Mem) (k_slices_Concat_int_int hs u) (fun s => B_slices_Concat_int_int_3 call hs u (s.sl 0) (s.sl 3) s.m s.fc) (setE 0 (fun s => B_slices_Concat_int_int_3 call hs u (s.sl 0) (s.sl 3) s.m s.fc) eNil) r_slices_Concat_int_int = (fun s => L_slices_Concat_int_int_1 call hs u NN (s.sl 0) (s.sl 3) (s.sl 9) (s.sl 10) (s.sl 11) s.m s.fc) := by
  rw [show c_slices_Concat_int_int_17 = .loop c_slices_Concat_int_int_18 from by kernel_rfl, loop_r, q_L_slices_Concat_int_int_1 call hs u NN]
theorem q_slices_Concat_int_int_16 (call : FCall) (hs : FHs) (u : Nat) :
  fxK Try.prog pol NN call c_slices_Concat_int_int_16 (AV × Mem) (k_slices_Concat_int_int hs u) (fun s => B_slices_Concat_int_int_3 call hs u (s.sl 0) (s.sl 3) s.m s.fc) eNil r_slices_Concat_int_int = (fun s => L_slices_Concat_int_int_1 call hs u NN (s.sl 0) (s.sl 3) (s.sl 9) (s.sl 10) (s.sl 11) s.m s.fc) := by
  rw [show c_slices_Concat_int_int_16 = .block 0 c_slices_Concat_int_int_17 from by kernel_rfl, block_r, q_slices_Concat_int_int_17 call hs u]
theorem q_slices_Concat_int_int_5 (call : FCall) (hs : FHs) (u : Nat) :
  fxK Try.prog pol NN call c_slices_Concat_int_int_5 (AV × Mem) (k_slices_Concat_int_int hs u) (fun s => B_slices_Concat_int_int_3 call hs u (s.sl 0) (s.sl 3) s.m s.fc) eNil r_slices_Concat_int_int = (fun s => B_slices_Concat_int_int_7 call hs u (s.sl 0) (s.sl 3) s.m s.fc) := by
  rw [show c_slices_Concat_int_int_5 = .seq c_slices_Concat_int_int_15 c_slices_Concat_int_int_16 from by kernel_rfl, seq_r]; rw [q_slices_Concat_int_int_16 call hs u]; kernel_rfl
theorem q_slices_Concat_int_int_4 (call : FCall) (hs : FHs) (u : Nat) :
  fxK Try.prog pol NN call c_slices_Concat_int_int_4 (AV × Mem) (k_slices_Concat_int_int hs u) r_slices_Concat_int_int eNil r_slices_Concat_int_int = (fun s => B_slices_Concat_int_int_7 call hs u (s.sl 0) (s.sl 3) s.m s.fc) := by
  rw [show c_slices_Concat_int_int_4 = .seq c_slices_Concat_int_int_5 c_slices_Concat_int_int_6 from by kernel_rfl, seq_r, q_slices_Concat_int_int_6 call hs u, q_slices_Concat_int_int_5 call hs u]
theorem q_slices_Concat_int_int_0 (call : FCall) (hs : FHs) (u : Nat) :
  fxK Try.prog pol NN call c_slices_Concat_int_int_0 (AV × Mem) (k_slices_Concat_int_int hs u) r_slices_Concat_int_int eNil r_slices_Concat_int_int = (fun s => B_slices_Concat_int_int_8 call hs u (s.sl 0) s.m s.fc) := by
  rw [show c_slices_Concat_int_int_0 = .seq c_slices_Concat_int_int_1 c_slices_Concat_int_int_2 from by kernel_rfl, seq_r]; rw [show c_slices_Concat_int_int_2 = .seq c_slices_Concat_int_int_3 c_slices_Concat_int_int_4 from by kernel_rfl, seq_r]; rw [q_slices_Concat_int_int_4 call hs u]; kernel_rfl
theorem F_slices_Concat_int_int_eq (call : FCall) (hs : FHs) (t0 : AV) (m : Mem) : fxBody Try.prog pol NN call hs n_slices_Concat_int_int [t0] m = F_slices_Concat_int_int call hs [t0] m := by
  rw [fxBody_at (fn := Try.f75) (body := c_slices_Concat_int_int_0) (nt := 36) (rs := [.tmp 2]) (by kernel_rfl) (by kernel_rfl) (by kernel_rfl) (by kernel_rfl) (by kernel_rfl) (by kernel_rfl)]
  exact (congrFun (q_slices_Concat_int_int_0 call hs m.next) _).trans (by kernel_rfl)
theorem F_slices_Concat_int_int_le (call : FCall) (hs : FHs) (args : List AV) (m : Mem) (r : AV × Mem) (h : F_slices_Concat_int_int call hs args m = some r) : fxBody Try.prog pol NN call hs n_slices_Concat_int_int args m = some r := by
  unfold F_slices_Concat_int_int at h
  split at h
  · rw [F_slices_Concat_int_int_eq]; exact h
  · cases h

/- swath/unwrap.isWeight -/
abbrev k_unwrap_isWeight (hs : FHs) (u : Nat) : FCtx := { f := n_unwrap_isWeight, u := u, nt := 5, hs := hs }
noncomputable abbrev r_unwrap_isWeight : Fs → Option (AV × Mem) := fxRes Try.prog [.tmp 2]
noncomputable def c_unwrap_isWeight_0 : Code := nav (bodyOf n_unwrap_isWeight) []
theorem q_unwrap_isWeight_0 (call : FCall) (hs : FHs) (u : Nat) :
  fxK Try.prog pol NN call c_unwrap_isWeight_0 (AV × Mem) (k_unwrap_isWeight hs u) r_unwrap_isWeight eNil r_unwrap_isWeight = (fun s => B_unwrap_isWeight_0 call hs u (s.sl 0) s.m s.fc) := by
  kernel_rfl
theorem F_unwrap_isWeight_eq (call : FCall) (hs : FHs) (t0 : AV) (m : Mem) : fxBody Try.prog pol NN call hs n_unwrap_isWeight [t0] m = F_unwrap_isWeight call hs [t0] m := by
  rw [fxBody_at (fn := Try.f76) (body := c_unwrap_isWeight_0) (nt := 5) (rs := [.tmp 2]) (by kernel_rfl) (by kernel_rfl) (by kernel_rfl) (by kernel_rfl) (by kernel_rfl) (by kernel_rfl)]
  exact (congrFun (q_unwrap_isWeight_0 call hs m.next) _).trans (by kernel_rfl)
theorem F_unwrap_isWeight_le (call : FCall) (hs : FHs) (args : List AV) (m : Mem) (r : AV × Mem) (h : F_unwrap_isWeight call hs args m = some r) : fxBody Try.prog pol NN call hs n_unwrap_isWeight args m = some r := by
  unfold F_unwrap_isWeight at h
  split at h
  · rw [F_unwrap_isWeight_eq]; exact h
  · cases h

/- swath/swathref05.edge -/
abbrev k_ref05_edge (hs : FHs) (u : Nat) : FCtx := { f := n_ref05_edge, u := u, nt := 42, hs := hs }
noncomputable abbrev r_ref05_edge : Fs → Option (AV × Mem) := fxRes Try.prog [.cell 8 y_api_UnwrapEdge, .tmp 9]
noncomputable def c_ref05_edge_0 : Code := nav (bodyOf n_ref05_edge) []
theorem q_ref05_edge_0 (call : FCall) (hs : FHs) (u : Nat) :
  fxK Try.prog pol NN call c_ref05_edge_0 (AV × Mem) (k_ref05_edge hs u) r_ref05_edge eNil r_ref05_edge = (fun s => B_ref05_edge_0 call hs u (s.sl 0) (s.sl 1) (s.sl 2) (s.sl 3) s.m s.fc) := by
  kernel_rfl
theorem F_ref05_edge_eq (call : FCall) (hs : FHs) (t0 t1 t2 t3 : AV) (m : Mem) : fxBody Try.prog pol NN call hs n_ref05_edge [t0, t1, t2, t3] m = F_ref05_edge call hs [t0, t1, t2, t3] m := by
  rw [fxBody_at (fn := Try.f77) (body := c_ref05_edge_0) (nt := 42) (rs := [.cell 8 y_api_UnwrapEdge, .tmp 9]) (by kernel_rfl) (by kernel_rfl) (by kernel_rfl) (by kernel_rfl) (by kernel_rfl) (by kernel_rfl)]
  exact (congrFun (q_ref05_edge_0 call hs m.next) _).trans (by kernel_rfl)
theorem F_ref05_edge_le (call : FCall) (hs : FHs) (args : List AV) (m : Mem) (r : AV × Mem) (h : F_ref05_edge call hs args m = some r) : fxBody Try.prog pol NN call hs n_ref05_edge args m = some r := by
  unfold F_ref05_edge at h
  split at h
  · rw [F_ref05_edge_eq]; exact h
  · cases h

/- swath/unwrap.within -/
abbrev k_unwrap_within (hs : FHs) (u : Nat) : FCtx := { f := n_unwrap_within, u := u, nt := 15, hs := hs }
noncomputable abbrev r_unwrap_within : Fs → Option (AV × Mem) := fxRes Try.prog [.tmp 6]
noncomputable def c_unwrap_within_0 : Code := nav (bodyOf n_unwrap_within) []
theorem q_unwrap_within_0 (call : FCall) (hs : FHs) (u : Nat) :
  fxK Try.prog pol NN call c_unwrap_within_0 (AV × Mem) (k_unwrap_within hs u) r_unwrap_within eNil r_unwrap_within = (fun s => B_unwrap_within_0 call hs u (s.sl 0) (s.sl 1) (s.sl 2) s.m s.fc) := by
  kernel_rfl
theorem F_unwrap_within_eq (call : FCall) (hs : FHs) (t0 t1 t2 : AV) (m : Mem) : fxBody Try.prog pol NN call hs n_unwrap_within [t0, t1, t2] m = F_unwrap_within call hs [t0, t1, t2] m := by
  rw [fxBody_at (fn := Try.f78) (body := c_unwrap_within_0) (nt := 15) (rs := [.tmp 6]) (by kernel_rfl) (by kernel_rfl) (by kernel_rfl) (by kernel_rfl) (by kernel_rfl) (by kernel_rfl)]
  exact (congrFun (q_unwrap_within_0 call hs m.next) _).trans (by kernel_rfl)
theorem F_unwrap_within_le (call : FCall) (hs : FHs) (args : List AV) (m : Mem) (r : AV × Mem) (h : F_unwrap_within call hs args m = some r) : fxBody Try.prog pol NN call hs n_unwrap_within args m = some r := by
  unfold F_unwrap_within at h
  split at h
  · rw [F_unwrap_within_eq]; exact h
  · cases h

/- (swath/unwrap.net).parts -/
abbrev k_unwrap_net_parts (hs : FHs) (u : Nat) : FCtx := { f := n_unwrap_net_parts, u := u, nt := 53, hs := hs }
noncomputable abbrev r_unwrap_net_parts : Fs → Option (AV × Mem) := fxRes Try.prog [.tmp 2]
noncomputable def c_unwrap_net_parts_0 : Code := nav (bodyOf n_unwrap_net_parts) []
noncomputable def c_unwrap_net_parts_1 : Code := nav (bodyOf n_unwrap_net_parts) [false]
noncomputable def c_unwrap_net_parts_2 : Code := nav (bodyOf n_unwrap_net_parts) [true]
noncomputable def c_unwrap_net_parts_3 : Code := nav (bodyOf n_unwrap_net_parts) [true, false]
noncomputable def c_unwrap_net_parts_4 : Code := nav (bodyOf n_unwrap_net_parts) [true, true]
noncomputable def c_unwrap_net_parts_5 : Code := nav (bodyOf n_unwrap_net_parts) [true, true, false]
noncomputable def c_unwrap_net_parts_6 : Code := nav (bodyOf n_unwrap_net_parts) [true, true, true]
noncomputable def c_unwrap_net_parts_7 : Code := nav (bodyOf n_unwrap_net_parts) [true, true, false, false]
noncomputable def c_unwrap_net_parts_8 : Code := nav (bodyOf n_unwrap_net_parts) [true, true, false, true]
noncomputable def c_unwrap_net_parts_9 : Code := nav (bodyOf n_unwrap_net_parts) [true, true, false, true, false]
noncomputable def c_unwrap_net_parts_10 : Code := nav (bodyOf n_unwrap_net_parts) [true, true, false, true, false, false]
noncomputable def c_unwrap_net_parts_11 : Code := nav (bodyOf n_unwrap_net_parts) [true, true, false, true, false, false, false]
noncomputable def c_unwrap_net_parts_12 : Code := nav (bodyOf n_unwrap_net_parts) [true, true, false, true, false, false, true]
noncomputable def c_unwrap_net_parts_13 : Code := nav (bodyOf n_unwrap_net_parts) [true, true, false, true, false, false, true, false]
noncomputable def c_unwrap_net_parts_14 : Code := nav (bodyOf n_unwrap_net_parts) [true, true, false, true, false, false, true, true]
noncomputable def c_unwrap_net_parts_15 : Code := nav (bodyOf n_unwrap_net_parts) [true, true, false, true, false, false, true, true, false]
noncomputable def c_unwrap_net_parts_16 : Code := nav (bodyOf n_unwrap_net_parts) [true, true, false, true, false, false, true, true, true]
theorem q_unwrap_net_parts_6 (call : FCall) (hs : FHs) (u : Nat) :
  fxK Try.prog pol NN call c_unwrap_net_parts_6 (AV × Mem) (k_unwrap_net_parts hs u) r_unwrap_net_parts eNil r_unwrap_net_parts = (fun s => B_unwrap_net_parts_0 call hs u (s.sl 1) (s.sl 3) s.m s.fc) := by
  kernel_rfl
theorem q_unwrap_net_parts_16 (call : FCall) (hs : FHs) (u : Nat) (rec0 : AV → AV → AV → AV → AV → Mem → Nat → Option (AV × Mem)) :
  fxK Try.prog pol NN call c_unwrap_net_parts_16 (AV × Mem) (k_unwrap_net_parts hs u) (fun s => rec0 (s.sl 1) (s.sl 3) (s.sl 12) (s.sl 13) (s.sl 14) s.m s.fc) (setE 0 (fun s => B_unwrap_net_parts_0 call hs u (s.sl 1) (s.sl 3) s.m s.fc) eNil) r_unwrap_net_parts = (fun s => B_unwrap_net_parts_1 call hs u rec0 (s.sl 1) (s.sl 3) (s.sl 12) (s.sl 13) (s.sl 14) s.m s.fc) := by
  kernel_rfl
theorem q_unwrap_net_parts_15 (call : FCall) (hs : FHs) (u : Nat) (rec0 : AV → AV → AV → AV → AV → Mem → Nat → Option (AV × Mem)) :
  fxK Try.prog pol NN call c_unwrap_net_parts_15 (AV × Mem) (k_unwrap_net_parts hs u) (fun s => B_unwrap_net_parts_1 call hs u rec0 (s.sl 1) (s.sl 3) (s.sl 12) (s.sl 13) (s.sl 14) s.m s.fc) (setE 0 (fun s => B_unwrap_net_parts_0 call hs u (s.sl 1) (s.sl 3) s.m s.fc) eNil) r_unwrap_net_parts = (fun s => B_unwrap_net_parts_2 call hs u rec0 (s.sl 1) (s.sl 3) (s.sl 12) (s.sl 13) (s.sl 14) s.m s.fc) := by
  kernel_rfl
theorem q_unwrap_net_parts_14 (call : FCall) (hs : FHs) (u : Nat) (rec0 : AV → AV → AV → AV → AV → Mem → Nat → Option (AV × Mem)) :
  fxK Try.prog pol NN call c_unwrap_net_parts_14 (AV × Mem) (k_unwrap_net_parts hs u) (fun s => rec0 (s.sl 1) (s.sl 3) (s.sl 12) (s.sl 13) (s.sl 14) s.m s.fc) (setE 0 (fun s => B_unwrap_net_parts_0 call hs u (s.sl 1) (s.sl 3) s.m s.fc) eNil) r_unwrap_net_parts = (fun s => B_unwrap_net_parts_2 call hs u rec0 (s.sl 1) (s.sl 3) (s.sl 12) (s.sl 13) (s.sl 14) s.m s.fc) := by
  rw [show c_unwrap_net_parts_14 = .seq c_unwrap_net_parts_15 c_unwrap_net_parts_16 from by kernel_rfl, seq_r, q_unwrap_net_parts_16 call hs u rec0, q_unwrap_net_parts_15 call hs u rec0]
theorem q_unwrap_net_parts_10 (call : FCall) (hs : FHs) (u : Nat) (rec0 : AV → AV → AV → AV → AV → Mem → Nat → Option (AV × Mem)) :
  fxK Try.prog pol NN call c_unwrap_net_parts_10 (AV × Mem) (k_unwrap_net_parts hs u) (fun s => rec0 (s.sl 1) (s.sl 3) (s.sl 12) (s.sl 13) (s.sl 14) s.m s.fc) (setE 0 (fun s => B_unwrap_net_parts_0 call hs u (s.sl 1) (s.sl 3) s.m s.fc) eNil) r_unwrap_net_parts = (fun s => B_unwrap_net_parts_3 call hs u rec0 (s.sl 1) (s.sl 3) (s.sl 12) (s.sl 13) (s.sl 14) s.m s.fc) := by
  rw [show c_unwrap_net_parts_10 = .seq c_unwrap_net_parts_11 c_unwrap_net_parts_12 from by kernel_rfl, seq_r]; rw [show c_unwrap_net_parts_12 = .seq c_unwrap_net_parts_13 c_unwrap_net_parts_14 from by kernel_rfl, seq_r]; rw [q_unwrap_net_parts_14 call hs u rec0]; kernel_rfl
theorem q_L_unwrap_net_parts_0 (call : FCall) (hs : FHs) (u : Nat) : ∀ n : Nat,
  iter (fun rec => fxK Try.prog pol NN call c_unwrap_net_parts_10 (AV × Mem) (k_unwrap_net_parts hs u) rec (setE 0 (fun s => B_unwrap_net_parts_0 call hs u (s.sl 1) (s.sl 3) s.m s.fc) eNil) r_unwrap_net_parts) n = (fun s => L_unwrap_net_parts_0 call hs u n (s.sl 1) (s.sl 3) (s.sl 12) (s.sl 13) (s.sl 14) s.m s.fc)
  | 0 => rfl
  | n + 1 => by rw [iter_succ, q_L_unwrap_net_parts_0 call hs u n, q_unwrap_net_parts_10 call hs u (L_unwrap_net_parts_0 call hs u n)]; kernel_rfl
theorem q_unwrap_net_parts_9 (call : FCall) (hs : FHs) (u : Nat) :
  fxK Try.prog pol NN call c_unwrap_net_parts_9 (AV × Mem) (k_unwrap_net_parts hs u) (fun s => B_unwrap_net_parts_0 call hs u (s.sl 1) (s.sl 3) s.m s.fc) (setE 0 (fun s => B_unwrap_net_parts_0 call hs u (s.sl 1) (s.sl 3) s.m s.fc) eNil) r_unwrap_net_parts = (fun s => L_unwrap_net_parts_0 call hs u NN (s.sl 1) (s.sl 3) (s.sl 12) (s.sl 13) (s.sl 14) s.m s.fc) := by
  rw [show c_unwrap_net_parts_9 = .loop c_unwrap_net_parts_10 from by kernel_rfl, loop_r, q_L_unwrap_net_parts_0 call hs u NN]
theorem q_unwrap_net_parts_8 (call : FCall) (hs : FHs) (u : Nat) :
  fxK Try.prog pol NN call c_unwrap_net_parts_8 (AV × Mem) (k_unwrap_net_parts hs u) (fun s => B_unwrap_net_parts_0 call hs u (s.sl 1) (s.sl 3) s.m s.fc) eNil r_unwrap_net_parts = (fun s => L_unwrap_net_parts_0 call hs u NN (s.sl 1) (s.sl 3) (s.sl 12) (s.sl 13) (s.sl 14) s.m s.fc) := by
  rw [show c_unwrap_net_parts_8 = .block 0 c_unwrap_net_parts_9 from by kernel_rfl, block_r, q_unwrap_net_parts_9 call hs u]
theorem q_unwrap_net_parts_5 (call : FCall) (hs : FHs) (u : Nat) :
  fxK Try.prog pol NN call c_unwrap_net_parts_5 (AV × Mem) (k_unwrap_net_parts hs u) (fun s => B_unwrap_net_parts_0 call hs u (s.sl 1) (s.sl 3) s.m s.fc) eNil r_unwrap_net_parts = (fun s => B_unwrap_net_parts_4 call hs u (s.sl 1) (s.sl 3) s.m s.fc) := by
  rw [show c_unwrap_net_parts_5 = .seq c_unwrap_net_parts_7 c_unwrap_net_parts_8 from by kernel_rfl, seq_r]; rw [q_unwrap_net_parts_8 call hs u]; kernel_rfl
theorem q_unwrap_net_parts_4 (call : FCall) (hs : FHs) (u : Nat) :
  fxK Try.prog pol NN call c_unwrap_net_parts_4 (AV × Mem) (k_unwrap_net_parts hs u) r_unwrap_net_parts eNil r_unwrap_net_parts = (fun s => B_unwrap_net_parts_4 call hs u (s.sl 1) (s.sl 3) s.m s.fc) := by
  rw [show c_unwrap_net_parts_4 = .seq c_unwrap_net_parts_5 c_unwrap_net_parts_6 from by kernel_rfl, seq_r, q_unwrap_net_parts_6 call hs u, q_unwrap_net_parts_5 call hs u]
theorem q_unwrap_net_parts_0 (call : FCall) (hs : FHs) (u : Nat) :
  fxK Try.prog pol NN call c_unwrap_net_parts_0 (AV × Mem) (k_unwrap_net_parts hs u) r_unwrap_net_parts eNil r_unwrap_net_parts = (fun s => B_unwrap_net_parts_5 call hs u (s.sl 0) s.m s.fc) := by
  rw [show c_unwrap_net_parts_0 = .seq c_unwrap_net_parts_1 c_unwrap_net_parts_2 from by kernel_rfl, seq_r]; rw [show c_unwrap_net_parts_2 = .seq c_unwrap_net_parts_3 c_unwrap_net_parts_4 from by kernel_rfl, seq_r]; rw [q_unwrap_net_parts_4 call hs u]; kernel_rfl
theorem F_unwrap_net_parts_eq (call : FCall) (hs : FHs) (t0 : AV) (m : Mem) : fxBody Try.prog pol NN call hs n_unwrap_net_parts [t0] m = F_unwrap_net_parts call hs [t0] m := by
  rw [fxBody_at (fn := Try.f79) (body := c_unwrap_net_parts_0) (nt := 53) (rs := [.tmp 2]) (by kernel_rfl) (by kernel_rfl) (by kernel_rfl) (by kernel_rfl) (by kernel_rfl) (by kernel_rfl)]
  exact (congrFun (q_unwrap_net_parts_0 call hs m.next) _).trans (by kernel_rfl)
theorem F_unwrap_net_parts_le (call : FCall) (hs : FHs) (args : List AV) (m : Mem) (r : AV × Mem) (h : F_unwrap_net_parts call hs args m = some r) : fxBody Try.prog pol NN call hs n_unwrap_net_parts args m = some r := by
  unfold F_unwrap_net_parts at h
  split at h
  · rw [F_unwrap_net_parts_eq]; exact h
  · cases h

/- (*swath/unwrap.solver).most -/
abbrev k_unwrap_solver_most (hs : FHs) (u : Nat) : FCtx := { f := n_unwrap_solver_most, u := u, nt := 47, hs := hs }
noncomputable abbrev r_unwrap_solver_most : Fs → Option (AV × Mem) := fxRes Try.prog [.tmp 4]
noncomputable def c_unwrap_solver_most_0 : Code := nav (bodyOf n_unwrap_solver_most) []
noncomputable def c_unwrap_solver_most_1 : Code := nav (bodyOf n_unwrap_solver_most) [false]
noncomputable def c_unwrap_solver_most_2 : Code := nav (bodyOf n_unwrap_solver_most) [true]
noncomputable def c_unwrap_solver_most_3 : Code := nav (bodyOf n_unwrap_solver_most) [true, false]
noncomputable def c_unwrap_solver_most_4 : Code := nav (bodyOf n_unwrap_solver_most) [true, true]
noncomputable def c_unwrap_solver_most_5 : Code := nav (bodyOf n_unwrap_solver_most) [true, true, false]
noncomputable def c_unwrap_solver_most_6 : Code := nav (bodyOf n_unwrap_solver_most) [true, true, true]
noncomputable def c_unwrap_solver_most_7 : Code := nav (bodyOf n_unwrap_solver_most) [true, true, false, false]
noncomputable def c_unwrap_solver_most_8 : Code := nav (bodyOf n_unwrap_solver_most) [true, true, false, true]
noncomputable def c_unwrap_solver_most_9 : Code := nav (bodyOf n_unwrap_solver_most) [true, true, false, true, false]
noncomputable def c_unwrap_solver_most_10 : Code := nav (bodyOf n_unwrap_solver_most) [true, true, false, true, false, false]
noncomputable def c_unwrap_solver_most_11 : Code := nav (bodyOf n_unwrap_solver_most) [true, true, false, true, false, false, false]
noncomputable def c_unwrap_solver_most_12 : Code := nav (bodyOf n_unwrap_solver_most) [true, true, false, true, false, false, true]
noncomputable def c_unwrap_solver_most_13 : Code := nav (bodyOf n_unwrap_solver_most) [true, true, false, true, false, false, true, false]
noncomputable def c_unwrap_solver_most_14 : Code := nav (bodyOf n_unwrap_solver_most) [true, true, false, true, false, false, true, true]
noncomputable def c_unwrap_solver_most_15 : Code := nav (bodyOf n_unwrap_solver_most) [true, true, false, true, false, false, true, true, false]
noncomputable def c_unwrap_solver_most_16 : Code := nav (bodyOf n_unwrap_solver_most) [true, true, false, true, false, false, true, true, true]
theorem q_unwrap_solver_most_6 (call : FCall) (hs : FHs) (u : Nat) :
  fxK Try.prog pol NN call c_unwrap_solver_most_6 (AV × Mem) (k_unwrap_solver_most hs u) r_unwrap_solver_most eNil r_unwrap_solver_most = (fun s => B_unwrap_solver_most_0 call hs u (s.sl 5) s.m s.fc) := by
  kernel_rfl
theorem q_unwrap_solver_most_16 (call : FCall) (hs : FHs) (u : Nat) (rec0 : AV → AV → AV → AV → AV → Mem → Nat → Option (AV × Mem)) :
  fxK Try.prog pol NN call c_unwrap_solver_most_16 (AV × Mem) (k_unwrap_solver_most hs u) (fun s => rec0 (s.sl 0) (s.sl 1) (s.sl 5) (s.sl 12) (s.sl 13) s.m s.fc) (setE 0 (fun s => B_unwrap_solver_most_0 call hs u (s.sl 5) s.m s.fc) eNil) r_unwrap_solver_most = (fun s => B_unwrap_solver_most_1 call hs u rec0 (s.sl 0) (s.sl 1) (s.sl 5) (s.sl 12) (s.sl 13) s.m s.fc) := by
  kernel_rfl
theorem q_unwrap_solver_most_15 (call : FCall) (hs : FHs) (u : Nat) (rec0 : AV → AV → AV → AV → AV → Mem → Nat → Option (AV × Mem)) :
  fxK Try.prog pol NN call c_unwrap_solver_most_15 (AV × Mem) (k_unwrap_solver_most hs u) (fun s => B_unwrap_solver_most_1 call hs u rec0 (s.sl 0) (s.sl 1) (s.sl 5) (s.sl 12) (s.sl 13) s.m s.fc) (setE 0 (fun s => B_unwrap_solver_most_0 call hs u (s.sl 5) s.m s.fc) eNil) r_unwrap_solver_most = (fun s => B_unwrap_solver_most_2 call hs u rec0 (s.sl 0) (s.sl 1) (s.sl 5) (s.sl 12) (s.sl 13) s.m s.fc) := by
  kernel_rfl
theorem q_unwrap_solver_most_14 (call : FCall) (hs : FHs) (u : Nat) (rec0 : AV → AV → AV → AV → AV → Mem → Nat → Option (AV × Mem)) :
  fxK Try.prog pol NN call c_unwrap_solver_most_14 (AV × Mem) (k_unwrap_solver_most hs u) (fun s => rec0 (s.sl 0) (s.sl 1) (s.sl 5) (s.sl 12) (s.sl 13) s.m s.fc) (setE 0 (fun s => B_unwrap_solver_most_0 call hs u (s.sl 5) s.m s.fc) eNil) r_unwrap_solver_most = (fun s => B_unwrap_solver_most_2 call hs u rec0 (s.sl 0) (s.sl 1) (s.sl 5) (s.sl 12) (s.sl 13) s.m s.fc) := by
  rw [show c_unwrap_solver_most_14 = .seq c_unwrap_solver_most_15 c_unwrap_solver_most_16 from by kernel_rfl, seq_r, q_unwrap_solver_most_16 call hs u rec0, q_unwrap_solver_most_15 call hs u rec0]
theorem q_unwrap_solver_most_10 (call : FCall) (hs : FHs) (u : Nat) (rec0 : AV → AV → AV → AV → AV → Mem → Nat → Option (AV × Mem)) :
  fxK Try.prog pol NN call c_unwrap_solver_most_10 (AV × Mem) (k_unwrap_solver_most hs u) (fun s => rec0 (s.sl 0) (s.sl 1) (s.sl 5) (s.sl 12) (s.sl 13) s.m s.fc) (setE 0 (fun s => B_unwrap_solver_most_0 call hs u (s.sl 5) s.m s.fc) eNil) r_unwrap_solver_most = (fun s => B_unwrap_solver_most_3 call hs u rec0 (s.sl 0) (s.sl 1) (s.sl 5) (s.sl 12) (s.sl 13) s.m s.fc) := by
  rw [show c_unwrap_solver_most_10 = .seq c_unwrap_solver_most_11 c_unwrap_solver_most_12 from by kernel_rfl, seq_r]; rw [show c_unwrap_solver_most_12 = .seq c_unwrap_solver_most_13 c_unwrap_solver_most_14 from by kernel_rfl, seq_r]; rw [q_unwrap_solver_most_14 call hs u rec0]; kernel_rfl
theorem q_L_unwrap_solver_most_0 (call : FCall) (hs : FHs) (u : Nat) : ∀ n : Nat,
  iter (fun rec => fxK Try.prog pol NN call c_unwrap_solver_most_10 (AV × Mem) (k_unwrap_solver_most hs u) rec (setE 0 (fun s => B_unwrap_solver_most_0 call hs u (s.sl 5) s.m s.fc) eNil) r_unwrap_solver_most) n = (fun s => L_unwrap_solver_most_0 call hs u n (s.sl 0) (s.sl 1) (s.sl 5) (s.sl 12) (s.sl 13) s.m s.fc)
  | 0 => rfl
  | n + 1 => by rw [iter_succ, q_L_unwrap_solver_most_0 call hs u n, q_unwrap_solver_most_10 call hs u (L_unwrap_solver_most_0 call hs u n)]; kernel_rfl
theorem q_unwrap_solver_most_9 (call : FCall) (hs : FHs) (u : Nat) :
  fxK Try.prog pol NN call c_unwrap_solver_most_9 (AV × Mem) (k_unwrap_solver_most hs u) (fun s => B_unwrap_solver_most_0 call hs u (s.sl 5) s.m s.fc) (setE 0 (fun s => B_unwrap_solver_most_0 call hs u (s.sl 5) s.m s.fc) eNil) r_unwrap_solver_most = (fun s => L_unwrap_solver_most_0 call hs u NN (s.sl 0) (s.sl 1) (s.sl 5) (s.sl 12) (s.sl 13) s.m s.fc) := by
  rw [show c_unwrap_solver_most_9 = .loop c_unwrap_solver_most_10 from by kernel_rfl, loop_r, q_L_unwrap_solver_most_0 call hs u NN]
theorem q_unwrap_solver_most_8 (call : FCall) (hs : FHs) (u : Nat) :
  fxK Try.prog pol NN call c_unwrap_solver_most_8 (AV × Mem) (k_unwrap_solver_most hs u) (fun s => B_unwrap_solver_most_0 call hs u (s.sl 5) s.m s.fc) eNil r_unwrap_solver_most = (fun s => L_unwrap_solver_most_0 call hs u NN (s.sl 0) (s.sl 1) (s.sl 5) (s.sl 12) (s.sl 13) s.m s.fc) := by
  rw [show c_unwrap_solver_most_8 = .block 0 c_unwrap_solver_most_9 from by kernel_rfl, block_r, q_unwrap_solver_most_9 call hs u]
theorem q_unwrap_solver_most_5 (call : FCall) (hs : FHs) (u : Nat) :
  fxK Try.prog pol NN call c_unwrap_solver_most_5 (AV × Mem) (k_unwrap_solver_most hs u) (fun s => B_unwrap_solver_most_0 call hs u (s.sl 5) s.m s.fc) eNil r_unwrap_solver_most = (fun s => B_unwrap_solver_most_4 call hs u (s.sl 0) (s.sl 1) (s.sl 5) s.m s.fc) := by
  rw [show c_unwrap_solver_most_5 = .seq c_unwrap_solver_most_7 c_unwrap_solver_most_8 from by kernel_rfl, seq_r]; rw [q_unwrap_solver_most_8 call hs u]; kernel_rfl
theorem q_unwrap_solver_most_4 (call : FCall) (hs : FHs) (u : Nat) :
  fxK Try.prog pol NN call c_unwrap_solver_most_4 (AV × Mem) (k_unwrap_solver_most hs u) r_unwrap_solver_most eNil r_unwrap_solver_most = (fun s => B_unwrap_solver_most_4 call hs u (s.sl 0) (s.sl 1) (s.sl 5) s.m s.fc) := by
  rw [show c_unwrap_solver_most_4 = .seq c_unwrap_solver_most_5 c_unwrap_solver_most_6 from by kernel_rfl, seq_r, q_unwrap_solver_most_6 call hs u, q_unwrap_solver_most_5 call hs u]
theorem q_unwrap_solver_most_0 (call : FCall) (hs : FHs) (u : Nat) :
  fxK Try.prog pol NN call c_unwrap_solver_most_0 (AV × Mem) (k_unwrap_solver_most hs u) r_unwrap_solver_most eNil r_unwrap_solver_most = (fun s => B_unwrap_solver_most_5 call hs u (s.sl 0) (s.sl 1) s.m s.fc) := by
  rw [show c_unwrap_solver_most_0 = .seq c_unwrap_solver_most_1 c_unwrap_solver_most_2 from by kernel_rfl, seq_r]; rw [show c_unwrap_solver_most_2 = .seq c_unwrap_solver_most_3 c_unwrap_solver_most_4 from by kernel_rfl, seq_r]; rw [q_unwrap_solver_most_4 call hs u]; kernel_rfl
theorem F_unwrap_solver_most_eq (call : FCall) (hs : FHs) (t0 t1 : AV) (m : Mem) : fxBody Try.prog pol NN call hs n_unwrap_solver_most [t0, t1] m = F_unwrap_solver_most call hs [t0, t1] m := by
  rw [fxBody_at (fn := Try.f80) (body := c_unwrap_solver_most_0) (nt := 47) (rs := [.tmp 4]) (by kernel_rfl) (by kernel_rfl) (by kernel_rfl) (by kernel_rfl) (by kernel_rfl) (by kernel_rfl)]
  exact (congrFun (q_unwrap_solver_most_0 call hs m.next) _).trans (by kernel_rfl)
theorem F_unwrap_solver_most_le (call : FCall) (hs : FHs) (args : List AV) (m : Mem) (r : AV × Mem) (h : F_unwrap_solver_most call hs args m = some r) : fxBody Try.prog pol NN call hs n_unwrap_solver_most args m = some r := by
  unfold F_unwrap_solver_most at h
  split at h
  · rw [F_unwrap_solver_most_eq]; exact h
  · cases h

/- (swath/unwrap.net).classes -/
abbrev k_unwrap_net_classes (hs : FHs) (u : Nat) : FCtx := { f := n_unwrap_net_classes, u := u, nt := 26, hs := hs }
noncomputable abbrev r_unwrap_net_classes : Fs → Option (AV × Mem) := fxRes Try.prog [.tmp 2]
noncomputable def c_unwrap_net_classes_0 : Code := nav (bodyOf n_unwrap_net_classes) []
noncomputable def c_unwrap_net_classes_1 : Code := nav (bodyOf n_unwrap_net_classes) [false]
noncomputable def c_unwrap_net_classes_2 : Code := nav (bodyOf n_unwrap_net_classes) [true]
noncomputable def c_unwrap_net_classes_3 : Code := nav (bodyOf n_unwrap_net_classes) [true, false]
noncomputable def c_unwrap_net_classes_4 : Code := nav (bodyOf n_unwrap_net_classes) [true, true]
noncomputable def c_unwrap_net_classes_5 : Code := nav (bodyOf n_unwrap_net_classes) [true, true, false]
noncomputable def c_unwrap_net_classes_6 : Code := nav (bodyOf n_unwrap_net_classes) [true, true, true]
noncomputable def c_unwrap_net_classes_7 : Code := nav (bodyOf n_unwrap_net_classes) [true, true, true, false]
noncomputable def c_unwrap_net_classes_8 : Code := nav (bodyOf n_unwrap_net_classes) [true, true, true, true]
noncomputable def c_unwrap_net_classes_9 : Code := nav (bodyOf n_unwrap_net_classes) [true, true, true, false, false]
noncomputable def c_unwrap_net_classes_10 : Code := nav (bodyOf n_unwrap_net_classes) [true, true, true, false, true]
noncomputable def c_unwrap_net_classes_11 : Code := nav (bodyOf n_unwrap_net_classes) [true, true, true, false, true, false]
noncomputable def c_unwrap_net_classes_12 : Code := nav (bodyOf n_unwrap_net_classes) [true, true, true, false, true, false, false]
theorem q_unwrap_net_classes_8 (call : FCall) (hs : FHs) (u : Nat) :
  fxK Try.prog pol NN call c_unwrap_net_classes_8 (AV × Mem) (k_unwrap_net_classes hs u) r_unwrap_net_classes eNil r_unwrap_net_classes = (fun s => B_unwrap_net_classes_0 call hs u (s.sl 1) (s.sl 4) s.m s.fc) := by
  kernel_rfl
theorem q_unwrap_net_classes_12 (call : FCall) (hs : FHs) (u : Nat) (rec0 : AV → AV → AV → AV → AV → Mem → Nat → Option (AV × Mem)) :
  fxK Try.prog pol NN call c_unwrap_net_classes_12 (AV × Mem) (k_unwrap_net_classes hs u) (fun s => rec0 (s.sl 1) (s.sl 3) (s.sl 4) (s.sl 10) (s.sl 11) s.m s.fc) (setE 0 (fun s => B_unwrap_net_classes_0 call hs u (s.sl 1) (s.sl 4) s.m s.fc) eNil) r_unwrap_net_classes = (fun s => B_unwrap_net_classes_1 call hs u rec0 (s.sl 1) (s.sl 3) (s.sl 4) (s.sl 10) (s.sl 11) s.m s.fc) := by
  kernel_rfl
theorem q_L_unwrap_net_classes_0 (call : FCall) (hs : FHs) (u : Nat) : ∀ n : Nat,
  iter (fun rec => fxK Try.prog pol NN call c_unwrap_net_classes_12 (AV × Mem) (k_unwrap_net_classes hs u) rec (setE 0 (fun s => B_unwrap_net_classes_0 call hs u (s.sl 1) (s.sl 4) s.m s.fc) eNil) r_unwrap_net_classes) n = (fun s => L_unwrap_net_classes_0 call hs u n (s.sl 1) (s.sl 3) (s.sl 4) (s.sl 10) (s.sl 11) s.m s.fc)
  | 0 => rfl
  | n + 1 => by rw [iter_succ, q_L_unwrap_net_classes_0 call hs u n, q_unwrap_net_classes_12 call hs u (L_unwrap_net_classes_0 call hs u n)]; kernel_rfl
theorem q_unwrap_net_classes_11 (call : FCall) (hs : FHs) (u : Nat) :
  fxK Try.prog pol NN call c_unwrap_net_classes_11 (AV × Mem) (k_unwrap_net_classes hs u) (fun s => B_unwrap_net_classes_0 call hs u (s.sl 1) (s.sl 4) s.m s.fc) (setE 0 (fun s => B_unwrap_net_classes_0 call hs u (s.sl 1) (s.sl 4) s.m s.fc) eNil) r_unwrap_net_classes = (fun s => L_unwrap_net_classes_0 call hs u NN (s.sl 1) (s.sl 3) (s.sl 4) (s.sl 10) (s.sl 11) s.m s.fc) := by
  rw [show c_unwrap_net_classes_11 = .loop c_unwrap_net_classes_12 from by kernel_rfl, loop_r, q_L_unwrap_net_classes_0 call hs u NN]
theorem q_unwrap_net_classes_10 (call : FCall) (hs : FHs) (u : Nat) :
  fxK Try.prog pol NN call c_unwrap_net_classes_10 (AV × Mem) (k_unwrap_net_classes hs u) (fun s => B_unwrap_net_classes_0 call hs u (s.sl 1) (s.sl 4) s.m s.fc) eNil r_unwrap_net_classes = (fun s => L_unwrap_net_classes_0 call hs u NN (s.sl 1) (s.sl 3) (s.sl 4) (s.sl 10) (s.sl 11) s.m s.fc) := by
  rw [show c_unwrap_net_classes_10 = .block 0 c_unwrap_net_classes_11 from by kernel_rfl, block_r, q_unwrap_net_classes_11 call hs u]
theorem q_unwrap_net_classes_7 (call : FCall) (hs : FHs) (u : Nat) :
  fxK Try.prog pol NN call c_unwrap_net_classes_7 (AV × Mem) (k_unwrap_net_classes hs u) (fun s => B_unwrap_net_classes_0 call hs u (s.sl 1) (s.sl 4) s.m s.fc) eNil r_unwrap_net_classes = (fun s => B_unwrap_net_classes_2 call hs u (s.sl 1) (s.sl 3) (s.sl 4) s.m s.fc) := by
  rw [show c_unwrap_net_classes_7 = .seq c_unwrap_net_classes_9 c_unwrap_net_classes_10 from by kernel_rfl, seq_r]; rw [q_unwrap_net_classes_10 call hs u]; kernel_rfl
theorem q_unwrap_net_classes_6 (call : FCall) (hs : FHs) (u : Nat) :
  fxK Try.prog pol NN call c_unwrap_net_classes_6 (AV × Mem) (k_unwrap_net_classes hs u) r_unwrap_net_classes eNil r_unwrap_net_classes = (fun s => B_unwrap_net_classes_2 call hs u (s.sl 1) (s.sl 3) (s.sl 4) s.m s.fc) := by
  rw [show c_unwrap_net_classes_6 = .seq c_unwrap_net_classes_7 c_unwrap_net_classes_8 from by kernel_rfl, seq_r, q_unwrap_net_classes_8 call hs u, q_unwrap_net_classes_7 call hs u]
theorem q_unwrap_net_classes_0 (call : FCall) (hs : FHs) (u : Nat) :
  fxK Try.prog pol NN call c_unwrap_net_classes_0 (AV × Mem) (k_unwrap_net_classes hs u) r_unwrap_net_classes eNil r_unwrap_net_classes = (fun s => B_unwrap_net_classes_3 call hs u (s.sl 0) s.m s.fc) := by
  rw [show c_unwrap_net_classes_0 = .seq c_unwrap_net_classes_1 c_unwrap_net_classes_2 from by kernel_rfl, seq_r]; rw [show c_unwrap_net_classes_2 = .seq c_unwrap_net_classes_3 c_unwrap_net_classes_4 from by kernel_rfl, seq_r]; rw [show c_unwrap_net_classes_4 = .seq c_unwrap_net_classes_5 c_unwrap_net_classes_6 from by kernel_rfl, seq_r]; rw [q_unwrap_net_classes_6 call hs u]; kernel_rfl
theorem F_unwrap_net_classes_eq (call : FCall) (hs : FHs) (t0 : AV) (m : Mem) : fxBody Try.prog pol NN call hs n_unwrap_net_classes [t0] m = F_unwrap_net_classes call hs [t0] m := by
  rw [fxBody_at (fn := Try.f81) (body := c_unwrap_net_classes_0) (nt := 26) (rs := [.tmp 2]) (by kernel_rfl) (by kernel_rfl) (by kernel_rfl) (by kernel_rfl) (by kernel_rfl) (by kernel_rfl)]
  exact (congrFun (q_unwrap_net_classes_0 call hs m.next) _).trans (by kernel_rfl)
theorem F_unwrap_net_classes_le (call : FCall) (hs : FHs) (args : List AV) (m : Mem) (r : AV × Mem) (h : F_unwrap_net_classes call hs args m = some r) : fxBody Try.prog pol NN call hs n_unwrap_net_classes args m = some r := by
  unfold F_unwrap_net_classes at h
  split at h
  · rw [F_unwrap_net_classes_eq]; exact h
  · cases h

/- slices.ContainsFunc[[]int,int] -/
abbrev k_slices_ContainsFunc_int_int (hs : FHs) (u : Nat) : FCtx := { f := n_slices_ContainsFunc_int_int, u := u, nt := 9, hs := hs }
noncomputable abbrev r_slices_ContainsFunc_int_int : Fs → Option (AV × Mem) := fxRes Try.prog [.tmp 4]
noncomputable def c_slices_ContainsFunc_int_int_0 : Code := nav (bodyOf n_slices_ContainsFunc_int_int) []
theorem q_slices_ContainsFunc_int_int_0 (call : FCall) (hs : FHs) (u : Nat) :
  fxK Try.prog pol NN call c_slices_ContainsFunc_int_int_0 (AV × Mem) (k_slices_ContainsFunc_int_int hs u) r_slices_ContainsFunc_int_int eNil r_slices_ContainsFunc_int_int = (fun s => B_slices_ContainsFunc_int_int_0 call hs u (s.sl 0) (s.sl 1) s.m s.fc) := by
  kernel_rfl
theorem F_slices_ContainsFunc_int_int_eq (call : FCall) (hs : FHs) (t0 t1 : AV) (m : Mem) : fxBody Try.prog pol NN call hs n_slices_ContainsFunc_int_int [t0, t1] m = F_slices_ContainsFunc_int_int call hs [t0, t1] m := by
  rw [fxBody_at (fn := Try.f84) (body := c_slices_ContainsFunc_int_int_0) (nt := 9) (rs := [.tmp 4]) (by kernel_rfl) (by kernel_rfl) (by kernel_rfl) (by kernel_rfl) (by kernel_rfl) (by kernel_rfl)]
  exact (congrFun (q_slices_ContainsFunc_int_int_0 call hs m.next) _).trans (by kernel_rfl)
theorem F_slices_ContainsFunc_int_int_le (call : FCall) (hs : FHs) (args : List AV) (m : Mem) (r : AV × Mem) (h : F_slices_ContainsFunc_int_int call hs args m = some r) : fxBody Try.prog pol NN call hs n_slices_ContainsFunc_int_int args m = some r := by
  unfold F_slices_ContainsFunc_int_int at h
  split at h
  · rw [F_slices_ContainsFunc_int_int_eq]; exact h
  · cases h

/- swath/unwrap.CheckTurns$1 -/
abbrev k_unwrap_CheckTurns_1 (hs : FHs) (u : Nat) : FCtx := { f := n_unwrap_CheckTurns_1, u := u, nt := 6, hs := hs }
noncomputable abbrev r_unwrap_CheckTurns_1 : Fs → Option (AV × Mem) := fxRes Try.prog [.tmp 2]
noncomputable def c_unwrap_CheckTurns_1_0 : Code := nav (bodyOf n_unwrap_CheckTurns_1) []
theorem q_unwrap_CheckTurns_1_0 (call : FCall) (hs : FHs) (u : Nat) :
  fxK Try.prog pol NN call c_unwrap_CheckTurns_1_0 (AV × Mem) (k_unwrap_CheckTurns_1 hs u) r_unwrap_CheckTurns_1 eNil r_unwrap_CheckTurns_1 = (fun s => B_unwrap_CheckTurns_1_0 call hs u (s.sl 0) s.m s.fc) := by
  kernel_rfl
theorem F_unwrap_CheckTurns_1_eq (call : FCall) (hs : FHs) (t0 : AV) (m : Mem) : fxBody Try.prog pol NN call hs n_unwrap_CheckTurns_1 [t0] m = F_unwrap_CheckTurns_1 call hs [t0] m := by
  rw [fxBody_at (fn := Try.f85) (body := c_unwrap_CheckTurns_1_0) (nt := 6) (rs := [.tmp 2]) (by kernel_rfl) (by kernel_rfl) (by kernel_rfl) (by kernel_rfl) (by kernel_rfl) (by kernel_rfl)]
  exact (congrFun (q_unwrap_CheckTurns_1_0 call hs m.next) _).trans (by kernel_rfl)
theorem F_unwrap_CheckTurns_1_le (call : FCall) (hs : FHs) (args : List AV) (m : Mem) (r : AV × Mem) (h : F_unwrap_CheckTurns_1 call hs args m = some r) : fxBody Try.prog pol NN call hs n_unwrap_CheckTurns_1 args m = some r := by
  unfold F_unwrap_CheckTurns_1 at h
  split at h
  · rw [F_unwrap_CheckTurns_1_eq]; exact h
  · cases h

end Go.Ix
