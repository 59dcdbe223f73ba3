/- MADE BY PROGRAM (gen.py). What the code does, block by block. -/
import Derived.Test.YtljibmnhhdiakaaFxText0
import Derived.Test.YtljibmnhhdiakaaFxRules
import Derived.ProofKit
set_option linter.unusedVariables false
namespace Go.Ix
open Go.Proofs

/- slices.Clone[[]int,int] -/
abbrev k_slices_Clone_int_int (hs : FHs) (u : Nat) : FCtx := { f := n_slices_Clone_int_int, u := u, nt := 8, hs := hs }
noncomputable abbrev r_slices_Clone_int_int : Fs → Option (AV × Mem) := fxRes Try.prog [.tmp 2]
noncomputable def c_slices_Clone_int_int_0 : Code := nav (bodyOf n_slices_Clone_int_int) []
theorem q_slices_Clone_int_int_0 (call : FCall) (hs : FHs) (u : Nat) :
  fxK Try.prog pol NN call c_slices_Clone_int_int_0 (AV × Mem) (k_slices_Clone_int_int hs u) r_slices_Clone_int_int eNil r_slices_Clone_int_int = (fun s => B_slices_Clone_int_int_0 call hs u (s.sl 0) s.m s.fc) := by
  kernel_rfl
theorem F_slices_Clone_int_int_eq (call : FCall) (hs : FHs) (t0 : AV) (m : Mem) : fxBody Try.prog pol NN call hs n_slices_Clone_int_int [t0] m = F_slices_Clone_int_int call hs [t0] m := by
  rw [fxBody_at (fn := Try.f86) (body := c_slices_Clone_int_int_0) (nt := 8) (rs := [.tmp 2]) (by kernel_rfl) (by kernel_rfl) (by kernel_rfl) (by kernel_rfl) (by kernel_rfl) (by kernel_rfl)]
  exact (congrFun (q_slices_Clone_int_int_0 call hs m.next) _).trans (by kernel_rfl)
theorem F_slices_Clone_int_int_le (call : FCall) (hs : FHs) (args : List AV) (m : Mem) (r : AV × Mem) (h : F_slices_Clone_int_int call hs args m = some r) : fxBody Try.prog pol NN call hs n_slices_Clone_int_int args m = some r := by
  unfold F_slices_Clone_int_int at h
  split at h
  · rw [F_slices_Clone_int_int_eq]; exact h
  · cases h

/- swath/unwrap.isVoid -/
abbrev k_unwrap_isVoid (hs : FHs) (u : Nat) : FCtx := { f := n_unwrap_isVoid, u := u, nt := 5, hs := hs }
noncomputable abbrev r_unwrap_isVoid : Fs → Option (AV × Mem) := fxRes Try.prog [.tmp 2]
noncomputable def c_unwrap_isVoid_0 : Code := nav (bodyOf n_unwrap_isVoid) []
theorem q_unwrap_isVoid_0 (call : FCall) (hs : FHs) (u : Nat) :
  fxK Try.prog pol NN call c_unwrap_isVoid_0 (AV × Mem) (k_unwrap_isVoid hs u) r_unwrap_isVoid eNil r_unwrap_isVoid = (fun s => B_unwrap_isVoid_0 call hs u (s.sl 0) s.m s.fc) := by
  kernel_rfl
theorem F_unwrap_isVoid_eq (call : FCall) (hs : FHs) (t0 : AV) (m : Mem) : fxBody Try.prog pol NN call hs n_unwrap_isVoid [t0] m = F_unwrap_isVoid call hs [t0] m := by
  rw [fxBody_at (fn := Try.f87) (body := c_unwrap_isVoid_0) (nt := 5) (rs := [.tmp 2]) (by kernel_rfl) (by kernel_rfl) (by kernel_rfl) (by kernel_rfl) (by kernel_rfl) (by kernel_rfl)]
  exact (congrFun (q_unwrap_isVoid_0 call hs m.next) _).trans (by kernel_rfl)
theorem F_unwrap_isVoid_le (call : FCall) (hs : FHs) (args : List AV) (m : Mem) (r : AV × Mem) (h : F_unwrap_isVoid call hs args m = some r) : fxBody Try.prog pol NN call hs n_unwrap_isVoid args m = some r := by
  unfold F_unwrap_isVoid at h
  split at h
  · rw [F_unwrap_isVoid_eq]; exact h
  · cases h

/- swath/unwrap.mapErr -/
abbrev k_unwrap_mapErr (hs : FHs) (u : Nat) : FCtx := { f := n_unwrap_mapErr, u := u, nt := 20, hs := hs }
noncomputable abbrev r_unwrap_mapErr : Fs → Option (AV × Mem) := fxRes Try.prog [.tmp 4]
noncomputable def c_unwrap_mapErr_0 : Code := nav (bodyOf n_unwrap_mapErr) []
theorem q_unwrap_mapErr_0 (call : FCall) (hs : FHs) (u : Nat) :
  fxK Try.prog pol NN call c_unwrap_mapErr_0 (AV × Mem) (k_unwrap_mapErr hs u) r_unwrap_mapErr eNil r_unwrap_mapErr = (fun s => B_unwrap_mapErr_0 call hs u (s.sl 0) (s.sl 1) s.m s.fc) := by
  kernel_rfl
theorem F_unwrap_mapErr_eq (call : FCall) (hs : FHs) (t0 t1 : AV) (m : Mem) : fxBody Try.prog pol NN call hs n_unwrap_mapErr [t0, t1] m = F_unwrap_mapErr call hs [t0, t1] m := by
  rw [fxBody_at (fn := Try.f89) (body := c_unwrap_mapErr_0) (nt := 20) (rs := [.tmp 4]) (by kernel_rfl) (by kernel_rfl) (by kernel_rfl) (by kernel_rfl) (by kernel_rfl) (by kernel_rfl)]
  exact (congrFun (q_unwrap_mapErr_0 call hs m.next) _).trans (by kernel_rfl)
theorem F_unwrap_mapErr_le (call : FCall) (hs : FHs) (args : List AV) (m : Mem) (r : AV × Mem) (h : F_unwrap_mapErr call hs args m = some r) : fxBody Try.prog pol NN call hs n_unwrap_mapErr args m = some r := by
  unfold F_unwrap_mapErr at h
  split at h
  · rw [F_unwrap_mapErr_eq]; exact h
  · cases h

/- swath/unwrap.isNeighbour -/
abbrev k_unwrap_isNeighbour (hs : FHs) (u : Nat) : FCtx := { f := n_unwrap_isNeighbour, u := u, nt := 38, hs := hs }
noncomputable abbrev r_unwrap_isNeighbour : Fs → Option (AV × Mem) := fxRes Try.prog [.tmp 6]
noncomputable def c_unwrap_isNeighbour_0 : Code := nav (bodyOf n_unwrap_isNeighbour) []
theorem q_unwrap_isNeighbour_0 (call : FCall) (hs : FHs) (u : Nat) :
  fxK Try.prog pol NN call c_unwrap_isNeighbour_0 (AV × Mem) (k_unwrap_isNeighbour hs u) r_unwrap_isNeighbour eNil r_unwrap_isNeighbour = (fun s => B_unwrap_isNeighbour_0 call hs u (s.sl 0) (s.sl 1) (s.sl 2) s.m s.fc) := by
  kernel_rfl
theorem F_unwrap_isNeighbour_eq (call : FCall) (hs : FHs) (t0 t1 t2 : AV) (m : Mem) : fxBody Try.prog pol NN call hs n_unwrap_isNeighbour [t0, t1, t2] m = F_unwrap_isNeighbour call hs [t0, t1, t2] m := by
  rw [fxBody_at (fn := Try.f90) (body := c_unwrap_isNeighbour_0) (nt := 38) (rs := [.tmp 6]) (by kernel_rfl) (by kernel_rfl) (by kernel_rfl) (by kernel_rfl) (by kernel_rfl) (by kernel_rfl)]
  exact (congrFun (q_unwrap_isNeighbour_0 call hs m.next) _).trans (by kernel_rfl)
theorem F_unwrap_isNeighbour_le (call : FCall) (hs : FHs) (args : List AV) (m : Mem) (r : AV × Mem) (h : F_unwrap_isNeighbour call hs args m = some r) : fxBody Try.prog pol NN call hs n_unwrap_isNeighbour args m = some r := by
  unfold F_unwrap_isNeighbour at h
  split at h
  · rw [F_unwrap_isNeighbour_eq]; exact h
  · cases h

/- swath/unwrap.wrapped -/
abbrev k_unwrap_wrapped (hs : FHs) (u : Nat) : FCtx := { f := n_unwrap_wrapped, u := u, nt := 12, hs := hs }
noncomputable abbrev r_unwrap_wrapped : Fs → Option (AV × Mem) := fxRes Try.prog [.tmp 2]
noncomputable def c_unwrap_wrapped_0 : Code := nav (bodyOf n_unwrap_wrapped) []
noncomputable def c_unwrap_wrapped_1 : Code := nav (bodyOf n_unwrap_wrapped) [false]
noncomputable def c_unwrap_wrapped_2 : Code := nav (bodyOf n_unwrap_wrapped) [true]
noncomputable def c_unwrap_wrapped_3 : Code := nav (bodyOf n_unwrap_wrapped) [true, false]
noncomputable def c_unwrap_wrapped_4 : Code := nav (bodyOf n_unwrap_wrapped) [true, true]
noncomputable def c_unwrap_wrapped_5 : Code := nav (bodyOf n_unwrap_wrapped) [true, true, false]
noncomputable def c_unwrap_wrapped_6 : Code := nav (bodyOf n_unwrap_wrapped) [true, true, true]
theorem q_unwrap_wrapped_6 (call : FCall) (hs : FHs) (u : Nat) :
  fxK Try.prog pol NN call c_unwrap_wrapped_6 (AV × Mem) (k_unwrap_wrapped hs u) r_unwrap_wrapped eNil r_unwrap_wrapped = (fun s => B_unwrap_wrapped_0 call hs u (s.sl 0) s.m s.fc) := by
  kernel_rfl
theorem q_unwrap_wrapped_5 (call : FCall) (hs : FHs) (u : Nat) :
  fxK Try.prog pol NN call c_unwrap_wrapped_5 (AV × Mem) (k_unwrap_wrapped hs u) (fun s => B_unwrap_wrapped_0 call hs u (s.sl 0) s.m s.fc) eNil r_unwrap_wrapped = (fun s => B_unwrap_wrapped_1 call hs u (s.sl 0) s.m s.fc) := by
  kernel_rfl
theorem q_unwrap_wrapped_4 (call : FCall) (hs : FHs) (u : Nat) :
  fxK Try.prog pol NN call c_unwrap_wrapped_4 (AV × Mem) (k_unwrap_wrapped hs u) r_unwrap_wrapped eNil r_unwrap_wrapped = (fun s => B_unwrap_wrapped_1 call hs u (s.sl 0) s.m s.fc) := by
  rw [show c_unwrap_wrapped_4 = .seq c_unwrap_wrapped_5 c_unwrap_wrapped_6 from by kernel_rfl, seq_r, q_unwrap_wrapped_6 call hs u, q_unwrap_wrapped_5 call hs u]
theorem q_unwrap_wrapped_0 (call : FCall) (hs : FHs) (u : Nat) :
  fxK Try.prog pol NN call c_unwrap_wrapped_0 (AV × Mem) (k_unwrap_wrapped hs u) r_unwrap_wrapped eNil r_unwrap_wrapped = (fun s => B_unwrap_wrapped_2 call hs u (s.sl 0) s.m s.fc) := by
  rw [show c_unwrap_wrapped_0 = .seq c_unwrap_wrapped_1 c_unwrap_wrapped_2 from by kernel_rfl, seq_r]; rw [show c_unwrap_wrapped_2 = .seq c_unwrap_wrapped_3 c_unwrap_wrapped_4 from by kernel_rfl, seq_r]; rw [q_unwrap_wrapped_4 call hs u]; kernel_rfl
theorem F_unwrap_wrapped_eq (call : FCall) (hs : FHs) (t0 : AV) (m : Mem) : fxBody Try.prog pol NN call hs n_unwrap_wrapped [t0] m = F_unwrap_wrapped call hs [t0] m := by
  rw [fxBody_at (fn := Try.f91) (body := c_unwrap_wrapped_0) (nt := 12) (rs := [.tmp 2]) (by kernel_rfl) (by kernel_rfl) (by kernel_rfl) (by kernel_rfl) (by kernel_rfl) (by kernel_rfl)]
  exact (congrFun (q_unwrap_wrapped_0 call hs m.next) _).trans (by kernel_rfl)
theorem F_unwrap_wrapped_le (call : FCall) (hs : FHs) (args : List AV) (m : Mem) (r : AV × Mem) (h : F_unwrap_wrapped call hs args m = some r) : fxBody Try.prog pol NN call hs n_unwrap_wrapped args m = some r := by
  unfold F_unwrap_wrapped at h
  split at h
  · rw [F_unwrap_wrapped_eq]; exact h
  · cases h

/- swath/swathref05.neighbours -/
abbrev k_ref05_neighbours (hs : FHs) (u : Nat) : FCtx := { f := n_ref05_neighbours, u := u, nt := 29, hs := hs }
noncomputable abbrev r_ref05_neighbours : Fs → Option (AV × Mem) := fxRes Try.prog [.tmp 6]
noncomputable def c_ref05_neighbours_0 : Code := nav (bodyOf n_ref05_neighbours) []
theorem q_ref05_neighbours_0 (call : FCall) (hs : FHs) (u : Nat) :
  fxK Try.prog pol NN call c_ref05_neighbours_0 (AV × Mem) (k_ref05_neighbours hs u) r_ref05_neighbours eNil r_ref05_neighbours = (fun s => B_ref05_neighbours_0 call hs u (s.sl 0) (s.sl 1) (s.sl 2) s.m s.fc) := by
  kernel_rfl
theorem F_ref05_neighbours_eq (call : FCall) (hs : FHs) (t0 t1 t2 : AV) (m : Mem) : fxBody Try.prog pol NN call hs n_ref05_neighbours [t0, t1, t2] m = F_ref05_neighbours call hs [t0, t1, t2] m := by
  rw [fxBody_at (fn := Try.f92) (body := c_ref05_neighbours_0) (nt := 29) (rs := [.tmp 6]) (by kernel_rfl) (by kernel_rfl) (by kernel_rfl) (by kernel_rfl) (by kernel_rfl) (by kernel_rfl)]
  exact (congrFun (q_ref05_neighbours_0 call hs m.next) _).trans (by kernel_rfl)
theorem F_ref05_neighbours_le (call : FCall) (hs : FHs) (args : List AV) (m : Mem) (r : AV × Mem) (h : F_ref05_neighbours call hs args m = some r) : fxBody Try.prog pol NN call hs n_ref05_neighbours args m = some r := by
  unfold F_ref05_neighbours at h
  split at h
  · rw [F_ref05_neighbours_eq]; exact h
  · cases h

/- swath/swathref05.Step -/
abbrev k_ref05_Step (hs : FHs) (u : Nat) : FCtx := { f := n_ref05_Step, u := u, nt := 27, hs := hs }
noncomputable abbrev r_ref05_Step : Fs → Option (AV × Mem) := fxRes Try.prog [.tmp 6]
noncomputable def c_ref05_Step_0 : Code := nav (bodyOf n_ref05_Step) []
theorem q_ref05_Step_0 (call : FCall) (hs : FHs) (u : Nat) :
  fxK Try.prog pol NN call c_ref05_Step_0 (AV × Mem) (k_ref05_Step hs u) r_ref05_Step eNil r_ref05_Step = (fun s => B_ref05_Step_0 call hs u (s.sl 0) (s.sl 1) (s.sl 2) s.m s.fc) := by
  kernel_rfl
theorem F_ref05_Step_eq (call : FCall) (hs : FHs) (t0 t1 t2 : AV) (m : Mem) : fxBody Try.prog pol NN call hs n_ref05_Step [t0, t1, t2] m = F_ref05_Step call hs [t0, t1, t2] m := by
  rw [fxBody_at (fn := Try.f93) (body := c_ref05_Step_0) (nt := 27) (rs := [.tmp 6]) (by kernel_rfl) (by kernel_rfl) (by kernel_rfl) (by kernel_rfl) (by kernel_rfl) (by kernel_rfl)]
  exact (congrFun (q_ref05_Step_0 call hs m.next) _).trans (by kernel_rfl)
theorem F_ref05_Step_le (call : FCall) (hs : FHs) (args : List AV) (m : Mem) (r : AV × Mem) (h : F_ref05_Step call hs args m = some r) : fxBody Try.prog pol NN call hs n_ref05_Step args m = some r := by
  unfold F_ref05_Step at h
  split at h
  · rw [F_ref05_Step_eq]; exact h
  · cases h

/- (swath/unwrap.net).pairs -/
abbrev k_unwrap_net_pairs (hs : FHs) (u : Nat) : FCtx := { f := n_unwrap_net_pairs, u := u, nt := 29, hs := hs }
noncomputable abbrev r_unwrap_net_pairs : Fs → Option (AV × Mem) := fxRes Try.prog [.tmp 4]
noncomputable def c_unwrap_net_pairs_0 : Code := nav (bodyOf n_unwrap_net_pairs) []
noncomputable def c_unwrap_net_pairs_1 : Code := nav (bodyOf n_unwrap_net_pairs) [false]
noncomputable def c_unwrap_net_pairs_2 : Code := nav (bodyOf n_unwrap_net_pairs) [true]
noncomputable def c_unwrap_net_pairs_3 : Code := nav (bodyOf n_unwrap_net_pairs) [true, false]
noncomputable def c_unwrap_net_pairs_4 : Code := nav (bodyOf n_unwrap_net_pairs) [true, true]
noncomputable def c_unwrap_net_pairs_5 : Code := nav (bodyOf n_unwrap_net_pairs) [true, true, false]
noncomputable def c_unwrap_net_pairs_6 : Code := nav (bodyOf n_unwrap_net_pairs) [true, true, true]
noncomputable def c_unwrap_net_pairs_7 : Code := nav (bodyOf n_unwrap_net_pairs) [true, true, false, false]
noncomputable def c_unwrap_net_pairs_8 : Code := nav (bodyOf n_unwrap_net_pairs) [true, true, false, true]
noncomputable def c_unwrap_net_pairs_9 : Code := nav (bodyOf n_unwrap_net_pairs) [true, true, false, true, false]
noncomputable def c_unwrap_net_pairs_10 : Code := nav (bodyOf n_unwrap_net_pairs) [true, true, false, true, false, false]
noncomputable def c_unwrap_net_pairs_11 : Code := nav (bodyOf n_unwrap_net_pairs) [true, true, false, true, false, false, false]
noncomputable def c_unwrap_net_pairs_12 : Code := nav (bodyOf n_unwrap_net_pairs) [true, true, false, true, false, false, true]
noncomputable def c_unwrap_net_pairs_13 : Code := nav (bodyOf n_unwrap_net_pairs) [true, true, false, true, false, false, true, false]
noncomputable def c_unwrap_net_pairs_14 : Code := nav (bodyOf n_unwrap_net_pairs) [true, true, false, true, false, false, true, true]
noncomputable def c_unwrap_net_pairs_15 : Code := nav (bodyOf n_unwrap_net_pairs) [true, true, false, true, false, false, true, true, false]
noncomputable def c_unwrap_net_pairs_16 : Code := nav (bodyOf n_unwrap_net_pairs) [true, true, false, true, false, false, true, true, true]
theorem q_unwrap_net_pairs_6 (call : FCall) (hs : FHs) (u : Nat) :
  fxK Try.prog pol NN call c_unwrap_net_pairs_6 (AV × Mem) (k_unwrap_net_pairs hs u) r_unwrap_net_pairs eNil r_unwrap_net_pairs = (fun s => B_unwrap_net_pairs_0 call hs u (s.sl 5) s.m s.fc) := by
  kernel_rfl
theorem q_unwrap_net_pairs_16 (call : FCall) (hs : FHs) (u : Nat) (rec0 : AV → AV → AV → AV → AV → Mem → Nat → Option (AV × Mem)) :
  fxK Try.prog pol NN call c_unwrap_net_pairs_16 (AV × Mem) (k_unwrap_net_pairs hs u) (fun s => rec0 (s.sl 1) (s.sl 5) (s.sl 10) (s.sl 11) (s.sl 12) s.m s.fc) (setE 0 (fun s => B_unwrap_net_pairs_0 call hs u (s.sl 5) s.m s.fc) eNil) r_unwrap_net_pairs = (fun s => B_unwrap_net_pairs_1 call hs u rec0 (s.sl 1) (s.sl 5) (s.sl 10) (s.sl 11) (s.sl 12) s.m s.fc) := by
  kernel_rfl
theorem q_unwrap_net_pairs_15 (call : FCall) (hs : FHs) (u : Nat) (rec0 : AV → AV → AV → AV → AV → Mem → Nat → Option (AV × Mem)) :
  fxK Try.prog pol NN call c_unwrap_net_pairs_15 (AV × Mem) (k_unwrap_net_pairs hs u) (fun s => B_unwrap_net_pairs_1 call hs u rec0 (s.sl 1) (s.sl 5) (s.sl 10) (s.sl 11) (s.sl 12) s.m s.fc) (setE 0 (fun s => B_unwrap_net_pairs_0 call hs u (s.sl 5) s.m s.fc) eNil) r_unwrap_net_pairs = (fun s => B_unwrap_net_pairs_2 call hs u rec0 (s.sl 1) (s.sl 5) (s.sl 10) (s.sl 11) (s.sl 12) s.m s.fc) := by
  kernel_rfl
theorem q_unwrap_net_pairs_14 (call : FCall) (hs : FHs) (u : Nat) (rec0 : AV → AV → AV → AV → AV → Mem → Nat → Option (AV × Mem)) :
  fxK Try.prog pol NN call c_unwrap_net_pairs_14 (AV × Mem) (k_unwrap_net_pairs hs u) (fun s => rec0 (s.sl 1) (s.sl 5) (s.sl 10) (s.sl 11) (s.sl 12) s.m s.fc) (setE 0 (fun s => B_unwrap_net_pairs_0 call hs u (s.sl 5) s.m s.fc) eNil) r_unwrap_net_pairs = (fun s => B_unwrap_net_pairs_2 call hs u rec0 (s.sl 1) (s.sl 5) (s.sl 10) (s.sl 11) (s.sl 12) s.m s.fc) := by
  rw [show c_unwrap_net_pairs_14 = .seq c_unwrap_net_pairs_15 c_unwrap_net_pairs_16 from by kernel_rfl, seq_r, q_unwrap_net_pairs_16 call hs u rec0, q_unwrap_net_pairs_15 call hs u rec0]
theorem q_unwrap_net_pairs_10 (call : FCall) (hs : FHs) (u : Nat) (rec0 : AV → AV → AV → AV → AV → Mem → Nat → Option (AV × Mem)) :
  fxK Try.prog pol NN call c_unwrap_net_pairs_10 (AV × Mem) (k_unwrap_net_pairs hs u) (fun s => rec0 (s.sl 1) (s.sl 5) (s.sl 10) (s.sl 11) (s.sl 12) s.m s.fc) (setE 0 (fun s => B_unwrap_net_pairs_0 call hs u (s.sl 5) s.m s.fc) eNil) r_unwrap_net_pairs = (fun s => B_unwrap_net_pairs_3 call hs u rec0 (s.sl 1) (s.sl 5) (s.sl 10) (s.sl 11) (s.sl 12) s.m s.fc) := by
  rw [show c_unwrap_net_pairs_10 = .seq c_unwrap_net_pairs_11 c_unwrap_net_pairs_12 from by kernel_rfl, seq_r]; rw [show c_unwrap_net_pairs_12 = .seq c_unwrap_net_pairs_13 c_unwrap_net_pairs_14 from by kernel_rfl, seq_r]; rw [q_unwrap_net_pairs_14 call hs u rec0]; kernel_rfl
theorem q_L_unwrap_net_pairs_0 (call : FCall) (hs : FHs) (u : Nat) : ∀ n : Nat,
  iter (fun rec => fxK Try.prog pol NN call c_unwrap_net_pairs_10 (AV × Mem) (k_unwrap_net_pairs hs u) rec (setE 0 (fun s => B_unwrap_net_pairs_0 call hs u (s.sl 5) s.m s.fc) eNil) r_unwrap_net_pairs) n = (fun s => L_unwrap_net_pairs_0 call hs u n (s.sl 1) (s.sl 5) (s.sl 10) (s.sl 11) (s.sl 12) s.m s.fc)
  | 0 => rfl
  | n + 1 => by rw [iter_succ, q_L_unwrap_net_pairs_0 call hs u n, q_unwrap_net_pairs_10 call hs u (L_unwrap_net_pairs_0 call hs u n)]; kernel_rfl
theorem q_unwrap_net_pairs_9 (call : FCall) (hs : FHs) (u : Nat) :
  fxK Try.prog pol NN call c_unwrap_net_pairs_9 (AV × Mem) (k_unwrap_net_pairs hs u) (fun s => B_unwrap_net_pairs_0 call hs u (s.sl 5) s.m s.fc) (setE 0 (fun s => B_unwrap_net_pairs_0 call hs u (s.sl 5) s.m s.fc) eNil) r_unwrap_net_pairs = (fun s => L_unwrap_net_pairs_0 call hs u NN (s.sl 1) (s.sl 5) (s.sl 10) (s.sl 11) (s.sl 12) s.m s.fc) := by
  rw [show c_unwrap_net_pairs_9 = .loop c_unwrap_net_pairs_10 from by kernel_rfl, loop_r, q_L_unwrap_net_pairs_0 call hs u NN]
theorem q_unwrap_net_pairs_8 (call : FCall) (hs : FHs) (u : Nat) :
  fxK Try.prog pol NN call c_unwrap_net_pairs_8 (AV × Mem) (k_unwrap_net_pairs hs u) (fun s => B_unwrap_net_pairs_0 call hs u (s.sl 5) s.m s.fc) eNil r_unwrap_net_pairs = (fun s => L_unwrap_net_pairs_0 call hs u NN (s.sl 1) (s.sl 5) (s.sl 10) (s.sl 11) (s.sl 12) s.m s.fc) := by
  rw [show c_unwrap_net_pairs_8 = .block 0 c_unwrap_net_pairs_9 from by kernel_rfl, block_r, q_unwrap_net_pairs_9 call hs u]
theorem q_unwrap_net_pairs_5 (call : FCall) (hs : FHs) (u : Nat) :
  fxK Try.prog pol NN call c_unwrap_net_pairs_5 (AV × Mem) (k_unwrap_net_pairs hs u) (fun s => B_unwrap_net_pairs_0 call hs u (s.sl 5) s.m s.fc) eNil r_unwrap_net_pairs = (fun s => B_unwrap_net_pairs_4 call hs u (s.sl 1) (s.sl 2) (s.sl 5) s.m s.fc) := by
  rw [show c_unwrap_net_pairs_5 = .seq c_unwrap_net_pairs_7 c_unwrap_net_pairs_8 from by kernel_rfl, seq_r]; rw [q_unwrap_net_pairs_8 call hs u]; kernel_rfl
theorem q_unwrap_net_pairs_4 (call : FCall) (hs : FHs) (u : Nat) :
  fxK Try.prog pol NN call c_unwrap_net_pairs_4 (AV × Mem) (k_unwrap_net_pairs hs u) r_unwrap_net_pairs eNil r_unwrap_net_pairs = (fun s => B_unwrap_net_pairs_4 call hs u (s.sl 1) (s.sl 2) (s.sl 5) s.m s.fc) := by
  rw [show c_unwrap_net_pairs_4 = .seq c_unwrap_net_pairs_5 c_unwrap_net_pairs_6 from by kernel_rfl, seq_r, q_unwrap_net_pairs_6 call hs u, q_unwrap_net_pairs_5 call hs u]
theorem q_unwrap_net_pairs_0 (call : FCall) (hs : FHs) (u : Nat) :
  fxK Try.prog pol NN call c_unwrap_net_pairs_0 (AV × Mem) (k_unwrap_net_pairs hs u) r_unwrap_net_pairs eNil r_unwrap_net_pairs = (fun s => B_unwrap_net_pairs_5 call hs u (s.sl 0) (s.sl 1) s.m s.fc) := by
  rw [show c_unwrap_net_pairs_0 = .seq c_unwrap_net_pairs_1 c_unwrap_net_pairs_2 from by kernel_rfl, seq_r]; rw [show c_unwrap_net_pairs_2 = .seq c_unwrap_net_pairs_3 c_unwrap_net_pairs_4 from by kernel_rfl, seq_r]; rw [q_unwrap_net_pairs_4 call hs u]; kernel_rfl
theorem F_unwrap_net_pairs_eq (call : FCall) (hs : FHs) (t0 t1 : AV) (m : Mem) : fxBody Try.prog pol NN call hs n_unwrap_net_pairs [t0, t1] m = F_unwrap_net_pairs call hs [t0, t1] m := by
  rw [fxBody_at (fn := Try.f95) (body := c_unwrap_net_pairs_0) (nt := 29) (rs := [.tmp 4]) (by kernel_rfl) (by kernel_rfl) (by kernel_rfl) (by kernel_rfl) (by kernel_rfl) (by kernel_rfl)]
  exact (congrFun (q_unwrap_net_pairs_0 call hs m.next) _).trans (by kernel_rfl)
theorem F_unwrap_net_pairs_le (call : FCall) (hs : FHs) (args : List AV) (m : Mem) (r : AV × Mem) (h : F_unwrap_net_pairs call hs args m = some r) : fxBody Try.prog pol NN call hs n_unwrap_net_pairs args m = some r := by
  unfold F_unwrap_net_pairs at h
  split at h
  · rw [F_unwrap_net_pairs_eq]; exact h
  · cases h

/- swath/unwrap.excess -/
abbrev k_unwrap_excess (hs : FHs) (u : Nat) : FCtx := { f := n_unwrap_excess, u := u, nt := 19, hs := hs }
noncomputable abbrev r_unwrap_excess : Fs → Option (AV × Mem) := fxRes Try.prog [.tmp 4]
noncomputable def c_unwrap_excess_0 : Code := nav (bodyOf n_unwrap_excess) []
theorem q_unwrap_excess_0 (call : FCall) (hs : FHs) (u : Nat) :
  fxK Try.prog pol NN call c_unwrap_excess_0 (AV × Mem) (k_unwrap_excess hs u) r_unwrap_excess eNil r_unwrap_excess = (fun s => B_unwrap_excess_0 call hs u (s.sl 0) (s.sl 1) s.m s.fc) := by
  kernel_rfl
theorem F_unwrap_excess_eq (call : FCall) (hs : FHs) (t0 t1 : AV) (m : Mem) : fxBody Try.prog pol NN call hs n_unwrap_excess [t0, t1] m = F_unwrap_excess call hs [t0, t1] m := by
  rw [fxBody_at (fn := Try.f97) (body := c_unwrap_excess_0) (nt := 19) (rs := [.tmp 4]) (by kernel_rfl) (by kernel_rfl) (by kernel_rfl) (by kernel_rfl) (by kernel_rfl) (by kernel_rfl)]
  exact (congrFun (q_unwrap_excess_0 call hs m.next) _).trans (by kernel_rfl)
theorem F_unwrap_excess_le (call : FCall) (hs : FHs) (args : List AV) (m : Mem) (r : AV × Mem) (h : F_unwrap_excess call hs args m = some r) : fxBody Try.prog pol NN call hs n_unwrap_excess args m = some r := by
  unfold F_unwrap_excess at h
  split at h
  · rw [F_unwrap_excess_eq]; exact h
  · cases h

/- swath/swathbase.Mod -/
abbrev k_base_Mod (hs : FHs) (u : Nat) : FCtx := { f := n_base_Mod, u := u, nt := 14, hs := hs }
noncomputable abbrev r_base_Mod : Fs → Option (AV × Mem) := fxRes Try.prog [.tmp 4]
noncomputable def c_base_Mod_0 : Code := nav (bodyOf n_base_Mod) []
noncomputable def c_base_Mod_1 : Code := nav (bodyOf n_base_Mod) [false]
noncomputable def c_base_Mod_2 : Code := nav (bodyOf n_base_Mod) [true]
noncomputable def c_base_Mod_3 : Code := nav (bodyOf n_base_Mod) [true, false]
noncomputable def c_base_Mod_4 : Code := nav (bodyOf n_base_Mod) [true, true]
noncomputable def c_base_Mod_5 : Code := nav (bodyOf n_base_Mod) [true, true, false]
noncomputable def c_base_Mod_6 : Code := nav (bodyOf n_base_Mod) [true, true, true]
theorem q_base_Mod_6 (call : FCall) (hs : FHs) (u : Nat) :
  fxK Try.prog pol NN call c_base_Mod_6 (AV × Mem) (k_base_Mod hs u) r_base_Mod eNil r_base_Mod = (fun s => B_base_Mod_0 call hs u (s.sl 0) s.m s.fc) := by
  kernel_rfl
theorem q_base_Mod_5 (call : FCall) (hs : FHs) (u : Nat) :
  fxK Try.prog pol NN call c_base_Mod_5 (AV × Mem) (k_base_Mod hs u) (fun s => B_base_Mod_0 call hs u (s.sl 0) s.m s.fc) eNil r_base_Mod = (fun s => B_base_Mod_1 call hs u (s.sl 0) (s.sl 1) s.m s.fc) := by
  kernel_rfl
theorem q_base_Mod_4 (call : FCall) (hs : FHs) (u : Nat) :
  fxK Try.prog pol NN call c_base_Mod_4 (AV × Mem) (k_base_Mod hs u) r_base_Mod eNil r_base_Mod = (fun s => B_base_Mod_1 call hs u (s.sl 0) (s.sl 1) s.m s.fc) := by
  rw [show c_base_Mod_4 = .seq c_base_Mod_5 c_base_Mod_6 from by kernel_rfl, seq_r, q_base_Mod_6 call hs u, q_base_Mod_5 call hs u]
theorem q_base_Mod_0 (call : FCall) (hs : FHs) (u : Nat) :
  fxK Try.prog pol NN call c_base_Mod_0 (AV × Mem) (k_base_Mod hs u) r_base_Mod eNil r_base_Mod = (fun s => B_base_Mod_2 call hs u (s.sl 0) (s.sl 1) s.m s.fc) := by
  rw [show c_base_Mod_0 = .seq c_base_Mod_1 c_base_Mod_2 from by kernel_rfl, seq_r]; rw [show c_base_Mod_2 = .seq c_base_Mod_3 c_base_Mod_4 from by kernel_rfl, seq_r]; rw [q_base_Mod_4 call hs u]; kernel_rfl
theorem F_base_Mod_eq (call : FCall) (hs : FHs) (t0 t1 : AV) (m : Mem) : fxBody Try.prog pol NN call hs n_base_Mod [t0, t1] m = F_base_Mod call hs [t0, t1] m := by
  rw [fxBody_at (fn := Try.f99) (body := c_base_Mod_0) (nt := 14) (rs := [.tmp 4]) (by kernel_rfl) (by kernel_rfl) (by kernel_rfl) (by kernel_rfl) (by kernel_rfl) (by kernel_rfl)]
  exact (congrFun (q_base_Mod_0 call hs m.next) _).trans (by kernel_rfl)
theorem F_base_Mod_le (call : FCall) (hs : FHs) (args : List AV) (m : Mem) (r : AV × Mem) (h : F_base_Mod call hs args m = some r) : fxBody Try.prog pol NN call hs n_base_Mod args m = some r := by
  unfold F_base_Mod at h
  split at h
  · rw [F_base_Mod_eq]; exact h
  · cases h

/- swath/swathref05.Excess -/
abbrev k_ref05_Excess (hs : FHs) (u : Nat) : FCtx := { f := n_ref05_Excess, u := u, nt := 19, hs := hs }
noncomputable abbrev r_ref05_Excess : Fs → Option (AV × Mem) := fxRes Try.prog [.tmp 4]
noncomputable def c_ref05_Excess_0 : Code := nav (bodyOf n_ref05_Excess) []
theorem q_ref05_Excess_0 (call : FCall) (hs : FHs) (u : Nat) :
  fxK Try.prog pol NN call c_ref05_Excess_0 (AV × Mem) (k_ref05_Excess hs u) r_ref05_Excess eNil r_ref05_Excess = (fun s => B_ref05_Excess_0 call hs u (s.sl 0) (s.sl 1) s.m s.fc) := by
  kernel_rfl
theorem F_ref05_Excess_eq (call : FCall) (hs : FHs) (t0 t1 : AV) (m : Mem) : fxBody Try.prog pol NN call hs n_ref05_Excess [t0, t1] m = F_ref05_Excess call hs [t0, t1] m := by
  rw [fxBody_at (fn := Try.f100) (body := c_ref05_Excess_0) (nt := 19) (rs := [.tmp 4]) (by kernel_rfl) (by kernel_rfl) (by kernel_rfl) (by kernel_rfl) (by kernel_rfl) (by kernel_rfl)]
  exact (congrFun (q_ref05_Excess_0 call hs m.next) _).trans (by kernel_rfl)
theorem F_ref05_Excess_le (call : FCall) (hs : FHs) (args : List AV) (m : Mem) (r : AV × Mem) (h : F_ref05_Excess call hs args m = some r) : fxBody Try.prog pol NN call hs n_ref05_Excess args m = some r := by
  unfold F_ref05_Excess at h
  split at h
  · rw [F_ref05_Excess_eq]; exact h
  · cases h

/- swath/unwrap.Undecided$1 -/
abbrev k_unwrap_Undecided_1 (hs : FHs) (u : Nat) : FCtx := { f := n_unwrap_Undecided_1, u := u, nt := 15, hs := hs }
noncomputable abbrev r_unwrap_Undecided_1 : Fs → Option (AV × Mem) := fxRes Try.prog [.tmp 3]
noncomputable def c_unwrap_Undecided_1_0 : Code := nav (bodyOf n_unwrap_Undecided_1) []
theorem q_unwrap_Undecided_1_0 (call : FCall) (hs : FHs) (u : Nat) :
  fxK Try.prog pol NN call c_unwrap_Undecided_1_0 (AV × Mem) (k_unwrap_Undecided_1 hs u) r_unwrap_Undecided_1 eNil r_unwrap_Undecided_1 = (fun s => B_unwrap_Undecided_1_0 call hs u (s.sl 0) (s.sl 1) s.m s.fc) := by
  kernel_rfl
theorem F_unwrap_Undecided_1_eq (call : FCall) (hs : FHs) (t0 t1 : AV) (m : Mem) : fxBody Try.prog pol NN call hs n_unwrap_Undecided_1 [t0, t1] m = F_unwrap_Undecided_1 call hs [t0, t1] m := by
  rw [fxBody_at (fn := Try.f101) (body := c_unwrap_Undecided_1_0) (nt := 15) (rs := [.tmp 3]) (by kernel_rfl) (by kernel_rfl) (by kernel_rfl) (by kernel_rfl) (by kernel_rfl) (by kernel_rfl)]
  exact (congrFun (q_unwrap_Undecided_1_0 call hs m.next) _).trans (by kernel_rfl)
theorem F_unwrap_Undecided_1_le (call : FCall) (hs : FHs) (args : List AV) (m : Mem) (r : AV × Mem) (h : F_unwrap_Undecided_1 call hs args m = some r) : fxBody Try.prog pol NN call hs n_unwrap_Undecided_1 args m = some r := by
  unfold F_unwrap_Undecided_1 at h
  split at h
  · rw [F_unwrap_Undecided_1_eq]; exact h
  · cases h

/- swath/unwrap.CheckNet -/
abbrev k_unwrap_CheckNet (hs : FHs) (u : Nat) : FCtx := { f := n_unwrap_CheckNet, u := u, nt := 62, hs := hs }
noncomputable abbrev r_unwrap_CheckNet : Fs → Option (AV × Mem) := fxRes Try.prog [.tmp 2, .tmp 3]
noncomputable def c_unwrap_CheckNet_0 : Code := nav (bodyOf n_unwrap_CheckNet) []
noncomputable def c_unwrap_CheckNet_1 : Code := nav (bodyOf n_unwrap_CheckNet) [false]
noncomputable def c_unwrap_CheckNet_2 : Code := nav (bodyOf n_unwrap_CheckNet) [true]
noncomputable def c_unwrap_CheckNet_3 : Code := nav (bodyOf n_unwrap_CheckNet) [true, false]
noncomputable def c_unwrap_CheckNet_4 : Code := nav (bodyOf n_unwrap_CheckNet) [true, true]
noncomputable def c_unwrap_CheckNet_5 : Code := nav (bodyOf n_unwrap_CheckNet) [true, true, false]
noncomputable def c_unwrap_CheckNet_6 : Code := nav (bodyOf n_unwrap_CheckNet) [true, true, true]
noncomputable def c_unwrap_CheckNet_7 : Code := nav (bodyOf n_unwrap_CheckNet) [true, true, false, false]
noncomputable def c_unwrap_CheckNet_8 : Code := nav (bodyOf n_unwrap_CheckNet) [true, true, false, true]
noncomputable def c_unwrap_CheckNet_9 : Code := nav (bodyOf n_unwrap_CheckNet) [true, true, false, true, false]
noncomputable def c_unwrap_CheckNet_10 : Code := nav (bodyOf n_unwrap_CheckNet) [true, true, false, true, false, false]
theorem q_unwrap_CheckNet_6 (call : FCall) (hs : FHs) (u : Nat) :
  fxK Try.prog pol NN call c_unwrap_CheckNet_6 (AV × Mem) (k_unwrap_CheckNet hs u) r_unwrap_CheckNet eNil r_unwrap_CheckNet = (fun s => B_unwrap_CheckNet_0 call hs u s.m s.fc) := by
  kernel_rfl
theorem q_unwrap_CheckNet_10 (call : FCall) (hs : FHs) (u : Nat) (rec0 : AV → AV → AV → AV → Mem → Nat → Option (AV × Mem)) :
  fxK Try.prog pol NN call c_unwrap_CheckNet_10 (AV × Mem) (k_unwrap_CheckNet hs u) (fun s => rec0 (s.sl 1) (s.sl 17) (s.sl 18) (s.sl 19) s.m s.fc) (setE 1 (fun s => B_unwrap_CheckNet_0 call hs u s.m s.fc) eNil) r_unwrap_CheckNet = (fun s => B_unwrap_CheckNet_1 call hs u rec0 (s.sl 1) (s.sl 17) (s.sl 18) (s.sl 19) s.m s.fc) := by
  kernel_rfl
theorem q_L_unwrap_CheckNet_0 (call : FCall) (hs : FHs) (u : Nat) : ∀ n : Nat,
  iter (fun rec => fxK Try.prog pol NN call c_unwrap_CheckNet_10 (AV × Mem) (k_unwrap_CheckNet hs u) rec (setE 1 (fun s => B_unwrap_CheckNet_0 call hs u s.m s.fc) eNil) r_unwrap_CheckNet) n = (fun s => L_unwrap_CheckNet_0 call hs u n (s.sl 1) (s.sl 17) (s.sl 18) (s.sl 19) s.m s.fc)
  | 0 => rfl
  | n + 1 => by rw [iter_succ, q_L_unwrap_CheckNet_0 call hs u n, q_unwrap_CheckNet_10 call hs u (L_unwrap_CheckNet_0 call hs u n)]; kernel_rfl
theorem q_unwrap_CheckNet_9 (call : FCall) (hs : FHs) (u : Nat) :
  fxK Try.prog pol NN call c_unwrap_CheckNet_9 (AV × Mem) (k_unwrap_CheckNet hs u) (fun s => B_unwrap_CheckNet_0 call hs u s.m s.fc) (setE 1 (fun s => B_unwrap_CheckNet_0 call hs u s.m s.fc) eNil) r_unwrap_CheckNet = (fun s => L_unwrap_CheckNet_0 call hs u NN (s.sl 1) (s.sl 17) (s.sl 18) (s.sl 19) s.m s.fc) := by
  rw [show c_unwrap_CheckNet_9 = .loop c_unwrap_CheckNet_10 from by kernel_rfl, loop_r, q_L_unwrap_CheckNet_0 call hs u NN]
theorem q_unwrap_CheckNet_8 (call : FCall) (hs : FHs) (u : Nat) :
  fxK Try.prog pol NN call c_unwrap_CheckNet_8 (AV × Mem) (k_unwrap_CheckNet hs u) (fun s => B_unwrap_CheckNet_0 call hs u s.m s.fc) eNil r_unwrap_CheckNet = (fun s => L_unwrap_CheckNet_0 call hs u NN (s.sl 1) (s.sl 17) (s.sl 18) (s.sl 19) s.m s.fc) := by
  rw [show c_unwrap_CheckNet_8 = .block 1 c_unwrap_CheckNet_9 from by kernel_rfl, block_r, q_unwrap_CheckNet_9 call hs u]
theorem q_unwrap_CheckNet_5 (call : FCall) (hs : FHs) (u : Nat) :
  fxK Try.prog pol NN call c_unwrap_CheckNet_5 (AV × Mem) (k_unwrap_CheckNet hs u) (fun s => B_unwrap_CheckNet_0 call hs u s.m s.fc) eNil r_unwrap_CheckNet = (fun s => B_unwrap_CheckNet_2 call hs u (s.sl 1) s.m s.fc) := by
  rw [show c_unwrap_CheckNet_5 = .seq c_unwrap_CheckNet_7 c_unwrap_CheckNet_8 from by kernel_rfl, seq_r]; rw [q_unwrap_CheckNet_8 call hs u]; kernel_rfl
theorem q_unwrap_CheckNet_4 (call : FCall) (hs : FHs) (u : Nat) :
  fxK Try.prog pol NN call c_unwrap_CheckNet_4 (AV × Mem) (k_unwrap_CheckNet hs u) r_unwrap_CheckNet eNil r_unwrap_CheckNet = (fun s => B_unwrap_CheckNet_2 call hs u (s.sl 1) s.m s.fc) := by
  rw [show c_unwrap_CheckNet_4 = .seq c_unwrap_CheckNet_5 c_unwrap_CheckNet_6 from by kernel_rfl, seq_r, q_unwrap_CheckNet_6 call hs u, q_unwrap_CheckNet_5 call hs u]
theorem q_unwrap_CheckNet_0 (call : FCall) (hs : FHs) (u : Nat) :
  fxK Try.prog pol NN call c_unwrap_CheckNet_0 (AV × Mem) (k_unwrap_CheckNet hs u) r_unwrap_CheckNet eNil r_unwrap_CheckNet = (fun s => B_unwrap_CheckNet_3 call hs u (s.sl 0) s.m s.fc) := by
  rw [show c_unwrap_CheckNet_0 = .seq c_unwrap_CheckNet_1 c_unwrap_CheckNet_2 from by kernel_rfl, seq_r]; rw [show c_unwrap_CheckNet_2 = .seq c_unwrap_CheckNet_3 c_unwrap_CheckNet_4 from by kernel_rfl, seq_r]; rw [q_unwrap_CheckNet_4 call hs u]; kernel_rfl
theorem F_unwrap_CheckNet_eq (call : FCall) (hs : FHs) (t0 : AV) (m : Mem) : fxBody Try.prog pol NN call hs n_unwrap_CheckNet [t0] m = F_unwrap_CheckNet call hs [t0] m := by
  rw [fxBody_at (fn := Try.f102) (body := c_unwrap_CheckNet_0) (nt := 62) (rs := [.tmp 2, .tmp 3]) (by kernel_rfl) (by kernel_rfl) (by kernel_rfl) (by kernel_rfl) (by kernel_rfl) (by kernel_rfl)]
  exact (congrFun (q_unwrap_CheckNet_0 call hs m.next) _).trans (by kernel_rfl)
theorem F_unwrap_CheckNet_le (call : FCall) (hs : FHs) (args : List AV) (m : Mem) (r : AV × Mem) (h : F_unwrap_CheckNet call hs args m = some r) : fxBody Try.prog pol NN call hs n_unwrap_CheckNet args m = some r := by
  unfold F_unwrap_CheckNet at h
  split at h
  · rw [F_unwrap_CheckNet_eq]; exact h
  · cases h

/- swath/unwrap.newSolver -/
abbrev k_unwrap_newSolver (hs : FHs) (u : Nat) : FCtx := { f := n_unwrap_newSolver, u := u, nt := 132, hs := hs }
noncomputable abbrev r_unwrap_newSolver : Fs → Option (AV × Mem) := fxRes Try.prog [.tmp 2]
noncomputable def c_unwrap_newSolver_0 : Code := nav (bodyOf n_unwrap_newSolver) []
noncomputable def c_unwrap_newSolver_1 : Code := nav (bodyOf n_unwrap_newSolver) [false]
noncomputable def c_unwrap_newSolver_2 : Code := nav (bodyOf n_unwrap_newSolver) [true]
noncomputable def c_unwrap_newSolver_3 : Code := nav (bodyOf n_unwrap_newSolver) [true, false]
noncomputable def c_unwrap_newSolver_4 : Code := nav (bodyOf n_unwrap_newSolver) [true, true]
noncomputable def c_unwrap_newSolver_5 : Code := nav (bodyOf n_unwrap_newSolver) [true, true, false]
noncomputable def c_unwrap_newSolver_6 : Code := nav (bodyOf n_unwrap_newSolver) [true, true, true]
noncomputable def c_unwrap_newSolver_7 : Code := nav (bodyOf n_unwrap_newSolver) [true, true, false, false]
noncomputable def c_unwrap_newSolver_8 : Code := nav (bodyOf n_unwrap_newSolver) [true, true, false, true]
noncomputable def c_unwrap_newSolver_9 : Code := nav (bodyOf n_unwrap_newSolver) [true, true, false, true, false]
noncomputable def c_unwrap_newSolver_10 : Code := nav (bodyOf n_unwrap_newSolver) [true, true, false, true, false, false]
noncomputable def c_unwrap_newSolver_11 : Code := nav (bodyOf n_unwrap_newSolver) [true, true, false, true, false, false, false]
noncomputable def c_unwrap_newSolver_12 : Code := nav (bodyOf n_unwrap_newSolver) [true, true, false, true, false, false, true]
noncomputable def c_unwrap_newSolver_13 : Code := nav (bodyOf n_unwrap_newSolver) [true, true, false, true, false, false, true, false]
noncomputable def c_unwrap_newSolver_14 : Code := nav (bodyOf n_unwrap_newSolver) [true, true, false, true, false, false, true, true]
noncomputable def c_unwrap_newSolver_15 : Code := nav (bodyOf n_unwrap_newSolver) [true, true, false, true, false, false, true, true, false]
noncomputable def c_unwrap_newSolver_16 : Code := nav (bodyOf n_unwrap_newSolver) [true, true, false, true, false, false, true, true, true]
noncomputable def c_unwrap_newSolver_17 : Code := nav (bodyOf n_unwrap_newSolver) [true, true, false, true, false, false, true, true, false, false]
noncomputable def c_unwrap_newSolver_18 : Code := nav (bodyOf n_unwrap_newSolver) [true, true, false, true, false, false, true, true, false, false, false]
noncomputable def c_unwrap_newSolver_19 : Code := nav (bodyOf n_unwrap_newSolver) [true, true, false, true, false, false, true, true, false, false, true]
noncomputable def c_unwrap_newSolver_20 : Code := nav (bodyOf n_unwrap_newSolver) [true, true, false, true, false, false, true, true, false, false, true, false]
noncomputable def c_unwrap_newSolver_21 : Code := nav (bodyOf n_unwrap_newSolver) [true, true, false, true, false, false, true, true, false, false, true, true]
theorem q_unwrap_newSolver_6 (call : FCall) (hs : FHs) (u : Nat) :
  fxK Try.prog pol NN call c_unwrap_newSolver_6 (AV × Mem) (k_unwrap_newSolver hs u) r_unwrap_newSolver eNil r_unwrap_newSolver = (fun s => B_unwrap_newSolver_0 call hs u (s.sl 3) s.m s.fc) := by
  kernel_rfl
theorem q_unwrap_newSolver_16 (call : FCall) (hs : FHs) (u : Nat) (rec0 : AV → AV → AV → AV → Mem → Nat → Option (AV × Mem)) :
  fxK Try.prog pol NN call c_unwrap_newSolver_16 (AV × Mem) (k_unwrap_newSolver hs u) (fun s => rec0 (s.sl 3) (s.sl 28) (s.sl 29) (s.sl 30) s.m s.fc) (setE 0 (fun s => B_unwrap_newSolver_0 call hs u (s.sl 3) s.m s.fc) eNil) r_unwrap_newSolver = (fun s => B_unwrap_newSolver_1 call hs u rec0 (s.sl 3) (s.sl 28) (s.sl 29) (s.sl 30) s.m s.fc) := by
  kernel_rfl
theorem q_unwrap_newSolver_21 (call : FCall) (hs : FHs) (u : Nat) (rec0 : AV → AV → AV → AV → Mem → Nat → Option (AV × Mem)) :
  fxK Try.prog pol NN call c_unwrap_newSolver_21 (AV × Mem) (k_unwrap_newSolver hs u) (fun s => B_unwrap_newSolver_1 call hs u rec0 (s.sl 3) (s.sl 28) (s.sl 29) (s.sl 30) s.m s.fc) (setE 1 (fun s => B_unwrap_newSolver_1 call hs u rec0 (s.sl 3) (s.sl 28) (s.sl 29) (s.sl 30) s.m s.fc) (setE 0 (fun s => B_unwrap_newSolver_0 call hs u (s.sl 3) s.m s.fc) eNil)) r_unwrap_newSolver = (fun s => B_unwrap_newSolver_2 call hs u rec0 (s.sl 3) (s.sl 4) (s.sl 5) (s.sl 28) (s.sl 29) (s.sl 30) s.m s.fc) := by
  kernel_rfl
theorem q_unwrap_newSolver_20 (call : FCall) (hs : FHs) (u : Nat) (rec0 : AV → AV → AV → AV → Mem → Nat → Option (AV × Mem)) :
  fxK Try.prog pol NN call c_unwrap_newSolver_20 (AV × Mem) (k_unwrap_newSolver hs u) (fun s => B_unwrap_newSolver_2 call hs u rec0 (s.sl 3) (s.sl 4) (s.sl 5) (s.sl 28) (s.sl 29) (s.sl 30) s.m s.fc) (setE 1 (fun s => B_unwrap_newSolver_1 call hs u rec0 (s.sl 3) (s.sl 28) (s.sl 29) (s.sl 30) s.m s.fc) (setE 0 (fun s => B_unwrap_newSolver_0 call hs u (s.sl 3) s.m s.fc) eNil)) r_unwrap_newSolver = (fun s => B_unwrap_newSolver_3 call hs u rec0 (s.sl 3) (s.sl 4) (s.sl 5) (s.sl 28) (s.sl 29) (s.sl 30) s.m s.fc) := by
  kernel_rfl
theorem q_unwrap_newSolver_19 (call : FCall) (hs : FHs) (u : Nat) (rec0 : AV → AV → AV → AV → Mem → Nat → Option (AV × Mem)) :
  fxK Try.prog pol NN call c_unwrap_newSolver_19 (AV × Mem) (k_unwrap_newSolver hs u) (fun s => B_unwrap_newSolver_1 call hs u rec0 (s.sl 3) (s.sl 28) (s.sl 29) (s.sl 30) s.m s.fc) (setE 1 (fun s => B_unwrap_newSolver_1 call hs u rec0 (s.sl 3) (s.sl 28) (s.sl 29) (s.sl 30) s.m s.fc) (setE 0 (fun s => B_unwrap_newSolver_0 call hs u (s.sl 3) s.m s.fc) eNil)) r_unwrap_newSolver = (fun s => B_unwrap_newSolver_3 call hs u rec0 (s.sl 3) (s.sl 4) (s.sl 5) (s.sl 28) (s.sl 29) (s.sl 30) s.m s.fc) := by
  rw [show c_unwrap_newSolver_19 = .seq c_unwrap_newSolver_20 c_unwrap_newSolver_21 from by kernel_rfl, seq_r, q_unwrap_newSolver_21 call hs u rec0, q_unwrap_newSolver_20 call hs u rec0]
theorem q_unwrap_newSolver_17 (call : FCall) (hs : FHs) (u : Nat) (rec0 : AV → AV → AV → AV → Mem → Nat → Option (AV × Mem)) :
  fxK Try.prog pol NN call c_unwrap_newSolver_17 (AV × Mem) (k_unwrap_newSolver hs u) (fun s => B_unwrap_newSolver_1 call hs u rec0 (s.sl 3) (s.sl 28) (s.sl 29) (s.sl 30) s.m s.fc) (setE 1 (fun s => B_unwrap_newSolver_1 call hs u rec0 (s.sl 3) (s.sl 28) (s.sl 29) (s.sl 30) s.m s.fc) (setE 0 (fun s => B_unwrap_newSolver_0 call hs u (s.sl 3) s.m s.fc) eNil)) r_unwrap_newSolver = (fun s => B_unwrap_newSolver_4 call hs u rec0 (s.sl 3) (s.sl 28) (s.sl 29) (s.sl 30) s.m s.fc) := by
  rw [show c_unwrap_newSolver_17 = .seq c_unwrap_newSolver_18 c_unwrap_newSolver_19 from by kernel_rfl, seq_r]; rw [q_unwrap_newSolver_19 call hs u rec0]; kernel_rfl
theorem q_unwrap_newSolver_15 (call : FCall) (hs : FHs) (u : Nat) (rec0 : AV → AV → AV → AV → Mem → Nat → Option (AV × Mem)) :
  fxK Try.prog pol NN call c_unwrap_newSolver_15 (AV × Mem) (k_unwrap_newSolver hs u) (fun s => B_unwrap_newSolver_1 call hs u rec0 (s.sl 3) (s.sl 28) (s.sl 29) (s.sl 30) s.m s.fc) (setE 0 (fun s => B_unwrap_newSolver_0 call hs u (s.sl 3) s.m s.fc) eNil) r_unwrap_newSolver = (fun s => B_unwrap_newSolver_4 call hs u rec0 (s.sl 3) (s.sl 28) (s.sl 29) (s.sl 30) s.m s.fc) := by
  rw [show c_unwrap_newSolver_15 = .block 1 c_unwrap_newSolver_17 from by kernel_rfl, block_r, q_unwrap_newSolver_17 call hs u rec0]
theorem q_unwrap_newSolver_14 (call : FCall) (hs : FHs) (u : Nat) (rec0 : AV → AV → AV → AV → Mem → Nat → Option (AV × Mem)) :
  fxK Try.prog pol NN call c_unwrap_newSolver_14 (AV × Mem) (k_unwrap_newSolver hs u) (fun s => rec0 (s.sl 3) (s.sl 28) (s.sl 29) (s.sl 30) s.m s.fc) (setE 0 (fun s => B_unwrap_newSolver_0 call hs u (s.sl 3) s.m s.fc) eNil) r_unwrap_newSolver = (fun s => B_unwrap_newSolver_4 call hs u rec0 (s.sl 3) (s.sl 28) (s.sl 29) (s.sl 30) s.m s.fc) := by
  rw [show c_unwrap_newSolver_14 = .seq c_unwrap_newSolver_15 c_unwrap_newSolver_16 from by kernel_rfl, seq_r, q_unwrap_newSolver_16 call hs u rec0, q_unwrap_newSolver_15 call hs u rec0]
theorem q_unwrap_newSolver_10 (call : FCall) (hs : FHs) (u : Nat) (rec0 : AV → AV → AV → AV → Mem → Nat → Option (AV × Mem)) :
  fxK Try.prog pol NN call c_unwrap_newSolver_10 (AV × Mem) (k_unwrap_newSolver hs u) (fun s => rec0 (s.sl 3) (s.sl 28) (s.sl 29) (s.sl 30) s.m s.fc) (setE 0 (fun s => B_unwrap_newSolver_0 call hs u (s.sl 3) s.m s.fc) eNil) r_unwrap_newSolver = (fun s => B_unwrap_newSolver_5 call hs u rec0 (s.sl 3) (s.sl 28) (s.sl 29) (s.sl 30) s.m s.fc) := by
  rw [show c_unwrap_newSolver_10 = .seq c_unwrap_newSolver_11 c_unwrap_newSolver_12 from by kernel_rfl, seq_r]; rw [show c_unwrap_newSolver_12 = .seq c_unwrap_newSolver_13 c_unwrap_newSolver_14 from by kernel_rfl, seq_r]; rw [q_unwrap_newSolver_14 call hs u rec0]; kernel_rfl
theorem q_L_unwrap_newSolver_0 (call : FCall) (hs : FHs) (u : Nat) : ∀ n : Nat,
  iter (fun rec => fxK Try.prog pol NN call c_unwrap_newSolver_10 (AV × Mem) (k_unwrap_newSolver hs u) rec (setE 0 (fun s => B_unwrap_newSolver_0 call hs u (s.sl 3) s.m s.fc) eNil) r_unwrap_newSolver) n = (fun s => L_unwrap_newSolver_0 call hs u n (s.sl 3) (s.sl 28) (s.sl 29) (s.sl 30) s.m s.fc)
  | 0 => rfl
  | n + 1 => by rw [iter_succ, q_L_unwrap_newSolver_0 call hs u n, q_unwrap_newSolver_10 call hs u (L_unwrap_newSolver_0 call hs u n)]; kernel_rfl
theorem q_unwrap_newSolver_9 (call : FCall) (hs : FHs) (u : Nat) :
  fxK Try.prog pol NN call c_unwrap_newSolver_9 (AV × Mem) (k_unwrap_newSolver hs u) (fun s => B_unwrap_newSolver_0 call hs u (s.sl 3) s.m s.fc) (setE 0 (fun s => B_unwrap_newSolver_0 call hs u (s.sl 3) s.m s.fc) eNil) r_unwrap_newSolver = (fun s => L_unwrap_newSolver_0 call hs u NN (s.sl 3) (s.sl 28) (s.sl 29) (s.sl 30) s.m s.fc) := by
  rw [show c_unwrap_newSolver_9 = .loop c_unwrap_newSolver_10 from by kernel_rfl, loop_r, q_L_unwrap_newSolver_0 call hs u NN]
theorem q_unwrap_newSolver_8 (call : FCall) (hs : FHs) (u : Nat) :
  fxK Try.prog pol NN call c_unwrap_newSolver_8 (AV × Mem) (k_unwrap_newSolver hs u) (fun s => B_unwrap_newSolver_0 call hs u (s.sl 3) s.m s.fc) eNil r_unwrap_newSolver = (fun s => L_unwrap_newSolver_0 call hs u NN (s.sl 3) (s.sl 28) (s.sl 29) (s.sl 30) s.m s.fc) := by
  rw [show c_unwrap_newSolver_8 = .block 0 c_unwrap_newSolver_9 from by kernel_rfl, block_r, q_unwrap_newSolver_9 call hs u]
theorem q_unwrap_newSolver_5 (call : FCall) (hs : FHs) (u : Nat) :
  fxK Try.prog pol NN call c_unwrap_newSolver_5 (AV × Mem) (k_unwrap_newSolver hs u) (fun s => B_unwrap_newSolver_0 call hs u (s.sl 3) s.m s.fc) eNil r_unwrap_newSolver = (fun s => B_unwrap_newSolver_6 call hs u (s.sl 1) (s.sl 3) s.m s.fc) := by
  rw [show c_unwrap_newSolver_5 = .seq c_unwrap_newSolver_7 c_unwrap_newSolver_8 from by kernel_rfl, seq_r]; rw [q_unwrap_newSolver_8 call hs u]; kernel_rfl
theorem q_unwrap_newSolver_4 (call : FCall) (hs : FHs) (u : Nat) :
  fxK Try.prog pol NN call c_unwrap_newSolver_4 (AV × Mem) (k_unwrap_newSolver hs u) r_unwrap_newSolver eNil r_unwrap_newSolver = (fun s => B_unwrap_newSolver_6 call hs u (s.sl 1) (s.sl 3) s.m s.fc) := by
  rw [show c_unwrap_newSolver_4 = .seq c_unwrap_newSolver_5 c_unwrap_newSolver_6 from by kernel_rfl, seq_r, q_unwrap_newSolver_6 call hs u, q_unwrap_newSolver_5 call hs u]
theorem q_unwrap_newSolver_0 (call : FCall) (hs : FHs) (u : Nat) :
  fxK Try.prog pol NN call c_unwrap_newSolver_0 (AV × Mem) (k_unwrap_newSolver hs u) r_unwrap_newSolver eNil r_unwrap_newSolver = (fun s => B_unwrap_newSolver_7 call hs u (s.sl 0) s.m s.fc) := by
  rw [show c_unwrap_newSolver_0 = .seq c_unwrap_newSolver_1 c_unwrap_newSolver_2 from by kernel_rfl, seq_r]; rw [show c_unwrap_newSolver_2 = .seq c_unwrap_newSolver_3 c_unwrap_newSolver_4 from by kernel_rfl, seq_r]; rw [q_unwrap_newSolver_4 call hs u]; kernel_rfl
theorem F_unwrap_newSolver_eq (call : FCall) (hs : FHs) (t0 : AV) (m : Mem) : fxBody Try.prog pol NN call hs n_unwrap_newSolver [t0] m = F_unwrap_newSolver call hs [t0] m := by
  rw [fxBody_at (fn := Try.f103) (body := c_unwrap_newSolver_0) (nt := 132) (rs := [.tmp 2]) (by kernel_rfl) (by kernel_rfl) (by kernel_rfl) (by kernel_rfl) (by kernel_rfl) (by kernel_rfl)]
  exact (congrFun (q_unwrap_newSolver_0 call hs m.next) _).trans (by kernel_rfl)
theorem F_unwrap_newSolver_le (call : FCall) (hs : FHs) (args : List AV) (m : Mem) (r : AV × Mem) (h : F_unwrap_newSolver call hs args m = some r) : fxBody Try.prog pol NN call hs n_unwrap_newSolver args m = some r := by
  unfold F_unwrap_newSolver at h
  split at h
  · rw [F_unwrap_newSolver_eq]; exact h
  · cases h

/- slices.IndexFunc[[]int,int] -/
abbrev k_slices_IndexFunc_int_int (hs : FHs) (u : Nat) : FCtx := { f := n_slices_IndexFunc_int_int, u := u, nt := 19, hs := hs }
noncomputable abbrev r_slices_IndexFunc_int_int : Fs → Option (AV × Mem) := fxRes Try.prog [.tmp 4]
noncomputable def c_slices_IndexFunc_int_int_0 : Code := nav (bodyOf n_slices_IndexFunc_int_int) []
noncomputable def c_slices_IndexFunc_int_int_1 : Code := nav (bodyOf n_slices_IndexFunc_int_int) [false]
noncomputable def c_slices_IndexFunc_int_int_2 : Code := nav (bodyOf n_slices_IndexFunc_int_int) [true]
noncomputable def c_slices_IndexFunc_int_int_3 : Code := nav (bodyOf n_slices_IndexFunc_int_int) [true, false]
noncomputable def c_slices_IndexFunc_int_int_4 : Code := nav (bodyOf n_slices_IndexFunc_int_int) [true, true]
noncomputable def c_slices_IndexFunc_int_int_5 : Code := nav (bodyOf n_slices_IndexFunc_int_int) [true, false, false]
noncomputable def c_slices_IndexFunc_int_int_6 : Code := nav (bodyOf n_slices_IndexFunc_int_int) [true, false, true]
noncomputable def c_slices_IndexFunc_int_int_7 : Code := nav (bodyOf n_slices_IndexFunc_int_int) [true, false, true, false]
noncomputable def c_slices_IndexFunc_int_int_8 : Code := nav (bodyOf n_slices_IndexFunc_int_int) [true, false, true, false, false]
theorem q_slices_IndexFunc_int_int_4 (call : FCall) (hs : FHs) (u : Nat) :
  fxK Try.prog pol NN call c_slices_IndexFunc_int_int_4 (AV × Mem) (k_slices_IndexFunc_int_int hs u) r_slices_IndexFunc_int_int eNil r_slices_IndexFunc_int_int = (fun s => B_slices_IndexFunc_int_int_0 call hs u s.m s.fc) := by
  kernel_rfl
theorem q_slices_IndexFunc_int_int_8 (call : FCall) (hs : FHs) (u : Nat) (rec0 : AV → AV → AV → AV → Mem → Nat → Option (AV × Mem)) :
  fxK Try.prog pol NN call c_slices_IndexFunc_int_int_8 (AV × Mem) (k_slices_IndexFunc_int_int hs u) (fun s => rec0 (s.sl 0) (s.sl 1) (s.sl 7) (s.sl 8) s.m s.fc) (setE 0 (fun s => B_slices_IndexFunc_int_int_0 call hs u s.m s.fc) eNil) r_slices_IndexFunc_int_int = (fun s => B_slices_IndexFunc_int_int_1 call hs u rec0 (s.sl 0) (s.sl 1) (s.sl 7) (s.sl 8) s.m s.fc) := by
  kernel_rfl
theorem q_L_slices_IndexFunc_int_int_0 (call : FCall) (hs : FHs) (u : Nat) : ∀ n : Nat,
  iter (fun rec => fxK Try.prog pol NN call c_slices_IndexFunc_int_int_8 (AV × Mem) (k_slices_IndexFunc_int_int hs u) rec (setE 0 (fun s => B_slices_IndexFunc_int_int_0 call hs u s.m s.fc) eNil) r_slices_IndexFunc_int_int) n = (fun s => L_slices_IndexFunc_int_int_0 call hs u n (s.sl 0) (s.sl 1) (s.sl 7) (s.sl 8) s.m s.fc)
  | 0 => rfl
  | n + 1 => by rw [iter_succ, q_L_slices_IndexFunc_int_int_0 call hs u n, q_slices_IndexFunc_int_int_8 call hs u (L_slices_IndexFunc_int_int_0 call hs u n)]; kernel_rfl
theorem q_slices_IndexFunc_int_int_7 (call : FCall) (hs : FHs) (u : Nat) :
  fxK Try.prog pol NN call c_slices_IndexFunc_int_int_7 (AV × Mem) (k_slices_IndexFunc_int_int hs u) (fun s => B_slices_IndexFunc_int_int_0 call hs u s.m s.fc) (setE 0 (fun s => B_slices_IndexFunc_int_int_0 call hs u s.m s.fc) eNil) r_slices_IndexFunc_int_int = (fun s => L_slices_IndexFunc_int_int_0 call hs u NN (s.sl 0) (s.sl 1) (s.sl 7) (s.sl 8) s.m s.fc) := by
  rw [show c_slices_IndexFunc_int_int_7 = .loop c_slices_IndexFunc_int_int_8 from by kernel_rfl, loop_r, q_L_slices_IndexFunc_int_int_0 call hs u NN]
theorem q_slices_IndexFunc_int_int_6 (call : FCall) (hs : FHs) (u : Nat) :
  fxK Try.prog pol NN call c_slices_IndexFunc_int_int_6 (AV × Mem) (k_slices_IndexFunc_int_int hs u) (fun s => B_slices_IndexFunc_int_int_0 call hs u s.m s.fc) eNil r_slices_IndexFunc_int_int = (fun s => L_slices_IndexFunc_int_int_0 call hs u NN (s.sl 0) (s.sl 1) (s.sl 7) (s.sl 8) s.m s.fc) := by
  rw [show c_slices_IndexFunc_int_int_6 = .block 0 c_slices_IndexFunc_int_int_7 from by kernel_rfl, block_r, q_slices_IndexFunc_int_int_7 call hs u]
theorem q_slices_IndexFunc_int_int_3 (call : FCall) (hs : FHs) (u : Nat) :
  fxK Try.prog pol NN call c_slices_IndexFunc_int_int_3 (AV × Mem) (k_slices_IndexFunc_int_int hs u) (fun s => B_slices_IndexFunc_int_int_0 call hs u s.m s.fc) eNil r_slices_IndexFunc_int_int = (fun s => B_slices_IndexFunc_int_int_2 call hs u (s.sl 0) (s.sl 1) s.m s.fc) := by
  rw [show c_slices_IndexFunc_int_int_3 = .seq c_slices_IndexFunc_int_int_5 c_slices_IndexFunc_int_int_6 from by kernel_rfl, seq_r]; rw [q_slices_IndexFunc_int_int_6 call hs u]; kernel_rfl
theorem q_slices_IndexFunc_int_int_2 (call : FCall) (hs : FHs) (u : Nat) :
  fxK Try.prog pol NN call c_slices_IndexFunc_int_int_2 (AV × Mem) (k_slices_IndexFunc_int_int hs u) r_slices_IndexFunc_int_int eNil r_slices_IndexFunc_int_int = (fun s => B_slices_IndexFunc_int_int_2 call hs u (s.sl 0) (s.sl 1) s.m s.fc) := by
  rw [show c_slices_IndexFunc_int_int_2 = .seq c_slices_IndexFunc_int_int_3 c_slices_IndexFunc_int_int_4 from by kernel_rfl, seq_r, q_slices_IndexFunc_int_int_4 call hs u, q_slices_IndexFunc_int_int_3 call hs u]
theorem q_slices_IndexFunc_int_int_0 (call : FCall) (hs : FHs) (u : Nat) :
  fxK Try.prog pol NN call c_slices_IndexFunc_int_int_0 (AV × Mem) (k_slices_IndexFunc_int_int hs u) r_slices_IndexFunc_int_int eNil r_slices_IndexFunc_int_int = (fun s => B_slices_IndexFunc_int_int_3 call hs u (s.sl 0) (s.sl 1) s.m s.fc) := by
  rw [show c_slices_IndexFunc_int_int_0 = .seq c_slices_IndexFunc_int_int_1 c_slices_IndexFunc_int_int_2 from by kernel_rfl, seq_r]; rw [q_slices_IndexFunc_int_int_2 call hs u]; kernel_rfl
theorem F_slices_IndexFunc_int_int_eq (call : FCall) (hs : FHs) (t0 t1 : AV) (m : Mem) : fxBody Try.prog pol NN call hs n_slices_IndexFunc_int_int [t0, t1] m = F_slices_IndexFunc_int_int call hs [t0, t1] m := by
  rw [fxBody_at (fn := Try.f104) (body := c_slices_IndexFunc_int_int_0) (nt := 19) (rs := [.tmp 4]) (by kernel_rfl) (by kernel_rfl) (by kernel_rfl) (by kernel_rfl) (by kernel_rfl) (by kernel_rfl)]
  exact (congrFun (q_slices_IndexFunc_int_int_0 call hs m.next) _).trans (by kernel_rfl)
theorem F_slices_IndexFunc_int_int_le (call : FCall) (hs : FHs) (args : List AV) (m : Mem) (r : AV × Mem) (h : F_slices_IndexFunc_int_int call hs args m = some r) : fxBody Try.prog pol NN call hs n_slices_IndexFunc_int_int args m = some r := by
  unfold F_slices_IndexFunc_int_int at h
  split at h
  · rw [F_slices_IndexFunc_int_int_eq]; exact h
  · cases h

/- (swath/unwrap.net).solve$1 -/
abbrev k_unwrap_net_solve_1 (hs : FHs) (u : Nat) : FCtx := { f := n_unwrap_net_solve_1, u := u, nt := 5, hs := hs }
noncomputable abbrev r_unwrap_net_solve_1 : Fs → Option (AV × Mem) := fxRes Try.prog [.tmp 2]
noncomputable def c_unwrap_net_solve_1_0 : Code := nav (bodyOf n_unwrap_net_solve_1) []
theorem q_unwrap_net_solve_1_0 (call : FCall) (hs : FHs) (u : Nat) :
  fxK Try.prog pol NN call c_unwrap_net_solve_1_0 (AV × Mem) (k_unwrap_net_solve_1 hs u) r_unwrap_net_solve_1 eNil r_unwrap_net_solve_1 = (fun s => B_unwrap_net_solve_1_0 call hs u (s.sl 0) s.m s.fc) := by
  kernel_rfl
theorem F_unwrap_net_solve_1_eq (call : FCall) (hs : FHs) (t0 : AV) (m : Mem) : fxBody Try.prog pol NN call hs n_unwrap_net_solve_1 [t0] m = F_unwrap_net_solve_1 call hs [t0] m := by
  rw [fxBody_at (fn := Try.f105) (body := c_unwrap_net_solve_1_0) (nt := 5) (rs := [.tmp 2]) (by kernel_rfl) (by kernel_rfl) (by kernel_rfl) (by kernel_rfl) (by kernel_rfl) (by kernel_rfl)]
  exact (congrFun (q_unwrap_net_solve_1_0 call hs m.next) _).trans (by kernel_rfl)
theorem F_unwrap_net_solve_1_le (call : FCall) (hs : FHs) (args : List AV) (m : Mem) (r : AV × Mem) (h : F_unwrap_net_solve_1 call hs args m = some r) : fxBody Try.prog pol NN call hs n_unwrap_net_solve_1 args m = some r := by
  unfold F_unwrap_net_solve_1 at h
  split at h
  · rw [F_unwrap_net_solve_1_eq]; exact h
  · cases h

/- (*swath/unwrap.solver).push -/
abbrev k_unwrap_solver_push (hs : FHs) (u : Nat) : FCtx := { f := n_unwrap_solver_push, u := u, nt := 160, hs := hs }
noncomputable abbrev r_unwrap_solver_push : Fs → Option (AV × Mem) := fxRes Try.prog []
noncomputable def c_unwrap_solver_push_0 : Code := nav (bodyOf n_unwrap_solver_push) []
noncomputable def c_unwrap_solver_push_1 : Code := nav (bodyOf n_unwrap_solver_push) [false]
noncomputable def c_unwrap_solver_push_2 : Code := nav (bodyOf n_unwrap_solver_push) [true]
noncomputable def c_unwrap_solver_push_3 : Code := nav (bodyOf n_unwrap_solver_push) [true, false]
noncomputable def c_unwrap_solver_push_4 : Code := nav (bodyOf n_unwrap_solver_push) [true, true]
noncomputable def c_unwrap_solver_push_5 : Code := nav (bodyOf n_unwrap_solver_push) [true, true, false]
noncomputable def c_unwrap_solver_push_6 : Code := nav (bodyOf n_unwrap_solver_push) [true, true, true]
noncomputable def c_unwrap_solver_push_7 : Code := nav (bodyOf n_unwrap_solver_push) [true, true, true, false]
noncomputable def c_unwrap_solver_push_8 : Code := nav (bodyOf n_unwrap_solver_push) [true, true, true, true]
noncomputable def c_unwrap_solver_push_9 : Code := nav (bodyOf n_unwrap_solver_push) [true, true, true, true, false]
noncomputable def c_unwrap_solver_push_10 : Code := nav (bodyOf n_unwrap_solver_push) [true, true, true, true, true]
noncomputable def c_unwrap_solver_push_11 : Code := nav (bodyOf n_unwrap_solver_push) [true, true, true, true, true, false]
noncomputable def c_unwrap_solver_push_12 : Code := nav (bodyOf n_unwrap_solver_push) [true, true, true, true, true, true]
noncomputable def c_unwrap_solver_push_13 : Code := nav (bodyOf n_unwrap_solver_push) [true, true, true, true, true, true, false]
noncomputable def c_unwrap_solver_push_14 : Code := nav (bodyOf n_unwrap_solver_push) [true, true, true, true, true, true, true]
noncomputable def c_unwrap_solver_push_15 : Code := nav (bodyOf n_unwrap_solver_push) [true, true, true, true, true, true, true, false]
noncomputable def c_unwrap_solver_push_16 : Code := nav (bodyOf n_unwrap_solver_push) [true, true, true, true, true, true, true, true]
noncomputable def c_unwrap_solver_push_17 : Code := nav (bodyOf n_unwrap_solver_push) [true, true, true, true, true, true, true, true, false]
noncomputable def c_unwrap_solver_push_18 : Code := nav (bodyOf n_unwrap_solver_push) [true, true, true, true, true, true, true, true, true]
noncomputable def c_unwrap_solver_push_19 : Code := nav (bodyOf n_unwrap_solver_push) [true, true, true, true, true, true, true, true, true, false]
noncomputable def c_unwrap_solver_push_20 : Code := nav (bodyOf n_unwrap_solver_push) [true, true, true, true, true, true, true, true, true, false, false]
noncomputable def c_unwrap_solver_push_21 : Code := nav (bodyOf n_unwrap_solver_push) [true, true, true, true, true, false, false]
noncomputable def c_unwrap_solver_push_22 : Code := nav (bodyOf n_unwrap_solver_push) [true, true, true, true, true, false, true]
noncomputable def c_unwrap_solver_push_23 : Code := nav (bodyOf n_unwrap_solver_push) [true, true, true, true, true, false, true, false]
noncomputable def c_unwrap_solver_push_24 : Code := nav (bodyOf n_unwrap_solver_push) [true, true, true, true, true, false, true, false, false]
noncomputable def c_unwrap_solver_push_25 : Code := nav (bodyOf n_unwrap_solver_push) [true, true, true, true, false, false]
noncomputable def c_unwrap_solver_push_26 : Code := nav (bodyOf n_unwrap_solver_push) [true, true, true, true, false, true]
noncomputable def c_unwrap_solver_push_27 : Code := nav (bodyOf n_unwrap_solver_push) [true, true, true, true, false, true, false]
noncomputable def c_unwrap_solver_push_28 : Code := nav (bodyOf n_unwrap_solver_push) [true, true, true, true, false, true, false, false]
noncomputable def c_unwrap_solver_push_29 : Code := nav (bodyOf n_unwrap_solver_push) [true, true, false, false]
noncomputable def c_unwrap_solver_push_30 : Code := nav (bodyOf n_unwrap_solver_push) [true, true, false, true]
noncomputable def c_unwrap_solver_push_31 : Code := nav (bodyOf n_unwrap_solver_push) [true, true, false, true, false]
noncomputable def c_unwrap_solver_push_32 : Code := nav (bodyOf n_unwrap_solver_push) [true, true, false, true, false, false]
noncomputable def c_unwrap_solver_push_33 : Code := nav (bodyOf n_unwrap_solver_push) [true, true, false, true, false, false, false]
noncomputable def c_unwrap_solver_push_34 : Code := nav (bodyOf n_unwrap_solver_push) [true, true, false, true, false, false, true]
noncomputable def c_unwrap_solver_push_35 : Code := nav (bodyOf n_unwrap_solver_push) [true, true, false, true, false, false, true, false]
noncomputable def c_unwrap_solver_push_36 : Code := nav (bodyOf n_unwrap_solver_push) [true, true, false, true, false, false, true, true]
noncomputable def c_unwrap_solver_push_37 : Code := nav (bodyOf n_unwrap_solver_push) [true, true, false, true, false, false, true, true, false]
noncomputable def c_unwrap_solver_push_38 : Code := nav (bodyOf n_unwrap_solver_push) [true, true, false, true, false, false, true, true, true]
theorem q_unwrap_solver_push_20 (call : FCall) (hs : FHs) (u : Nat) (rec0 : AV → AV → AV → AV → AV → AV → Mem → Nat → Option (AV × Mem)) :
  fxK Try.prog pol NN call c_unwrap_solver_push_20 (AV × Mem) (k_unwrap_solver_push hs u) (fun s => rec0 (s.sl 0) (s.sl 4) (s.sl 5) (s.sl 136) (s.sl 137) (s.sl 138) s.m s.fc) (setE 6 r_unwrap_solver_push eNil) r_unwrap_solver_push = (fun s => B_unwrap_solver_push_0 call hs u rec0 (s.sl 0) (s.sl 4) (s.sl 5) (s.sl 136) (s.sl 137) (s.sl 138) s.m s.fc) := by
  kernel_rfl
theorem q_L_unwrap_solver_push_0 (call : FCall) (hs : FHs) (u : Nat) : ∀ n : Nat,
  iter (fun rec => fxK Try.prog pol NN call c_unwrap_solver_push_20 (AV × Mem) (k_unwrap_solver_push hs u) rec (setE 6 r_unwrap_solver_push eNil) r_unwrap_solver_push) n = (fun s => L_unwrap_solver_push_0 call hs u n (s.sl 0) (s.sl 4) (s.sl 5) (s.sl 136) (s.sl 137) (s.sl 138) s.m s.fc)
  | 0 => rfl
  | n + 1 => by rw [iter_succ, q_L_unwrap_solver_push_0 call hs u n, q_unwrap_solver_push_20 call hs u (L_unwrap_solver_push_0 call hs u n)]; kernel_rfl
theorem q_unwrap_solver_push_19 (call : FCall) (hs : FHs) (u : Nat) :
  fxK Try.prog pol NN call c_unwrap_solver_push_19 (AV × Mem) (k_unwrap_solver_push hs u) r_unwrap_solver_push (setE 6 r_unwrap_solver_push eNil) r_unwrap_solver_push = (fun s => L_unwrap_solver_push_0 call hs u NN (s.sl 0) (s.sl 4) (s.sl 5) (s.sl 136) (s.sl 137) (s.sl 138) s.m s.fc) := by
  rw [show c_unwrap_solver_push_19 = .loop c_unwrap_solver_push_20 from by kernel_rfl, loop_r, q_L_unwrap_solver_push_0 call hs u NN]
theorem q_unwrap_solver_push_18 (call : FCall) (hs : FHs) (u : Nat) :
  fxK Try.prog pol NN call c_unwrap_solver_push_18 (AV × Mem) (k_unwrap_solver_push hs u) r_unwrap_solver_push eNil r_unwrap_solver_push = (fun s => L_unwrap_solver_push_0 call hs u NN (s.sl 0) (s.sl 4) (s.sl 5) (s.sl 136) (s.sl 137) (s.sl 138) s.m s.fc) := by
  rw [show c_unwrap_solver_push_18 = .block 6 c_unwrap_solver_push_19 from by kernel_rfl, block_r, q_unwrap_solver_push_19 call hs u]
theorem q_unwrap_solver_push_12 (call : FCall) (hs : FHs) (u : Nat) :
  fxK Try.prog pol NN call c_unwrap_solver_push_12 (AV × Mem) (k_unwrap_solver_push hs u) r_unwrap_solver_push eNil r_unwrap_solver_push = (fun s => B_unwrap_solver_push_1 call hs u (s.sl 0) (s.sl 1) (s.sl 4) (s.sl 5) (s.sl 8) s.m s.fc) := by
  rw [show c_unwrap_solver_push_12 = .seq c_unwrap_solver_push_13 c_unwrap_solver_push_14 from by kernel_rfl, seq_r]; rw [show c_unwrap_solver_push_14 = .seq c_unwrap_solver_push_15 c_unwrap_solver_push_16 from by kernel_rfl, seq_r]; rw [show c_unwrap_solver_push_16 = .seq c_unwrap_solver_push_17 c_unwrap_solver_push_18 from by kernel_rfl, seq_r]; rw [q_unwrap_solver_push_18 call hs u]; kernel_rfl
theorem q_unwrap_solver_push_24 (call : FCall) (hs : FHs) (u : Nat) (rec1 : AV → AV → AV → AV → AV → AV → Mem → Nat → Option (AV × Mem)) :
  fxK Try.prog pol NN call c_unwrap_solver_push_24 (AV × Mem) (k_unwrap_solver_push hs u) (fun s => rec1 (s.sl 0) (s.sl 1) (s.sl 4) (s.sl 5) (s.sl 8) (s.sl 10) s.m s.fc) (setE 4 (fun s => B_unwrap_solver_push_1 call hs u (s.sl 0) (s.sl 1) (s.sl 4) (s.sl 5) (s.sl 8) s.m s.fc) eNil) r_unwrap_solver_push = (fun s => B_unwrap_solver_push_2 call hs u rec1 (s.sl 0) (s.sl 1) (s.sl 4) (s.sl 5) (s.sl 8) (s.sl 10) s.m s.fc) := by
  kernel_rfl
theorem q_L_unwrap_solver_push_1 (call : FCall) (hs : FHs) (u : Nat) : ∀ n : Nat,
  iter (fun rec => fxK Try.prog pol NN call c_unwrap_solver_push_24 (AV × Mem) (k_unwrap_solver_push hs u) rec (setE 4 (fun s => B_unwrap_solver_push_1 call hs u (s.sl 0) (s.sl 1) (s.sl 4) (s.sl 5) (s.sl 8) s.m s.fc) eNil) r_unwrap_solver_push) n = (fun s => L_unwrap_solver_push_1 call hs u n (s.sl 0) (s.sl 1) (s.sl 4) (s.sl 5) (s.sl 8) (s.sl 10) s.m s.fc)
  | 0 => rfl
  | n + 1 => by rw [iter_succ, q_L_unwrap_solver_push_1 call hs u n, q_unwrap_solver_push_24 call hs u (L_unwrap_solver_push_1 call hs u n)]; kernel_rfl
theorem q_unwrap_solver_push_23 (call : FCall) (hs : FHs) (u : Nat) :
  fxK Try.prog pol NN call c_unwrap_solver_push_23 (AV × Mem) (k_unwrap_solver_push hs u) (fun s => B_unwrap_solver_push_1 call hs u (s.sl 0) (s.sl 1) (s.sl 4) (s.sl 5) (s.sl 8) s.m s.fc) (setE 4 (fun s => B_unwrap_solver_push_1 call hs u (s.sl 0) (s.sl 1) (s.sl 4) (s.sl 5) (s.sl 8) s.m s.fc) eNil) r_unwrap_solver_push = (fun s => L_unwrap_solver_push_1 call hs u NN (s.sl 0) (s.sl 1) (s.sl 4) (s.sl 5) (s.sl 8) (s.sl 10) s.m s.fc) := by
  rw [show c_unwrap_solver_push_23 = .loop c_unwrap_solver_push_24 from by kernel_rfl, loop_r, q_L_unwrap_solver_push_1 call hs u NN]
theorem q_unwrap_solver_push_22 (call : FCall) (hs : FHs) (u : Nat) :
  fxK Try.prog pol NN call c_unwrap_solver_push_22 (AV × Mem) (k_unwrap_solver_push hs u) (fun s => B_unwrap_solver_push_1 call hs u (s.sl 0) (s.sl 1) (s.sl 4) (s.sl 5) (s.sl 8) s.m s.fc) eNil r_unwrap_solver_push = (fun s => L_unwrap_solver_push_1 call hs u NN (s.sl 0) (s.sl 1) (s.sl 4) (s.sl 5) (s.sl 8) (s.sl 10) s.m s.fc) := by
  rw [show c_unwrap_solver_push_22 = .block 4 c_unwrap_solver_push_23 from by kernel_rfl, block_r, q_unwrap_solver_push_23 call hs u]
theorem q_unwrap_solver_push_11 (call : FCall) (hs : FHs) (u : Nat) :
  fxK Try.prog pol NN call c_unwrap_solver_push_11 (AV × Mem) (k_unwrap_solver_push hs u) (fun s => B_unwrap_solver_push_1 call hs u (s.sl 0) (s.sl 1) (s.sl 4) (s.sl 5) (s.sl 8) s.m s.fc) eNil r_unwrap_solver_push = (fun s => B_unwrap_solver_push_3 call hs u (s.sl 0) (s.sl 1) (s.sl 4) (s.sl 5) (s.sl 8) s.m s.fc) := by
  rw [show c_unwrap_solver_push_11 = .seq c_unwrap_solver_push_21 c_unwrap_solver_push_22 from by kernel_rfl, seq_r]; rw [q_unwrap_solver_push_22 call hs u]; kernel_rfl
theorem q_unwrap_solver_push_10 (call : FCall) (hs : FHs) (u : Nat) :
  fxK Try.prog pol NN call c_unwrap_solver_push_10 (AV × Mem) (k_unwrap_solver_push hs u) r_unwrap_solver_push eNil r_unwrap_solver_push = (fun s => B_unwrap_solver_push_3 call hs u (s.sl 0) (s.sl 1) (s.sl 4) (s.sl 5) (s.sl 8) s.m s.fc) := by
  rw [show c_unwrap_solver_push_10 = .seq c_unwrap_solver_push_11 c_unwrap_solver_push_12 from by kernel_rfl, seq_r, q_unwrap_solver_push_12 call hs u, q_unwrap_solver_push_11 call hs u]
theorem q_unwrap_solver_push_28 (call : FCall) (hs : FHs) (u : Nat) (rec2 : AV → AV → AV → AV → AV → AV → Mem → Nat → Option (AV × Mem)) :
  fxK Try.prog pol NN call c_unwrap_solver_push_28 (AV × Mem) (k_unwrap_solver_push hs u) (fun s => rec2 (s.sl 0) (s.sl 1) (s.sl 4) (s.sl 5) (s.sl 8) (s.sl 9) s.m s.fc) (setE 2 (fun s => B_unwrap_solver_push_3 call hs u (s.sl 0) (s.sl 1) (s.sl 4) (s.sl 5) (s.sl 8) s.m s.fc) eNil) r_unwrap_solver_push = (fun s => B_unwrap_solver_push_4 call hs u rec2 (s.sl 0) (s.sl 1) (s.sl 4) (s.sl 5) (s.sl 8) (s.sl 9) s.m s.fc) := by
  kernel_rfl
theorem q_L_unwrap_solver_push_2 (call : FCall) (hs : FHs) (u : Nat) : ∀ n : Nat,
  iter (fun rec => fxK Try.prog pol NN call c_unwrap_solver_push_28 (AV × Mem) (k_unwrap_solver_push hs u) rec (setE 2 (fun s => B_unwrap_solver_push_3 call hs u (s.sl 0) (s.sl 1) (s.sl 4) (s.sl 5) (s.sl 8) s.m s.fc) eNil) r_unwrap_solver_push) n = (fun s => L_unwrap_solver_push_2 call hs u n (s.sl 0) (s.sl 1) (s.sl 4) (s.sl 5) (s.sl 8) (s.sl 9) s.m s.fc)
  | 0 => rfl
  | n + 1 => by rw [iter_succ, q_L_unwrap_solver_push_2 call hs u n, q_unwrap_solver_push_28 call hs u (L_unwrap_solver_push_2 call hs u n)]; kernel_rfl
theorem q_unwrap_solver_push_27 (call : FCall) (hs : FHs) (u : Nat) :
  fxK Try.prog pol NN call c_unwrap_solver_push_27 (AV × Mem) (k_unwrap_solver_push hs u) (fun s => B_unwrap_solver_push_3 call hs u (s.sl 0) (s.sl 1) (s.sl 4) (s.sl 5) (s.sl 8) s.m s.fc) (setE 2 (fun s => B_unwrap_solver_push_3 call hs u (s.sl 0) (s.sl 1) (s.sl 4) (s.sl 5) (s.sl 8) s.m s.fc) eNil) r_unwrap_solver_push = (fun s => L_unwrap_solver_push_2 call hs u NN (s.sl 0) (s.sl 1) (s.sl 4) (s.sl 5) (s.sl 8) (s.sl 9) s.m s.fc) := by
  rw [show c_unwrap_solver_push_27 = .loop c_unwrap_solver_push_28 from by kernel_rfl, loop_r, q_L_unwrap_solver_push_2 call hs u NN]
theorem q_unwrap_solver_push_26 (call : FCall) (hs : FHs) (u : Nat) :
  fxK Try.prog pol NN call c_unwrap_solver_push_26 (AV × Mem) (k_unwrap_solver_push hs u) (fun s => B_unwrap_solver_push_3 call hs u (s.sl 0) (s.sl 1) (s.sl 4) (s.sl 5) (s.sl 8) s.m s.fc) eNil r_unwrap_solver_push = (fun s => L_unwrap_solver_push_2 call hs u NN (s.sl 0) (s.sl 1) (s.sl 4) (s.sl 5) (s.sl 8) (s.sl 9) s.m s.fc) := by
  rw [show c_unwrap_solver_push_26 = .block 2 c_unwrap_solver_push_27 from by kernel_rfl, block_r, q_unwrap_solver_push_27 call hs u]
theorem q_unwrap_solver_push_9 (call : FCall) (hs : FHs) (u : Nat) :
  fxK Try.prog pol NN call c_unwrap_solver_push_9 (AV × Mem) (k_unwrap_solver_push hs u) (fun s => B_unwrap_solver_push_3 call hs u (s.sl 0) (s.sl 1) (s.sl 4) (s.sl 5) (s.sl 8) s.m s.fc) eNil r_unwrap_solver_push = (fun s => B_unwrap_solver_push_5 call hs u (s.sl 0) (s.sl 1) (s.sl 4) (s.sl 5) (s.sl 8) s.m s.fc) := by
  rw [show c_unwrap_solver_push_9 = .seq c_unwrap_solver_push_25 c_unwrap_solver_push_26 from by kernel_rfl, seq_r]; rw [q_unwrap_solver_push_26 call hs u]; kernel_rfl
theorem q_unwrap_solver_push_8 (call : FCall) (hs : FHs) (u : Nat) :
  fxK Try.prog pol NN call c_unwrap_solver_push_8 (AV × Mem) (k_unwrap_solver_push hs u) r_unwrap_solver_push eNil r_unwrap_solver_push = (fun s => B_unwrap_solver_push_5 call hs u (s.sl 0) (s.sl 1) (s.sl 4) (s.sl 5) (s.sl 8) s.m s.fc) := by
  rw [show c_unwrap_solver_push_8 = .seq c_unwrap_solver_push_9 c_unwrap_solver_push_10 from by kernel_rfl, seq_r, q_unwrap_solver_push_10 call hs u, q_unwrap_solver_push_9 call hs u]
theorem q_unwrap_solver_push_6 (call : FCall) (hs : FHs) (u : Nat) :
  fxK Try.prog pol NN call c_unwrap_solver_push_6 (AV × Mem) (k_unwrap_solver_push hs u) r_unwrap_solver_push eNil r_unwrap_solver_push = (fun s => B_unwrap_solver_push_6 call hs u (s.sl 0) (s.sl 1) (s.sl 4) (s.sl 5) s.m s.fc) := by
  rw [show c_unwrap_solver_push_6 = .seq c_unwrap_solver_push_7 c_unwrap_solver_push_8 from by kernel_rfl, seq_r]; rw [q_unwrap_solver_push_8 call hs u]; kernel_rfl
theorem q_unwrap_solver_push_38 (call : FCall) (hs : FHs) (u : Nat) (rec3 : AV → AV → AV → AV → AV → AV → AV → Mem → Nat → Option (AV × Mem)) :
  fxK Try.prog pol NN call c_unwrap_solver_push_38 (AV × Mem) (k_unwrap_solver_push hs u) (fun s => rec3 (s.sl 0) (s.sl 1) (s.sl 4) (s.sl 5) (s.sl 17) (s.sl 18) (s.sl 19) s.m s.fc) (setE 0 (fun s => B_unwrap_solver_push_6 call hs u (s.sl 0) (s.sl 1) (s.sl 4) (s.sl 5) s.m s.fc) eNil) r_unwrap_solver_push = (fun s => B_unwrap_solver_push_7 call hs u rec3 (s.sl 0) (s.sl 1) (s.sl 4) (s.sl 5) (s.sl 17) (s.sl 18) (s.sl 19) s.m s.fc) := by
  kernel_rfl
theorem q_unwrap_solver_push_37 (call : FCall) (hs : FHs) (u : Nat) (rec3 : AV → AV → AV → AV → AV → AV → AV → Mem → Nat → Option (AV × Mem)) :
  fxK Try.prog pol NN call c_unwrap_solver_push_37 (AV × Mem) (k_unwrap_solver_push hs u) (fun s => B_unwrap_solver_push_7 call hs u rec3 (s.sl 0) (s.sl 1) (s.sl 4) (s.sl 5) (s.sl 17) (s.sl 18) (s.sl 19) s.m s.fc) (setE 0 (fun s => B_unwrap_solver_push_6 call hs u (s.sl 0) (s.sl 1) (s.sl 4) (s.sl 5) s.m s.fc) eNil) r_unwrap_solver_push = (fun s => B_unwrap_solver_push_8 call hs u rec3 (s.sl 0) (s.sl 1) (s.sl 4) (s.sl 5) (s.sl 17) (s.sl 18) (s.sl 19) s.m s.fc) := by
  kernel_rfl
theorem q_unwrap_solver_push_36 (call : FCall) (hs : FHs) (u : Nat) (rec3 : AV → AV → AV → AV → AV → AV → AV → Mem → Nat → Option (AV × Mem)) :
  fxK Try.prog pol NN call c_unwrap_solver_push_36 (AV × Mem) (k_unwrap_solver_push hs u) (fun s => rec3 (s.sl 0) (s.sl 1) (s.sl 4) (s.sl 5) (s.sl 17) (s.sl 18) (s.sl 19) s.m s.fc) (setE 0 (fun s => B_unwrap_solver_push_6 call hs u (s.sl 0) (s.sl 1) (s.sl 4) (s.sl 5) s.m s.fc) eNil) r_unwrap_solver_push = (fun s => B_unwrap_solver_push_8 call hs u rec3 (s.sl 0) (s.sl 1) (s.sl 4) (s.sl 5) (s.sl 17) (s.sl 18) (s.sl 19) s.m s.fc) := by
  rw [show c_unwrap_solver_push_36 = .seq c_unwrap_solver_push_37 c_unwrap_solver_push_38 from by kernel_rfl, seq_r, q_unwrap_solver_push_38 call hs u rec3, q_unwrap_solver_push_37 call hs u rec3]
theorem q_unwrap_solver_push_32 (call : FCall) (hs : FHs) (u : Nat) (rec3 : AV → AV → AV → AV → AV → AV → AV → Mem → Nat → Option (AV × Mem)) :
  fxK Try.prog pol NN call c_unwrap_solver_push_32 (AV × Mem) (k_unwrap_solver_push hs u) (fun s => rec3 (s.sl 0) (s.sl 1) (s.sl 4) (s.sl 5) (s.sl 17) (s.sl 18) (s.sl 19) s.m s.fc) (setE 0 (fun s => B_unwrap_solver_push_6 call hs u (s.sl 0) (s.sl 1) (s.sl 4) (s.sl 5) s.m s.fc) eNil) r_unwrap_solver_push = (fun s => B_unwrap_solver_push_9 call hs u rec3 (s.sl 0) (s.sl 1) (s.sl 4) (s.sl 5) (s.sl 17) (s.sl 18) (s.sl 19) s.m s.fc) := by
  rw [show c_unwrap_solver_push_32 = .seq c_unwrap_solver_push_33 c_unwrap_solver_push_34 from by kernel_rfl, seq_r]; rw [show c_unwrap_solver_push_34 = .seq c_unwrap_solver_push_35 c_unwrap_solver_push_36 from by kernel_rfl, seq_r]; rw [q_unwrap_solver_push_36 call hs u rec3]; kernel_rfl
theorem q_L_unwrap_solver_push_3 (call : FCall) (hs : FHs) (u : Nat) : ∀ n : Nat,
  iter (fun rec => fxK Try.prog pol NN call c_unwrap_solver_push_32 (AV × Mem) (k_unwrap_solver_push hs u) rec (setE 0 (fun s => B_unwrap_solver_push_6 call hs u (s.sl 0) (s.sl 1) (s.sl 4) (s.sl 5) s.m s.fc) eNil) r_unwrap_solver_push) n = (fun s => L_unwrap_solver_push_3 call hs u n (s.sl 0) (s.sl 1) (s.sl 4) (s.sl 5) (s.sl 17) (s.sl 18) (s.sl 19) s.m s.fc)
  | 0 => rfl
  | n + 1 => by rw [iter_succ, q_L_unwrap_solver_push_3 call hs u n, q_unwrap_solver_push_32 call hs u (L_unwrap_solver_push_3 call hs u n)]; kernel_rfl
theorem q_unwrap_solver_push_31 (call : FCall) (hs : FHs) (u : Nat) :
  fxK Try.prog pol NN call c_unwrap_solver_push_31 (AV × Mem) (k_unwrap_solver_push hs u) (fun s => B_unwrap_solver_push_6 call hs u (s.sl 0) (s.sl 1) (s.sl 4) (s.sl 5) s.m s.fc) (setE 0 (fun s => B_unwrap_solver_push_6 call hs u (s.sl 0) (s.sl 1) (s.sl 4) (s.sl 5) s.m s.fc) eNil) r_unwrap_solver_push = (fun s => L_unwrap_solver_push_3 call hs u NN (s.sl 0) (s.sl 1) (s.sl 4) (s.sl 5) (s.sl 17) (s.sl 18) (s.sl 19) s.m s.fc) := by
  rw [show c_unwrap_solver_push_31 = .loop c_unwrap_solver_push_32 from by kernel_rfl, loop_r, q_L_unwrap_solver_push_3 call hs u NN]
theorem q_unwrap_solver_push_30 (call : FCall) (hs : FHs) (u : Nat) :
  fxK Try.prog pol NN call c_unwrap_solver_push_30 (AV × Mem) (k_unwrap_solver_push hs u) (fun s => B_unwrap_solver_push_6 call hs u (s.sl 0) (s.sl 1) (s.sl 4) (s.sl 5) s.m s.fc) eNil r_unwrap_solver_push = (fun s => L_unwrap_solver_push_3 call hs u NN (s.sl 0) (s.sl 1) (s.sl 4) (s.sl 5) (s.sl 17) (s.sl 18) (s.sl 19) s.m s.fc) := by
  rw [show c_unwrap_solver_push_30 = .block 0 c_unwrap_solver_push_31 from by kernel_rfl, block_r, q_unwrap_solver_push_31 call hs u]
theorem q_unwrap_solver_push_5 (call : FCall) (hs : FHs) (u : Nat) :
  fxK Try.prog pol NN call c_unwrap_solver_push_5 (AV × Mem) (k_unwrap_solver_push hs u) (fun s => B_unwrap_solver_push_6 call hs u (s.sl 0) (s.sl 1) (s.sl 4) (s.sl 5) s.m s.fc) eNil r_unwrap_solver_push = (fun s => B_unwrap_solver_push_10 call hs u (s.sl 0) (s.sl 1) (s.sl 4) (s.sl 5) s.m s.fc) := by
  rw [show c_unwrap_solver_push_5 = .seq c_unwrap_solver_push_29 c_unwrap_solver_push_30 from by kernel_rfl, seq_r]; rw [q_unwrap_solver_push_30 call hs u]; kernel_rfl
theorem q_unwrap_solver_push_4 (call : FCall) (hs : FHs) (u : Nat) :
  fxK Try.prog pol NN call c_unwrap_solver_push_4 (AV × Mem) (k_unwrap_solver_push hs u) r_unwrap_solver_push eNil r_unwrap_solver_push = (fun s => B_unwrap_solver_push_10 call hs u (s.sl 0) (s.sl 1) (s.sl 4) (s.sl 5) s.m s.fc) := by
  rw [show c_unwrap_solver_push_4 = .seq c_unwrap_solver_push_5 c_unwrap_solver_push_6 from by kernel_rfl, seq_r, q_unwrap_solver_push_6 call hs u, q_unwrap_solver_push_5 call hs u]
theorem q_unwrap_solver_push_0 (call : FCall) (hs : FHs) (u : Nat) :
  fxK Try.prog pol NN call c_unwrap_solver_push_0 (AV × Mem) (k_unwrap_solver_push hs u) r_unwrap_solver_push eNil r_unwrap_solver_push = (fun s => B_unwrap_solver_push_11 call hs u (s.sl 0) (s.sl 1) s.m s.fc) := by
  rw [show c_unwrap_solver_push_0 = .seq c_unwrap_solver_push_1 c_unwrap_solver_push_2 from by kernel_rfl, seq_r]; rw [show c_unwrap_solver_push_2 = .seq c_unwrap_solver_push_3 c_unwrap_solver_push_4 from by kernel_rfl, seq_r]; rw [q_unwrap_solver_push_4 call hs u]; kernel_rfl
theorem F_unwrap_solver_push_eq (call : FCall) (hs : FHs) (t0 t1 : AV) (m : Mem) : fxBody Try.prog pol NN call hs n_unwrap_solver_push [t0, t1] m = F_unwrap_solver_push call hs [t0, t1] m := by
  rw [fxBody_at (fn := Try.f106) (body := c_unwrap_solver_push_0) (nt := 160) (rs := []) (by kernel_rfl) (by kernel_rfl) (by kernel_rfl) (by kernel_rfl) (by kernel_rfl) (by kernel_rfl)]
  exact (congrFun (q_unwrap_solver_push_0 call hs m.next) _).trans (by kernel_rfl)
theorem F_unwrap_solver_push_le (call : FCall) (hs : FHs) (args : List AV) (m : Mem) (r : AV × Mem) (h : F_unwrap_solver_push call hs args m = some r) : fxBody Try.prog pol NN call hs n_unwrap_solver_push args m = some r := by
  unfold F_unwrap_solver_push at h
  split at h
  · rw [F_unwrap_solver_push_eq]; exact h
  · cases h

/- swath/unwrap.size -/
abbrev k_unwrap_size (hs : FHs) (u : Nat) : FCtx := { f := n_unwrap_size, u := u, nt := 7, hs := hs }
noncomputable abbrev r_unwrap_size : Fs → Option (AV × Mem) := fxRes Try.prog [.tmp 2]
noncomputable def c_unwrap_size_0 : Code := nav (bodyOf n_unwrap_size) []
theorem q_unwrap_size_0 (call : FCall) (hs : FHs) (u : Nat) :
  fxK Try.prog pol NN call c_unwrap_size_0 (AV × Mem) (k_unwrap_size hs u) r_unwrap_size eNil r_unwrap_size = (fun s => B_unwrap_size_0 call hs u (s.sl 0) s.m s.fc) := by
  kernel_rfl
theorem F_unwrap_size_eq (call : FCall) (hs : FHs) (t0 : AV) (m : Mem) : fxBody Try.prog pol NN call hs n_unwrap_size [t0] m = F_unwrap_size call hs [t0] m := by
  rw [fxBody_at (fn := Try.f107) (body := c_unwrap_size_0) (nt := 7) (rs := [.tmp 2]) (by kernel_rfl) (by kernel_rfl) (by kernel_rfl) (by kernel_rfl) (by kernel_rfl) (by kernel_rfl)]
  exact (congrFun (q_unwrap_size_0 call hs m.next) _).trans (by kernel_rfl)
theorem F_unwrap_size_le (call : FCall) (hs : FHs) (args : List AV) (m : Mem) (r : AV × Mem) (h : F_unwrap_size call hs args m = some r) : fxBody Try.prog pol NN call hs n_unwrap_size args m = some r := by
  unfold F_unwrap_size at h
  split at h
  · rw [F_unwrap_size_eq]; exact h
  · cases h

/- swath/unwrap.sides -/
abbrev k_unwrap_sides (hs : FHs) (u : Nat) : FCtx := { f := n_unwrap_sides, u := u, nt := 6, hs := hs }
noncomputable abbrev r_unwrap_sides : Fs → Option (AV × Mem) := fxRes Try.prog [.tmp 4]
noncomputable def c_unwrap_sides_0 : Code := nav (bodyOf n_unwrap_sides) []
theorem q_unwrap_sides_0 (call : FCall) (hs : FHs) (u : Nat) :
  fxK Try.prog pol NN call c_unwrap_sides_0 (AV × Mem) (k_unwrap_sides hs u) r_unwrap_sides eNil r_unwrap_sides = (fun s => B_unwrap_sides_0 call hs u (s.sl 0) (s.sl 1) s.m s.fc) := by
  kernel_rfl
theorem F_unwrap_sides_eq (call : FCall) (hs : FHs) (t0 t1 : AV) (m : Mem) : fxBody Try.prog pol NN call hs n_unwrap_sides [t0, t1] m = F_unwrap_sides call hs [t0, t1] m := by
  rw [fxBody_at (fn := Try.f108) (body := c_unwrap_sides_0) (nt := 6) (rs := [.tmp 4]) (by kernel_rfl) (by kernel_rfl) (by kernel_rfl) (by kernel_rfl) (by kernel_rfl) (by kernel_rfl)]
  exact (congrFun (q_unwrap_sides_0 call hs m.next) _).trans (by kernel_rfl)
theorem F_unwrap_sides_le (call : FCall) (hs : FHs) (args : List AV) (m : Mem) (r : AV × Mem) (h : F_unwrap_sides call hs args m = some r) : fxBody Try.prog pol NN call hs n_unwrap_sides args m = some r := by
  unfold F_unwrap_sides at h
  split at h
  · rw [F_unwrap_sides_eq]; exact h
  · cases h

/- swath/swathref05.IsWrapped -/
abbrev k_ref05_IsWrapped (hs : FHs) (u : Nat) : FCtx := { f := n_ref05_IsWrapped, u := u, nt := 5, hs := hs }
noncomputable abbrev r_ref05_IsWrapped : Fs → Option (AV × Mem) := fxRes Try.prog [.tmp 2]
noncomputable def c_ref05_IsWrapped_0 : Code := nav (bodyOf n_ref05_IsWrapped) []
theorem q_ref05_IsWrapped_0 (call : FCall) (hs : FHs) (u : Nat) :
  fxK Try.prog pol NN call c_ref05_IsWrapped_0 (AV × Mem) (k_ref05_IsWrapped hs u) r_ref05_IsWrapped eNil r_ref05_IsWrapped = (fun s => B_ref05_IsWrapped_0 call hs u (s.sl 0) s.m s.fc) := by
  kernel_rfl
theorem F_ref05_IsWrapped_eq (call : FCall) (hs : FHs) (t0 : AV) (m : Mem) : fxBody Try.prog pol NN call hs n_ref05_IsWrapped [t0] m = F_ref05_IsWrapped call hs [t0] m := by
  rw [fxBody_at (fn := Try.f109) (body := c_ref05_IsWrapped_0) (nt := 5) (rs := [.tmp 2]) (by kernel_rfl) (by kernel_rfl) (by kernel_rfl) (by kernel_rfl) (by kernel_rfl) (by kernel_rfl)]
  exact (congrFun (q_ref05_IsWrapped_0 call hs m.next) _).trans (by kernel_rfl)
theorem F_ref05_IsWrapped_le (call : FCall) (hs : FHs) (args : List AV) (m : Mem) (r : AV × Mem) (h : F_ref05_IsWrapped call hs args m = some r) : fxBody Try.prog pol NN call hs n_ref05_IsWrapped args m = some r := by
  unfold F_ref05_IsWrapped at h
  split at h
  · rw [F_ref05_IsWrapped_eq]; exact h
  · cases h

/- swath/unwrap.phasesErr$1 -/
abbrev k_unwrap_phasesErr_1 (hs : FHs) (u : Nat) : FCtx := { f := n_unwrap_phasesErr_1, u := u, nt := 13, hs := hs }
noncomputable abbrev r_unwrap_phasesErr_1 : Fs → Option (AV × Mem) := fxRes Try.prog [.tmp 3]
noncomputable def c_unwrap_phasesErr_1_0 : Code := nav (bodyOf n_unwrap_phasesErr_1) []
theorem q_unwrap_phasesErr_1_0 (call : FCall) (hs : FHs) (u : Nat) :
  fxK Try.prog pol NN call c_unwrap_phasesErr_1_0 (AV × Mem) (k_unwrap_phasesErr_1 hs u) r_unwrap_phasesErr_1 eNil r_unwrap_phasesErr_1 = (fun s => B_unwrap_phasesErr_1_0 call hs u (s.sl 0) (s.sl 1) s.m s.fc) := by
  kernel_rfl
theorem F_unwrap_phasesErr_1_eq (call : FCall) (hs : FHs) (t0 t1 : AV) (m : Mem) : fxBody Try.prog pol NN call hs n_unwrap_phasesErr_1 [t0, t1] m = F_unwrap_phasesErr_1 call hs [t0, t1] m := by
  rw [fxBody_at (fn := Try.f110) (body := c_unwrap_phasesErr_1_0) (nt := 13) (rs := [.tmp 3]) (by kernel_rfl) (by kernel_rfl) (by kernel_rfl) (by kernel_rfl) (by kernel_rfl) (by kernel_rfl)]
  exact (congrFun (q_unwrap_phasesErr_1_0 call hs m.next) _).trans (by kernel_rfl)
theorem F_unwrap_phasesErr_1_le (call : FCall) (hs : FHs) (args : List AV) (m : Mem) (r : AV × Mem) (h : F_unwrap_phasesErr_1 call hs args m = some r) : fxBody Try.prog pol NN call hs n_unwrap_phasesErr_1 args m = some r := by
  unfold F_unwrap_phasesErr_1 at h
  split at h
  · rw [F_unwrap_phasesErr_1_eq]; exact h
  · cases h

/- slices.Grow[[]int,int] -/
abbrev k_slices_Grow_int_int (hs : FHs) (u : Nat) : FCtx := { f := n_slices_Grow_int_int, u := u, nt := 27, hs := hs }
noncomputable abbrev r_slices_Grow_int_int : Fs → Option (AV × Mem) := fxRes Try.prog [.tmp 4]
noncomputable def c_slices_Grow_int_int_0 : Code := nav (bodyOf n_slices_Grow_int_int) []
noncomputable def c_slices_Grow_int_int_1 : Code := nav (bodyOf n_slices_Grow_int_int) [false]
noncomputable def c_slices_Grow_int_int_2 : Code := nav (bodyOf n_slices_Grow_int_int) [true]
noncomputable def c_slices_Grow_int_int_3 : Code := nav (bodyOf n_slices_Grow_int_int) [true, false]
noncomputable def c_slices_Grow_int_int_4 : Code := nav (bodyOf n_slices_Grow_int_int) [true, true]
noncomputable def c_slices_Grow_int_int_5 : Code := nav (bodyOf n_slices_Grow_int_int) [true, true, false]
noncomputable def c_slices_Grow_int_int_6 : Code := nav (bodyOf n_slices_Grow_int_int) [true, true, true]
theorem q_slices_Grow_int_int_6 (call : FCall) (hs : FHs) (u : Nat) :
  fxK Try.prog pol NN call c_slices_Grow_int_int_6 (AV × Mem) (k_slices_Grow_int_int hs u) r_slices_Grow_int_int eNil r_slices_Grow_int_int = (fun s => B_slices_Grow_int_int_0 call hs u (s.sl 0) s.m s.fc) := by
  kernel_rfl
theorem q_slices_Grow_int_int_5 (call : FCall) (hs : FHs) (u : Nat) :
  fxK Try.prog pol NN call c_slices_Grow_int_int_5 (AV × Mem) (k_slices_Grow_int_int hs u) (fun s => B_slices_Grow_int_int_0 call hs u (s.sl 0) s.m s.fc) eNil r_slices_Grow_int_int = (fun s => B_slices_Grow_int_int_1 call hs u (s.sl 0) (s.sl 1) s.m s.fc) := by
  kernel_rfl
theorem q_slices_Grow_int_int_4 (call : FCall) (hs : FHs) (u : Nat) :
  fxK Try.prog pol NN call c_slices_Grow_int_int_4 (AV × Mem) (k_slices_Grow_int_int hs u) r_slices_Grow_int_int eNil r_slices_Grow_int_int = (fun s => B_slices_Grow_int_int_1 call hs u (s.sl 0) (s.sl 1) s.m s.fc) := by
  rw [show c_slices_Grow_int_int_4 = .seq c_slices_Grow_int_int_5 c_slices_Grow_int_int_6 from by kernel_rfl, seq_r, q_slices_Grow_int_int_6 call hs u, q_slices_Grow_int_int_5 call hs u]
theorem q_slices_Grow_int_int_3 (call : FCall) (hs : FHs) (u : Nat) :
  fxK Try.prog pol NN call c_slices_Grow_int_int_3 (AV × Mem) (k_slices_Grow_int_int hs u) (fun s => B_slices_Grow_int_int_1 call hs u (s.sl 0) (s.sl 1) s.m s.fc) eNil r_slices_Grow_int_int = (fun s => B_slices_Grow_int_int_2 call hs u (s.sl 0) (s.sl 1) s.m s.fc) := by
  kernel_rfl
theorem q_slices_Grow_int_int_2 (call : FCall) (hs : FHs) (u : Nat) :
  fxK Try.prog pol NN call c_slices_Grow_int_int_2 (AV × Mem) (k_slices_Grow_int_int hs u) r_slices_Grow_int_int eNil r_slices_Grow_int_int = (fun s => B_slices_Grow_int_int_2 call hs u (s.sl 0) (s.sl 1) s.m s.fc) := by
  rw [show c_slices_Grow_int_int_2 = .seq c_slices_Grow_int_int_3 c_slices_Grow_int_int_4 from by kernel_rfl, seq_r, q_slices_Grow_int_int_4 call hs u, q_slices_Grow_int_int_3 call hs u]
theorem q_slices_Grow_int_int_0 (call : FCall) (hs : FHs) (u : Nat) :
  fxK Try.prog pol NN call c_slices_Grow_int_int_0 (AV × Mem) (k_slices_Grow_int_int hs u) r_slices_Grow_int_int eNil r_slices_Grow_int_int = (fun s => B_slices_Grow_int_int_3 call hs u (s.sl 0) (s.sl 1) s.m s.fc) := by
  rw [show c_slices_Grow_int_int_0 = .seq c_slices_Grow_int_int_1 c_slices_Grow_int_int_2 from by kernel_rfl, seq_r]; rw [q_slices_Grow_int_int_2 call hs u]; kernel_rfl
theorem F_slices_Grow_int_int_eq (call : FCall) (hs : FHs) (t0 t1 : AV) (m : Mem) : fxBody Try.prog pol NN call hs n_slices_Grow_int_int [t0, t1] m = F_slices_Grow_int_int call hs [t0, t1] m := by
  rw [fxBody_at (fn := Try.f111) (body := c_slices_Grow_int_int_0) (nt := 27) (rs := [.tmp 4]) (by kernel_rfl) (by kernel_rfl) (by kernel_rfl) (by kernel_rfl) (by kernel_rfl) (by kernel_rfl)]
  exact (congrFun (q_slices_Grow_int_int_0 call hs m.next) _).trans (by kernel_rfl)
theorem F_slices_Grow_int_int_le (call : FCall) (hs : FHs) (args : List AV) (m : Mem) (r : AV × Mem) (h : F_slices_Grow_int_int call hs args m = some r) : fxBody Try.prog pol NN call hs n_slices_Grow_int_int args m = some r := by
  unfold F_slices_Grow_int_int at h
  split at h
  · rw [F_slices_Grow_int_int_eq]; exact h
  · cases h

/- swath/swathref05.Wrapped -/
abbrev k_ref05_Wrapped (hs : FHs) (u : Nat) : FCtx := { f := n_ref05_Wrapped, u := u, nt := 7, hs := hs }
noncomputable abbrev r_ref05_Wrapped : Fs → Option (AV × Mem) := fxRes Try.prog [.tmp 2]
noncomputable def c_ref05_Wrapped_0 : Code := nav (bodyOf n_ref05_Wrapped) []
theorem q_ref05_Wrapped_0 (call : FCall) (hs : FHs) (u : Nat) :
  fxK Try.prog pol NN call c_ref05_Wrapped_0 (AV × Mem) (k_ref05_Wrapped hs u) r_ref05_Wrapped eNil r_ref05_Wrapped = (fun s => B_ref05_Wrapped_0 call hs u (s.sl 0) s.m s.fc) := by
  kernel_rfl
theorem F_ref05_Wrapped_eq (call : FCall) (hs : FHs) (t0 : AV) (m : Mem) : fxBody Try.prog pol NN call hs n_ref05_Wrapped [t0] m = F_ref05_Wrapped call hs [t0] m := by
  rw [fxBody_at (fn := Try.f112) (body := c_ref05_Wrapped_0) (nt := 7) (rs := [.tmp 2]) (by kernel_rfl) (by kernel_rfl) (by kernel_rfl) (by kernel_rfl) (by kernel_rfl) (by kernel_rfl)]
  exact (congrFun (q_ref05_Wrapped_0 call hs m.next) _).trans (by kernel_rfl)
theorem F_ref05_Wrapped_le (call : FCall) (hs : FHs) (args : List AV) (m : Mem) (r : AV × Mem) (h : F_ref05_Wrapped call hs args m = some r) : fxBody Try.prog pol NN call hs n_ref05_Wrapped args m = some r := by
  unfold F_ref05_Wrapped at h
  split at h
  · rw [F_ref05_Wrapped_eq]; exact h
  · cases h

/- swath/unwrap.numbered -/
abbrev k_unwrap_numbered (hs : FHs) (u : Nat) : FCtx := { f := n_unwrap_numbered, u := u, nt := 45, hs := hs }
noncomputable abbrev r_unwrap_numbered : Fs → Option (AV × Mem) := fxRes Try.prog [.tmp 4]
noncomputable def c_unwrap_numbered_0 : Code := nav (bodyOf n_unwrap_numbered) []
noncomputable def c_unwrap_numbered_1 : Code := nav (bodyOf n_unwrap_numbered) [false]
noncomputable def c_unwrap_numbered_2 : Code := nav (bodyOf n_unwrap_numbered) [true]
noncomputable def c_unwrap_numbered_3 : Code := nav (bodyOf n_unwrap_numbered) [true, false]
noncomputable def c_unwrap_numbered_4 : Code := nav (bodyOf n_unwrap_numbered) [true, true]
noncomputable def c_unwrap_numbered_5 : Code := nav (bodyOf n_unwrap_numbered) [true, true, false]
noncomputable def c_unwrap_numbered_6 : Code := nav (bodyOf n_unwrap_numbered) [true, true, true]
noncomputable def c_unwrap_numbered_7 : Code := nav (bodyOf n_unwrap_numbered) [true, true, true, false]
noncomputable def c_unwrap_numbered_8 : Code := nav (bodyOf n_unwrap_numbered) [true, true, true, true]
noncomputable def c_unwrap_numbered_9 : Code := nav (bodyOf n_unwrap_numbered) [true, true, true, false, false]
noncomputable def c_unwrap_numbered_10 : Code := nav (bodyOf n_unwrap_numbered) [true, true, true, false, true]
noncomputable def c_unwrap_numbered_11 : Code := nav (bodyOf n_unwrap_numbered) [true, true, true, false, true, false]
noncomputable def c_unwrap_numbered_12 : Code := nav (bodyOf n_unwrap_numbered) [true, true, true, false, true, false, false]
noncomputable def c_unwrap_numbered_13 : Code := nav (bodyOf n_unwrap_numbered) [true, true, true, false, true, false, false, false]
noncomputable def c_unwrap_numbered_14 : Code := nav (bodyOf n_unwrap_numbered) [true, true, true, false, true, false, false, true]
noncomputable def c_unwrap_numbered_15 : Code := nav (bodyOf n_unwrap_numbered) [true, true, true, false, true, false, false, true, false]
noncomputable def c_unwrap_numbered_16 : Code := nav (bodyOf n_unwrap_numbered) [true, true, true, false, true, false, false, true, true]
noncomputable def c_unwrap_numbered_17 : Code := nav (bodyOf n_unwrap_numbered) [true, true, true, false, true, false, false, true, true, false]
noncomputable def c_unwrap_numbered_18 : Code := nav (bodyOf n_unwrap_numbered) [true, true, true, false, true, false, false, true, true, true]
noncomputable def c_unwrap_numbered_19 : Code := nav (bodyOf n_unwrap_numbered) [true, true, true, false, true, false, false, true, true, false, false]
noncomputable def c_unwrap_numbered_20 : Code := nav (bodyOf n_unwrap_numbered) [true, true, true, false, true, false, false, true, true, false, false, false]
noncomputable def c_unwrap_numbered_21 : Code := nav (bodyOf n_unwrap_numbered) [true, true, true, false, true, false, false, true, true, false, false, true]
noncomputable def c_unwrap_numbered_22 : Code := nav (bodyOf n_unwrap_numbered) [true, true, true, false, true, false, false, true, true, false, false, true, false]
noncomputable def c_unwrap_numbered_23 : Code := nav (bodyOf n_unwrap_numbered) [true, true, true, false, true, false, false, true, true, false, false, true, true]
noncomputable def c_unwrap_numbered_24 : Code := nav (bodyOf n_unwrap_numbered) [true, true, true, false, true, false, false, true, true, false, false, true, true, false]
noncomputable def c_unwrap_numbered_25 : Code := nav (bodyOf n_unwrap_numbered) [true, true, true, false, true, false, false, true, true, false, false, true, true, true]
noncomputable def c_unwrap_numbered_26 : Code := nav (bodyOf n_unwrap_numbered) [true, true, true, false, true, false, false, true, true, false, false, true, true, true, false]
noncomputable def c_unwrap_numbered_27 : Code := nav (bodyOf n_unwrap_numbered) [true, true, true, false, true, false, false, true, true, false, false, true, true, true, true]
noncomputable def c_unwrap_numbered_28 : Code := nav (bodyOf n_unwrap_numbered) [true, true, true, false, true, false, false, true, true, false, false, true, true, true, true, false]
noncomputable def c_unwrap_numbered_29 : Code := nav (bodyOf n_unwrap_numbered) [true, true, true, false, true, false, false, true, true, false, false, true, true, true, true, true]
noncomputable def c_unwrap_numbered_30 : Code := nav (bodyOf n_unwrap_numbered) [true, true, true, false, true, false, false, true, true, false, false, true, true, true, true, false, false]
noncomputable def c_unwrap_numbered_31 : Code := nav (bodyOf n_unwrap_numbered) [true, true, true, false, true, false, false, true, true, false, false, true, true, true, true, false, false, false]
theorem q_unwrap_numbered_8 (call : FCall) (hs : FHs) (u : Nat) :
  fxK Try.prog pol NN call c_unwrap_numbered_8 (AV × Mem) (k_unwrap_numbered hs u) r_unwrap_numbered eNil r_unwrap_numbered = (fun s => B_unwrap_numbered_0 call hs u (s.sl 5) s.m s.fc) := by
  kernel_rfl
theorem q_unwrap_numbered_18 (call : FCall) (hs : FHs) (u : Nat) (rec0 : AV → AV → AV → AV → AV → Mem → Nat → Option (AV × Mem)) :
  fxK Try.prog pol NN call c_unwrap_numbered_18 (AV × Mem) (k_unwrap_numbered hs u) (fun s => rec0 (s.sl 1) (s.sl 5) (s.sl 6) (s.sl 14) (s.sl 15) s.m s.fc) (setE 0 (fun s => B_unwrap_numbered_0 call hs u (s.sl 5) s.m s.fc) eNil) r_unwrap_numbered = (fun s => B_unwrap_numbered_1 call hs u rec0 (s.sl 1) (s.sl 5) (s.sl 6) (s.sl 14) (s.sl 15) s.m s.fc) := by
  kernel_rfl
theorem q_unwrap_numbered_29 (call : FCall) (hs : FHs) (u : Nat) (rec0 : AV → AV → AV → AV → AV → Mem → Nat → Option (AV × Mem)) :
  fxK Try.prog pol NN call c_unwrap_numbered_29 (AV × Mem) (k_unwrap_numbered hs u) (fun s => B_unwrap_numbered_1 call hs u rec0 (s.sl 1) (s.sl 5) (s.sl 6) (s.sl 14) (s.sl 15) s.m s.fc) (setE 1 (fun s => B_unwrap_numbered_1 call hs u rec0 (s.sl 1) (s.sl 5) (s.sl 6) (s.sl 14) (s.sl 15) s.m s.fc) (setE 0 (fun s => B_unwrap_numbered_0 call hs u (s.sl 5) s.m s.fc) eNil)) r_unwrap_numbered = (fun s => B_unwrap_numbered_2 call hs u rec0 (s.sl 1) (s.sl 5) (s.sl 6) (s.sl 14) (s.sl 15) s.m s.fc) := by
  kernel_rfl
theorem q_unwrap_numbered_31 (call : FCall) (hs : FHs) (u : Nat) (rec0 : AV → AV → AV → AV → AV → Mem → Nat → Option (AV × Mem)) (rec1 : AV → AV → AV → AV → AV → AV → Mem → Nat → Option (AV × Mem)) :
  fxK Try.prog pol NN call c_unwrap_numbered_31 (AV × Mem) (k_unwrap_numbered hs u) (fun s => rec1 (s.sl 1) (s.sl 5) (s.sl 6) (s.sl 8) (s.sl 14) (s.sl 15) s.m s.fc) (setE 2 (fun s => B_unwrap_numbered_2 call hs u rec0 (s.sl 1) (s.sl 5) (s.sl 6) (s.sl 14) (s.sl 15) s.m s.fc) (setE 1 (fun s => B_unwrap_numbered_1 call hs u rec0 (s.sl 1) (s.sl 5) (s.sl 6) (s.sl 14) (s.sl 15) s.m s.fc) (setE 0 (fun s => B_unwrap_numbered_0 call hs u (s.sl 5) s.m s.fc) eNil))) r_unwrap_numbered = (fun s => B_unwrap_numbered_3 call hs u rec0 rec1 (s.sl 1) (s.sl 5) (s.sl 6) (s.sl 8) (s.sl 14) (s.sl 15) s.m s.fc) := by
  kernel_rfl
theorem q_L_unwrap_numbered_1 (call : FCall) (hs : FHs) (u : Nat) (rec0 : AV → AV → AV → AV → AV → Mem → Nat → Option (AV × Mem)) : ∀ n : Nat,
  iter (fun rec => fxK Try.prog pol NN call c_unwrap_numbered_31 (AV × Mem) (k_unwrap_numbered hs u) rec (setE 2 (fun s => B_unwrap_numbered_2 call hs u rec0 (s.sl 1) (s.sl 5) (s.sl 6) (s.sl 14) (s.sl 15) s.m s.fc) (setE 1 (fun s => B_unwrap_numbered_1 call hs u rec0 (s.sl 1) (s.sl 5) (s.sl 6) (s.sl 14) (s.sl 15) s.m s.fc) (setE 0 (fun s => B_unwrap_numbered_0 call hs u (s.sl 5) s.m s.fc) eNil))) r_unwrap_numbered) n = (fun s => L_unwrap_numbered_1 call hs u rec0 n (s.sl 1) (s.sl 5) (s.sl 6) (s.sl 8) (s.sl 14) (s.sl 15) s.m s.fc)
  | 0 => rfl
  | n + 1 => by rw [iter_succ, q_L_unwrap_numbered_1 call hs u rec0 n, q_unwrap_numbered_31 call hs u rec0 (L_unwrap_numbered_1 call hs u rec0 n)]; kernel_rfl
theorem q_unwrap_numbered_30 (call : FCall) (hs : FHs) (u : Nat) (rec0 : AV → AV → AV → AV → AV → Mem → Nat → Option (AV × Mem)) :
  fxK Try.prog pol NN call c_unwrap_numbered_30 (AV × Mem) (k_unwrap_numbered hs u) (fun s => B_unwrap_numbered_2 call hs u rec0 (s.sl 1) (s.sl 5) (s.sl 6) (s.sl 14) (s.sl 15) s.m s.fc) (setE 2 (fun s => B_unwrap_numbered_2 call hs u rec0 (s.sl 1) (s.sl 5) (s.sl 6) (s.sl 14) (s.sl 15) s.m s.fc) (setE 1 (fun s => B_unwrap_numbered_1 call hs u rec0 (s.sl 1) (s.sl 5) (s.sl 6) (s.sl 14) (s.sl 15) s.m s.fc) (setE 0 (fun s => B_unwrap_numbered_0 call hs u (s.sl 5) s.m s.fc) eNil))) r_unwrap_numbered = (fun s => L_unwrap_numbered_1 call hs u rec0 NN (s.sl 1) (s.sl 5) (s.sl 6) (s.sl 8) (s.sl 14) (s.sl 15) s.m s.fc) := by
  rw [show c_unwrap_numbered_30 = .loop c_unwrap_numbered_31 from by kernel_rfl, loop_r, q_L_unwrap_numbered_1 call hs u rec0 NN]
theorem q_unwrap_numbered_28 (call : FCall) (hs : FHs) (u : Nat) (rec0 : AV → AV → AV → AV → AV → Mem → Nat → Option (AV × Mem)) :
  fxK Try.prog pol NN call c_unwrap_numbered_28 (AV × Mem) (k_unwrap_numbered hs u) (fun s => B_unwrap_numbered_2 call hs u rec0 (s.sl 1) (s.sl 5) (s.sl 6) (s.sl 14) (s.sl 15) s.m s.fc) (setE 1 (fun s => B_unwrap_numbered_1 call hs u rec0 (s.sl 1) (s.sl 5) (s.sl 6) (s.sl 14) (s.sl 15) s.m s.fc) (setE 0 (fun s => B_unwrap_numbered_0 call hs u (s.sl 5) s.m s.fc) eNil)) r_unwrap_numbered = (fun s => L_unwrap_numbered_1 call hs u rec0 NN (s.sl 1) (s.sl 5) (s.sl 6) (s.sl 8) (s.sl 14) (s.sl 15) s.m s.fc) := by
  rw [show c_unwrap_numbered_28 = .block 2 c_unwrap_numbered_30 from by kernel_rfl, block_r, q_unwrap_numbered_30 call hs u rec0]
theorem q_unwrap_numbered_27 (call : FCall) (hs : FHs) (u : Nat) (rec0 : AV → AV → AV → AV → AV → Mem → Nat → Option (AV × Mem)) :
  fxK Try.prog pol NN call c_unwrap_numbered_27 (AV × Mem) (k_unwrap_numbered hs u) (fun s => B_unwrap_numbered_1 call hs u rec0 (s.sl 1) (s.sl 5) (s.sl 6) (s.sl 14) (s.sl 15) s.m s.fc) (setE 1 (fun s => B_unwrap_numbered_1 call hs u rec0 (s.sl 1) (s.sl 5) (s.sl 6) (s.sl 14) (s.sl 15) s.m s.fc) (setE 0 (fun s => B_unwrap_numbered_0 call hs u (s.sl 5) s.m s.fc) eNil)) r_unwrap_numbered = (fun s => L_unwrap_numbered_1 call hs u rec0 NN (s.sl 1) (s.sl 5) (s.sl 6) (s.sl 8) (s.sl 14) (s.sl 15) s.m s.fc) := by
  rw [show c_unwrap_numbered_27 = .seq c_unwrap_numbered_28 c_unwrap_numbered_29 from by kernel_rfl, seq_r, q_unwrap_numbered_29 call hs u rec0, q_unwrap_numbered_28 call hs u rec0]
theorem q_unwrap_numbered_19 (call : FCall) (hs : FHs) (u : Nat) (rec0 : AV → AV → AV → AV → AV → Mem → Nat → Option (AV × Mem)) :
  fxK Try.prog pol NN call c_unwrap_numbered_19 (AV × Mem) (k_unwrap_numbered hs u) (fun s => B_unwrap_numbered_1 call hs u rec0 (s.sl 1) (s.sl 5) (s.sl 6) (s.sl 14) (s.sl 15) s.m s.fc) (setE 1 (fun s => B_unwrap_numbered_1 call hs u rec0 (s.sl 1) (s.sl 5) (s.sl 6) (s.sl 14) (s.sl 15) s.m s.fc) (setE 0 (fun s => B_unwrap_numbered_0 call hs u (s.sl 5) s.m s.fc) eNil)) r_unwrap_numbered = (fun s => B_unwrap_numbered_4 call hs u rec0 (s.sl 1) (s.sl 5) (s.sl 6) (s.sl 14) (s.sl 15) s.m s.fc) := by
  rw [show c_unwrap_numbered_19 = .seq c_unwrap_numbered_20 c_unwrap_numbered_21 from by kernel_rfl, seq_r]; rw [show c_unwrap_numbered_21 = .seq c_unwrap_numbered_22 c_unwrap_numbered_23 from by kernel_rfl, seq_r]; rw [show c_unwrap_numbered_23 = .seq c_unwrap_numbered_24 c_unwrap_numbered_25 from by kernel_rfl, seq_r]; rw [show c_unwrap_numbered_25 = .seq c_unwrap_numbered_26 c_unwrap_numbered_27 from by kernel_rfl, seq_r]; rw [q_unwrap_numbered_27 call hs u rec0]; kernel_rfl
theorem q_unwrap_numbered_17 (call : FCall) (hs : FHs) (u : Nat) (rec0 : AV → AV → AV → AV → AV → Mem → Nat → Option (AV × Mem)) :
  fxK Try.prog pol NN call c_unwrap_numbered_17 (AV × Mem) (k_unwrap_numbered hs u) (fun s => B_unwrap_numbered_1 call hs u rec0 (s.sl 1) (s.sl 5) (s.sl 6) (s.sl 14) (s.sl 15) s.m s.fc) (setE 0 (fun s => B_unwrap_numbered_0 call hs u (s.sl 5) s.m s.fc) eNil) r_unwrap_numbered = (fun s => B_unwrap_numbered_4 call hs u rec0 (s.sl 1) (s.sl 5) (s.sl 6) (s.sl 14) (s.sl 15) s.m s.fc) := by
  rw [show c_unwrap_numbered_17 = .block 1 c_unwrap_numbered_19 from by kernel_rfl, block_r, q_unwrap_numbered_19 call hs u rec0]
theorem q_unwrap_numbered_16 (call : FCall) (hs : FHs) (u : Nat) (rec0 : AV → AV → AV → AV → AV → Mem → Nat → Option (AV × Mem)) :
  fxK Try.prog pol NN call c_unwrap_numbered_16 (AV × Mem) (k_unwrap_numbered hs u) (fun s => rec0 (s.sl 1) (s.sl 5) (s.sl 6) (s.sl 14) (s.sl 15) s.m s.fc) (setE 0 (fun s => B_unwrap_numbered_0 call hs u (s.sl 5) s.m s.fc) eNil) r_unwrap_numbered = (fun s => B_unwrap_numbered_4 call hs u rec0 (s.sl 1) (s.sl 5) (s.sl 6) (s.sl 14) (s.sl 15) s.m s.fc) := by
  rw [show c_unwrap_numbered_16 = .seq c_unwrap_numbered_17 c_unwrap_numbered_18 from by kernel_rfl, seq_r, q_unwrap_numbered_18 call hs u rec0, q_unwrap_numbered_17 call hs u rec0]
theorem q_unwrap_numbered_12 (call : FCall) (hs : FHs) (u : Nat) (rec0 : AV → AV → AV → AV → AV → Mem → Nat → Option (AV × Mem)) :
  fxK Try.prog pol NN call c_unwrap_numbered_12 (AV × Mem) (k_unwrap_numbered hs u) (fun s => rec0 (s.sl 1) (s.sl 5) (s.sl 6) (s.sl 14) (s.sl 15) s.m s.fc) (setE 0 (fun s => B_unwrap_numbered_0 call hs u (s.sl 5) s.m s.fc) eNil) r_unwrap_numbered = (fun s => B_unwrap_numbered_5 call hs u rec0 (s.sl 1) (s.sl 5) (s.sl 6) (s.sl 14) (s.sl 15) s.m s.fc) := by
  rw [show c_unwrap_numbered_12 = .seq c_unwrap_numbered_13 c_unwrap_numbered_14 from by kernel_rfl, seq_r]; rw [show c_unwrap_numbered_14 = .seq c_unwrap_numbered_15 c_unwrap_numbered_16 from by kernel_rfl, seq_r]; rw [q_unwrap_numbered_16 call hs u rec0]; kernel_rfl
theorem q_L_unwrap_numbered_0 (call : FCall) (hs : FHs) (u : Nat) : ∀ n : Nat,
  iter (fun rec => fxK Try.prog pol NN call c_unwrap_numbered_12 (AV × Mem) (k_unwrap_numbered hs u) rec (setE 0 (fun s => B_unwrap_numbered_0 call hs u (s.sl 5) s.m s.fc) eNil) r_unwrap_numbered) n = (fun s => L_unwrap_numbered_0 call hs u n (s.sl 1) (s.sl 5) (s.sl 6) (s.sl 14) (s.sl 15) s.m s.fc)
  | 0 => rfl
  | n + 1 => by rw [iter_succ, q_L_unwrap_numbered_0 call hs u n, q_unwrap_numbered_12 call hs u (L_unwrap_numbered_0 call hs u n)]; kernel_rfl
theorem q_unwrap_numbered_11 (call : FCall) (hs : FHs) (u : Nat) :
  fxK Try.prog pol NN call c_unwrap_numbered_11 (AV × Mem) (k_unwrap_numbered hs u) (fun s => B_unwrap_numbered_0 call hs u (s.sl 5) s.m s.fc) (setE 0 (fun s => B_unwrap_numbered_0 call hs u (s.sl 5) s.m s.fc) eNil) r_unwrap_numbered = (fun s => L_unwrap_numbered_0 call hs u NN (s.sl 1) (s.sl 5) (s.sl 6) (s.sl 14) (s.sl 15) s.m s.fc) := by
  rw [show c_unwrap_numbered_11 = .loop c_unwrap_numbered_12 from by kernel_rfl, loop_r, q_L_unwrap_numbered_0 call hs u NN]
theorem q_unwrap_numbered_10 (call : FCall) (hs : FHs) (u : Nat) :
  fxK Try.prog pol NN call c_unwrap_numbered_10 (AV × Mem) (k_unwrap_numbered hs u) (fun s => B_unwrap_numbered_0 call hs u (s.sl 5) s.m s.fc) eNil r_unwrap_numbered = (fun s => L_unwrap_numbered_0 call hs u NN (s.sl 1) (s.sl 5) (s.sl 6) (s.sl 14) (s.sl 15) s.m s.fc) := by
  rw [show c_unwrap_numbered_10 = .block 0 c_unwrap_numbered_11 from by kernel_rfl, block_r, q_unwrap_numbered_11 call hs u]
theorem q_unwrap_numbered_7 (call : FCall) (hs : FHs) (u : Nat) :
  fxK Try.prog pol NN call c_unwrap_numbered_7 (AV × Mem) (k_unwrap_numbered hs u) (fun s => B_unwrap_numbered_0 call hs u (s.sl 5) s.m s.fc) eNil r_unwrap_numbered = (fun s => B_unwrap_numbered_6 call hs u (s.sl 1) (s.sl 5) (s.sl 6) s.m s.fc) := by
  rw [show c_unwrap_numbered_7 = .seq c_unwrap_numbered_9 c_unwrap_numbered_10 from by kernel_rfl, seq_r]; rw [q_unwrap_numbered_10 call hs u]; kernel_rfl
theorem q_unwrap_numbered_6 (call : FCall) (hs : FHs) (u : Nat) :
  fxK Try.prog pol NN call c_unwrap_numbered_6 (AV × Mem) (k_unwrap_numbered hs u) r_unwrap_numbered eNil r_unwrap_numbered = (fun s => B_unwrap_numbered_6 call hs u (s.sl 1) (s.sl 5) (s.sl 6) s.m s.fc) := by
  rw [show c_unwrap_numbered_6 = .seq c_unwrap_numbered_7 c_unwrap_numbered_8 from by kernel_rfl, seq_r, q_unwrap_numbered_8 call hs u, q_unwrap_numbered_7 call hs u]
theorem q_unwrap_numbered_0 (call : FCall) (hs : FHs) (u : Nat) :
  fxK Try.prog pol NN call c_unwrap_numbered_0 (AV × Mem) (k_unwrap_numbered hs u) r_unwrap_numbered eNil r_unwrap_numbered = (fun s => B_unwrap_numbered_7 call hs u (s.sl 0) (s.sl 1) s.m s.fc) := by
  rw [show c_unwrap_numbered_0 = .seq c_unwrap_numbered_1 c_unwrap_numbered_2 from by kernel_rfl, seq_r]; rw [show c_unwrap_numbered_2 = .seq c_unwrap_numbered_3 c_unwrap_numbered_4 from by kernel_rfl, seq_r]; rw [show c_unwrap_numbered_4 = .seq c_unwrap_numbered_5 c_unwrap_numbered_6 from by kernel_rfl, seq_r]; rw [q_unwrap_numbered_6 call hs u]; kernel_rfl
theorem F_unwrap_numbered_eq (call : FCall) (hs : FHs) (t0 t1 : AV) (m : Mem) : fxBody Try.prog pol NN call hs n_unwrap_numbered [t0, t1] m = F_unwrap_numbered call hs [t0, t1] m := by
  rw [fxBody_at (fn := Try.f113) (body := c_unwrap_numbered_0) (nt := 45) (rs := [.tmp 4]) (by kernel_rfl) (by kernel_rfl) (by kernel_rfl) (by kernel_rfl) (by kernel_rfl) (by kernel_rfl)]
  exact (congrFun (q_unwrap_numbered_0 call hs m.next) _).trans (by kernel_rfl)
theorem F_unwrap_numbered_le (call : FCall) (hs : FHs) (args : List AV) (m : Mem) (r : AV × Mem) (h : F_unwrap_numbered call hs args m = some r) : fxBody Try.prog pol NN call hs n_unwrap_numbered args m = some r := by
  unfold F_unwrap_numbered at h
  split at h
  · rw [F_unwrap_numbered_eq]; exact h
  · cases h

/- (swath/unwrap.net).parts$1 -/
abbrev k_unwrap_net_parts_1 (hs : FHs) (u : Nat) : FCtx := { f := n_unwrap_net_parts_1, u := u, nt := 20, hs := hs }
noncomputable abbrev r_unwrap_net_parts_1 : Fs → Option (AV × Mem) := fxRes Try.prog []
noncomputable def c_unwrap_net_parts_1_0 : Code := nav (bodyOf n_unwrap_net_parts_1) []
noncomputable def c_unwrap_net_parts_1_1 : Code := nav (bodyOf n_unwrap_net_parts_1) [false]
noncomputable def c_unwrap_net_parts_1_2 : Code := nav (bodyOf n_unwrap_net_parts_1) [true]
noncomputable def c_unwrap_net_parts_1_3 : Code := nav (bodyOf n_unwrap_net_parts_1) [true, false]
noncomputable def c_unwrap_net_parts_1_4 : Code := nav (bodyOf n_unwrap_net_parts_1) [true, false, false]
theorem q_unwrap_net_parts_1_4 (call : FCall) (hs : FHs) (u : Nat) (rec0 : AV → AV → AV → AV → Mem → Nat → Option (AV × Mem)) :
  fxK Try.prog pol NN call c_unwrap_net_parts_1_4 (AV × Mem) (k_unwrap_net_parts_1 hs u) (fun s => rec0 (s.sl 1) (s.sl 10) (s.sl 11) (s.sl 12) s.m s.fc) (setE 0 r_unwrap_net_parts_1 eNil) r_unwrap_net_parts_1 = (fun s => B_unwrap_net_parts_1_0 call hs u rec0 (s.sl 1) (s.sl 10) (s.sl 11) (s.sl 12) s.m s.fc) := by
  kernel_rfl
theorem q_L_unwrap_net_parts_1_0 (call : FCall) (hs : FHs) (u : Nat) : ∀ n : Nat,
  iter (fun rec => fxK Try.prog pol NN call c_unwrap_net_parts_1_4 (AV × Mem) (k_unwrap_net_parts_1 hs u) rec (setE 0 r_unwrap_net_parts_1 eNil) r_unwrap_net_parts_1) n = (fun s => L_unwrap_net_parts_1_0 call hs u n (s.sl 1) (s.sl 10) (s.sl 11) (s.sl 12) s.m s.fc)
  | 0 => rfl
  | n + 1 => by rw [iter_succ, q_L_unwrap_net_parts_1_0 call hs u n, q_unwrap_net_parts_1_4 call hs u (L_unwrap_net_parts_1_0 call hs u n)]; kernel_rfl
theorem q_unwrap_net_parts_1_3 (call : FCall) (hs : FHs) (u : Nat) :
  fxK Try.prog pol NN call c_unwrap_net_parts_1_3 (AV × Mem) (k_unwrap_net_parts_1 hs u) r_unwrap_net_parts_1 (setE 0 r_unwrap_net_parts_1 eNil) r_unwrap_net_parts_1 = (fun s => L_unwrap_net_parts_1_0 call hs u NN (s.sl 1) (s.sl 10) (s.sl 11) (s.sl 12) s.m s.fc) := by
  rw [show c_unwrap_net_parts_1_3 = .loop c_unwrap_net_parts_1_4 from by kernel_rfl, loop_r, q_L_unwrap_net_parts_1_0 call hs u NN]
theorem q_unwrap_net_parts_1_2 (call : FCall) (hs : FHs) (u : Nat) :
  fxK Try.prog pol NN call c_unwrap_net_parts_1_2 (AV × Mem) (k_unwrap_net_parts_1 hs u) r_unwrap_net_parts_1 eNil r_unwrap_net_parts_1 = (fun s => L_unwrap_net_parts_1_0 call hs u NN (s.sl 1) (s.sl 10) (s.sl 11) (s.sl 12) s.m s.fc) := by
  rw [show c_unwrap_net_parts_1_2 = .block 0 c_unwrap_net_parts_1_3 from by kernel_rfl, block_r, q_unwrap_net_parts_1_3 call hs u]
theorem q_unwrap_net_parts_1_0 (call : FCall) (hs : FHs) (u : Nat) :
  fxK Try.prog pol NN call c_unwrap_net_parts_1_0 (AV × Mem) (k_unwrap_net_parts_1 hs u) r_unwrap_net_parts_1 eNil r_unwrap_net_parts_1 = (fun s => B_unwrap_net_parts_1_1 call hs u (s.sl 0) (s.sl 1) (s.sl 2) s.m s.fc) := by
  rw [show c_unwrap_net_parts_1_0 = .seq c_unwrap_net_parts_1_1 c_unwrap_net_parts_1_2 from by kernel_rfl, seq_r]; rw [q_unwrap_net_parts_1_2 call hs u]; kernel_rfl
theorem F_unwrap_net_parts_1_eq (call : FCall) (hs : FHs) (t0 t1 t2 : AV) (m : Mem) : fxBody Try.prog pol NN call hs n_unwrap_net_parts_1 [t0, t1, t2] m = F_unwrap_net_parts_1 call hs [t0, t1, t2] m := by
  rw [fxBody_at (fn := Try.f114) (body := c_unwrap_net_parts_1_0) (nt := 20) (rs := []) (by kernel_rfl) (by kernel_rfl) (by kernel_rfl) (by kernel_rfl) (by kernel_rfl) (by kernel_rfl)]
  exact (congrFun (q_unwrap_net_parts_1_0 call hs m.next) _).trans (by kernel_rfl)
theorem F_unwrap_net_parts_1_le (call : FCall) (hs : FHs) (args : List AV) (m : Mem) (r : AV × Mem) (h : F_unwrap_net_parts_1 call hs args m = some r) : fxBody Try.prog pol NN call hs n_unwrap_net_parts_1 args m = some r := by
  unfold F_unwrap_net_parts_1 at h
  split at h
  · rw [F_unwrap_net_parts_1_eq]; exact h
  · cases h

/- (*swath/unwrap.solver).ways -/
abbrev k_unwrap_solver_ways (hs : FHs) (u : Nat) : FCtx := { f := n_unwrap_solver_ways, u := u, nt := 139, hs := hs }
noncomputable abbrev r_unwrap_solver_ways : Fs → Option (AV × Mem) := fxRes Try.prog [.cell 4 y_unwrap_tour]
noncomputable def c_unwrap_solver_ways_0 : Code := nav (bodyOf n_unwrap_solver_ways) []
noncomputable def c_unwrap_solver_ways_1 : Code := nav (bodyOf n_unwrap_solver_ways) [false]
noncomputable def c_unwrap_solver_ways_2 : Code := nav (bodyOf n_unwrap_solver_ways) [true]
noncomputable def c_unwrap_solver_ways_3 : Code := nav (bodyOf n_unwrap_solver_ways) [true, false]
noncomputable def c_unwrap_solver_ways_4 : Code := nav (bodyOf n_unwrap_solver_ways) [true, true]
noncomputable def c_unwrap_solver_ways_5 : Code := nav (bodyOf n_unwrap_solver_ways) [true, true, false]
noncomputable def c_unwrap_solver_ways_6 : Code := nav (bodyOf n_unwrap_solver_ways) [true, true, true]
noncomputable def c_unwrap_solver_ways_7 : Code := nav (bodyOf n_unwrap_solver_ways) [true, true, true, false]
noncomputable def c_unwrap_solver_ways_8 : Code := nav (bodyOf n_unwrap_solver_ways) [true, true, true, true]
noncomputable def c_unwrap_solver_ways_9 : Code := nav (bodyOf n_unwrap_solver_ways) [true, true, true, true, false]
noncomputable def c_unwrap_solver_ways_10 : Code := nav (bodyOf n_unwrap_solver_ways) [true, true, true, true, false, false]
noncomputable def c_unwrap_solver_ways_11 : Code := nav (bodyOf n_unwrap_solver_ways) [true, true, true, true, false, false, false]
noncomputable def c_unwrap_solver_ways_12 : Code := nav (bodyOf n_unwrap_solver_ways) [true, true, true, true, false, false, false, false]
noncomputable def c_unwrap_solver_ways_13 : Code := nav (bodyOf n_unwrap_solver_ways) [true, true, true, true, false, false, false, true]
noncomputable def c_unwrap_solver_ways_14 : Code := nav (bodyOf n_unwrap_solver_ways) [true, true, true, true, false, false, false, true, false]
noncomputable def c_unwrap_solver_ways_15 : Code := nav (bodyOf n_unwrap_solver_ways) [true, true, true, true, false, false, false, true, true]
noncomputable def c_unwrap_solver_ways_16 : Code := nav (bodyOf n_unwrap_solver_ways) [true, true, true, true, false, false, false, true, true, false]
noncomputable def c_unwrap_solver_ways_17 : Code := nav (bodyOf n_unwrap_solver_ways) [true, true, true, true, false, false, false, true, true, true]
noncomputable def c_unwrap_solver_ways_18 : Code := nav (bodyOf n_unwrap_solver_ways) [true, true, true, true, false, false, false, true, true, true, false]
noncomputable def c_unwrap_solver_ways_19 : Code := nav (bodyOf n_unwrap_solver_ways) [true, true, true, true, false, false, false, true, true, true, true]
noncomputable def c_unwrap_solver_ways_20 : Code := nav (bodyOf n_unwrap_solver_ways) [true, true, true, true, false, false, false, true, true, true, true, false]
noncomputable def c_unwrap_solver_ways_21 : Code := nav (bodyOf n_unwrap_solver_ways) [true, true, true, true, false, false, false, true, true, true, true, true]
noncomputable def c_unwrap_solver_ways_22 : Code := nav (bodyOf n_unwrap_solver_ways) [true, true, true, true, false, false, false, true, true, true, true, true, false]
noncomputable def c_unwrap_solver_ways_23 : Code := nav (bodyOf n_unwrap_solver_ways) [true, true, true, true, false, false, false, true, true, true, true, true, false, false]
noncomputable def c_unwrap_solver_ways_24 : Code := nav (bodyOf n_unwrap_solver_ways) [true, true, true, true, false, false, false, true, true, true, true, true, false, true]
noncomputable def c_unwrap_solver_ways_25 : Code := nav (bodyOf n_unwrap_solver_ways) [true, true, true, true, false, false, false, true, false, false]
noncomputable def c_unwrap_solver_ways_26 : Code := nav (bodyOf n_unwrap_solver_ways) [true, true, true, true, false, false, false, true, false, true]
noncomputable def c_unwrap_solver_ways_27 : Code := nav (bodyOf n_unwrap_solver_ways) [true, true, true, true, false, false, false, true, false, true, false]
noncomputable def c_unwrap_solver_ways_28 : Code := nav (bodyOf n_unwrap_solver_ways) [true, true, true, true, false, false, false, true, false, true, false, false]
noncomputable def c_unwrap_solver_ways_29 : Code := nav (bodyOf n_unwrap_solver_ways) [true, true, true, true, false, false, false, true, false, true, false, false, false]
noncomputable def c_unwrap_solver_ways_30 : Code := nav (bodyOf n_unwrap_solver_ways) [true, true, true, true, false, false, false, true, false, true, false, false, true]
noncomputable def c_unwrap_solver_ways_31 : Code := nav (bodyOf n_unwrap_solver_ways) [true, true, true, true, false, false, false, true, false, true, false, false, true, false]
noncomputable def c_unwrap_solver_ways_32 : Code := nav (bodyOf n_unwrap_solver_ways) [true, true, true, true, false, false, false, true, false, true, false, false, true, true]
noncomputable def c_unwrap_solver_ways_33 : Code := nav (bodyOf n_unwrap_solver_ways) [true, true, true, true, false, false, false, true, false, true, false, false, true, true, false]
noncomputable def c_unwrap_solver_ways_34 : Code := nav (bodyOf n_unwrap_solver_ways) [true, true, true, true, false, false, false, true, false, true, false, false, true, true, true]
theorem q_unwrap_solver_ways_24 (call : FCall) (hs : FHs) (u : Nat) :
  fxK Try.prog pol NN call c_unwrap_solver_ways_24 Mem (k_unwrap_solver_ways hs u) (fun s => some s.m) eNil fNil = (fun s => B_unwrap_solver_ways_0 call hs u (s.sl 2) (s.sl 5) (s.sl 7) (s.sl 10) s.m s.fc) := by
  kernel_rfl
theorem q_unwrap_solver_ways_23 (call : FCall) (hs : FHs) (u : Nat) :
  fxK Try.prog pol NN call c_unwrap_solver_ways_23 Mem (k_unwrap_solver_ways hs u) (fun s => B_unwrap_solver_ways_0 call hs u (s.sl 2) (s.sl 5) (s.sl 7) (s.sl 10) s.m s.fc) eNil fNil = (fun s => B_unwrap_solver_ways_1 call hs u (s.sl 2) (s.sl 5) (s.sl 7) (s.sl 87) s.m s.fc) := by
  kernel_rfl
theorem q_unwrap_solver_ways_22 (call : FCall) (hs : FHs) (u : Nat) (rec0 : AV → AV → AV → AV → Mem → Nat → Option (AV × Mem)) :
  fxK Try.prog pol NN call c_unwrap_solver_ways_22 (AV × Mem) (k_unwrap_solver_ways hs u) (fun s => rec0 (s.sl 2) (s.sl 4) (s.sl 5) (s.sl 6) s.m s.fc) (setE 4 (fun s => rec0 (s.sl 2) (s.sl 4) (s.sl 5) (s.sl 6) s.m s.fc) (setE 1 (fun s => rec0 (s.sl 2) (s.sl 4) (s.sl 5) (s.sl 6) s.m s.fc) (setE 0 r_unwrap_solver_ways eNil))) r_unwrap_solver_ways = (fun s => B_unwrap_solver_ways_2 call hs u rec0 (s.sl 2) (s.sl 4) (s.sl 5) (s.sl 6) (s.sl 7) (s.sl 86) s.m s.fc) := by
  rw [show c_unwrap_solver_ways_22 = .rangeFunc (.tmp 86) #[87] c_unwrap_solver_ways_23 c_unwrap_solver_ways_24 from by kernel_rfl, rng_r (H := fun u s => B_unwrap_solver_ways_1 call hs u (s.sl 2) (s.sl 5) (s.sl 7) (s.sl 87) s.m s.fc) (by intro u; exact (congrArg (fun Y => fxK Try.prog pol NN call c_unwrap_solver_ways_23 Mem (k_unwrap_solver_ways hs u) Y eNil fNil) (q_unwrap_solver_ways_24 call hs u)).trans (q_unwrap_solver_ways_23 call hs u))]; kernel_rfl
theorem q_unwrap_solver_ways_21 (call : FCall) (hs : FHs) (u : Nat) (rec0 : AV → AV → AV → AV → Mem → Nat → Option (AV × Mem)) :
  fxK Try.prog pol NN call c_unwrap_solver_ways_21 (AV × Mem) (k_unwrap_solver_ways hs u) (fun s => rec0 (s.sl 2) (s.sl 4) (s.sl 5) (s.sl 6) s.m s.fc) (setE 1 (fun s => rec0 (s.sl 2) (s.sl 4) (s.sl 5) (s.sl 6) s.m s.fc) (setE 0 r_unwrap_solver_ways eNil)) r_unwrap_solver_ways = (fun s => B_unwrap_solver_ways_2 call hs u rec0 (s.sl 2) (s.sl 4) (s.sl 5) (s.sl 6) (s.sl 7) (s.sl 86) s.m s.fc) := by
  rw [show c_unwrap_solver_ways_21 = .block 4 c_unwrap_solver_ways_22 from by kernel_rfl, block_r, q_unwrap_solver_ways_22 call hs u rec0]
theorem q_unwrap_solver_ways_15 (call : FCall) (hs : FHs) (u : Nat) (rec0 : AV → AV → AV → AV → Mem → Nat → Option (AV × Mem)) :
  fxK Try.prog pol NN call c_unwrap_solver_ways_15 (AV × Mem) (k_unwrap_solver_ways hs u) (fun s => rec0 (s.sl 2) (s.sl 4) (s.sl 5) (s.sl 6) s.m s.fc) (setE 1 (fun s => rec0 (s.sl 2) (s.sl 4) (s.sl 5) (s.sl 6) s.m s.fc) (setE 0 r_unwrap_solver_ways eNil)) r_unwrap_solver_ways = (fun s => B_unwrap_solver_ways_3 call hs u rec0 (s.sl 2) (s.sl 4) (s.sl 5) (s.sl 6) (s.sl 7) s.m s.fc) := by
  rw [show c_unwrap_solver_ways_15 = .seq c_unwrap_solver_ways_16 c_unwrap_solver_ways_17 from by kernel_rfl, seq_r]; rw [show c_unwrap_solver_ways_17 = .seq c_unwrap_solver_ways_18 c_unwrap_solver_ways_19 from by kernel_rfl, seq_r]; rw [show c_unwrap_solver_ways_19 = .seq c_unwrap_solver_ways_20 c_unwrap_solver_ways_21 from by kernel_rfl, seq_r]; rw [q_unwrap_solver_ways_21 call hs u rec0]; kernel_rfl
theorem q_unwrap_solver_ways_34 (call : FCall) (hs : FHs) (u : Nat) (rec0 : AV → AV → AV → AV → Mem → Nat → Option (AV × Mem)) (rec1 : AV → AV → AV → AV → AV → AV → AV → AV → Mem → Nat → Option (AV × Mem)) :
  fxK Try.prog pol NN call c_unwrap_solver_ways_34 (AV × Mem) (k_unwrap_solver_ways hs u) (fun s => rec1 (s.sl 2) (s.sl 4) (s.sl 5) (s.sl 6) (s.sl 7) (s.sl 47) (s.sl 48) (s.sl 49) s.m s.fc) (setE 2 (fun s => B_unwrap_solver_ways_3 call hs u rec0 (s.sl 2) (s.sl 4) (s.sl 5) (s.sl 6) (s.sl 7) s.m s.fc) (setE 1 (fun s => rec0 (s.sl 2) (s.sl 4) (s.sl 5) (s.sl 6) s.m s.fc) (setE 0 r_unwrap_solver_ways eNil))) r_unwrap_solver_ways = (fun s => B_unwrap_solver_ways_4 call hs u rec0 rec1 (s.sl 2) (s.sl 4) (s.sl 5) (s.sl 6) (s.sl 7) (s.sl 47) (s.sl 48) (s.sl 49) s.m s.fc) := by
  kernel_rfl
theorem q_unwrap_solver_ways_33 (call : FCall) (hs : FHs) (u : Nat) (rec0 : AV → AV → AV → AV → Mem → Nat → Option (AV × Mem)) (rec1 : AV → AV → AV → AV → AV → AV → AV → AV → Mem → Nat → Option (AV × Mem)) :
  fxK Try.prog pol NN call c_unwrap_solver_ways_33 (AV × Mem) (k_unwrap_solver_ways hs u) (fun s => B_unwrap_solver_ways_4 call hs u rec0 rec1 (s.sl 2) (s.sl 4) (s.sl 5) (s.sl 6) (s.sl 7) (s.sl 47) (s.sl 48) (s.sl 49) s.m s.fc) (setE 2 (fun s => B_unwrap_solver_ways_3 call hs u rec0 (s.sl 2) (s.sl 4) (s.sl 5) (s.sl 6) (s.sl 7) s.m s.fc) (setE 1 (fun s => rec0 (s.sl 2) (s.sl 4) (s.sl 5) (s.sl 6) s.m s.fc) (setE 0 r_unwrap_solver_ways eNil))) r_unwrap_solver_ways = (fun s => B_unwrap_solver_ways_5 call hs u rec0 rec1 (s.sl 2) (s.sl 4) (s.sl 5) (s.sl 6) (s.sl 7) (s.sl 47) (s.sl 48) (s.sl 49) s.m s.fc) := by
  kernel_rfl
theorem q_unwrap_solver_ways_32 (call : FCall) (hs : FHs) (u : Nat) (rec0 : AV → AV → AV → AV → Mem → Nat → Option (AV × Mem)) (rec1 : AV → AV → AV → AV → AV → AV → AV → AV → Mem → Nat → Option (AV × Mem)) :
  fxK Try.prog pol NN call c_unwrap_solver_ways_32 (AV × Mem) (k_unwrap_solver_ways hs u) (fun s => rec1 (s.sl 2) (s.sl 4) (s.sl 5) (s.sl 6) (s.sl 7) (s.sl 47) (s.sl 48) (s.sl 49) s.m s.fc) (setE 2 (fun s => B_unwrap_solver_ways_3 call hs u rec0 (s.sl 2) (s.sl 4) (s.sl 5) (s.sl 6) (s.sl 7) s.m s.fc) (setE 1 (fun s => rec0 (s.sl 2) (s.sl 4) (s.sl 5) (s.sl 6) s.m s.fc) (setE 0 r_unwrap_solver_ways eNil))) r_unwrap_solver_ways = (fun s => B_unwrap_solver_ways_5 call hs u rec0 rec1 (s.sl 2) (s.sl 4) (s.sl 5) (s.sl 6) (s.sl 7) (s.sl 47) (s.sl 48) (s.sl 49) s.m s.fc) := by
  rw [show c_unwrap_solver_ways_32 = .seq c_unwrap_solver_ways_33 c_unwrap_solver_ways_34 from by kernel_rfl, seq_r, q_unwrap_solver_ways_34 call hs u rec0 rec1, q_unwrap_solver_ways_33 call hs u rec0 rec1]
theorem q_unwrap_solver_ways_28 (call : FCall) (hs : FHs) (u : Nat) (rec0 : AV → AV → AV → AV → Mem → Nat → Option (AV × Mem)) (rec1 : AV → AV → AV → AV → AV → AV → AV → AV → Mem → Nat → Option (AV × Mem)) :
  fxK Try.prog pol NN call c_unwrap_solver_ways_28 (AV × Mem) (k_unwrap_solver_ways hs u) (fun s => rec1 (s.sl 2) (s.sl 4) (s.sl 5) (s.sl 6) (s.sl 7) (s.sl 47) (s.sl 48) (s.sl 49) s.m s.fc) (setE 2 (fun s => B_unwrap_solver_ways_3 call hs u rec0 (s.sl 2) (s.sl 4) (s.sl 5) (s.sl 6) (s.sl 7) s.m s.fc) (setE 1 (fun s => rec0 (s.sl 2) (s.sl 4) (s.sl 5) (s.sl 6) s.m s.fc) (setE 0 r_unwrap_solver_ways eNil))) r_unwrap_solver_ways = (fun s => B_unwrap_solver_ways_6 call hs u rec0 rec1 (s.sl 2) (s.sl 4) (s.sl 5) (s.sl 6) (s.sl 7) (s.sl 47) (s.sl 48) (s.sl 49) s.m s.fc) := by
  rw [show c_unwrap_solver_ways_28 = .seq c_unwrap_solver_ways_29 c_unwrap_solver_ways_30 from by kernel_rfl, seq_r]; rw [show c_unwrap_solver_ways_30 = .seq c_unwrap_solver_ways_31 c_unwrap_solver_ways_32 from by kernel_rfl, seq_r]; rw [q_unwrap_solver_ways_32 call hs u rec0 rec1]; kernel_rfl
theorem q_L_unwrap_solver_ways_1 (call : FCall) (hs : FHs) (u : Nat) (rec0 : AV → AV → AV → AV → Mem → Nat → Option (AV × Mem)) : ∀ n : Nat,
  iter (fun rec => fxK Try.prog pol NN call c_unwrap_solver_ways_28 (AV × Mem) (k_unwrap_solver_ways hs u) rec (setE 2 (fun s => B_unwrap_solver_ways_3 call hs u rec0 (s.sl 2) (s.sl 4) (s.sl 5) (s.sl 6) (s.sl 7) s.m s.fc) (setE 1 (fun s => rec0 (s.sl 2) (s.sl 4) (s.sl 5) (s.sl 6) s.m s.fc) (setE 0 r_unwrap_solver_ways eNil))) r_unwrap_solver_ways) n = (fun s => L_unwrap_solver_ways_1 call hs u rec0 n (s.sl 2) (s.sl 4) (s.sl 5) (s.sl 6) (s.sl 7) (s.sl 47) (s.sl 48) (s.sl 49) s.m s.fc)
  | 0 => rfl
  | n + 1 => by rw [iter_succ, q_L_unwrap_solver_ways_1 call hs u rec0 n, q_unwrap_solver_ways_28 call hs u rec0 (L_unwrap_solver_ways_1 call hs u rec0 n)]; kernel_rfl
theorem q_unwrap_solver_ways_27 (call : FCall) (hs : FHs) (u : Nat) (rec0 : AV → AV → AV → AV → Mem → Nat → Option (AV × Mem)) :
  fxK Try.prog pol NN call c_unwrap_solver_ways_27 (AV × Mem) (k_unwrap_solver_ways hs u) (fun s => B_unwrap_solver_ways_3 call hs u rec0 (s.sl 2) (s.sl 4) (s.sl 5) (s.sl 6) (s.sl 7) s.m s.fc) (setE 2 (fun s => B_unwrap_solver_ways_3 call hs u rec0 (s.sl 2) (s.sl 4) (s.sl 5) (s.sl 6) (s.sl 7) s.m s.fc) (setE 1 (fun s => rec0 (s.sl 2) (s.sl 4) (s.sl 5) (s.sl 6) s.m s.fc) (setE 0 r_unwrap_solver_ways eNil))) r_unwrap_solver_ways = (fun s => L_unwrap_solver_ways_1 call hs u rec0 NN (s.sl 2) (s.sl 4) (s.sl 5) (s.sl 6) (s.sl 7) (s.sl 47) (s.sl 48) (s.sl 49) s.m s.fc) := by
  rw [show c_unwrap_solver_ways_27 = .loop c_unwrap_solver_ways_28 from by kernel_rfl, loop_r, q_L_unwrap_solver_ways_1 call hs u rec0 NN]
theorem q_unwrap_solver_ways_26 (call : FCall) (hs : FHs) (u : Nat) (rec0 : AV → AV → AV → AV → Mem → Nat → Option (AV × Mem)) :
  fxK Try.prog pol NN call c_unwrap_solver_ways_26 (AV × Mem) (k_unwrap_solver_ways hs u) (fun s => B_unwrap_solver_ways_3 call hs u rec0 (s.sl 2) (s.sl 4) (s.sl 5) (s.sl 6) (s.sl 7) s.m s.fc) (setE 1 (fun s => rec0 (s.sl 2) (s.sl 4) (s.sl 5) (s.sl 6) s.m s.fc) (setE 0 r_unwrap_solver_ways eNil)) r_unwrap_solver_ways = (fun s => L_unwrap_solver_ways_1 call hs u rec0 NN (s.sl 2) (s.sl 4) (s.sl 5) (s.sl 6) (s.sl 7) (s.sl 47) (s.sl 48) (s.sl 49) s.m s.fc) := by
  rw [show c_unwrap_solver_ways_26 = .block 2 c_unwrap_solver_ways_27 from by kernel_rfl, block_r, q_unwrap_solver_ways_27 call hs u rec0]
theorem q_unwrap_solver_ways_14 (call : FCall) (hs : FHs) (u : Nat) (rec0 : AV → AV → AV → AV → Mem → Nat → Option (AV × Mem)) :
  fxK Try.prog pol NN call c_unwrap_solver_ways_14 (AV × Mem) (k_unwrap_solver_ways hs u) (fun s => B_unwrap_solver_ways_3 call hs u rec0 (s.sl 2) (s.sl 4) (s.sl 5) (s.sl 6) (s.sl 7) s.m s.fc) (setE 1 (fun s => rec0 (s.sl 2) (s.sl 4) (s.sl 5) (s.sl 6) s.m s.fc) (setE 0 r_unwrap_solver_ways eNil)) r_unwrap_solver_ways = (fun s => B_unwrap_solver_ways_7 call hs u rec0 (s.sl 2) (s.sl 4) (s.sl 5) (s.sl 6) (s.sl 7) s.m s.fc) := by
  rw [show c_unwrap_solver_ways_14 = .seq c_unwrap_solver_ways_25 c_unwrap_solver_ways_26 from by kernel_rfl, seq_r]; rw [q_unwrap_solver_ways_26 call hs u rec0]; kernel_rfl
theorem q_unwrap_solver_ways_13 (call : FCall) (hs : FHs) (u : Nat) (rec0 : AV → AV → AV → AV → Mem → Nat → Option (AV × Mem)) :
  fxK Try.prog pol NN call c_unwrap_solver_ways_13 (AV × Mem) (k_unwrap_solver_ways hs u) (fun s => rec0 (s.sl 2) (s.sl 4) (s.sl 5) (s.sl 6) s.m s.fc) (setE 1 (fun s => rec0 (s.sl 2) (s.sl 4) (s.sl 5) (s.sl 6) s.m s.fc) (setE 0 r_unwrap_solver_ways eNil)) r_unwrap_solver_ways = (fun s => B_unwrap_solver_ways_7 call hs u rec0 (s.sl 2) (s.sl 4) (s.sl 5) (s.sl 6) (s.sl 7) s.m s.fc) := by
  rw [show c_unwrap_solver_ways_13 = .seq c_unwrap_solver_ways_14 c_unwrap_solver_ways_15 from by kernel_rfl, seq_r, q_unwrap_solver_ways_15 call hs u rec0, q_unwrap_solver_ways_14 call hs u rec0]
theorem q_unwrap_solver_ways_11 (call : FCall) (hs : FHs) (u : Nat) (rec0 : AV → AV → AV → AV → Mem → Nat → Option (AV × Mem)) :
  fxK Try.prog pol NN call c_unwrap_solver_ways_11 (AV × Mem) (k_unwrap_solver_ways hs u) (fun s => rec0 (s.sl 2) (s.sl 4) (s.sl 5) (s.sl 6) s.m s.fc) (setE 1 (fun s => rec0 (s.sl 2) (s.sl 4) (s.sl 5) (s.sl 6) s.m s.fc) (setE 0 r_unwrap_solver_ways eNil)) r_unwrap_solver_ways = (fun s => B_unwrap_solver_ways_8 call hs u rec0 (s.sl 2) (s.sl 4) (s.sl 5) (s.sl 6) s.m s.fc) := by
  rw [show c_unwrap_solver_ways_11 = .seq c_unwrap_solver_ways_12 c_unwrap_solver_ways_13 from by kernel_rfl, seq_r]; rw [q_unwrap_solver_ways_13 call hs u rec0]; kernel_rfl
theorem q_unwrap_solver_ways_10 (call : FCall) (hs : FHs) (u : Nat) (rec0 : AV → AV → AV → AV → Mem → Nat → Option (AV × Mem)) :
  fxK Try.prog pol NN call c_unwrap_solver_ways_10 (AV × Mem) (k_unwrap_solver_ways hs u) (fun s => rec0 (s.sl 2) (s.sl 4) (s.sl 5) (s.sl 6) s.m s.fc) (setE 0 r_unwrap_solver_ways eNil) r_unwrap_solver_ways = (fun s => B_unwrap_solver_ways_8 call hs u rec0 (s.sl 2) (s.sl 4) (s.sl 5) (s.sl 6) s.m s.fc) := by
  rw [show c_unwrap_solver_ways_10 = .block 1 c_unwrap_solver_ways_11 from by kernel_rfl, block_r, q_unwrap_solver_ways_11 call hs u rec0]
theorem q_L_unwrap_solver_ways_0 (call : FCall) (hs : FHs) (u : Nat) : ∀ n : Nat,
  iter (fun rec => fxK Try.prog pol NN call c_unwrap_solver_ways_10 (AV × Mem) (k_unwrap_solver_ways hs u) rec (setE 0 r_unwrap_solver_ways eNil) r_unwrap_solver_ways) n = (fun s => L_unwrap_solver_ways_0 call hs u n (s.sl 2) (s.sl 4) (s.sl 5) (s.sl 6) s.m s.fc)
  | 0 => rfl
  | n + 1 => by rw [iter_succ, q_L_unwrap_solver_ways_0 call hs u n, q_unwrap_solver_ways_10 call hs u (L_unwrap_solver_ways_0 call hs u n)]; kernel_rfl
theorem q_unwrap_solver_ways_9 (call : FCall) (hs : FHs) (u : Nat) :
  fxK Try.prog pol NN call c_unwrap_solver_ways_9 (AV × Mem) (k_unwrap_solver_ways hs u) r_unwrap_solver_ways (setE 0 r_unwrap_solver_ways eNil) r_unwrap_solver_ways = (fun s => L_unwrap_solver_ways_0 call hs u NN (s.sl 2) (s.sl 4) (s.sl 5) (s.sl 6) s.m s.fc) := by
  rw [show c_unwrap_solver_ways_9 = .loop c_unwrap_solver_ways_10 from by kernel_rfl, loop_r, q_L_unwrap_solver_ways_0 call hs u NN]
theorem q_unwrap_solver_ways_8 (call : FCall) (hs : FHs) (u : Nat) :
  fxK Try.prog pol NN call c_unwrap_solver_ways_8 (AV × Mem) (k_unwrap_solver_ways hs u) r_unwrap_solver_ways eNil r_unwrap_solver_ways = (fun s => L_unwrap_solver_ways_0 call hs u NN (s.sl 2) (s.sl 4) (s.sl 5) (s.sl 6) s.m s.fc) := by
  rw [show c_unwrap_solver_ways_8 = .block 0 c_unwrap_solver_ways_9 from by kernel_rfl, block_r, q_unwrap_solver_ways_9 call hs u]
theorem q_unwrap_solver_ways_0 (call : FCall) (hs : FHs) (u : Nat) :
  fxK Try.prog pol NN call c_unwrap_solver_ways_0 (AV × Mem) (k_unwrap_solver_ways hs u) r_unwrap_solver_ways eNil r_unwrap_solver_ways = (fun s => B_unwrap_solver_ways_9 call hs u (s.sl 0) (s.sl 1) s.m s.fc) := by
  rw [show c_unwrap_solver_ways_0 = .seq c_unwrap_solver_ways_1 c_unwrap_solver_ways_2 from by kernel_rfl, seq_r]; rw [show c_unwrap_solver_ways_2 = .seq c_unwrap_solver_ways_3 c_unwrap_solver_ways_4 from by kernel_rfl, seq_r]; rw [show c_unwrap_solver_ways_4 = .seq c_unwrap_solver_ways_5 c_unwrap_solver_ways_6 from by kernel_rfl, seq_r]; rw [show c_unwrap_solver_ways_6 = .seq c_unwrap_solver_ways_7 c_unwrap_solver_ways_8 from by kernel_rfl, seq_r]; rw [q_unwrap_solver_ways_8 call hs u]; kernel_rfl
theorem F_unwrap_solver_ways_eq (call : FCall) (hs : FHs) (t0 t1 : AV) (m : Mem) : fxBody Try.prog pol NN call hs n_unwrap_solver_ways [t0, t1] m = F_unwrap_solver_ways call hs [t0, t1] m := by
  rw [fxBody_at (fn := Try.f115) (body := c_unwrap_solver_ways_0) (nt := 139) (rs := [.cell 4 y_unwrap_tour]) (by kernel_rfl) (by kernel_rfl) (by kernel_rfl) (by kernel_rfl) (by kernel_rfl) (by kernel_rfl)]
  exact (congrFun (q_unwrap_solver_ways_0 call hs m.next) _).trans (by kernel_rfl)
theorem F_unwrap_solver_ways_le (call : FCall) (hs : FHs) (args : List AV) (m : Mem) (r : AV × Mem) (h : F_unwrap_solver_ways call hs args m = some r) : fxBody Try.prog pol NN call hs n_unwrap_solver_ways args m = some r := by
  unfold F_unwrap_solver_ways at h
  split at h
  · rw [F_unwrap_solver_ways_eq]; exact h
  · cases h

/- (swath/unwrap.net).classes$1 -/
abbrev k_unwrap_net_classes_1 (hs : FHs) (u : Nat) : FCtx := { f := n_unwrap_net_classes_1, u := u, nt := 53, hs := hs }
noncomputable abbrev r_unwrap_net_classes_1 : Fs → Option (AV × Mem) := fxRes Try.prog []
noncomputable def c_unwrap_net_classes_1_0 : Code := nav (bodyOf n_unwrap_net_classes_1) []
noncomputable def c_unwrap_net_classes_1_1 : Code := nav (bodyOf n_unwrap_net_classes_1) [false]
noncomputable def c_unwrap_net_classes_1_2 : Code := nav (bodyOf n_unwrap_net_classes_1) [true]
noncomputable def c_unwrap_net_classes_1_3 : Code := nav (bodyOf n_unwrap_net_classes_1) [true, false]
noncomputable def c_unwrap_net_classes_1_4 : Code := nav (bodyOf n_unwrap_net_classes_1) [true, false, false]
noncomputable def c_unwrap_net_classes_1_5 : Code := nav (bodyOf n_unwrap_net_classes_1) [true, false, false, false]
noncomputable def c_unwrap_net_classes_1_6 : Code := nav (bodyOf n_unwrap_net_classes_1) [true, false, false, true]
noncomputable def c_unwrap_net_classes_1_7 : Code := nav (bodyOf n_unwrap_net_classes_1) [true, false, false, true, false]
noncomputable def c_unwrap_net_classes_1_8 : Code := nav (bodyOf n_unwrap_net_classes_1) [true, false, false, true, true]
noncomputable def c_unwrap_net_classes_1_9 : Code := nav (bodyOf n_unwrap_net_classes_1) [true, false, false, true, true, false]
noncomputable def c_unwrap_net_classes_1_10 : Code := nav (bodyOf n_unwrap_net_classes_1) [true, false, false, true, true, true]
theorem q_unwrap_net_classes_1_10 (call : FCall) (hs : FHs) (u : Nat) (rec0 : AV → AV → AV → AV → AV → Mem → Nat → Option (AV × Mem)) :
  fxK Try.prog pol NN call c_unwrap_net_classes_1_10 (AV × Mem) (k_unwrap_net_classes_1 hs u) (fun s => rec0 (s.sl 0) (s.sl 1) (s.sl 3) (s.sl 9) (s.sl 10) s.m s.fc) (setE 0 r_unwrap_net_classes_1 eNil) r_unwrap_net_classes_1 = (fun s => B_unwrap_net_classes_1_0 call hs u rec0 (s.sl 0) (s.sl 1) (s.sl 3) (s.sl 9) (s.sl 10) s.m s.fc) := by
  kernel_rfl
theorem q_unwrap_net_classes_1_9 (call : FCall) (hs : FHs) (u : Nat) (rec0 : AV → AV → AV → AV → AV → Mem → Nat → Option (AV × Mem)) :
  fxK Try.prog pol NN call c_unwrap_net_classes_1_9 (AV × Mem) (k_unwrap_net_classes_1 hs u) (fun s => B_unwrap_net_classes_1_0 call hs u rec0 (s.sl 0) (s.sl 1) (s.sl 3) (s.sl 9) (s.sl 10) s.m s.fc) (setE 0 r_unwrap_net_classes_1 eNil) r_unwrap_net_classes_1 = (fun s => B_unwrap_net_classes_1_1 call hs u rec0 (s.sl 0) (s.sl 1) (s.sl 3) (s.sl 9) (s.sl 10) s.m s.fc) := by
  kernel_rfl
theorem q_unwrap_net_classes_1_8 (call : FCall) (hs : FHs) (u : Nat) (rec0 : AV → AV → AV → AV → AV → Mem → Nat → Option (AV × Mem)) :
  fxK Try.prog pol NN call c_unwrap_net_classes_1_8 (AV × Mem) (k_unwrap_net_classes_1 hs u) (fun s => rec0 (s.sl 0) (s.sl 1) (s.sl 3) (s.sl 9) (s.sl 10) s.m s.fc) (setE 0 r_unwrap_net_classes_1 eNil) r_unwrap_net_classes_1 = (fun s => B_unwrap_net_classes_1_1 call hs u rec0 (s.sl 0) (s.sl 1) (s.sl 3) (s.sl 9) (s.sl 10) s.m s.fc) := by
  rw [show c_unwrap_net_classes_1_8 = .seq c_unwrap_net_classes_1_9 c_unwrap_net_classes_1_10 from by kernel_rfl, seq_r, q_unwrap_net_classes_1_10 call hs u rec0, q_unwrap_net_classes_1_9 call hs u rec0]
theorem q_unwrap_net_classes_1_4 (call : FCall) (hs : FHs) (u : Nat) (rec0 : AV → AV → AV → AV → AV → Mem → Nat → Option (AV × Mem)) :
  fxK Try.prog pol NN call c_unwrap_net_classes_1_4 (AV × Mem) (k_unwrap_net_classes_1 hs u) (fun s => rec0 (s.sl 0) (s.sl 1) (s.sl 3) (s.sl 9) (s.sl 10) s.m s.fc) (setE 0 r_unwrap_net_classes_1 eNil) r_unwrap_net_classes_1 = (fun s => B_unwrap_net_classes_1_2 call hs u rec0 (s.sl 0) (s.sl 1) (s.sl 3) (s.sl 9) (s.sl 10) s.m s.fc) := by
  rw [show c_unwrap_net_classes_1_4 = .seq c_unwrap_net_classes_1_5 c_unwrap_net_classes_1_6 from by kernel_rfl, seq_r]; rw [show c_unwrap_net_classes_1_6 = .seq c_unwrap_net_classes_1_7 c_unwrap_net_classes_1_8 from by kernel_rfl, seq_r]; rw [q_unwrap_net_classes_1_8 call hs u rec0]; kernel_rfl
theorem q_L_unwrap_net_classes_1_0 (call : FCall) (hs : FHs) (u : Nat) : ∀ n : Nat,
  iter (fun rec => fxK Try.prog pol NN call c_unwrap_net_classes_1_4 (AV × Mem) (k_unwrap_net_classes_1 hs u) rec (setE 0 r_unwrap_net_classes_1 eNil) r_unwrap_net_classes_1) n = (fun s => L_unwrap_net_classes_1_0 call hs u n (s.sl 0) (s.sl 1) (s.sl 3) (s.sl 9) (s.sl 10) s.m s.fc)
  | 0 => rfl
  | n + 1 => by rw [iter_succ, q_L_unwrap_net_classes_1_0 call hs u n, q_unwrap_net_classes_1_4 call hs u (L_unwrap_net_classes_1_0 call hs u n)]; kernel_rfl
theorem q_unwrap_net_classes_1_3 (call : FCall) (hs : FHs) (u : Nat) :
  fxK Try.prog pol NN call c_unwrap_net_classes_1_3 (AV × Mem) (k_unwrap_net_classes_1 hs u) r_unwrap_net_classes_1 (setE 0 r_unwrap_net_classes_1 eNil) r_unwrap_net_classes_1 = (fun s => L_unwrap_net_classes_1_0 call hs u NN (s.sl 0) (s.sl 1) (s.sl 3) (s.sl 9) (s.sl 10) s.m s.fc) := by
  rw [show c_unwrap_net_classes_1_3 = .loop c_unwrap_net_classes_1_4 from by kernel_rfl, loop_r, q_L_unwrap_net_classes_1_0 call hs u NN]
theorem q_unwrap_net_classes_1_2 (call : FCall) (hs : FHs) (u : Nat) :
  fxK Try.prog pol NN call c_unwrap_net_classes_1_2 (AV × Mem) (k_unwrap_net_classes_1 hs u) r_unwrap_net_classes_1 eNil r_unwrap_net_classes_1 = (fun s => L_unwrap_net_classes_1_0 call hs u NN (s.sl 0) (s.sl 1) (s.sl 3) (s.sl 9) (s.sl 10) s.m s.fc) := by
  rw [show c_unwrap_net_classes_1_2 = .block 0 c_unwrap_net_classes_1_3 from by kernel_rfl, block_r, q_unwrap_net_classes_1_3 call hs u]
theorem q_unwrap_net_classes_1_0 (call : FCall) (hs : FHs) (u : Nat) :
  fxK Try.prog pol NN call c_unwrap_net_classes_1_0 (AV × Mem) (k_unwrap_net_classes_1 hs u) r_unwrap_net_classes_1 eNil r_unwrap_net_classes_1 = (fun s => B_unwrap_net_classes_1_3 call hs u (s.sl 0) (s.sl 1) (s.sl 2) (s.sl 3) s.m s.fc) := by
  rw [show c_unwrap_net_classes_1_0 = .seq c_unwrap_net_classes_1_1 c_unwrap_net_classes_1_2 from by kernel_rfl, seq_r]; rw [q_unwrap_net_classes_1_2 call hs u]; kernel_rfl
theorem F_unwrap_net_classes_1_eq (call : FCall) (hs : FHs) (t0 t1 t2 t3 : AV) (m : Mem) : fxBody Try.prog pol NN call hs n_unwrap_net_classes_1 [t0, t1, t2, t3] m = F_unwrap_net_classes_1 call hs [t0, t1, t2, t3] m := by
  rw [fxBody_at (fn := Try.f116) (body := c_unwrap_net_classes_1_0) (nt := 53) (rs := []) (by kernel_rfl) (by kernel_rfl) (by kernel_rfl) (by kernel_rfl) (by kernel_rfl) (by kernel_rfl)]
  exact (congrFun (q_unwrap_net_classes_1_0 call hs m.next) _).trans (by kernel_rfl)
theorem F_unwrap_net_classes_1_le (call : FCall) (hs : FHs) (args : List AV) (m : Mem) (r : AV × Mem) (h : F_unwrap_net_classes_1 call hs args m = some r) : fxBody Try.prog pol NN call hs n_unwrap_net_classes_1 args m = some r := by
  unfold F_unwrap_net_classes_1 at h
  split at h
  · rw [F_unwrap_net_classes_1_eq]; exact h
  · cases h

/- swath/unwrap.sides$1 -/
abbrev k_unwrap_sides_1 (hs : FHs) (u : Nat) : FCtx := { f := n_unwrap_sides_1, u := u, nt := 55, hs := hs }
noncomputable abbrev r_unwrap_sides_1 : Fs → Option (AV × Mem) := fxRes Try.prog []
noncomputable def c_unwrap_sides_1_0 : Code := nav (bodyOf n_unwrap_sides_1) []
noncomputable def c_unwrap_sides_1_1 : Code := nav (bodyOf n_unwrap_sides_1) [false]
noncomputable def c_unwrap_sides_1_2 : Code := nav (bodyOf n_unwrap_sides_1) [true]
noncomputable def c_unwrap_sides_1_3 : Code := nav (bodyOf n_unwrap_sides_1) [true, false]
noncomputable def c_unwrap_sides_1_4 : Code := nav (bodyOf n_unwrap_sides_1) [true, true]
noncomputable def c_unwrap_sides_1_5 : Code := nav (bodyOf n_unwrap_sides_1) [true, true, false]
noncomputable def c_unwrap_sides_1_6 : Code := nav (bodyOf n_unwrap_sides_1) [true, true, false, false]
noncomputable def c_unwrap_sides_1_7 : Code := nav (bodyOf n_unwrap_sides_1) [true, true, false, false, false]
noncomputable def c_unwrap_sides_1_8 : Code := nav (bodyOf n_unwrap_sides_1) [true, true, false, false, true]
noncomputable def c_unwrap_sides_1_9 : Code := nav (bodyOf n_unwrap_sides_1) [true, true, false, false, true, false]
noncomputable def c_unwrap_sides_1_10 : Code := nav (bodyOf n_unwrap_sides_1) [true, true, false, false, true, true]
noncomputable def c_unwrap_sides_1_11 : Code := nav (bodyOf n_unwrap_sides_1) [true, true, false, false, true, true, false]
noncomputable def c_unwrap_sides_1_12 : Code := nav (bodyOf n_unwrap_sides_1) [true, true, false, false, true, true, true]
noncomputable def c_unwrap_sides_1_13 : Code := nav (bodyOf n_unwrap_sides_1) [true, true, false, false, true, true, false, false]
noncomputable def c_unwrap_sides_1_14 : Code := nav (bodyOf n_unwrap_sides_1) [true, true, false, false, true, true, false, false, false]
noncomputable def c_unwrap_sides_1_15 : Code := nav (bodyOf n_unwrap_sides_1) [true, true, false, false, true, true, false, false, true]
noncomputable def c_unwrap_sides_1_16 : Code := nav (bodyOf n_unwrap_sides_1) [true, true, false, false, true, true, false, false, true, false]
noncomputable def c_unwrap_sides_1_17 : Code := nav (bodyOf n_unwrap_sides_1) [true, true, false, false, true, true, false, false, true, true]
noncomputable def c_unwrap_sides_1_18 : Code := nav (bodyOf n_unwrap_sides_1) [true, true, false, false, true, true, false, false, true, true, false]
noncomputable def c_unwrap_sides_1_19 : Code := nav (bodyOf n_unwrap_sides_1) [true, true, false, false, true, true, false, false, true, true, false, false]
noncomputable def c_unwrap_sides_1_20 : Code := nav (bodyOf n_unwrap_sides_1) [true, true, false, false, true, true, false, false, true, true, false, false, false]
noncomputable def c_unwrap_sides_1_21 : Code := nav (bodyOf n_unwrap_sides_1) [true, true, false, false, true, true, false, false, true, true, false, false, true]
noncomputable def c_unwrap_sides_1_22 : Code := nav (bodyOf n_unwrap_sides_1) [true, true, false, false, true, true, false, false, true, true, false, false, true, false]
noncomputable def c_unwrap_sides_1_23 : Code := nav (bodyOf n_unwrap_sides_1) [true, true, false, false, true, true, false, false, true, true, false, false, true, true]
noncomputable def c_unwrap_sides_1_24 : Code := nav (bodyOf n_unwrap_sides_1) [true, true, false, false, true, true, false, false, true, true, false, false, true, true, false]
noncomputable def c_unwrap_sides_1_25 : Code := nav (bodyOf n_unwrap_sides_1) [true, true, false, false, true, true, false, false, true, true, false, false, true, true, true]
theorem q_unwrap_sides_1_12 (call : FCall) (hs : FHs) (u : Nat) (rec0 : AV → AV → AV → AV → AV → AV → Mem → Nat → Option (AV × Mem)) :
  fxK Try.prog pol NN call c_unwrap_sides_1_12 (AV × Mem) (k_unwrap_sides_1 hs u) (fun s => rec0 (s.sl 0) (s.sl 1) (s.sl 2) (s.sl 4) (s.sl 9) (s.sl 10) s.m s.fc) (setE 0 r_unwrap_sides_1 eNil) r_unwrap_sides_1 = (fun s => B_unwrap_sides_1_0 call hs u rec0 (s.sl 0) (s.sl 1) (s.sl 2) (s.sl 4) (s.sl 9) (s.sl 10) s.m s.fc) := by
  kernel_rfl
theorem q_unwrap_sides_1_25 (call : FCall) (hs : FHs) (u : Nat) (rec0 : AV → AV → AV → AV → AV → AV → Mem → Nat → Option (AV × Mem)) (rec1 : AV → AV → AV → AV → AV → AV → AV → AV → AV → AV → Mem → Nat → Option (AV × Mem)) :
  fxK Try.prog pol NN call c_unwrap_sides_1_25 (AV × Mem) (k_unwrap_sides_1 hs u) (fun s => rec1 (s.sl 0) (s.sl 1) (s.sl 2) (s.sl 4) (s.sl 5) (s.sl 6) (s.sl 9) (s.sl 10) (s.sl 16) (s.sl 17) s.m s.fc) (setE 2 (fun s => B_unwrap_sides_1_0 call hs u rec0 (s.sl 0) (s.sl 1) (s.sl 2) (s.sl 4) (s.sl 9) (s.sl 10) s.m s.fc) (setE 1 (fun s => B_unwrap_sides_1_0 call hs u rec0 (s.sl 0) (s.sl 1) (s.sl 2) (s.sl 4) (s.sl 9) (s.sl 10) s.m s.fc) (setE 0 r_unwrap_sides_1 eNil))) r_unwrap_sides_1 = (fun s => B_unwrap_sides_1_1 call hs u rec0 rec1 (s.sl 0) (s.sl 1) (s.sl 2) (s.sl 4) (s.sl 5) (s.sl 6) (s.sl 9) (s.sl 10) (s.sl 16) (s.sl 17) s.m s.fc) := by
  kernel_rfl
theorem q_unwrap_sides_1_24 (call : FCall) (hs : FHs) (u : Nat) (rec0 : AV → AV → AV → AV → AV → AV → Mem → Nat → Option (AV × Mem)) (rec1 : AV → AV → AV → AV → AV → AV → AV → AV → AV → AV → Mem → Nat → Option (AV × Mem)) :
  fxK Try.prog pol NN call c_unwrap_sides_1_24 (AV × Mem) (k_unwrap_sides_1 hs u) (fun s => B_unwrap_sides_1_1 call hs u rec0 rec1 (s.sl 0) (s.sl 1) (s.sl 2) (s.sl 4) (s.sl 5) (s.sl 6) (s.sl 9) (s.sl 10) (s.sl 16) (s.sl 17) s.m s.fc) (setE 2 (fun s => B_unwrap_sides_1_0 call hs u rec0 (s.sl 0) (s.sl 1) (s.sl 2) (s.sl 4) (s.sl 9) (s.sl 10) s.m s.fc) (setE 1 (fun s => B_unwrap_sides_1_0 call hs u rec0 (s.sl 0) (s.sl 1) (s.sl 2) (s.sl 4) (s.sl 9) (s.sl 10) s.m s.fc) (setE 0 r_unwrap_sides_1 eNil))) r_unwrap_sides_1 = (fun s => B_unwrap_sides_1_2 call hs u rec0 rec1 (s.sl 0) (s.sl 1) (s.sl 2) (s.sl 4) (s.sl 5) (s.sl 6) (s.sl 9) (s.sl 10) (s.sl 16) (s.sl 17) s.m s.fc) := by
  kernel_rfl
theorem q_unwrap_sides_1_23 (call : FCall) (hs : FHs) (u : Nat) (rec0 : AV → AV → AV → AV → AV → AV → Mem → Nat → Option (AV × Mem)) (rec1 : AV → AV → AV → AV → AV → AV → AV → AV → AV → AV → Mem → Nat → Option (AV × Mem)) :
  fxK Try.prog pol NN call c_unwrap_sides_1_23 (AV × Mem) (k_unwrap_sides_1 hs u) (fun s => rec1 (s.sl 0) (s.sl 1) (s.sl 2) (s.sl 4) (s.sl 5) (s.sl 6) (s.sl 9) (s.sl 10) (s.sl 16) (s.sl 17) s.m s.fc) (setE 2 (fun s => B_unwrap_sides_1_0 call hs u rec0 (s.sl 0) (s.sl 1) (s.sl 2) (s.sl 4) (s.sl 9) (s.sl 10) s.m s.fc) (setE 1 (fun s => B_unwrap_sides_1_0 call hs u rec0 (s.sl 0) (s.sl 1) (s.sl 2) (s.sl 4) (s.sl 9) (s.sl 10) s.m s.fc) (setE 0 r_unwrap_sides_1 eNil))) r_unwrap_sides_1 = (fun s => B_unwrap_sides_1_2 call hs u rec0 rec1 (s.sl 0) (s.sl 1) (s.sl 2) (s.sl 4) (s.sl 5) (s.sl 6) (s.sl 9) (s.sl 10) (s.sl 16) (s.sl 17) s.m s.fc) := by
  rw [show c_unwrap_sides_1_23 = .seq c_unwrap_sides_1_24 c_unwrap_sides_1_25 from by kernel_rfl, seq_r, q_unwrap_sides_1_25 call hs u rec0 rec1, q_unwrap_sides_1_24 call hs u rec0 rec1]
theorem q_unwrap_sides_1_19 (call : FCall) (hs : FHs) (u : Nat) (rec0 : AV → AV → AV → AV → AV → AV → Mem → Nat → Option (AV × Mem)) (rec1 : AV → AV → AV → AV → AV → AV → AV → AV → AV → AV → Mem → Nat → Option (AV × Mem)) :
  fxK Try.prog pol NN call c_unwrap_sides_1_19 (AV × Mem) (k_unwrap_sides_1 hs u) (fun s => rec1 (s.sl 0) (s.sl 1) (s.sl 2) (s.sl 4) (s.sl 5) (s.sl 6) (s.sl 9) (s.sl 10) (s.sl 16) (s.sl 17) s.m s.fc) (setE 2 (fun s => B_unwrap_sides_1_0 call hs u rec0 (s.sl 0) (s.sl 1) (s.sl 2) (s.sl 4) (s.sl 9) (s.sl 10) s.m s.fc) (setE 1 (fun s => B_unwrap_sides_1_0 call hs u rec0 (s.sl 0) (s.sl 1) (s.sl 2) (s.sl 4) (s.sl 9) (s.sl 10) s.m s.fc) (setE 0 r_unwrap_sides_1 eNil))) r_unwrap_sides_1 = (fun s => B_unwrap_sides_1_3 call hs u rec0 rec1 (s.sl 0) (s.sl 1) (s.sl 2) (s.sl 4) (s.sl 5) (s.sl 6) (s.sl 9) (s.sl 10) (s.sl 16) (s.sl 17) s.m s.fc) := by
  rw [show c_unwrap_sides_1_19 = .seq c_unwrap_sides_1_20 c_unwrap_sides_1_21 from by kernel_rfl, seq_r]; rw [show c_unwrap_sides_1_21 = .seq c_unwrap_sides_1_22 c_unwrap_sides_1_23 from by kernel_rfl, seq_r]; rw [q_unwrap_sides_1_23 call hs u rec0 rec1]; kernel_rfl
theorem q_L_unwrap_sides_1_1 (call : FCall) (hs : FHs) (u : Nat) (rec0 : AV → AV → AV → AV → AV → AV → Mem → Nat → Option (AV × Mem)) : ∀ n : Nat,
  iter (fun rec => fxK Try.prog pol NN call c_unwrap_sides_1_19 (AV × Mem) (k_unwrap_sides_1 hs u) rec (setE 2 (fun s => B_unwrap_sides_1_0 call hs u rec0 (s.sl 0) (s.sl 1) (s.sl 2) (s.sl 4) (s.sl 9) (s.sl 10) s.m s.fc) (setE 1 (fun s => B_unwrap_sides_1_0 call hs u rec0 (s.sl 0) (s.sl 1) (s.sl 2) (s.sl 4) (s.sl 9) (s.sl 10) s.m s.fc) (setE 0 r_unwrap_sides_1 eNil))) r_unwrap_sides_1) n = (fun s => L_unwrap_sides_1_1 call hs u rec0 n (s.sl 0) (s.sl 1) (s.sl 2) (s.sl 4) (s.sl 5) (s.sl 6) (s.sl 9) (s.sl 10) (s.sl 16) (s.sl 17) s.m s.fc)
  | 0 => rfl
  | n + 1 => by rw [iter_succ, q_L_unwrap_sides_1_1 call hs u rec0 n, q_unwrap_sides_1_19 call hs u rec0 (L_unwrap_sides_1_1 call hs u rec0 n)]; kernel_rfl
theorem q_unwrap_sides_1_18 (call : FCall) (hs : FHs) (u : Nat) (rec0 : AV → AV → AV → AV → AV → AV → Mem → Nat → Option (AV × Mem)) :
  fxK Try.prog pol NN call c_unwrap_sides_1_18 (AV × Mem) (k_unwrap_sides_1 hs u) (fun s => B_unwrap_sides_1_0 call hs u rec0 (s.sl 0) (s.sl 1) (s.sl 2) (s.sl 4) (s.sl 9) (s.sl 10) s.m s.fc) (setE 2 (fun s => B_unwrap_sides_1_0 call hs u rec0 (s.sl 0) (s.sl 1) (s.sl 2) (s.sl 4) (s.sl 9) (s.sl 10) s.m s.fc) (setE 1 (fun s => B_unwrap_sides_1_0 call hs u rec0 (s.sl 0) (s.sl 1) (s.sl 2) (s.sl 4) (s.sl 9) (s.sl 10) s.m s.fc) (setE 0 r_unwrap_sides_1 eNil))) r_unwrap_sides_1 = (fun s => L_unwrap_sides_1_1 call hs u rec0 NN (s.sl 0) (s.sl 1) (s.sl 2) (s.sl 4) (s.sl 5) (s.sl 6) (s.sl 9) (s.sl 10) (s.sl 16) (s.sl 17) s.m s.fc) := by
  rw [show c_unwrap_sides_1_18 = .loop c_unwrap_sides_1_19 from by kernel_rfl, loop_r, q_L_unwrap_sides_1_1 call hs u rec0 NN]
theorem q_unwrap_sides_1_17 (call : FCall) (hs : FHs) (u : Nat) (rec0 : AV → AV → AV → AV → AV → AV → Mem → Nat → Option (AV × Mem)) :
  fxK Try.prog pol NN call c_unwrap_sides_1_17 (AV × Mem) (k_unwrap_sides_1 hs u) (fun s => B_unwrap_sides_1_0 call hs u rec0 (s.sl 0) (s.sl 1) (s.sl 2) (s.sl 4) (s.sl 9) (s.sl 10) s.m s.fc) (setE 1 (fun s => B_unwrap_sides_1_0 call hs u rec0 (s.sl 0) (s.sl 1) (s.sl 2) (s.sl 4) (s.sl 9) (s.sl 10) s.m s.fc) (setE 0 r_unwrap_sides_1 eNil)) r_unwrap_sides_1 = (fun s => L_unwrap_sides_1_1 call hs u rec0 NN (s.sl 0) (s.sl 1) (s.sl 2) (s.sl 4) (s.sl 5) (s.sl 6) (s.sl 9) (s.sl 10) (s.sl 16) (s.sl 17) s.m s.fc) := by
  rw [show c_unwrap_sides_1_17 = .block 2 c_unwrap_sides_1_18 from by kernel_rfl, block_r, q_unwrap_sides_1_18 call hs u rec0]
theorem q_unwrap_sides_1_13 (call : FCall) (hs : FHs) (u : Nat) (rec0 : AV → AV → AV → AV → AV → AV → Mem → Nat → Option (AV × Mem)) :
  fxK Try.prog pol NN call c_unwrap_sides_1_13 (AV × Mem) (k_unwrap_sides_1 hs u) (fun s => B_unwrap_sides_1_0 call hs u rec0 (s.sl 0) (s.sl 1) (s.sl 2) (s.sl 4) (s.sl 9) (s.sl 10) s.m s.fc) (setE 1 (fun s => B_unwrap_sides_1_0 call hs u rec0 (s.sl 0) (s.sl 1) (s.sl 2) (s.sl 4) (s.sl 9) (s.sl 10) s.m s.fc) (setE 0 r_unwrap_sides_1 eNil)) r_unwrap_sides_1 = (fun s => B_unwrap_sides_1_4 call hs u rec0 (s.sl 0) (s.sl 1) (s.sl 2) (s.sl 4) (s.sl 9) (s.sl 10) s.m s.fc) := by
  rw [show c_unwrap_sides_1_13 = .seq c_unwrap_sides_1_14 c_unwrap_sides_1_15 from by kernel_rfl, seq_r]; rw [show c_unwrap_sides_1_15 = .seq c_unwrap_sides_1_16 c_unwrap_sides_1_17 from by kernel_rfl, seq_r]; rw [q_unwrap_sides_1_17 call hs u rec0]; kernel_rfl
theorem q_unwrap_sides_1_11 (call : FCall) (hs : FHs) (u : Nat) (rec0 : AV → AV → AV → AV → AV → AV → Mem → Nat → Option (AV × Mem)) :
  fxK Try.prog pol NN call c_unwrap_sides_1_11 (AV × Mem) (k_unwrap_sides_1 hs u) (fun s => B_unwrap_sides_1_0 call hs u rec0 (s.sl 0) (s.sl 1) (s.sl 2) (s.sl 4) (s.sl 9) (s.sl 10) s.m s.fc) (setE 0 r_unwrap_sides_1 eNil) r_unwrap_sides_1 = (fun s => B_unwrap_sides_1_4 call hs u rec0 (s.sl 0) (s.sl 1) (s.sl 2) (s.sl 4) (s.sl 9) (s.sl 10) s.m s.fc) := by
  rw [show c_unwrap_sides_1_11 = .block 1 c_unwrap_sides_1_13 from by kernel_rfl, block_r, q_unwrap_sides_1_13 call hs u rec0]
theorem q_unwrap_sides_1_10 (call : FCall) (hs : FHs) (u : Nat) (rec0 : AV → AV → AV → AV → AV → AV → Mem → Nat → Option (AV × Mem)) :
  fxK Try.prog pol NN call c_unwrap_sides_1_10 (AV × Mem) (k_unwrap_sides_1 hs u) (fun s => rec0 (s.sl 0) (s.sl 1) (s.sl 2) (s.sl 4) (s.sl 9) (s.sl 10) s.m s.fc) (setE 0 r_unwrap_sides_1 eNil) r_unwrap_sides_1 = (fun s => B_unwrap_sides_1_4 call hs u rec0 (s.sl 0) (s.sl 1) (s.sl 2) (s.sl 4) (s.sl 9) (s.sl 10) s.m s.fc) := by
  rw [show c_unwrap_sides_1_10 = .seq c_unwrap_sides_1_11 c_unwrap_sides_1_12 from by kernel_rfl, seq_r, q_unwrap_sides_1_12 call hs u rec0, q_unwrap_sides_1_11 call hs u rec0]
theorem q_unwrap_sides_1_6 (call : FCall) (hs : FHs) (u : Nat) (rec0 : AV → AV → AV → AV → AV → AV → Mem → Nat → Option (AV × Mem)) :
  fxK Try.prog pol NN call c_unwrap_sides_1_6 (AV × Mem) (k_unwrap_sides_1 hs u) (fun s => rec0 (s.sl 0) (s.sl 1) (s.sl 2) (s.sl 4) (s.sl 9) (s.sl 10) s.m s.fc) (setE 0 r_unwrap_sides_1 eNil) r_unwrap_sides_1 = (fun s => B_unwrap_sides_1_5 call hs u rec0 (s.sl 0) (s.sl 1) (s.sl 2) (s.sl 4) (s.sl 9) (s.sl 10) s.m s.fc) := by
  rw [show c_unwrap_sides_1_6 = .seq c_unwrap_sides_1_7 c_unwrap_sides_1_8 from by kernel_rfl, seq_r]; rw [show c_unwrap_sides_1_8 = .seq c_unwrap_sides_1_9 c_unwrap_sides_1_10 from by kernel_rfl, seq_r]; rw [q_unwrap_sides_1_10 call hs u rec0]; kernel_rfl
theorem q_L_unwrap_sides_1_0 (call : FCall) (hs : FHs) (u : Nat) : ∀ n : Nat,
  iter (fun rec => fxK Try.prog pol NN call c_unwrap_sides_1_6 (AV × Mem) (k_unwrap_sides_1 hs u) rec (setE 0 r_unwrap_sides_1 eNil) r_unwrap_sides_1) n = (fun s => L_unwrap_sides_1_0 call hs u n (s.sl 0) (s.sl 1) (s.sl 2) (s.sl 4) (s.sl 9) (s.sl 10) s.m s.fc)
  | 0 => rfl
  | n + 1 => by rw [iter_succ, q_L_unwrap_sides_1_0 call hs u n, q_unwrap_sides_1_6 call hs u (L_unwrap_sides_1_0 call hs u n)]; kernel_rfl
theorem q_unwrap_sides_1_5 (call : FCall) (hs : FHs) (u : Nat) :
  fxK Try.prog pol NN call c_unwrap_sides_1_5 (AV × Mem) (k_unwrap_sides_1 hs u) r_unwrap_sides_1 (setE 0 r_unwrap_sides_1 eNil) r_unwrap_sides_1 = (fun s => L_unwrap_sides_1_0 call hs u NN (s.sl 0) (s.sl 1) (s.sl 2) (s.sl 4) (s.sl 9) (s.sl 10) s.m s.fc) := by
  rw [show c_unwrap_sides_1_5 = .loop c_unwrap_sides_1_6 from by kernel_rfl, loop_r, q_L_unwrap_sides_1_0 call hs u NN]
theorem q_unwrap_sides_1_4 (call : FCall) (hs : FHs) (u : Nat) :
  fxK Try.prog pol NN call c_unwrap_sides_1_4 (AV × Mem) (k_unwrap_sides_1 hs u) r_unwrap_sides_1 eNil r_unwrap_sides_1 = (fun s => L_unwrap_sides_1_0 call hs u NN (s.sl 0) (s.sl 1) (s.sl 2) (s.sl 4) (s.sl 9) (s.sl 10) s.m s.fc) := by
  rw [show c_unwrap_sides_1_4 = .block 0 c_unwrap_sides_1_5 from by kernel_rfl, block_r, q_unwrap_sides_1_5 call hs u]
theorem q_unwrap_sides_1_0 (call : FCall) (hs : FHs) (u : Nat) :
  fxK Try.prog pol NN call c_unwrap_sides_1_0 (AV × Mem) (k_unwrap_sides_1 hs u) r_unwrap_sides_1 eNil r_unwrap_sides_1 = (fun s => B_unwrap_sides_1_6 call hs u (s.sl 0) (s.sl 1) (s.sl 2) s.m s.fc) := by
  rw [show c_unwrap_sides_1_0 = .seq c_unwrap_sides_1_1 c_unwrap_sides_1_2 from by kernel_rfl, seq_r]; rw [show c_unwrap_sides_1_2 = .seq c_unwrap_sides_1_3 c_unwrap_sides_1_4 from by kernel_rfl, seq_r]; rw [q_unwrap_sides_1_4 call hs u]; kernel_rfl
theorem F_unwrap_sides_1_eq (call : FCall) (hs : FHs) (t0 t1 t2 : AV) (m : Mem) : fxBody Try.prog pol NN call hs n_unwrap_sides_1 [t0, t1, t2] m = F_unwrap_sides_1 call hs [t0, t1, t2] m := by
  rw [fxBody_at (fn := Try.f120) (body := c_unwrap_sides_1_0) (nt := 55) (rs := []) (by kernel_rfl) (by kernel_rfl) (by kernel_rfl) (by kernel_rfl) (by kernel_rfl) (by kernel_rfl)]
  exact (congrFun (q_unwrap_sides_1_0 call hs m.next) _).trans (by kernel_rfl)
theorem F_unwrap_sides_1_le (call : FCall) (hs : FHs) (args : List AV) (m : Mem) (r : AV × Mem) (h : F_unwrap_sides_1 call hs args m = some r) : fxBody Try.prog pol NN call hs n_unwrap_sides_1 args m = some r := by
  unfold F_unwrap_sides_1 at h
  split at h
  · rw [F_unwrap_sides_1_eq]; exact h
  · cases h

/- slices.Repeat[[]int,int] -/
abbrev k_slices_Repeat_int_int (hs : FHs) (u : Nat) : FCtx := { f := n_slices_Repeat_int_int, u := u, nt := 48, hs := hs }
noncomputable abbrev r_slices_Repeat_int_int : Fs → Option (AV × Mem) := fxRes Try.prog [.tmp 4]
noncomputable def c_slices_Repeat_int_int_0 : Code := nav (bodyOf n_slices_Repeat_int_int) []
noncomputable def c_slices_Repeat_int_int_1 : Code := nav (bodyOf n_slices_Repeat_int_int) [false]
noncomputable def c_slices_Repeat_int_int_2 : Code := nav (bodyOf n_slices_Repeat_int_int) [true]
noncomputable def c_slices_Repeat_int_int_3 : Code := nav (bodyOf n_slices_Repeat_int_int) [true, false]
noncomputable def c_slices_Repeat_int_int_4 : Code := nav (bodyOf n_slices_Repeat_int_int) [true, true]
noncomputable def c_slices_Repeat_int_int_5 : Code := nav (bodyOf n_slices_Repeat_int_int) [true, true, false]
noncomputable def c_slices_Repeat_int_int_6 : Code := nav (bodyOf n_slices_Repeat_int_int) [true, true, true]
noncomputable def c_slices_Repeat_int_int_7 : Code := nav (bodyOf n_slices_Repeat_int_int) [true, true, true, false]
noncomputable def c_slices_Repeat_int_int_8 : Code := nav (bodyOf n_slices_Repeat_int_int) [true, true, true, true]
noncomputable def c_slices_Repeat_int_int_9 : Code := nav (bodyOf n_slices_Repeat_int_int) [true, true, true, true, false]
noncomputable def c_slices_Repeat_int_int_10 : Code := nav (bodyOf n_slices_Repeat_int_int) [true, true, true, true, true]
noncomputable def c_slices_Repeat_int_int_11 : Code := nav (bodyOf n_slices_Repeat_int_int) [true, true, true, true, true, false]
noncomputable def c_slices_Repeat_int_int_12 : Code := nav (bodyOf n_slices_Repeat_int_int) [true, true, true, true, true, true]
noncomputable def c_slices_Repeat_int_int_13 : Code := nav (bodyOf n_slices_Repeat_int_int) [true, true, true, true, true, true, false]
noncomputable def c_slices_Repeat_int_int_14 : Code := nav (bodyOf n_slices_Repeat_int_int) [true, true, true, true, true, true, true]
noncomputable def c_slices_Repeat_int_int_15 : Code := nav (bodyOf n_slices_Repeat_int_int) [true, true, true, true, true, true, false, false]
noncomputable def c_slices_Repeat_int_int_16 : Code := nav (bodyOf n_slices_Repeat_int_int) [true, true, true, true, true, true, false, false, false]
theorem q_slices_Repeat_int_int_14 (call : FCall) (hs : FHs) (u : Nat) :
  fxK Try.prog pol NN call c_slices_Repeat_int_int_14 (AV × Mem) (k_slices_Repeat_int_int hs u) r_slices_Repeat_int_int eNil r_slices_Repeat_int_int = (fun s => B_slices_Repeat_int_int_0 call hs u (s.sl 7) s.m s.fc) := by
  kernel_rfl
theorem q_slices_Repeat_int_int_16 (call : FCall) (hs : FHs) (u : Nat) (rec0 : AV → AV → Mem → Nat → Option (AV × Mem)) :
  fxK Try.prog pol NN call c_slices_Repeat_int_int_16 (AV × Mem) (k_slices_Repeat_int_int hs u) (fun s => rec0 (s.sl 7) (s.sl 8) s.m s.fc) (setE 0 (fun s => B_slices_Repeat_int_int_0 call hs u (s.sl 7) s.m s.fc) eNil) r_slices_Repeat_int_int = (fun s => B_slices_Repeat_int_int_1 call hs u rec0 (s.sl 7) (s.sl 8) s.m s.fc) := by
  kernel_rfl
theorem q_L_slices_Repeat_int_int_0 (call : FCall) (hs : FHs) (u : Nat) : ∀ n : Nat,
  iter (fun rec => fxK Try.prog pol NN call c_slices_Repeat_int_int_16 (AV × Mem) (k_slices_Repeat_int_int hs u) rec (setE 0 (fun s => B_slices_Repeat_int_int_0 call hs u (s.sl 7) s.m s.fc) eNil) r_slices_Repeat_int_int) n = (fun s => L_slices_Repeat_int_int_0 call hs u n (s.sl 7) (s.sl 8) s.m s.fc)
  | 0 => rfl
  | n + 1 => by rw [iter_succ, q_L_slices_Repeat_int_int_0 call hs u n, q_slices_Repeat_int_int_16 call hs u (L_slices_Repeat_int_int_0 call hs u n)]; kernel_rfl
theorem q_slices_Repeat_int_int_15 (call : FCall) (hs : FHs) (u : Nat) :
  fxK Try.prog pol NN call c_slices_Repeat_int_int_15 (AV × Mem) (k_slices_Repeat_int_int hs u) (fun s => B_slices_Repeat_int_int_0 call hs u (s.sl 7) s.m s.fc) (setE 0 (fun s => B_slices_Repeat_int_int_0 call hs u (s.sl 7) s.m s.fc) eNil) r_slices_Repeat_int_int = (fun s => L_slices_Repeat_int_int_0 call hs u NN (s.sl 7) (s.sl 8) s.m s.fc) := by
  rw [show c_slices_Repeat_int_int_15 = .loop c_slices_Repeat_int_int_16 from by kernel_rfl, loop_r, q_L_slices_Repeat_int_int_0 call hs u NN]
theorem q_slices_Repeat_int_int_13 (call : FCall) (hs : FHs) (u : Nat) :
  fxK Try.prog pol NN call c_slices_Repeat_int_int_13 (AV × Mem) (k_slices_Repeat_int_int hs u) (fun s => B_slices_Repeat_int_int_0 call hs u (s.sl 7) s.m s.fc) eNil r_slices_Repeat_int_int = (fun s => L_slices_Repeat_int_int_0 call hs u NN (s.sl 7) (s.sl 8) s.m s.fc) := by
  rw [show c_slices_Repeat_int_int_13 = .block 0 c_slices_Repeat_int_int_15 from by kernel_rfl, block_r, q_slices_Repeat_int_int_15 call hs u]
theorem q_slices_Repeat_int_int_12 (call : FCall) (hs : FHs) (u : Nat) :
  fxK Try.prog pol NN call c_slices_Repeat_int_int_12 (AV × Mem) (k_slices_Repeat_int_int hs u) r_slices_Repeat_int_int eNil r_slices_Repeat_int_int = (fun s => L_slices_Repeat_int_int_0 call hs u NN (s.sl 7) (s.sl 8) s.m s.fc) := by
  rw [show c_slices_Repeat_int_int_12 = .seq c_slices_Repeat_int_int_13 c_slices_Repeat_int_int_14 from by kernel_rfl, seq_r, q_slices_Repeat_int_int_14 call hs u, q_slices_Repeat_int_int_13 call hs u]
theorem q_slices_Repeat_int_int_8 (call : FCall) (hs : FHs) (u : Nat) :
  fxK Try.prog pol NN call c_slices_Repeat_int_int_8 (AV × Mem) (k_slices_Repeat_int_int hs u) r_slices_Repeat_int_int eNil r_slices_Repeat_int_int = (fun s => B_slices_Repeat_int_int_2 call hs u (s.sl 0) (s.sl 6) s.m s.fc) := by
  rw [show c_slices_Repeat_int_int_8 = .seq c_slices_Repeat_int_int_9 c_slices_Repeat_int_int_10 from by kernel_rfl, seq_r]; rw [show c_slices_Repeat_int_int_10 = .seq c_slices_Repeat_int_int_11 c_slices_Repeat_int_int_12 from by kernel_rfl, seq_r]; rw [q_slices_Repeat_int_int_12 call hs u]; kernel_rfl
theorem q_slices_Repeat_int_int_7 (call : FCall) (hs : FHs) (u : Nat) :
  fxK Try.prog pol NN call c_slices_Repeat_int_int_7 (AV × Mem) (k_slices_Repeat_int_int hs u) (fun s => B_slices_Repeat_int_int_2 call hs u (s.sl 0) (s.sl 6) s.m s.fc) eNil r_slices_Repeat_int_int = (fun s => B_slices_Repeat_int_int_3 call hs u (s.sl 0) (s.sl 5) (s.sl 6) s.m s.fc) := by
  kernel_rfl
theorem q_slices_Repeat_int_int_6 (call : FCall) (hs : FHs) (u : Nat) :
  fxK Try.prog pol NN call c_slices_Repeat_int_int_6 (AV × Mem) (k_slices_Repeat_int_int hs u) r_slices_Repeat_int_int eNil r_slices_Repeat_int_int = (fun s => B_slices_Repeat_int_int_3 call hs u (s.sl 0) (s.sl 5) (s.sl 6) s.m s.fc) := by
  rw [show c_slices_Repeat_int_int_6 = .seq c_slices_Repeat_int_int_7 c_slices_Repeat_int_int_8 from by kernel_rfl, seq_r, q_slices_Repeat_int_int_8 call hs u, q_slices_Repeat_int_int_7 call hs u]
theorem q_slices_Repeat_int_int_4 (call : FCall) (hs : FHs) (u : Nat) :
  fxK Try.prog pol NN call c_slices_Repeat_int_int_4 (AV × Mem) (k_slices_Repeat_int_int hs u) r_slices_Repeat_int_int eNil r_slices_Repeat_int_int = (fun s => B_slices_Repeat_int_int_4 call hs u (s.sl 0) (s.sl 1) s.m s.fc) := by
  rw [show c_slices_Repeat_int_int_4 = .seq c_slices_Repeat_int_int_5 c_slices_Repeat_int_int_6 from by kernel_rfl, seq_r]; rw [q_slices_Repeat_int_int_6 call hs u]; kernel_rfl
theorem q_slices_Repeat_int_int_3 (call : FCall) (hs : FHs) (u : Nat) :
  fxK Try.prog pol NN call c_slices_Repeat_int_int_3 (AV × Mem) (k_slices_Repeat_int_int hs u) (fun s => B_slices_Repeat_int_int_4 call hs u (s.sl 0) (s.sl 1) s.m s.fc) eNil r_slices_Repeat_int_int = (fun s => B_slices_Repeat_int_int_5 call hs u (s.sl 0) (s.sl 1) s.m s.fc) := by
  kernel_rfl
theorem q_slices_Repeat_int_int_2 (call : FCall) (hs : FHs) (u : Nat) :
  fxK Try.prog pol NN call c_slices_Repeat_int_int_2 (AV × Mem) (k_slices_Repeat_int_int hs u) r_slices_Repeat_int_int eNil r_slices_Repeat_int_int = (fun s => B_slices_Repeat_int_int_5 call hs u (s.sl 0) (s.sl 1) s.m s.fc) := by
  rw [show c_slices_Repeat_int_int_2 = .seq c_slices_Repeat_int_int_3 c_slices_Repeat_int_int_4 from by kernel_rfl, seq_r, q_slices_Repeat_int_int_4 call hs u, q_slices_Repeat_int_int_3 call hs u]
theorem q_slices_Repeat_int_int_0 (call : FCall) (hs : FHs) (u : Nat) :
  fxK Try.prog pol NN call c_slices_Repeat_int_int_0 (AV × Mem) (k_slices_Repeat_int_int hs u) r_slices_Repeat_int_int eNil r_slices_Repeat_int_int = (fun s => B_slices_Repeat_int_int_6 call hs u (s.sl 0) (s.sl 1) s.m s.fc) := by
  rw [show c_slices_Repeat_int_int_0 = .seq c_slices_Repeat_int_int_1 c_slices_Repeat_int_int_2 from by kernel_rfl, seq_r]; rw [q_slices_Repeat_int_int_2 call hs u]; kernel_rfl
theorem F_slices_Repeat_int_int_eq (call : FCall) (hs : FHs) (t0 t1 : AV) (m : Mem) : fxBody Try.prog pol NN call hs n_slices_Repeat_int_int [t0, t1] m = F_slices_Repeat_int_int call hs [t0, t1] m := by
  rw [fxBody_at (fn := Try.f121) (body := c_slices_Repeat_int_int_0) (nt := 48) (rs := [.tmp 4]) (by kernel_rfl) (by kernel_rfl) (by kernel_rfl) (by kernel_rfl) (by kernel_rfl) (by kernel_rfl)]
  exact (congrFun (q_slices_Repeat_int_int_0 call hs m.next) _).trans (by kernel_rfl)
theorem F_slices_Repeat_int_int_le (call : FCall) (hs : FHs) (args : List AV) (m : Mem) (r : AV × Mem) (h : F_slices_Repeat_int_int call hs args m = some r) : fxBody Try.prog pol NN call hs n_slices_Repeat_int_int args m = some r := by
  unfold F_slices_Repeat_int_int at h
  split at h
  · rw [F_slices_Repeat_int_int_eq]; exact h
  · cases h

/- swath/unwrap.numbered$1 -/
abbrev k_unwrap_numbered_1 (hs : FHs) (u : Nat) : FCtx := { f := n_unwrap_numbered_1, u := u, nt := 18, hs := hs }
noncomputable abbrev r_unwrap_numbered_1 : Fs → Option (AV × Mem) := fxRes Try.prog []
noncomputable def c_unwrap_numbered_1_0 : Code := nav (bodyOf n_unwrap_numbered_1) []
theorem q_unwrap_numbered_1_0 (call : FCall) (hs : FHs) (u : Nat) :
  fxK Try.prog pol NN call c_unwrap_numbered_1_0 (AV × Mem) (k_unwrap_numbered_1 hs u) r_unwrap_numbered_1 eNil r_unwrap_numbered_1 = (fun s => B_unwrap_numbered_1_0 call hs u (s.sl 0) (s.sl 1) (s.sl 2) (s.sl 3) s.m s.fc) := by
  kernel_rfl
theorem F_unwrap_numbered_1_eq (call : FCall) (hs : FHs) (t0 t1 t2 t3 : AV) (m : Mem) : fxBody Try.prog pol NN call hs n_unwrap_numbered_1 [t0, t1, t2, t3] m = F_unwrap_numbered_1 call hs [t0, t1, t2, t3] m := by
  rw [fxBody_at (fn := Try.f122) (body := c_unwrap_numbered_1_0) (nt := 18) (rs := []) (by kernel_rfl) (by kernel_rfl) (by kernel_rfl) (by kernel_rfl) (by kernel_rfl) (by kernel_rfl)]
  exact (congrFun (q_unwrap_numbered_1_0 call hs m.next) _).trans (by kernel_rfl)
theorem F_unwrap_numbered_1_le (call : FCall) (hs : FHs) (args : List AV) (m : Mem) (r : AV × Mem) (h : F_unwrap_numbered_1 call hs args m = some r) : fxBody Try.prog pol NN call hs n_unwrap_numbered_1 args m = some r := by
  unfold F_unwrap_numbered_1 at h
  split at h
  · rw [F_unwrap_numbered_1_eq]; exact h
  · cases h

/- (*swath/unwrap.solver).arcs -/
abbrev k_unwrap_solver_arcs (hs : FHs) (u : Nat) : FCtx := { f := n_unwrap_solver_arcs, u := u, nt := 6, hs := hs }
noncomputable abbrev r_unwrap_solver_arcs : Fs → Option (AV × Mem) := fxRes Try.prog [.tmp 4]
noncomputable def c_unwrap_solver_arcs_0 : Code := nav (bodyOf n_unwrap_solver_arcs) []
theorem q_unwrap_solver_arcs_0 (call : FCall) (hs : FHs) (u : Nat) :
  fxK Try.prog pol NN call c_unwrap_solver_arcs_0 (AV × Mem) (k_unwrap_solver_arcs hs u) r_unwrap_solver_arcs eNil r_unwrap_solver_arcs = (fun s => B_unwrap_solver_arcs_0 call hs u (s.sl 0) (s.sl 1) s.m s.fc) := by
  kernel_rfl
theorem F_unwrap_solver_arcs_eq (call : FCall) (hs : FHs) (t0 t1 : AV) (m : Mem) : fxBody Try.prog pol NN call hs n_unwrap_solver_arcs [t0, t1] m = F_unwrap_solver_arcs call hs [t0, t1] m := by
  rw [fxBody_at (fn := Try.f123) (body := c_unwrap_solver_arcs_0) (nt := 6) (rs := [.tmp 4]) (by kernel_rfl) (by kernel_rfl) (by kernel_rfl) (by kernel_rfl) (by kernel_rfl) (by kernel_rfl)]
  exact (congrFun (q_unwrap_solver_arcs_0 call hs m.next) _).trans (by kernel_rfl)
theorem F_unwrap_solver_arcs_le (call : FCall) (hs : FHs) (args : List AV) (m : Mem) (r : AV × Mem) (h : F_unwrap_solver_arcs call hs args m = some r) : fxBody Try.prog pol NN call hs n_unwrap_solver_arcs args m = some r := by
  unfold F_unwrap_solver_arcs at h
  split at h
  · rw [F_unwrap_solver_arcs_eq]; exact h
  · cases h

/- math/bits.Mul -/
abbrev k_math_bits_Mul (hs : FHs) (u : Nat) : FCtx := { f := n_math_bits_Mul, u := u, nt := 30, hs := hs }
noncomputable abbrev r_math_bits_Mul : Fs → Option (AV × Mem) := fxRes Try.prog [.tmp 4, .tmp 5]
noncomputable def c_math_bits_Mul_0 : Code := nav (bodyOf n_math_bits_Mul) []
theorem q_math_bits_Mul_0 (call : FCall) (hs : FHs) (u : Nat) :
  fxK Try.prog pol NN call c_math_bits_Mul_0 (AV × Mem) (k_math_bits_Mul hs u) r_math_bits_Mul eNil r_math_bits_Mul = (fun s => B_math_bits_Mul_0 call hs u (s.sl 0) (s.sl 1) s.m s.fc) := by
  kernel_rfl
theorem F_math_bits_Mul_eq (call : FCall) (hs : FHs) (t0 t1 : AV) (m : Mem) : fxBody Try.prog pol NN call hs n_math_bits_Mul [t0, t1] m = F_math_bits_Mul call hs [t0, t1] m := by
  rw [fxBody_at (fn := Try.f125) (body := c_math_bits_Mul_0) (nt := 30) (rs := [.tmp 4, .tmp 5]) (by kernel_rfl) (by kernel_rfl) (by kernel_rfl) (by kernel_rfl) (by kernel_rfl) (by kernel_rfl)]
  exact (congrFun (q_math_bits_Mul_0 call hs m.next) _).trans (by kernel_rfl)
theorem F_math_bits_Mul_le (call : FCall) (hs : FHs) (args : List AV) (m : Mem) (r : AV × Mem) (h : F_math_bits_Mul call hs args m = some r) : fxBody Try.prog pol NN call hs n_math_bits_Mul args m = some r := by
  unfold F_math_bits_Mul at h
  split at h
  · rw [F_math_bits_Mul_eq]; exact h
  · cases h

/- (*swath/unwrap.solver).arcs$1 -/
abbrev k_unwrap_solver_arcs_1 (hs : FHs) (u : Nat) : FCtx := { f := n_unwrap_solver_arcs_1, u := u, nt := 76, hs := hs }
noncomputable abbrev r_unwrap_solver_arcs_1 : Fs → Option (AV × Mem) := fxRes Try.prog []
noncomputable def c_unwrap_solver_arcs_1_0 : Code := nav (bodyOf n_unwrap_solver_arcs_1) []
noncomputable def c_unwrap_solver_arcs_1_1 : Code := nav (bodyOf n_unwrap_solver_arcs_1) [false]
noncomputable def c_unwrap_solver_arcs_1_2 : Code := nav (bodyOf n_unwrap_solver_arcs_1) [true]
noncomputable def c_unwrap_solver_arcs_1_3 : Code := nav (bodyOf n_unwrap_solver_arcs_1) [true, false]
noncomputable def c_unwrap_solver_arcs_1_4 : Code := nav (bodyOf n_unwrap_solver_arcs_1) [true, false, false]
noncomputable def c_unwrap_solver_arcs_1_5 : Code := nav (bodyOf n_unwrap_solver_arcs_1) [true, false, false, false]
noncomputable def c_unwrap_solver_arcs_1_6 : Code := nav (bodyOf n_unwrap_solver_arcs_1) [true, false, false, true]
noncomputable def c_unwrap_solver_arcs_1_7 : Code := nav (bodyOf n_unwrap_solver_arcs_1) [true, false, false, true, false]
noncomputable def c_unwrap_solver_arcs_1_8 : Code := nav (bodyOf n_unwrap_solver_arcs_1) [true, false, false, true, true]
noncomputable def c_unwrap_solver_arcs_1_9 : Code := nav (bodyOf n_unwrap_solver_arcs_1) [true, false, false, true, true, false]
noncomputable def c_unwrap_solver_arcs_1_10 : Code := nav (bodyOf n_unwrap_solver_arcs_1) [true, false, false, true, true, true]
noncomputable def c_unwrap_solver_arcs_1_11 : Code := nav (bodyOf n_unwrap_solver_arcs_1) [true, false, false, true, true, false, false]
noncomputable def c_unwrap_solver_arcs_1_12 : Code := nav (bodyOf n_unwrap_solver_arcs_1) [true, false, false, true, true, false, false, false]
noncomputable def c_unwrap_solver_arcs_1_13 : Code := nav (bodyOf n_unwrap_solver_arcs_1) [true, false, false, true, true, false, false, true]
noncomputable def c_unwrap_solver_arcs_1_14 : Code := nav (bodyOf n_unwrap_solver_arcs_1) [true, false, false, true, true, false, false, true, false]
noncomputable def c_unwrap_solver_arcs_1_15 : Code := nav (bodyOf n_unwrap_solver_arcs_1) [true, false, false, true, true, false, false, true, true]
noncomputable def c_unwrap_solver_arcs_1_16 : Code := nav (bodyOf n_unwrap_solver_arcs_1) [true, false, false, true, true, false, false, true, true, false]
noncomputable def c_unwrap_solver_arcs_1_17 : Code := nav (bodyOf n_unwrap_solver_arcs_1) [true, false, false, true, true, false, false, true, true, true]
noncomputable def c_unwrap_solver_arcs_1_18 : Code := nav (bodyOf n_unwrap_solver_arcs_1) [true, false, false, true, true, false, false, true, true, true, false]
noncomputable def c_unwrap_solver_arcs_1_19 : Code := nav (bodyOf n_unwrap_solver_arcs_1) [true, false, false, true, true, false, false, true, true, true, true]
theorem q_unwrap_solver_arcs_1_10 (call : FCall) (hs : FHs) (u : Nat) (rec0 : AV → AV → AV → AV → AV → AV → Mem → Nat → Option (AV × Mem)) :
  fxK Try.prog pol NN call c_unwrap_solver_arcs_1_10 (AV × Mem) (k_unwrap_solver_arcs_1 hs u) (fun s => rec0 (s.sl 0) (s.sl 1) (s.sl 2) (s.sl 14) (s.sl 15) (s.sl 16) s.m s.fc) (setE 0 r_unwrap_solver_arcs_1 eNil) r_unwrap_solver_arcs_1 = (fun s => B_unwrap_solver_arcs_1_0 call hs u rec0 (s.sl 0) (s.sl 1) (s.sl 2) (s.sl 14) (s.sl 15) (s.sl 16) s.m s.fc) := by
  kernel_rfl
theorem q_unwrap_solver_arcs_1_19 (call : FCall) (hs : FHs) (u : Nat) (rec0 : AV → AV → AV → AV → AV → AV → Mem → Nat → Option (AV × Mem)) :
  fxK Try.prog pol NN call c_unwrap_solver_arcs_1_19 (AV × Mem) (k_unwrap_solver_arcs_1 hs u) (fun s => B_unwrap_solver_arcs_1_0 call hs u rec0 (s.sl 0) (s.sl 1) (s.sl 2) (s.sl 14) (s.sl 15) (s.sl 16) s.m s.fc) (setE 1 (fun s => B_unwrap_solver_arcs_1_0 call hs u rec0 (s.sl 0) (s.sl 1) (s.sl 2) (s.sl 14) (s.sl 15) (s.sl 16) s.m s.fc) (setE 0 r_unwrap_solver_arcs_1 eNil)) r_unwrap_solver_arcs_1 = (fun s => B_unwrap_solver_arcs_1_1 call hs u rec0 (s.sl 0) (s.sl 1) (s.sl 2) (s.sl 7) (s.sl 14) (s.sl 15) (s.sl 16) s.m s.fc) := by
  kernel_rfl
theorem q_unwrap_solver_arcs_1_18 (call : FCall) (hs : FHs) (u : Nat) (rec0 : AV → AV → AV → AV → AV → AV → Mem → Nat → Option (AV × Mem)) :
  fxK Try.prog pol NN call c_unwrap_solver_arcs_1_18 (AV × Mem) (k_unwrap_solver_arcs_1 hs u) (fun s => B_unwrap_solver_arcs_1_1 call hs u rec0 (s.sl 0) (s.sl 1) (s.sl 2) (s.sl 7) (s.sl 14) (s.sl 15) (s.sl 16) s.m s.fc) (setE 1 (fun s => B_unwrap_solver_arcs_1_0 call hs u rec0 (s.sl 0) (s.sl 1) (s.sl 2) (s.sl 14) (s.sl 15) (s.sl 16) s.m s.fc) (setE 0 r_unwrap_solver_arcs_1 eNil)) r_unwrap_solver_arcs_1 = (fun s => B_unwrap_solver_arcs_1_2 call hs u rec0 (s.sl 0) (s.sl 1) (s.sl 2) (s.sl 5) (s.sl 6) (s.sl 7) (s.sl 14) (s.sl 15) (s.sl 16) s.m s.fc) := by
  kernel_rfl
theorem q_unwrap_solver_arcs_1_17 (call : FCall) (hs : FHs) (u : Nat) (rec0 : AV → AV → AV → AV → AV → AV → Mem → Nat → Option (AV × Mem)) :
  fxK Try.prog pol NN call c_unwrap_solver_arcs_1_17 (AV × Mem) (k_unwrap_solver_arcs_1 hs u) (fun s => B_unwrap_solver_arcs_1_0 call hs u rec0 (s.sl 0) (s.sl 1) (s.sl 2) (s.sl 14) (s.sl 15) (s.sl 16) s.m s.fc) (setE 1 (fun s => B_unwrap_solver_arcs_1_0 call hs u rec0 (s.sl 0) (s.sl 1) (s.sl 2) (s.sl 14) (s.sl 15) (s.sl 16) s.m s.fc) (setE 0 r_unwrap_solver_arcs_1 eNil)) r_unwrap_solver_arcs_1 = (fun s => B_unwrap_solver_arcs_1_2 call hs u rec0 (s.sl 0) (s.sl 1) (s.sl 2) (s.sl 5) (s.sl 6) (s.sl 7) (s.sl 14) (s.sl 15) (s.sl 16) s.m s.fc) := by
  rw [show c_unwrap_solver_arcs_1_17 = .seq c_unwrap_solver_arcs_1_18 c_unwrap_solver_arcs_1_19 from by kernel_rfl, seq_r, q_unwrap_solver_arcs_1_19 call hs u rec0, q_unwrap_solver_arcs_1_18 call hs u rec0]
theorem q_unwrap_solver_arcs_1_11 (call : FCall) (hs : FHs) (u : Nat) (rec0 : AV → AV → AV → AV → AV → AV → Mem → Nat → Option (AV × Mem)) :
  fxK Try.prog pol NN call c_unwrap_solver_arcs_1_11 (AV × Mem) (k_unwrap_solver_arcs_1 hs u) (fun s => B_unwrap_solver_arcs_1_0 call hs u rec0 (s.sl 0) (s.sl 1) (s.sl 2) (s.sl 14) (s.sl 15) (s.sl 16) s.m s.fc) (setE 1 (fun s => B_unwrap_solver_arcs_1_0 call hs u rec0 (s.sl 0) (s.sl 1) (s.sl 2) (s.sl 14) (s.sl 15) (s.sl 16) s.m s.fc) (setE 0 r_unwrap_solver_arcs_1 eNil)) r_unwrap_solver_arcs_1 = (fun s => B_unwrap_solver_arcs_1_3 call hs u rec0 (s.sl 0) (s.sl 1) (s.sl 2) (s.sl 14) (s.sl 15) (s.sl 16) s.m s.fc) := by
  rw [show c_unwrap_solver_arcs_1_11 = .seq c_unwrap_solver_arcs_1_12 c_unwrap_solver_arcs_1_13 from by kernel_rfl, seq_r]; rw [show c_unwrap_solver_arcs_1_13 = .seq c_unwrap_solver_arcs_1_14 c_unwrap_solver_arcs_1_15 from by kernel_rfl, seq_r]; rw [show c_unwrap_solver_arcs_1_15 = .seq c_unwrap_solver_arcs_1_16 c_unwrap_solver_arcs_1_17 from by kernel_rfl, seq_r]; rw [q_unwrap_solver_arcs_1_17 call hs u rec0]; kernel_rfl
theorem q_unwrap_solver_arcs_1_9 (call : FCall) (hs : FHs) (u : Nat) (rec0 : AV → AV → AV → AV → AV → AV → Mem → Nat → Option (AV × Mem)) :
  fxK Try.prog pol NN call c_unwrap_solver_arcs_1_9 (AV × Mem) (k_unwrap_solver_arcs_1 hs u) (fun s => B_unwrap_solver_arcs_1_0 call hs u rec0 (s.sl 0) (s.sl 1) (s.sl 2) (s.sl 14) (s.sl 15) (s.sl 16) s.m s.fc) (setE 0 r_unwrap_solver_arcs_1 eNil) r_unwrap_solver_arcs_1 = (fun s => B_unwrap_solver_arcs_1_3 call hs u rec0 (s.sl 0) (s.sl 1) (s.sl 2) (s.sl 14) (s.sl 15) (s.sl 16) s.m s.fc) := by
  rw [show c_unwrap_solver_arcs_1_9 = .block 1 c_unwrap_solver_arcs_1_11 from by kernel_rfl, block_r, q_unwrap_solver_arcs_1_11 call hs u rec0]
theorem q_unwrap_solver_arcs_1_8 (call : FCall) (hs : FHs) (u : Nat) (rec0 : AV → AV → AV → AV → AV → AV → Mem → Nat → Option (AV × Mem)) :
  fxK Try.prog pol NN call c_unwrap_solver_arcs_1_8 (AV × Mem) (k_unwrap_solver_arcs_1 hs u) (fun s => rec0 (s.sl 0) (s.sl 1) (s.sl 2) (s.sl 14) (s.sl 15) (s.sl 16) s.m s.fc) (setE 0 r_unwrap_solver_arcs_1 eNil) r_unwrap_solver_arcs_1 = (fun s => B_unwrap_solver_arcs_1_3 call hs u rec0 (s.sl 0) (s.sl 1) (s.sl 2) (s.sl 14) (s.sl 15) (s.sl 16) s.m s.fc) := by
  rw [show c_unwrap_solver_arcs_1_8 = .seq c_unwrap_solver_arcs_1_9 c_unwrap_solver_arcs_1_10 from by kernel_rfl, seq_r, q_unwrap_solver_arcs_1_10 call hs u rec0, q_unwrap_solver_arcs_1_9 call hs u rec0]
theorem q_unwrap_solver_arcs_1_4 (call : FCall) (hs : FHs) (u : Nat) (rec0 : AV → AV → AV → AV → AV → AV → Mem → Nat → Option (AV × Mem)) :
  fxK Try.prog pol NN call c_unwrap_solver_arcs_1_4 (AV × Mem) (k_unwrap_solver_arcs_1 hs u) (fun s => rec0 (s.sl 0) (s.sl 1) (s.sl 2) (s.sl 14) (s.sl 15) (s.sl 16) s.m s.fc) (setE 0 r_unwrap_solver_arcs_1 eNil) r_unwrap_solver_arcs_1 = (fun s => B_unwrap_solver_arcs_1_4 call hs u rec0 (s.sl 0) (s.sl 1) (s.sl 2) (s.sl 14) (s.sl 15) (s.sl 16) s.m s.fc) := by
  rw [show c_unwrap_solver_arcs_1_4 = .seq c_unwrap_solver_arcs_1_5 c_unwrap_solver_arcs_1_6 from by kernel_rfl, seq_r]; rw [show c_unwrap_solver_arcs_1_6 = .seq c_unwrap_solver_arcs_1_7 c_unwrap_solver_arcs_1_8 from by kernel_rfl, seq_r]; rw [q_unwrap_solver_arcs_1_8 call hs u rec0]; kernel_rfl
theorem q_L_unwrap_solver_arcs_1_0 (call : FCall) (hs : FHs) (u : Nat) : ∀ n : Nat,
  iter (fun rec => fxK Try.prog pol NN call c_unwrap_solver_arcs_1_4 (AV × Mem) (k_unwrap_solver_arcs_1 hs u) rec (setE 0 r_unwrap_solver_arcs_1 eNil) r_unwrap_solver_arcs_1) n = (fun s => L_unwrap_solver_arcs_1_0 call hs u n (s.sl 0) (s.sl 1) (s.sl 2) (s.sl 14) (s.sl 15) (s.sl 16) s.m s.fc)
  | 0 => rfl
  | n + 1 => by rw [iter_succ, q_L_unwrap_solver_arcs_1_0 call hs u n, q_unwrap_solver_arcs_1_4 call hs u (L_unwrap_solver_arcs_1_0 call hs u n)]; kernel_rfl
theorem q_unwrap_solver_arcs_1_3 (call : FCall) (hs : FHs) (u : Nat) :
  fxK Try.prog pol NN call c_unwrap_solver_arcs_1_3 (AV × Mem) (k_unwrap_solver_arcs_1 hs u) r_unwrap_solver_arcs_1 (setE 0 r_unwrap_solver_arcs_1 eNil) r_unwrap_solver_arcs_1 = (fun s => L_unwrap_solver_arcs_1_0 call hs u NN (s.sl 0) (s.sl 1) (s.sl 2) (s.sl 14) (s.sl 15) (s.sl 16) s.m s.fc) := by
  rw [show c_unwrap_solver_arcs_1_3 = .loop c_unwrap_solver_arcs_1_4 from by kernel_rfl, loop_r, q_L_unwrap_solver_arcs_1_0 call hs u NN]
theorem q_unwrap_solver_arcs_1_2 (call : FCall) (hs : FHs) (u : Nat) :
  fxK Try.prog pol NN call c_unwrap_solver_arcs_1_2 (AV × Mem) (k_unwrap_solver_arcs_1 hs u) r_unwrap_solver_arcs_1 eNil r_unwrap_solver_arcs_1 = (fun s => L_unwrap_solver_arcs_1_0 call hs u NN (s.sl 0) (s.sl 1) (s.sl 2) (s.sl 14) (s.sl 15) (s.sl 16) s.m s.fc) := by
  rw [show c_unwrap_solver_arcs_1_2 = .block 0 c_unwrap_solver_arcs_1_3 from by kernel_rfl, block_r, q_unwrap_solver_arcs_1_3 call hs u]
theorem q_unwrap_solver_arcs_1_0 (call : FCall) (hs : FHs) (u : Nat) :
  fxK Try.prog pol NN call c_unwrap_solver_arcs_1_0 (AV × Mem) (k_unwrap_solver_arcs_1 hs u) r_unwrap_solver_arcs_1 eNil r_unwrap_solver_arcs_1 = (fun s => B_unwrap_solver_arcs_1_5 call hs u (s.sl 0) (s.sl 1) (s.sl 2) s.m s.fc) := by
  rw [show c_unwrap_solver_arcs_1_0 = .seq c_unwrap_solver_arcs_1_1 c_unwrap_solver_arcs_1_2 from by kernel_rfl, seq_r]; rw [q_unwrap_solver_arcs_1_2 call hs u]; kernel_rfl
theorem F_unwrap_solver_arcs_1_eq (call : FCall) (hs : FHs) (t0 t1 t2 : AV) (m : Mem) : fxBody Try.prog pol NN call hs n_unwrap_solver_arcs_1 [t0, t1, t2] m = F_unwrap_solver_arcs_1 call hs [t0, t1, t2] m := by
  rw [fxBody_at (fn := Try.f126) (body := c_unwrap_solver_arcs_1_0) (nt := 76) (rs := []) (by kernel_rfl) (by kernel_rfl) (by kernel_rfl) (by kernel_rfl) (by kernel_rfl) (by kernel_rfl)]
  exact (congrFun (q_unwrap_solver_arcs_1_0 call hs m.next) _).trans (by kernel_rfl)
theorem F_unwrap_solver_arcs_1_le (call : FCall) (hs : FHs) (args : List AV) (m : Mem) (r : AV × Mem) (h : F_unwrap_solver_arcs_1 call hs args m = some r) : fxBody Try.prog pol NN call hs n_unwrap_solver_arcs_1 args m = some r := by
  unfold F_unwrap_solver_arcs_1 at h
  split at h
  · rw [F_unwrap_solver_arcs_1_eq]; exact h
  · cases h

/- math/bits.Mul32 -/
abbrev k_math_bits_Mul32 (hs : FHs) (u : Nat) : FCtx := { f := n_math_bits_Mul32, u := u, nt := 17, hs := hs }
noncomputable abbrev r_math_bits_Mul32 : Fs → Option (AV × Mem) := fxRes Try.prog [.tmp 4, .tmp 5]
noncomputable def c_math_bits_Mul32_0 : Code := nav (bodyOf n_math_bits_Mul32) []
theorem q_math_bits_Mul32_0 (call : FCall) (hs : FHs) (u : Nat) :
  fxK Try.prog pol NN call c_math_bits_Mul32_0 (AV × Mem) (k_math_bits_Mul32 hs u) r_math_bits_Mul32 eNil r_math_bits_Mul32 = (fun s => B_math_bits_Mul32_0 call hs u (s.sl 0) (s.sl 1) s.m s.fc) := by
  kernel_rfl
theorem F_math_bits_Mul32_eq (call : FCall) (hs : FHs) (t0 t1 : AV) (m : Mem) : fxBody Try.prog pol NN call hs n_math_bits_Mul32 [t0, t1] m = F_math_bits_Mul32 call hs [t0, t1] m := by
  rw [fxBody_at (fn := Try.f127) (body := c_math_bits_Mul32_0) (nt := 17) (rs := [.tmp 4, .tmp 5]) (by kernel_rfl) (by kernel_rfl) (by kernel_rfl) (by kernel_rfl) (by kernel_rfl) (by kernel_rfl)]
  exact (congrFun (q_math_bits_Mul32_0 call hs m.next) _).trans (by kernel_rfl)
theorem F_math_bits_Mul32_le (call : FCall) (hs : FHs) (args : List AV) (m : Mem) (r : AV × Mem) (h : F_math_bits_Mul32 call hs args m = some r) : fxBody Try.prog pol NN call hs n_math_bits_Mul32 args m = some r := by
  unfold F_math_bits_Mul32 at h
  split at h
  · rw [F_math_bits_Mul32_eq]; exact h
  · cases h

/- math/bits.Mul64 -/
abbrev k_math_bits_Mul64 (hs : FHs) (u : Nat) : FCtx := { f := n_math_bits_Mul64, u := u, nt := 51, hs := hs }
noncomputable abbrev r_math_bits_Mul64 : Fs → Option (AV × Mem) := fxRes Try.prog [.tmp 4, .tmp 5]
noncomputable def c_math_bits_Mul64_0 : Code := nav (bodyOf n_math_bits_Mul64) []
theorem q_math_bits_Mul64_0 (call : FCall) (hs : FHs) (u : Nat) :
  fxK Try.prog pol NN call c_math_bits_Mul64_0 (AV × Mem) (k_math_bits_Mul64 hs u) r_math_bits_Mul64 eNil r_math_bits_Mul64 = (fun s => B_math_bits_Mul64_0 call hs u (s.sl 0) (s.sl 1) s.m s.fc) := by
  kernel_rfl
theorem F_math_bits_Mul64_eq (call : FCall) (hs : FHs) (t0 t1 : AV) (m : Mem) : fxBody Try.prog pol NN call hs n_math_bits_Mul64 [t0, t1] m = F_math_bits_Mul64 call hs [t0, t1] m := by
  rw [fxBody_at (fn := Try.f128) (body := c_math_bits_Mul64_0) (nt := 51) (rs := [.tmp 4, .tmp 5]) (by kernel_rfl) (by kernel_rfl) (by kernel_rfl) (by kernel_rfl) (by kernel_rfl) (by kernel_rfl)]
  exact (congrFun (q_math_bits_Mul64_0 call hs m.next) _).trans (by kernel_rfl)
theorem F_math_bits_Mul64_le (call : FCall) (hs : FHs) (args : List AV) (m : Mem) (r : AV × Mem) (h : F_math_bits_Mul64 call hs args m = some r) : fxBody Try.prog pol NN call hs n_math_bits_Mul64 args m = some r := by
  unfold F_math_bits_Mul64 at h
  split at h
  · rw [F_math_bits_Mul64_eq]; exact h
  · cases h

end Go.Ix
