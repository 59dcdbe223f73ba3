import Derived.Test.YtljibmnhhdiakaaFxText0
import Derived.Test.YtljibmnhhdiakaaFxRules
import Derived.ProofKit
set_option linter.unusedVariables false
namespace Go.Ix
open Go.Proofs

abbrev xl (hs : FHs) (u : Nat) : FCtx := { f := x6, u := u, nt := 160, hs := hs }
noncomputable abbrev xa : Fs → Option (AV × Mem) := fxRes Try.prog []
noncomputable def xd6 : Code := nav (bodyOf x6) []
noncomputable def xvb : Code := nav (bodyOf x6) [false]
noncomputable def xl1 : Code := nav (bodyOf x6) [true]
noncomputable def xvc : Code := nav (bodyOf x6) [true, false]
noncomputable def xd7 : Code := nav (bodyOf x6) [true, true]
noncomputable def xd8 : Code := nav (bodyOf x6) [true, true, false]
noncomputable def xd9 : Code := nav (bodyOf x6) [true, true, true]
noncomputable def xvd : Code := nav (bodyOf x6) [true, true, true, false]
noncomputable def xda : Code := nav (bodyOf x6) [true, true, true, true]
noncomputable def xdb : Code := nav (bodyOf x6) [true, true, true, true, false]
noncomputable def xdc : Code := nav (bodyOf x6) [true, true, true, true, true]
noncomputable def xdd : Code := nav (bodyOf x6) [true, true, true, true, true, false]
noncomputable def xde : Code := nav (bodyOf x6) [true, true, true, true, true, true]
noncomputable def xve : Code := nav (bodyOf x6) [true, true, true, true, true, true, false]
noncomputable def xl2 : Code := nav (bodyOf x6) [true, true, true, true, true, true, true]
noncomputable def xvf : Code := nav (bodyOf x6) [true, true, true, true, true, true, true, false]
noncomputable def xl3 : Code := nav (bodyOf x6) [true, true, true, true, true, true, true, true]
noncomputable def xvg : Code := nav (bodyOf x6) [true, true, true, true, true, true, true, true, false]
noncomputable def xdf : Code := nav (bodyOf x6) [true, true, true, true, true, true, true, true, true]
noncomputable def xdg : Code := nav (bodyOf x6) [true, true, true, true, true, true, true, true, true, false]
noncomputable def xdh : Code := nav (bodyOf x6) [true, true, true, true, true, true, true, true, true, false, false]
noncomputable def xvh : Code := nav (bodyOf x6) [true, true, true, true, true, false, false]
noncomputable def xdi : Code := nav (bodyOf x6) [true, true, true, true, true, false, true]
noncomputable def xdj : Code := nav (bodyOf x6) [true, true, true, true, true, false, true, false]
noncomputable def xdk : Code := nav (bodyOf x6) [true, true, true, true, true, false, true, false, false]
noncomputable def xvi : Code := nav (bodyOf x6) [true, true, true, true, false, false]
noncomputable def xdl : Code := nav (bodyOf x6) [true, true, true, true, false, true]
noncomputable def xdm : Code := nav (bodyOf x6) [true, true, true, true, false, true, false]
noncomputable def xdn : Code := nav (bodyOf x6) [true, true, true, true, false, true, false, false]
noncomputable def xvj : Code := nav (bodyOf x6) [true, true, false, false]
noncomputable def xdo : Code := nav (bodyOf x6) [true, true, false, true]
noncomputable def xdp : Code := nav (bodyOf x6) [true, true, false, true, false]
noncomputable def xb1 : Code := nav (bodyOf x6) [true, true, false, true, false, false]
noncomputable def xvk : Code := nav (bodyOf x6) [true, true, false, true, false, false, false]
noncomputable def xl4 : Code := nav (bodyOf x6) [true, true, false, true, false, false, true]
noncomputable def xvl : Code := nav (bodyOf x6) [true, true, false, true, false, false, true, false]
noncomputable def xdq : Code := nav (bodyOf x6) [true, true, false, true, false, false, true, true]
noncomputable def xl5 : Code := nav (bodyOf x6) [true, true, false, true, false, false, true, true, false]
noncomputable def xl6 : Code := nav (bodyOf x6) [true, true, false, true, false, false, true, true, true]
theorem xvm (call : FCall) (hs : FHs) (u : Nat) (rec0 : AV → AV → AV → AV → AV → AV → Mem → Nat → Option (AV × Mem)) :
  fxK Try.prog pol NN call xdh (AV × Mem) (xl hs u) (fun s => rec0 (s.sl 0) (s.sl 4) (s.sl 5) (s.sl 136) (s.sl 137) (s.sl 138) s.m s.fc) (setE 6 xa eNil) xa = (fun s => xag call hs u rec0 (s.sl 0) (s.sl 4) (s.sl 5) (s.sl 136) (s.sl 137) (s.sl 138) s.m s.fc) := by
  kernel_rfl
theorem xl7 (call : FCall) (hs : FHs) (u : Nat) : ∀ n : Nat,
  iter (fun rec => fxK Try.prog pol NN call xdh (AV × Mem) (xl hs u) rec (setE 6 xa eNil) xa) n = (fun s => x4j call hs u n (s.sl 0) (s.sl 4) (s.sl 5) (s.sl 136) (s.sl 137) (s.sl 138) s.m s.fc)
  | 0 => rfl
  | n + 1 => by rw [iter_succ, xl7 call hs u n, xvm call hs u (x4j call hs u n)]; kernel_rfl
theorem xvn (call : FCall) (hs : FHs) (u : Nat) :
  fxK Try.prog pol NN call xdg (AV × Mem) (xl hs u) xa (setE 6 xa eNil) xa = (fun s => x4j call hs u NN (s.sl 0) (s.sl 4) (s.sl 5) (s.sl 136) (s.sl 137) (s.sl 138) s.m s.fc) := by
  rw [show xdg = .loop xdh from by kernel_rfl, loop_r, xl7 call hs u NN]
theorem xvo (call : FCall) (hs : FHs) (u : Nat) :
  fxK Try.prog pol NN call xdf (AV × Mem) (xl hs u) xa eNil xa = (fun s => x4j call hs u NN (s.sl 0) (s.sl 4) (s.sl 5) (s.sl 136) (s.sl 137) (s.sl 138) s.m s.fc) := by
  rw [show xdf = .block 6 xdg from by kernel_rfl, block_r, xvn call hs u]
theorem xvp (call : FCall) (hs : FHs) (u : Nat) :
  fxK Try.prog pol NN call xde (AV × Mem) (xl hs u) xa eNil xa = (fun s => x3r call hs u (s.sl 0) (s.sl 1) (s.sl 4) (s.sl 5) (s.sl 8) s.m s.fc) := by
  rw [show xde = .seq xve xl2 from by kernel_rfl, seq_r]; rw [show xl2 = .seq xvf xl3 from by kernel_rfl, seq_r]; rw [show xl3 = .seq xvg xdf from by kernel_rfl, seq_r]; rw [xvo call hs u]; kernel_rfl
theorem xvq (call : FCall) (hs : FHs) (u : Nat) (rec1 : AV → AV → AV → AV → AV → AV → Mem → Nat → Option (AV × Mem)) :
  fxK Try.prog pol NN call xdk (AV × Mem) (xl hs u) (fun s => rec1 (s.sl 0) (s.sl 1) (s.sl 4) (s.sl 5) (s.sl 8) (s.sl 10) s.m s.fc) (setE 4 (fun s => x3r call hs u (s.sl 0) (s.sl 1) (s.sl 4) (s.sl 5) (s.sl 8) s.m s.fc) eNil) xa = (fun s => xah call hs u rec1 (s.sl 0) (s.sl 1) (s.sl 4) (s.sl 5) (s.sl 8) (s.sl 10) s.m s.fc) := by
  kernel_rfl
theorem xl8 (call : FCall) (hs : FHs) (u : Nat) : ∀ n : Nat,
  iter (fun rec => fxK Try.prog pol NN call xdk (AV × Mem) (xl hs u) rec (setE 4 (fun s => x3r call hs u (s.sl 0) (s.sl 1) (s.sl 4) (s.sl 5) (s.sl 8) s.m s.fc) eNil) xa) n = (fun s => x4k call hs u n (s.sl 0) (s.sl 1) (s.sl 4) (s.sl 5) (s.sl 8) (s.sl 10) s.m s.fc)
  | 0 => rfl
  | n + 1 => by rw [iter_succ, xl8 call hs u n, xvq call hs u (x4k call hs u n)]; kernel_rfl
theorem xvr (call : FCall) (hs : FHs) (u : Nat) :
  fxK Try.prog pol NN call xdj (AV × Mem) (xl hs u) (fun s => x3r call hs u (s.sl 0) (s.sl 1) (s.sl 4) (s.sl 5) (s.sl 8) s.m s.fc) (setE 4 (fun s => x3r call hs u (s.sl 0) (s.sl 1) (s.sl 4) (s.sl 5) (s.sl 8) s.m s.fc) eNil) xa = (fun s => x4k call hs u NN (s.sl 0) (s.sl 1) (s.sl 4) (s.sl 5) (s.sl 8) (s.sl 10) s.m s.fc) := by
  rw [show xdj = .loop xdk from by kernel_rfl, loop_r, xl8 call hs u NN]
theorem xvs (call : FCall) (hs : FHs) (u : Nat) :
  fxK Try.prog pol NN call xdi (AV × Mem) (xl hs u) (fun s => x3r call hs u (s.sl 0) (s.sl 1) (s.sl 4) (s.sl 5) (s.sl 8) s.m s.fc) eNil xa = (fun s => x4k call hs u NN (s.sl 0) (s.sl 1) (s.sl 4) (s.sl 5) (s.sl 8) (s.sl 10) s.m s.fc) := by
  rw [show xdi = .block 4 xdj from by kernel_rfl, block_r, xvr call hs u]
theorem xvt (call : FCall) (hs : FHs) (u : Nat) :
  fxK Try.prog pol NN call xdd (AV × Mem) (xl hs u) (fun s => x3r call hs u (s.sl 0) (s.sl 1) (s.sl 4) (s.sl 5) (s.sl 8) s.m s.fc) eNil xa = (fun s => x30 call hs u (s.sl 0) (s.sl 1) (s.sl 4) (s.sl 5) (s.sl 8) s.m s.fc) := by
  rw [show xdd = .seq xvh xdi from by kernel_rfl, seq_r]; rw [xvs call hs u]; kernel_rfl
theorem xvu (call : FCall) (hs : FHs) (u : Nat) :
  fxK Try.prog pol NN call xdc (AV × Mem) (xl hs u) xa eNil xa = (fun s => x30 call hs u (s.sl 0) (s.sl 1) (s.sl 4) (s.sl 5) (s.sl 8) s.m s.fc) := by
  rw [show xdc = .seq xdd xde from by kernel_rfl, seq_r, xvp call hs u, xvt call hs u]
theorem xvv (call : FCall) (hs : FHs) (u : Nat) (rec2 : AV → AV → AV → AV → AV → AV → Mem → Nat → Option (AV × Mem)) :
  fxK Try.prog pol NN call xdn (AV × Mem) (xl hs u) (fun s => rec2 (s.sl 0) (s.sl 1) (s.sl 4) (s.sl 5) (s.sl 8) (s.sl 9) s.m s.fc) (setE 2 (fun s => x30 call hs u (s.sl 0) (s.sl 1) (s.sl 4) (s.sl 5) (s.sl 8) s.m s.fc) eNil) xa = (fun s => xai call hs u rec2 (s.sl 0) (s.sl 1) (s.sl 4) (s.sl 5) (s.sl 8) (s.sl 9) s.m s.fc) := by
  kernel_rfl
theorem xl9 (call : FCall) (hs : FHs) (u : Nat) : ∀ n : Nat,
  iter (fun rec => fxK Try.prog pol NN call xdn (AV × Mem) (xl hs u) rec (setE 2 (fun s => x30 call hs u (s.sl 0) (s.sl 1) (s.sl 4) (s.sl 5) (s.sl 8) s.m s.fc) eNil) xa) n = (fun s => x4l call hs u n (s.sl 0) (s.sl 1) (s.sl 4) (s.sl 5) (s.sl 8) (s.sl 9) s.m s.fc)
  | 0 => rfl
  | n + 1 => by rw [iter_succ, xl9 call hs u n, xvv call hs u (x4l call hs u n)]; kernel_rfl
theorem xvw (call : FCall) (hs : FHs) (u : Nat) :
  fxK Try.prog pol NN call xdm (AV × Mem) (xl hs u) (fun s => x30 call hs u (s.sl 0) (s.sl 1) (s.sl 4) (s.sl 5) (s.sl 8) s.m s.fc) (setE 2 (fun s => x30 call hs u (s.sl 0) (s.sl 1) (s.sl 4) (s.sl 5) (s.sl 8) s.m s.fc) eNil) xa = (fun s => x4l call hs u NN (s.sl 0) (s.sl 1) (s.sl 4) (s.sl 5) (s.sl 8) (s.sl 9) s.m s.fc) := by
  rw [show xdm = .loop xdn from by kernel_rfl, loop_r, xl9 call hs u NN]
theorem xvx (call : FCall) (hs : FHs) (u : Nat) :
  fxK Try.prog pol NN call xdl (AV × Mem) (xl hs u) (fun s => x30 call hs u (s.sl 0) (s.sl 1) (s.sl 4) (s.sl 5) (s.sl 8) s.m s.fc) eNil xa = (fun s => x4l call hs u NN (s.sl 0) (s.sl 1) (s.sl 4) (s.sl 5) (s.sl 8) (s.sl 9) s.m s.fc) := by
  rw [show xdl = .block 2 xdm from by kernel_rfl, block_r, xvw call hs u]
theorem xvy (call : FCall) (hs : FHs) (u : Nat) :
  fxK Try.prog pol NN call xdb (AV × Mem) (xl hs u) (fun s => x30 call hs u (s.sl 0) (s.sl 1) (s.sl 4) (s.sl 5) (s.sl 8) s.m s.fc) eNil xa = (fun s => xaj call hs u (s.sl 0) (s.sl 1) (s.sl 4) (s.sl 5) (s.sl 8) s.m s.fc) := by
  rw [show xdb = .seq xvi xdl from by kernel_rfl, seq_r]; rw [xvx call hs u]; kernel_rfl
theorem xvz (call : FCall) (hs : FHs) (u : Nat) :
  fxK Try.prog pol NN call xda (AV × Mem) (xl hs u) xa eNil xa = (fun s => xaj call hs u (s.sl 0) (s.sl 1) (s.sl 4) (s.sl 5) (s.sl 8) s.m s.fc) := by
  rw [show xda = .seq xdb xdc from by kernel_rfl, seq_r, xvu call hs u, xvy call hs u]
theorem xw0 (call : FCall) (hs : FHs) (u : Nat) :
  fxK Try.prog pol NN call xd9 (AV × Mem) (xl hs u) xa eNil xa = (fun s => x2a call hs u (s.sl 0) (s.sl 1) (s.sl 4) (s.sl 5) s.m s.fc) := by
  rw [show xd9 = .seq xvd xda from by kernel_rfl, seq_r]; rw [xvz call hs u]; kernel_rfl
theorem xw1 (call : FCall) (hs : FHs) (u : Nat) (rec3 : AV → AV → AV → AV → AV → AV → AV → Mem → Nat → Option (AV × Mem)) :
  fxK Try.prog pol NN call xl6 (AV × Mem) (xl hs u) (fun s => rec3 (s.sl 0) (s.sl 1) (s.sl 4) (s.sl 5) (s.sl 17) (s.sl 18) (s.sl 19) s.m s.fc) (setE 0 (fun s => x2a call hs u (s.sl 0) (s.sl 1) (s.sl 4) (s.sl 5) s.m s.fc) eNil) xa = (fun s => x4m call hs u rec3 (s.sl 0) (s.sl 1) (s.sl 4) (s.sl 5) (s.sl 17) (s.sl 18) (s.sl 19) s.m s.fc) := by
  kernel_rfl
theorem xw2 (call : FCall) (hs : FHs) (u : Nat) (rec3 : AV → AV → AV → AV → AV → AV → AV → Mem → Nat → Option (AV × Mem)) :
  fxK Try.prog pol NN call xl5 (AV × Mem) (xl hs u) (fun s => x4m call hs u rec3 (s.sl 0) (s.sl 1) (s.sl 4) (s.sl 5) (s.sl 17) (s.sl 18) (s.sl 19) s.m s.fc) (setE 0 (fun s => x2a call hs u (s.sl 0) (s.sl 1) (s.sl 4) (s.sl 5) s.m s.fc) eNil) xa = (fun s => x91 call hs u rec3 (s.sl 0) (s.sl 1) (s.sl 4) (s.sl 5) (s.sl 17) (s.sl 18) (s.sl 19) s.m s.fc) := by
  kernel_rfl
theorem xw3 (call : FCall) (hs : FHs) (u : Nat) (rec3 : AV → AV → AV → AV → AV → AV → AV → Mem → Nat → Option (AV × Mem)) :
  fxK Try.prog pol NN call xdq (AV × Mem) (xl hs u) (fun s => rec3 (s.sl 0) (s.sl 1) (s.sl 4) (s.sl 5) (s.sl 17) (s.sl 18) (s.sl 19) s.m s.fc) (setE 0 (fun s => x2a call hs u (s.sl 0) (s.sl 1) (s.sl 4) (s.sl 5) s.m s.fc) eNil) xa = (fun s => x91 call hs u rec3 (s.sl 0) (s.sl 1) (s.sl 4) (s.sl 5) (s.sl 17) (s.sl 18) (s.sl 19) s.m s.fc) := by
  rw [show xdq = .seq xl5 xl6 from by kernel_rfl, seq_r, xw1 call hs u rec3, xw2 call hs u rec3]
theorem xw4 (call : FCall) (hs : FHs) (u : Nat) (rec3 : AV → AV → AV → AV → AV → AV → AV → Mem → Nat → Option (AV × Mem)) :
  fxK Try.prog pol NN call xb1 (AV × Mem) (xl hs u) (fun s => rec3 (s.sl 0) (s.sl 1) (s.sl 4) (s.sl 5) (s.sl 17) (s.sl 18) (s.sl 19) s.m s.fc) (setE 0 (fun s => x2a call hs u (s.sl 0) (s.sl 1) (s.sl 4) (s.sl 5) s.m s.fc) eNil) xa = (fun s => x92 call hs u rec3 (s.sl 0) (s.sl 1) (s.sl 4) (s.sl 5) (s.sl 17) (s.sl 18) (s.sl 19) s.m s.fc) := by
  rw [show xb1 = .seq xvk xl4 from by kernel_rfl, seq_r]; rw [show xl4 = .seq xvl xdq from by kernel_rfl, seq_r]; rw [xw3 call hs u rec3]; kernel_rfl
theorem xla (call : FCall) (hs : FHs) (u : Nat) : ∀ n : Nat,
  iter (fun rec => fxK Try.prog pol NN call xb1 (AV × Mem) (xl hs u) rec (setE 0 (fun s => x2a call hs u (s.sl 0) (s.sl 1) (s.sl 4) (s.sl 5) s.m s.fc) eNil) xa) n = (fun s => x3s call hs u n (s.sl 0) (s.sl 1) (s.sl 4) (s.sl 5) (s.sl 17) (s.sl 18) (s.sl 19) s.m s.fc)
  | 0 => rfl
  | n + 1 => by rw [iter_succ, xla call hs u n, xw4 call hs u (x3s call hs u n)]; kernel_rfl
theorem xw5 (call : FCall) (hs : FHs) (u : Nat) :
  fxK Try.prog pol NN call xdp (AV × Mem) (xl hs u) (fun s => x2a call hs u (s.sl 0) (s.sl 1) (s.sl 4) (s.sl 5) s.m s.fc) (setE 0 (fun s => x2a call hs u (s.sl 0) (s.sl 1) (s.sl 4) (s.sl 5) s.m s.fc) eNil) xa = (fun s => x3s call hs u NN (s.sl 0) (s.sl 1) (s.sl 4) (s.sl 5) (s.sl 17) (s.sl 18) (s.sl 19) s.m s.fc) := by
  rw [show xdp = .loop xb1 from by kernel_rfl, loop_r, xla call hs u NN]
theorem xw6 (call : FCall) (hs : FHs) (u : Nat) :
  fxK Try.prog pol NN call xdo (AV × Mem) (xl hs u) (fun s => x2a call hs u (s.sl 0) (s.sl 1) (s.sl 4) (s.sl 5) s.m s.fc) eNil xa = (fun s => x3s call hs u NN (s.sl 0) (s.sl 1) (s.sl 4) (s.sl 5) (s.sl 17) (s.sl 18) (s.sl 19) s.m s.fc) := by
  rw [show xdo = .block 0 xdp from by kernel_rfl, block_r, xw5 call hs u]
theorem xw7 (call : FCall) (hs : FHs) (u : Nat) :
  fxK Try.prog pol NN call xd8 (AV × Mem) (xl hs u) (fun s => x2a call hs u (s.sl 0) (s.sl 1) (s.sl 4) (s.sl 5) s.m s.fc) eNil xa = (fun s => xak call hs u (s.sl 0) (s.sl 1) (s.sl 4) (s.sl 5) s.m s.fc) := by
  rw [show xd8 = .seq xvj xdo from by kernel_rfl, seq_r]; rw [xw6 call hs u]; kernel_rfl
theorem xw8 (call : FCall) (hs : FHs) (u : Nat) :
  fxK Try.prog pol NN call xd7 (AV × Mem) (xl hs u) xa eNil xa = (fun s => xak call hs u (s.sl 0) (s.sl 1) (s.sl 4) (s.sl 5) s.m s.fc) := by
  rw [show xd7 = .seq xd8 xd9 from by kernel_rfl, seq_r, xw0 call hs u, xw7 call hs u]
theorem xw9 (call : FCall) (hs : FHs) (u : Nat) :
  fxK Try.prog pol NN call xd6 (AV × Mem) (xl hs u) xa eNil xa = (fun s => xcs call hs u (s.sl 0) (s.sl 1) s.m s.fc) := by
  rw [show xd6 = .seq xvb xl1 from by kernel_rfl, seq_r]; rw [show xl1 = .seq xvc xd7 from by kernel_rfl, seq_r]; rw [xw8 call hs u]; kernel_rfl
theorem xwa (call : FCall) (hs : FHs) (t0 t1 : AV) (m : Mem) : fxBody Try.prog pol NN call hs x6 [t0, t1] m = x74 call hs [t0, t1] m := by
  rw [fxBody_at (fn := Try.f106) (body := xd6) (nt := 160) (rs := []) (by kernel_rfl) (by kernel_rfl) (by kernel_rfl) (by kernel_rfl) (by kernel_rfl) (by kernel_rfl)]
  exact (congrFun (xw9 call hs m.next) _).trans (by kernel_rfl)
theorem xuy (call : FCall) (hs : FHs) (args : List AV) (m : Mem) (r : AV × Mem) (h : x74 call hs args m = some r) : fxBody Try.prog pol NN call hs x6 args m = some r := by
  unfold x74 at h
  split at h
  · rw [xwa]; exact h
  · cases h

abbrev xwb (hs : FHs) (u : Nat) : FCtx := { f := x4v, u := u, nt := 7, hs := hs }
noncomputable abbrev xlb : Fs → Option (AV × Mem) := fxRes Try.prog [.tmp 2]
noncomputable def xlc : Code := nav (bodyOf x4v) []
theorem xwc (call : FCall) (hs : FHs) (u : Nat) :
  fxK Try.prog pol NN call xlc (AV × Mem) (xwb hs u) xlb eNil xlb = (fun s => xct call hs u (s.sl 0) s.m s.fc) := by
  kernel_rfl
theorem xwd (call : FCall) (hs : FHs) (t0 : AV) (m : Mem) : fxBody Try.prog pol NN call hs x4v [t0] m = x6f call hs [t0] m := by
  rw [fxBody_at (fn := Try.f107) (body := xlc) (nt := 7) (rs := [.tmp 2]) (by kernel_rfl) (by kernel_rfl) (by kernel_rfl) (by kernel_rfl) (by kernel_rfl) (by kernel_rfl)]
  exact (congrFun (xwc call hs m.next) _).trans (by kernel_rfl)
theorem xtl (call : FCall) (hs : FHs) (args : List AV) (m : Mem) (r : AV × Mem) (h : x6f call hs args m = some r) : fxBody Try.prog pol NN call hs x4v args m = some r := by
  unfold x6f at h
  split at h
  · rw [xwd]; exact h
  · cases h

abbrev xwe (hs : FHs) (u : Nat) : FCtx := { f := x60, u := u, nt := 6, hs := hs }
noncomputable abbrev xld : Fs → Option (AV × Mem) := fxRes Try.prog [.tmp 4]
noncomputable def xle : Code := nav (bodyOf x60) []
theorem xwf (call : FCall) (hs : FHs) (u : Nat) :
  fxK Try.prog pol NN call xle (AV × Mem) (xwe hs u) xld eNil xld = (fun s => xko call hs u (s.sl 0) (s.sl 1) s.m s.fc) := by
  kernel_rfl
theorem xwg (call : FCall) (hs : FHs) (t0 t1 : AV) (m : Mem) : fxBody Try.prog pol NN call hs x60 [t0, t1] m = x8k call hs [t0, t1] m := by
  rw [fxBody_at (fn := Try.f108) (body := xle) (nt := 6) (rs := [.tmp 4]) (by kernel_rfl) (by kernel_rfl) (by kernel_rfl) (by kernel_rfl) (by kernel_rfl) (by kernel_rfl)]
  exact (congrFun (xwf call hs m.next) _).trans (by kernel_rfl)
theorem xuz (call : FCall) (hs : FHs) (args : List AV) (m : Mem) (r : AV × Mem) (h : x8k call hs args m = some r) : fxBody Try.prog pol NN call hs x60 args m = some r := by
  unfold x8k at h
  split at h
  · rw [xwg]; exact h
  · cases h

abbrev xwh (hs : FHs) (u : Nat) : FCtx := { f := x61, u := u, nt := 13, hs := hs }
noncomputable abbrev xlf : Fs → Option (AV × Mem) := fxRes Try.prog [.tmp 3]
noncomputable def xlg : Code := nav (bodyOf x61) []
theorem xwi (call : FCall) (hs : FHs) (u : Nat) :
  fxK Try.prog pol NN call xlg (AV × Mem) (xwh hs u) xlf eNil xlf = (fun s => xkp call hs u (s.sl 0) (s.sl 1) s.m s.fc) := by
  kernel_rfl
theorem xwj (call : FCall) (hs : FHs) (t0 t1 : AV) (m : Mem) : fxBody Try.prog pol NN call hs x61 [t0, t1] m = x8l call hs [t0, t1] m := by
  rw [fxBody_at (fn := Try.f110) (body := xlg) (nt := 13) (rs := [.tmp 3]) (by kernel_rfl) (by kernel_rfl) (by kernel_rfl) (by kernel_rfl) (by kernel_rfl) (by kernel_rfl)]
  exact (congrFun (xwi call hs m.next) _).trans (by kernel_rfl)
theorem xv0 (call : FCall) (hs : FHs) (args : List AV) (m : Mem) (r : AV × Mem) (h : x8l call hs args m = some r) : fxBody Try.prog pol NN call hs x61 args m = some r := by
  unfold x8l at h
  split at h
  · rw [xwj]; exact h
  · cases h

abbrev x7u (hs : FHs) (u : Nat) : FCtx := { f := x1x, u := u, nt := 27, hs := hs }
noncomputable abbrev x3u : Fs → Option (AV × Mem) := fxRes Try.prog [.tmp 4]
noncomputable def xdr : Code := nav (bodyOf x1x) []
noncomputable def xwk : Code := nav (bodyOf x1x) [false]
noncomputable def xds : Code := nav (bodyOf x1x) [true]
noncomputable def xlh : Code := nav (bodyOf x1x) [true, false]
noncomputable def xdt : Code := nav (bodyOf x1x) [true, true]
noncomputable def xli : Code := nav (bodyOf x1x) [true, true, false]
noncomputable def xlj : Code := nav (bodyOf x1x) [true, true, true]
theorem xwl (call : FCall) (hs : FHs) (u : Nat) :
  fxK Try.prog pol NN call xlj (AV × Mem) (x7u hs u) x3u eNil x3u = (fun s => x7k call hs u (s.sl 0) s.m s.fc) := by
  kernel_rfl
theorem xwm (call : FCall) (hs : FHs) (u : Nat) :
  fxK Try.prog pol NN call xli (AV × Mem) (x7u hs u) (fun s => x7k call hs u (s.sl 0) s.m s.fc) eNil x3u = (fun s => x7l call hs u (s.sl 0) (s.sl 1) s.m s.fc) := by
  kernel_rfl
theorem xwn (call : FCall) (hs : FHs) (u : Nat) :
  fxK Try.prog pol NN call xdt (AV × Mem) (x7u hs u) x3u eNil x3u = (fun s => x7l call hs u (s.sl 0) (s.sl 1) s.m s.fc) := by
  rw [show xdt = .seq xli xlj from by kernel_rfl, seq_r, xwl call hs u, xwm call hs u]
theorem xwo (call : FCall) (hs : FHs) (u : Nat) :
  fxK Try.prog pol NN call xlh (AV × Mem) (x7u hs u) (fun s => x7l call hs u (s.sl 0) (s.sl 1) s.m s.fc) eNil x3u = (fun s => x93 call hs u (s.sl 0) (s.sl 1) s.m s.fc) := by
  kernel_rfl
theorem xwp (call : FCall) (hs : FHs) (u : Nat) :
  fxK Try.prog pol NN call xds (AV × Mem) (x7u hs u) x3u eNil x3u = (fun s => x93 call hs u (s.sl 0) (s.sl 1) s.m s.fc) := by
  rw [show xds = .seq xlh xdt from by kernel_rfl, seq_r, xwn call hs u, xwo call hs u]
theorem xwq (call : FCall) (hs : FHs) (u : Nat) :
  fxK Try.prog pol NN call xdr (AV × Mem) (x7u hs u) x3u eNil x3u = (fun s => xal call hs u (s.sl 0) (s.sl 1) s.m s.fc) := by
  rw [show xdr = .seq xwk xds from by kernel_rfl, seq_r]; rw [xwp call hs u]; kernel_rfl
theorem xwr (call : FCall) (hs : FHs) (t0 t1 : AV) (m : Mem) : fxBody Try.prog pol NN call hs x1x [t0, t1] m = x62 call hs [t0, t1] m := by
  rw [fxBody_at (fn := Try.f111) (body := xdr) (nt := 27) (rs := [.tmp 4]) (by kernel_rfl) (by kernel_rfl) (by kernel_rfl) (by kernel_rfl) (by kernel_rfl) (by kernel_rfl)]
  exact (congrFun (xwq call hs m.next) _).trans (by kernel_rfl)
theorem xv1 (call : FCall) (hs : FHs) (args : List AV) (m : Mem) (r : AV × Mem) (h : x62 call hs args m = some r) : fxBody Try.prog pol NN call hs x1x args m = some r := by
  unfold x62 at h
  split at h
  · rw [xwr]; exact h
  · cases h

abbrev x1g (hs : FHs) (u : Nat) : FCtx := { f := x9, u := u, nt := 45, hs := hs }
noncomputable abbrev x11 : Fs → Option (AV × Mem) := fxRes Try.prog [.tmp 4]
noncomputable def xdu : Code := nav (bodyOf x9) []
noncomputable def xws : Code := nav (bodyOf x9) [false]
noncomputable def xlk : Code := nav (bodyOf x9) [true]
noncomputable def xwt : Code := nav (bodyOf x9) [true, false]
noncomputable def xll : Code := nav (bodyOf x9) [true, true]
noncomputable def xwu : Code := nav (bodyOf x9) [true, true, false]
noncomputable def xdv : Code := nav (bodyOf x9) [true, true, true]
noncomputable def xdw : Code := nav (bodyOf x9) [true, true, true, false]
noncomputable def xlm : Code := nav (bodyOf x9) [true, true, true, true]
noncomputable def xwv : Code := nav (bodyOf x9) [true, true, true, false, false]
noncomputable def xdx : Code := nav (bodyOf x9) [true, true, true, false, true]
noncomputable def xdy : Code := nav (bodyOf x9) [true, true, true, false, true, false]
noncomputable def xb2 : Code := nav (bodyOf x9) [true, true, true, false, true, false, false]
noncomputable def xww : Code := nav (bodyOf x9) [true, true, true, false, true, false, false, false]
noncomputable def xln : Code := nav (bodyOf x9) [true, true, true, false, true, false, false, true]
noncomputable def xwx : Code := nav (bodyOf x9) [true, true, true, false, true, false, false, true, false]
noncomputable def xdz : Code := nav (bodyOf x9) [true, true, true, false, true, false, false, true, true]
noncomputable def xe0 : Code := nav (bodyOf x9) [true, true, true, false, true, false, false, true, true, false]
noncomputable def xlo : Code := nav (bodyOf x9) [true, true, true, false, true, false, false, true, true, true]
noncomputable def xe1 : Code := nav (bodyOf x9) [true, true, true, false, true, false, false, true, true, false, false]
noncomputable def xwy : Code := nav (bodyOf x9) [true, true, true, false, true, false, false, true, true, false, false, false]
noncomputable def xlp : Code := nav (bodyOf x9) [true, true, true, false, true, false, false, true, true, false, false, true]
noncomputable def xwz : Code := nav (bodyOf x9) [true, true, true, false, true, false, false, true, true, false, false, true, false]
noncomputable def xlq : Code := nav (bodyOf x9) [true, true, true, false, true, false, false, true, true, false, false, true, true]
noncomputable def xx0 : Code := nav (bodyOf x9) [true, true, true, false, true, false, false, true, true, false, false, true, true, false]
noncomputable def xlr : Code := nav (bodyOf x9) [true, true, true, false, true, false, false, true, true, false, false, true, true, true]
noncomputable def xx1 : Code := nav (bodyOf x9) [true, true, true, false, true, false, false, true, true, false, false, true, true, true, false]
noncomputable def xe2 : Code := nav (bodyOf x9) [true, true, true, false, true, false, false, true, true, false, false, true, true, true, true]
noncomputable def xe3 : Code := nav (bodyOf x9) [true, true, true, false, true, false, false, true, true, false, false, true, true, true, true, false]
noncomputable def xls : Code := nav (bodyOf x9) [true, true, true, false, true, false, false, true, true, false, false, true, true, true, true, true]
noncomputable def xe4 : Code := nav (bodyOf x9) [true, true, true, false, true, false, false, true, true, false, false, true, true, true, true, false, false]
noncomputable def xe5 : Code := nav (bodyOf x9) [true, true, true, false, true, false, false, true, true, false, false, true, true, true, true, false, false, false]
theorem xx2 (call : FCall) (hs : FHs) (u : Nat) :
  fxK Try.prog pol NN call xlm (AV × Mem) (x1g hs u) x11 eNil x11 = (fun s => x1b call hs u (s.sl 5) s.m s.fc) := by
  kernel_rfl
theorem xx3 (call : FCall) (hs : FHs) (u : Nat) (rec0 : AV → AV → AV → AV → AV → Mem → Nat → Option (AV × Mem)) :
  fxK Try.prog pol NN call xlo (AV × Mem) (x1g hs u) (fun s => rec0 (s.sl 1) (s.sl 5) (s.sl 6) (s.sl 14) (s.sl 15) s.m s.fc) (setE 0 (fun s => x1b call hs u (s.sl 5) s.m s.fc) eNil) x11 = (fun s => x1r call hs u rec0 (s.sl 1) (s.sl 5) (s.sl 6) (s.sl 14) (s.sl 15) s.m s.fc) := by
  kernel_rfl
theorem xx4 (call : FCall) (hs : FHs) (u : Nat) (rec0 : AV → AV → AV → AV → AV → Mem → Nat → Option (AV × Mem)) :
  fxK Try.prog pol NN call xls (AV × Mem) (x1g hs u) (fun s => x1r call hs u rec0 (s.sl 1) (s.sl 5) (s.sl 6) (s.sl 14) (s.sl 15) s.m s.fc) (setE 1 (fun s => x1r call hs u rec0 (s.sl 1) (s.sl 5) (s.sl 6) (s.sl 14) (s.sl 15) s.m s.fc) (setE 0 (fun s => x1b call hs u (s.sl 5) s.m s.fc) eNil)) x11 = (fun s => x4n call hs u rec0 (s.sl 1) (s.sl 5) (s.sl 6) (s.sl 14) (s.sl 15) s.m s.fc) := by
  kernel_rfl
theorem xx5 (call : FCall) (hs : FHs) (u : Nat) (rec0 : AV → AV → AV → AV → AV → Mem → Nat → Option (AV × Mem)) (rec1 : AV → AV → AV → AV → AV → AV → Mem → Nat → Option (AV × Mem)) :
  fxK Try.prog pol NN call xe5 (AV × Mem) (x1g hs u) (fun s => rec1 (s.sl 1) (s.sl 5) (s.sl 6) (s.sl 8) (s.sl 14) (s.sl 15) s.m s.fc) (setE 2 (fun s => x4n call hs u rec0 (s.sl 1) (s.sl 5) (s.sl 6) (s.sl 14) (s.sl 15) s.m s.fc) (setE 1 (fun s => x1r call hs u rec0 (s.sl 1) (s.sl 5) (s.sl 6) (s.sl 14) (s.sl 15) s.m s.fc) (setE 0 (fun s => x1b call hs u (s.sl 5) s.m s.fc) eNil))) x11 = (fun s => x94 call hs u rec0 rec1 (s.sl 1) (s.sl 5) (s.sl 6) (s.sl 8) (s.sl 14) (s.sl 15) s.m s.fc) := by
  kernel_rfl
theorem xlt (call : FCall) (hs : FHs) (u : Nat) (rec0 : AV → AV → AV → AV → AV → Mem → Nat → Option (AV × Mem)) : ∀ n : Nat,
  iter (fun rec => fxK Try.prog pol NN call xe5 (AV × Mem) (x1g hs u) rec (setE 2 (fun s => x4n call hs u rec0 (s.sl 1) (s.sl 5) (s.sl 6) (s.sl 14) (s.sl 15) s.m s.fc) (setE 1 (fun s => x1r call hs u rec0 (s.sl 1) (s.sl 5) (s.sl 6) (s.sl 14) (s.sl 15) s.m s.fc) (setE 0 (fun s => x1b call hs u (s.sl 5) s.m s.fc) eNil))) x11) n = (fun s => x31 call hs u rec0 n (s.sl 1) (s.sl 5) (s.sl 6) (s.sl 8) (s.sl 14) (s.sl 15) s.m s.fc)
  | 0 => rfl
  | n + 1 => by rw [iter_succ, xlt call hs u rec0 n, xx5 call hs u rec0 (x31 call hs u rec0 n)]; kernel_rfl
theorem xx6 (call : FCall) (hs : FHs) (u : Nat) (rec0 : AV → AV → AV → AV → AV → Mem → Nat → Option (AV × Mem)) :
  fxK Try.prog pol NN call xe4 (AV × Mem) (x1g hs u) (fun s => x4n call hs u rec0 (s.sl 1) (s.sl 5) (s.sl 6) (s.sl 14) (s.sl 15) s.m s.fc) (setE 2 (fun s => x4n call hs u rec0 (s.sl 1) (s.sl 5) (s.sl 6) (s.sl 14) (s.sl 15) s.m s.fc) (setE 1 (fun s => x1r call hs u rec0 (s.sl 1) (s.sl 5) (s.sl 6) (s.sl 14) (s.sl 15) s.m s.fc) (setE 0 (fun s => x1b call hs u (s.sl 5) s.m s.fc) eNil))) x11 = (fun s => x31 call hs u rec0 NN (s.sl 1) (s.sl 5) (s.sl 6) (s.sl 8) (s.sl 14) (s.sl 15) s.m s.fc) := by
  rw [show xe4 = .loop xe5 from by kernel_rfl, loop_r, xlt call hs u rec0 NN]
theorem xx7 (call : FCall) (hs : FHs) (u : Nat) (rec0 : AV → AV → AV → AV → AV → Mem → Nat → Option (AV × Mem)) :
  fxK Try.prog pol NN call xe3 (AV × Mem) (x1g hs u) (fun s => x4n call hs u rec0 (s.sl 1) (s.sl 5) (s.sl 6) (s.sl 14) (s.sl 15) s.m s.fc) (setE 1 (fun s => x1r call hs u rec0 (s.sl 1) (s.sl 5) (s.sl 6) (s.sl 14) (s.sl 15) s.m s.fc) (setE 0 (fun s => x1b call hs u (s.sl 5) s.m s.fc) eNil)) x11 = (fun s => x31 call hs u rec0 NN (s.sl 1) (s.sl 5) (s.sl 6) (s.sl 8) (s.sl 14) (s.sl 15) s.m s.fc) := by
  rw [show xe3 = .block 2 xe4 from by kernel_rfl, block_r, xx6 call hs u rec0]
theorem xx8 (call : FCall) (hs : FHs) (u : Nat) (rec0 : AV → AV → AV → AV → AV → Mem → Nat → Option (AV × Mem)) :
  fxK Try.prog pol NN call xe2 (AV × Mem) (x1g hs u) (fun s => x1r call hs u rec0 (s.sl 1) (s.sl 5) (s.sl 6) (s.sl 14) (s.sl 15) s.m s.fc) (setE 1 (fun s => x1r call hs u rec0 (s.sl 1) (s.sl 5) (s.sl 6) (s.sl 14) (s.sl 15) s.m s.fc) (setE 0 (fun s => x1b call hs u (s.sl 5) s.m s.fc) eNil)) x11 = (fun s => x31 call hs u rec0 NN (s.sl 1) (s.sl 5) (s.sl 6) (s.sl 8) (s.sl 14) (s.sl 15) s.m s.fc) := by
  rw [show xe2 = .seq xe3 xls from by kernel_rfl, seq_r, xx4 call hs u rec0, xx7 call hs u rec0]
theorem xx9 (call : FCall) (hs : FHs) (u : Nat) (rec0 : AV → AV → AV → AV → AV → Mem → Nat → Option (AV × Mem)) :
  fxK Try.prog pol NN call xe1 (AV × Mem) (x1g hs u) (fun s => x1r call hs u rec0 (s.sl 1) (s.sl 5) (s.sl 6) (s.sl 14) (s.sl 15) s.m s.fc) (setE 1 (fun s => x1r call hs u rec0 (s.sl 1) (s.sl 5) (s.sl 6) (s.sl 14) (s.sl 15) s.m s.fc) (setE 0 (fun s => x1b call hs u (s.sl 5) s.m s.fc) eNil)) x11 = (fun s => x7m call hs u rec0 (s.sl 1) (s.sl 5) (s.sl 6) (s.sl 14) (s.sl 15) s.m s.fc) := by
  rw [show xe1 = .seq xwy xlp from by kernel_rfl, seq_r]; rw [show xlp = .seq xwz xlq from by kernel_rfl, seq_r]; rw [show xlq = .seq xx0 xlr from by kernel_rfl, seq_r]; rw [show xlr = .seq xx1 xe2 from by kernel_rfl, seq_r]; rw [xx8 call hs u rec0]; kernel_rfl
theorem xxa (call : FCall) (hs : FHs) (u : Nat) (rec0 : AV → AV → AV → AV → AV → Mem → Nat → Option (AV × Mem)) :
  fxK Try.prog pol NN call xe0 (AV × Mem) (x1g hs u) (fun s => x1r call hs u rec0 (s.sl 1) (s.sl 5) (s.sl 6) (s.sl 14) (s.sl 15) s.m s.fc) (setE 0 (fun s => x1b call hs u (s.sl 5) s.m s.fc) eNil) x11 = (fun s => x7m call hs u rec0 (s.sl 1) (s.sl 5) (s.sl 6) (s.sl 14) (s.sl 15) s.m s.fc) := by
  rw [show xe0 = .block 1 xe1 from by kernel_rfl, block_r, xx9 call hs u rec0]
theorem xxb (call : FCall) (hs : FHs) (u : Nat) (rec0 : AV → AV → AV → AV → AV → Mem → Nat → Option (AV × Mem)) :
  fxK Try.prog pol NN call xdz (AV × Mem) (x1g hs u) (fun s => rec0 (s.sl 1) (s.sl 5) (s.sl 6) (s.sl 14) (s.sl 15) s.m s.fc) (setE 0 (fun s => x1b call hs u (s.sl 5) s.m s.fc) eNil) x11 = (fun s => x7m call hs u rec0 (s.sl 1) (s.sl 5) (s.sl 6) (s.sl 14) (s.sl 15) s.m s.fc) := by
  rw [show xdz = .seq xe0 xlo from by kernel_rfl, seq_r, xx3 call hs u rec0, xxa call hs u rec0]
theorem xxc (call : FCall) (hs : FHs) (u : Nat) (rec0 : AV → AV → AV → AV → AV → Mem → Nat → Option (AV × Mem)) :
  fxK Try.prog pol NN call xb2 (AV × Mem) (x1g hs u) (fun s => rec0 (s.sl 1) (s.sl 5) (s.sl 6) (s.sl 14) (s.sl 15) s.m s.fc) (setE 0 (fun s => x1b call hs u (s.sl 5) s.m s.fc) eNil) x11 = (fun s => x95 call hs u rec0 (s.sl 1) (s.sl 5) (s.sl 6) (s.sl 14) (s.sl 15) s.m s.fc) := by
  rw [show xb2 = .seq xww xln from by kernel_rfl, seq_r]; rw [show xln = .seq xwx xdz from by kernel_rfl, seq_r]; rw [xxb call hs u rec0]; kernel_rfl
theorem xlu (call : FCall) (hs : FHs) (u : Nat) : ∀ n : Nat,
  iter (fun rec => fxK Try.prog pol NN call xb2 (AV × Mem) (x1g hs u) rec (setE 0 (fun s => x1b call hs u (s.sl 5) s.m s.fc) eNil) x11) n = (fun s => x32 call hs u n (s.sl 1) (s.sl 5) (s.sl 6) (s.sl 14) (s.sl 15) s.m s.fc)
  | 0 => rfl
  | n + 1 => by rw [iter_succ, xlu call hs u n, xxc call hs u (x32 call hs u n)]; kernel_rfl
theorem xxd (call : FCall) (hs : FHs) (u : Nat) :
  fxK Try.prog pol NN call xdy (AV × Mem) (x1g hs u) (fun s => x1b call hs u (s.sl 5) s.m s.fc) (setE 0 (fun s => x1b call hs u (s.sl 5) s.m s.fc) eNil) x11 = (fun s => x32 call hs u NN (s.sl 1) (s.sl 5) (s.sl 6) (s.sl 14) (s.sl 15) s.m s.fc) := by
  rw [show xdy = .loop xb2 from by kernel_rfl, loop_r, xlu call hs u NN]
theorem xxe (call : FCall) (hs : FHs) (u : Nat) :
  fxK Try.prog pol NN call xdx (AV × Mem) (x1g hs u) (fun s => x1b call hs u (s.sl 5) s.m s.fc) eNil x11 = (fun s => x32 call hs u NN (s.sl 1) (s.sl 5) (s.sl 6) (s.sl 14) (s.sl 15) s.m s.fc) := by
  rw [show xdx = .block 0 xdy from by kernel_rfl, block_r, xxd call hs u]
theorem xxf (call : FCall) (hs : FHs) (u : Nat) :
  fxK Try.prog pol NN call xdw (AV × Mem) (x1g hs u) (fun s => x1b call hs u (s.sl 5) s.m s.fc) eNil x11 = (fun s => xam call hs u (s.sl 1) (s.sl 5) (s.sl 6) s.m s.fc) := by
  rw [show xdw = .seq xwv xdx from by kernel_rfl, seq_r]; rw [xxe call hs u]; kernel_rfl
theorem xxg (call : FCall) (hs : FHs) (u : Nat) :
  fxK Try.prog pol NN call xdv (AV × Mem) (x1g hs u) x11 eNil x11 = (fun s => xam call hs u (s.sl 1) (s.sl 5) (s.sl 6) s.m s.fc) := by
  rw [show xdv = .seq xdw xlm from by kernel_rfl, seq_r, xx2 call hs u, xxf call hs u]
theorem xxh (call : FCall) (hs : FHs) (u : Nat) :
  fxK Try.prog pol NN call xdu (AV × Mem) (x1g hs u) x11 eNil x11 = (fun s => xcu call hs u (s.sl 0) (s.sl 1) s.m s.fc) := by
  rw [show xdu = .seq xws xlk from by kernel_rfl, seq_r]; rw [show xlk = .seq xwt xll from by kernel_rfl, seq_r]; rw [show xll = .seq xwu xdv from by kernel_rfl, seq_r]; rw [xxg call hs u]; kernel_rfl
theorem xxi (call : FCall) (hs : FHs) (t0 t1 : AV) (m : Mem) : fxBody Try.prog pol NN call hs x9 [t0, t1] m = x75 call hs [t0, t1] m := by
  rw [fxBody_at (fn := Try.f113) (body := xdu) (nt := 45) (rs := [.tmp 4]) (by kernel_rfl) (by kernel_rfl) (by kernel_rfl) (by kernel_rfl) (by kernel_rfl) (by kernel_rfl)]
  exact (congrFun (xxh call hs m.next) _).trans (by kernel_rfl)
theorem xv2 (call : FCall) (hs : FHs) (args : List AV) (m : Mem) (r : AV × Mem) (h : x75 call hs args m = some r) : fxBody Try.prog pol NN call hs x9 args m = some r := by
  unfold x75 at h
  split at h
  · rw [xxi]; exact h
  · cases h

abbrev x9a (hs : FHs) (u : Nat) : FCtx := { f := x1z, u := u, nt := 20, hs := hs }
noncomputable abbrev x34 : Fs → Option (AV × Mem) := fxRes Try.prog []
noncomputable def xe6 : Code := nav (bodyOf x1z) []
noncomputable def xxj : Code := nav (bodyOf x1z) [false]
noncomputable def xe7 : Code := nav (bodyOf x1z) [true]
noncomputable def xe8 : Code := nav (bodyOf x1z) [true, false]
noncomputable def xe9 : Code := nav (bodyOf x1z) [true, false, false]
theorem xxk (call : FCall) (hs : FHs) (u : Nat) (rec0 : AV → AV → AV → AV → Mem → Nat → Option (AV × Mem)) :
  fxK Try.prog pol NN call xe9 (AV × Mem) (x9a hs u) (fun s => rec0 (s.sl 1) (s.sl 10) (s.sl 11) (s.sl 12) s.m s.fc) (setE 0 x34 eNil) x34 = (fun s => xan call hs u rec0 (s.sl 1) (s.sl 10) (s.sl 11) (s.sl 12) s.m s.fc) := by
  kernel_rfl
theorem xlv (call : FCall) (hs : FHs) (u : Nat) : ∀ n : Nat,
  iter (fun rec => fxK Try.prog pol NN call xe9 (AV × Mem) (x9a hs u) rec (setE 0 x34 eNil) x34) n = (fun s => x4o call hs u n (s.sl 1) (s.sl 10) (s.sl 11) (s.sl 12) s.m s.fc)
  | 0 => rfl
  | n + 1 => by rw [iter_succ, xlv call hs u n, xxk call hs u (x4o call hs u n)]; kernel_rfl
theorem xxl (call : FCall) (hs : FHs) (u : Nat) :
  fxK Try.prog pol NN call xe8 (AV × Mem) (x9a hs u) x34 (setE 0 x34 eNil) x34 = (fun s => x4o call hs u NN (s.sl 1) (s.sl 10) (s.sl 11) (s.sl 12) s.m s.fc) := by
  rw [show xe8 = .loop xe9 from by kernel_rfl, loop_r, xlv call hs u NN]
theorem xxm (call : FCall) (hs : FHs) (u : Nat) :
  fxK Try.prog pol NN call xe7 (AV × Mem) (x9a hs u) x34 eNil x34 = (fun s => x4o call hs u NN (s.sl 1) (s.sl 10) (s.sl 11) (s.sl 12) s.m s.fc) := by
  rw [show xe7 = .block 0 xe8 from by kernel_rfl, block_r, xxl call hs u]
theorem xxn (call : FCall) (hs : FHs) (u : Nat) :
  fxK Try.prog pol NN call xe6 (AV × Mem) (x9a hs u) x34 eNil x34 = (fun s => xao call hs u (s.sl 0) (s.sl 1) (s.sl 2) s.m s.fc) := by
  rw [show xe6 = .seq xxj xe7 from by kernel_rfl, seq_r]; rw [xxm call hs u]; kernel_rfl
theorem xxo (call : FCall) (hs : FHs) (t0 t1 t2 : AV) (m : Mem) : fxBody Try.prog pol NN call hs x1z [t0, t1, t2] m = x7w call hs [t0, t1, t2] m := by
  rw [fxBody_at (fn := Try.f114) (body := xe6) (nt := 20) (rs := []) (by kernel_rfl) (by kernel_rfl) (by kernel_rfl) (by kernel_rfl) (by kernel_rfl) (by kernel_rfl)]
  exact (congrFun (xxn call hs m.next) _).trans (by kernel_rfl)
theorem xtf (call : FCall) (hs : FHs) (args : List AV) (m : Mem) (r : AV × Mem) (h : x7w call hs args m = some r) : fxBody Try.prog pol NN call hs x1z args m = some r := by
  unfold x7w at h
  split at h
  · rw [xxo]; exact h
  · cases h

abbrev x12 (hs : FHs) (u : Nat) : FCtx := { f := x7, u := u, nt := 139, hs := hs }
noncomputable abbrev xb : Fs → Option (AV × Mem) := fxRes Try.prog [.cell 4 xd5]
noncomputable def xea : Code := nav (bodyOf x7) []
noncomputable def xxp : Code := nav (bodyOf x7) [false]
noncomputable def xlw : Code := nav (bodyOf x7) [true]
noncomputable def xxq : Code := nav (bodyOf x7) [true, false]
noncomputable def xlx : Code := nav (bodyOf x7) [true, true]
noncomputable def xxr : Code := nav (bodyOf x7) [true, true, false]
noncomputable def xly : Code := nav (bodyOf x7) [true, true, true]
noncomputable def xxs : Code := nav (bodyOf x7) [true, true, true, false]
noncomputable def xeb : Code := nav (bodyOf x7) [true, true, true, true]
noncomputable def xec : Code := nav (bodyOf x7) [true, true, true, true, false]
noncomputable def xb3 : Code := nav (bodyOf x7) [true, true, true, true, false, false]
noncomputable def xed : Code := nav (bodyOf x7) [true, true, true, true, false, false, false]
noncomputable def xxt : Code := nav (bodyOf x7) [true, true, true, true, false, false, false, false]
noncomputable def xee : Code := nav (bodyOf x7) [true, true, true, true, false, false, false, true]
noncomputable def xef : Code := nav (bodyOf x7) [true, true, true, true, false, false, false, true, false]
noncomputable def xeg : Code := nav (bodyOf x7) [true, true, true, true, false, false, false, true, true]
noncomputable def xxu : Code := nav (bodyOf x7) [true, true, true, true, false, false, false, true, true, false]
noncomputable def xlz : Code := nav (bodyOf x7) [true, true, true, true, false, false, false, true, true, true]
noncomputable def xxv : Code := nav (bodyOf x7) [true, true, true, true, false, false, false, true, true, true, false]
noncomputable def xm0 : Code := nav (bodyOf x7) [true, true, true, true, false, false, false, true, true, true, true]
noncomputable def xxw : Code := nav (bodyOf x7) [true, true, true, true, false, false, false, true, true, true, true, false]
noncomputable def xeh : Code := nav (bodyOf x7) [true, true, true, true, false, false, false, true, true, true, true, true]
noncomputable def xei : Code := nav (bodyOf x7) [true, true, true, true, false, false, false, true, true, true, true, true, false]
noncomputable def xej : Code := nav (bodyOf x7) [true, true, true, true, false, false, false, true, true, true, true, true, false, false]
noncomputable def xm1 : Code := nav (bodyOf x7) [true, true, true, true, false, false, false, true, true, true, true, true, false, true]
noncomputable def xxx : Code := nav (bodyOf x7) [true, true, true, true, false, false, false, true, false, false]
noncomputable def xek : Code := nav (bodyOf x7) [true, true, true, true, false, false, false, true, false, true]
noncomputable def xel : Code := nav (bodyOf x7) [true, true, true, true, false, false, false, true, false, true, false]
noncomputable def xb4 : Code := nav (bodyOf x7) [true, true, true, true, false, false, false, true, false, true, false, false]
noncomputable def xxy : Code := nav (bodyOf x7) [true, true, true, true, false, false, false, true, false, true, false, false, false]
noncomputable def xm2 : Code := nav (bodyOf x7) [true, true, true, true, false, false, false, true, false, true, false, false, true]
noncomputable def xxz : Code := nav (bodyOf x7) [true, true, true, true, false, false, false, true, false, true, false, false, true, false]
noncomputable def xem : Code := nav (bodyOf x7) [true, true, true, true, false, false, false, true, false, true, false, false, true, true]
noncomputable def xm3 : Code := nav (bodyOf x7) [true, true, true, true, false, false, false, true, false, true, false, false, true, true, false]
noncomputable def xm4 : Code := nav (bodyOf x7) [true, true, true, true, false, false, false, true, false, true, false, false, true, true, true]
theorem xy0 (call : FCall) (hs : FHs) (u : Nat) :
  fxK Try.prog pol NN call xm1 Mem (x12 hs u) (fun s => some s.m) eNil fNil = (fun s => x7n call hs u (s.sl 2) (s.sl 5) (s.sl 7) (s.sl 10) s.m s.fc) := by
  kernel_rfl
theorem xy1 (call : FCall) (hs : FHs) (u : Nat) :
  fxK Try.prog pol NN call xej Mem (x12 hs u) (fun s => x7n call hs u (s.sl 2) (s.sl 5) (s.sl 7) (s.sl 10) s.m s.fc) eNil fNil = (fun s => x59 call hs u (s.sl 2) (s.sl 5) (s.sl 7) (s.sl 87) s.m s.fc) := by
  kernel_rfl
theorem xy2 (call : FCall) (hs : FHs) (u : Nat) (rec0 : AV → AV → AV → AV → Mem → Nat → Option (AV × Mem)) :
  fxK Try.prog pol NN call xei (AV × Mem) (x12 hs u) (fun s => rec0 (s.sl 2) (s.sl 4) (s.sl 5) (s.sl 6) s.m s.fc) (setE 4 (fun s => rec0 (s.sl 2) (s.sl 4) (s.sl 5) (s.sl 6) s.m s.fc) (setE 1 (fun s => rec0 (s.sl 2) (s.sl 4) (s.sl 5) (s.sl 6) s.m s.fc) (setE 0 xb eNil))) xb = (fun s => xap call hs u rec0 (s.sl 2) (s.sl 4) (s.sl 5) (s.sl 6) (s.sl 7) (s.sl 86) s.m s.fc) := by
  rw [show xei = .rangeFunc (.tmp 86) #[87] xej xm1 from by kernel_rfl, rng_r (H := fun u s => x59 call hs u (s.sl 2) (s.sl 5) (s.sl 7) (s.sl 87) s.m s.fc) (by intro u; exact (congrArg (fun Y => fxK Try.prog pol NN call xej Mem (x12 hs u) Y eNil fNil) (xy0 call hs u)).trans (xy1 call hs u))]; kernel_rfl
theorem xy3 (call : FCall) (hs : FHs) (u : Nat) (rec0 : AV → AV → AV → AV → Mem → Nat → Option (AV × Mem)) :
  fxK Try.prog pol NN call xeh (AV × Mem) (x12 hs u) (fun s => rec0 (s.sl 2) (s.sl 4) (s.sl 5) (s.sl 6) s.m s.fc) (setE 1 (fun s => rec0 (s.sl 2) (s.sl 4) (s.sl 5) (s.sl 6) s.m s.fc) (setE 0 xb eNil)) xb = (fun s => xap call hs u rec0 (s.sl 2) (s.sl 4) (s.sl 5) (s.sl 6) (s.sl 7) (s.sl 86) s.m s.fc) := by
  rw [show xeh = .block 4 xei from by kernel_rfl, block_r, xy2 call hs u rec0]
theorem xy4 (call : FCall) (hs : FHs) (u : Nat) (rec0 : AV → AV → AV → AV → Mem → Nat → Option (AV × Mem)) :
  fxK Try.prog pol NN call xeg (AV × Mem) (x12 hs u) (fun s => rec0 (s.sl 2) (s.sl 4) (s.sl 5) (s.sl 6) s.m s.fc) (setE 1 (fun s => rec0 (s.sl 2) (s.sl 4) (s.sl 5) (s.sl 6) s.m s.fc) (setE 0 xb eNil)) xb = (fun s => x1s call hs u rec0 (s.sl 2) (s.sl 4) (s.sl 5) (s.sl 6) (s.sl 7) s.m s.fc) := by
  rw [show xeg = .seq xxu xlz from by kernel_rfl, seq_r]; rw [show xlz = .seq xxv xm0 from by kernel_rfl, seq_r]; rw [show xm0 = .seq xxw xeh from by kernel_rfl, seq_r]; rw [xy3 call hs u rec0]; kernel_rfl
theorem xy5 (call : FCall) (hs : FHs) (u : Nat) (rec0 : AV → AV → AV → AV → Mem → Nat → Option (AV × Mem)) (rec1 : AV → AV → AV → AV → AV → AV → AV → AV → Mem → Nat → Option (AV × Mem)) :
  fxK Try.prog pol NN call xm4 (AV × Mem) (x12 hs u) (fun s => rec1 (s.sl 2) (s.sl 4) (s.sl 5) (s.sl 6) (s.sl 7) (s.sl 47) (s.sl 48) (s.sl 49) s.m s.fc) (setE 2 (fun s => x1s call hs u rec0 (s.sl 2) (s.sl 4) (s.sl 5) (s.sl 6) (s.sl 7) s.m s.fc) (setE 1 (fun s => rec0 (s.sl 2) (s.sl 4) (s.sl 5) (s.sl 6) s.m s.fc) (setE 0 xb eNil))) xb = (fun s => x4p call hs u rec0 rec1 (s.sl 2) (s.sl 4) (s.sl 5) (s.sl 6) (s.sl 7) (s.sl 47) (s.sl 48) (s.sl 49) s.m s.fc) := by
  kernel_rfl
theorem xy6 (call : FCall) (hs : FHs) (u : Nat) (rec0 : AV → AV → AV → AV → Mem → Nat → Option (AV × Mem)) (rec1 : AV → AV → AV → AV → AV → AV → AV → AV → Mem → Nat → Option (AV × Mem)) :
  fxK Try.prog pol NN call xm3 (AV × Mem) (x12 hs u) (fun s => x4p call hs u rec0 rec1 (s.sl 2) (s.sl 4) (s.sl 5) (s.sl 6) (s.sl 7) (s.sl 47) (s.sl 48) (s.sl 49) s.m s.fc) (setE 2 (fun s => x1s call hs u rec0 (s.sl 2) (s.sl 4) (s.sl 5) (s.sl 6) (s.sl 7) s.m s.fc) (setE 1 (fun s => rec0 (s.sl 2) (s.sl 4) (s.sl 5) (s.sl 6) s.m s.fc) (setE 0 xb eNil))) xb = (fun s => x96 call hs u rec0 rec1 (s.sl 2) (s.sl 4) (s.sl 5) (s.sl 6) (s.sl 7) (s.sl 47) (s.sl 48) (s.sl 49) s.m s.fc) := by
  kernel_rfl
theorem xy7 (call : FCall) (hs : FHs) (u : Nat) (rec0 : AV → AV → AV → AV → Mem → Nat → Option (AV × Mem)) (rec1 : AV → AV → AV → AV → AV → AV → AV → AV → Mem → Nat → Option (AV × Mem)) :
  fxK Try.prog pol NN call xem (AV × Mem) (x12 hs u) (fun s => rec1 (s.sl 2) (s.sl 4) (s.sl 5) (s.sl 6) (s.sl 7) (s.sl 47) (s.sl 48) (s.sl 49) s.m s.fc) (setE 2 (fun s => x1s call hs u rec0 (s.sl 2) (s.sl 4) (s.sl 5) (s.sl 6) (s.sl 7) s.m s.fc) (setE 1 (fun s => rec0 (s.sl 2) (s.sl 4) (s.sl 5) (s.sl 6) s.m s.fc) (setE 0 xb eNil))) xb = (fun s => x96 call hs u rec0 rec1 (s.sl 2) (s.sl 4) (s.sl 5) (s.sl 6) (s.sl 7) (s.sl 47) (s.sl 48) (s.sl 49) s.m s.fc) := by
  rw [show xem = .seq xm3 xm4 from by kernel_rfl, seq_r, xy5 call hs u rec0 rec1, xy6 call hs u rec0 rec1]
theorem xy8 (call : FCall) (hs : FHs) (u : Nat) (rec0 : AV → AV → AV → AV → Mem → Nat → Option (AV × Mem)) (rec1 : AV → AV → AV → AV → AV → AV → AV → AV → Mem → Nat → Option (AV × Mem)) :
  fxK Try.prog pol NN call xb4 (AV × Mem) (x12 hs u) (fun s => rec1 (s.sl 2) (s.sl 4) (s.sl 5) (s.sl 6) (s.sl 7) (s.sl 47) (s.sl 48) (s.sl 49) s.m s.fc) (setE 2 (fun s => x1s call hs u rec0 (s.sl 2) (s.sl 4) (s.sl 5) (s.sl 6) (s.sl 7) s.m s.fc) (setE 1 (fun s => rec0 (s.sl 2) (s.sl 4) (s.sl 5) (s.sl 6) s.m s.fc) (setE 0 xb eNil))) xb = (fun s => x97 call hs u rec0 rec1 (s.sl 2) (s.sl 4) (s.sl 5) (s.sl 6) (s.sl 7) (s.sl 47) (s.sl 48) (s.sl 49) s.m s.fc) := by
  rw [show xb4 = .seq xxy xm2 from by kernel_rfl, seq_r]; rw [show xm2 = .seq xxz xem from by kernel_rfl, seq_r]; rw [xy7 call hs u rec0 rec1]; kernel_rfl
theorem xm5 (call : FCall) (hs : FHs) (u : Nat) (rec0 : AV → AV → AV → AV → Mem → Nat → Option (AV × Mem)) : ∀ n : Nat,
  iter (fun rec => fxK Try.prog pol NN call xb4 (AV × Mem) (x12 hs u) rec (setE 2 (fun s => x1s call hs u rec0 (s.sl 2) (s.sl 4) (s.sl 5) (s.sl 6) (s.sl 7) s.m s.fc) (setE 1 (fun s => rec0 (s.sl 2) (s.sl 4) (s.sl 5) (s.sl 6) s.m s.fc) (setE 0 xb eNil))) xb) n = (fun s => x3t call hs u rec0 n (s.sl 2) (s.sl 4) (s.sl 5) (s.sl 6) (s.sl 7) (s.sl 47) (s.sl 48) (s.sl 49) s.m s.fc)
  | 0 => rfl
  | n + 1 => by rw [iter_succ, xm5 call hs u rec0 n, xy8 call hs u rec0 (x3t call hs u rec0 n)]; kernel_rfl
theorem xy9 (call : FCall) (hs : FHs) (u : Nat) (rec0 : AV → AV → AV → AV → Mem → Nat → Option (AV × Mem)) :
  fxK Try.prog pol NN call xel (AV × Mem) (x12 hs u) (fun s => x1s call hs u rec0 (s.sl 2) (s.sl 4) (s.sl 5) (s.sl 6) (s.sl 7) s.m s.fc) (setE 2 (fun s => x1s call hs u rec0 (s.sl 2) (s.sl 4) (s.sl 5) (s.sl 6) (s.sl 7) s.m s.fc) (setE 1 (fun s => rec0 (s.sl 2) (s.sl 4) (s.sl 5) (s.sl 6) s.m s.fc) (setE 0 xb eNil))) xb = (fun s => x3t call hs u rec0 NN (s.sl 2) (s.sl 4) (s.sl 5) (s.sl 6) (s.sl 7) (s.sl 47) (s.sl 48) (s.sl 49) s.m s.fc) := by
  rw [show xel = .loop xb4 from by kernel_rfl, loop_r, xm5 call hs u rec0 NN]
theorem xya (call : FCall) (hs : FHs) (u : Nat) (rec0 : AV → AV → AV → AV → Mem → Nat → Option (AV × Mem)) :
  fxK Try.prog pol NN call xek (AV × Mem) (x12 hs u) (fun s => x1s call hs u rec0 (s.sl 2) (s.sl 4) (s.sl 5) (s.sl 6) (s.sl 7) s.m s.fc) (setE 1 (fun s => rec0 (s.sl 2) (s.sl 4) (s.sl 5) (s.sl 6) s.m s.fc) (setE 0 xb eNil)) xb = (fun s => x3t call hs u rec0 NN (s.sl 2) (s.sl 4) (s.sl 5) (s.sl 6) (s.sl 7) (s.sl 47) (s.sl 48) (s.sl 49) s.m s.fc) := by
  rw [show xek = .block 2 xel from by kernel_rfl, block_r, xy9 call hs u rec0]
theorem xyb (call : FCall) (hs : FHs) (u : Nat) (rec0 : AV → AV → AV → AV → Mem → Nat → Option (AV × Mem)) :
  fxK Try.prog pol NN call xef (AV × Mem) (x12 hs u) (fun s => x1s call hs u rec0 (s.sl 2) (s.sl 4) (s.sl 5) (s.sl 6) (s.sl 7) s.m s.fc) (setE 1 (fun s => rec0 (s.sl 2) (s.sl 4) (s.sl 5) (s.sl 6) s.m s.fc) (setE 0 xb eNil)) xb = (fun s => xaq call hs u rec0 (s.sl 2) (s.sl 4) (s.sl 5) (s.sl 6) (s.sl 7) s.m s.fc) := by
  rw [show xef = .seq xxx xek from by kernel_rfl, seq_r]; rw [xya call hs u rec0]; kernel_rfl
theorem xyc (call : FCall) (hs : FHs) (u : Nat) (rec0 : AV → AV → AV → AV → Mem → Nat → Option (AV × Mem)) :
  fxK Try.prog pol NN call xee (AV × Mem) (x12 hs u) (fun s => rec0 (s.sl 2) (s.sl 4) (s.sl 5) (s.sl 6) s.m s.fc) (setE 1 (fun s => rec0 (s.sl 2) (s.sl 4) (s.sl 5) (s.sl 6) s.m s.fc) (setE 0 xb eNil)) xb = (fun s => xaq call hs u rec0 (s.sl 2) (s.sl 4) (s.sl 5) (s.sl 6) (s.sl 7) s.m s.fc) := by
  rw [show xee = .seq xef xeg from by kernel_rfl, seq_r, xy4 call hs u rec0, xyb call hs u rec0]
theorem xyd (call : FCall) (hs : FHs) (u : Nat) (rec0 : AV → AV → AV → AV → Mem → Nat → Option (AV × Mem)) :
  fxK Try.prog pol NN call xed (AV × Mem) (x12 hs u) (fun s => rec0 (s.sl 2) (s.sl 4) (s.sl 5) (s.sl 6) s.m s.fc) (setE 1 (fun s => rec0 (s.sl 2) (s.sl 4) (s.sl 5) (s.sl 6) s.m s.fc) (setE 0 xb eNil)) xb = (fun s => xar call hs u rec0 (s.sl 2) (s.sl 4) (s.sl 5) (s.sl 6) s.m s.fc) := by
  rw [show xed = .seq xxt xee from by kernel_rfl, seq_r]; rw [xyc call hs u rec0]; kernel_rfl
theorem xye (call : FCall) (hs : FHs) (u : Nat) (rec0 : AV → AV → AV → AV → Mem → Nat → Option (AV × Mem)) :
  fxK Try.prog pol NN call xb3 (AV × Mem) (x12 hs u) (fun s => rec0 (s.sl 2) (s.sl 4) (s.sl 5) (s.sl 6) s.m s.fc) (setE 0 xb eNil) xb = (fun s => xar call hs u rec0 (s.sl 2) (s.sl 4) (s.sl 5) (s.sl 6) s.m s.fc) := by
  rw [show xb3 = .block 1 xed from by kernel_rfl, block_r, xyd call hs u rec0]
theorem xm6 (call : FCall) (hs : FHs) (u : Nat) : ∀ n : Nat,
  iter (fun rec => fxK Try.prog pol NN call xb3 (AV × Mem) (x12 hs u) rec (setE 0 xb eNil) xb) n = (fun s => x2i call hs u n (s.sl 2) (s.sl 4) (s.sl 5) (s.sl 6) s.m s.fc)
  | 0 => rfl
  | n + 1 => by rw [iter_succ, xm6 call hs u n, xye call hs u (x2i call hs u n)]; kernel_rfl
theorem xyf (call : FCall) (hs : FHs) (u : Nat) :
  fxK Try.prog pol NN call xec (AV × Mem) (x12 hs u) xb (setE 0 xb eNil) xb = (fun s => x2i call hs u NN (s.sl 2) (s.sl 4) (s.sl 5) (s.sl 6) s.m s.fc) := by
  rw [show xec = .loop xb3 from by kernel_rfl, loop_r, xm6 call hs u NN]
theorem xyg (call : FCall) (hs : FHs) (u : Nat) :
  fxK Try.prog pol NN call xeb (AV × Mem) (x12 hs u) xb eNil xb = (fun s => x2i call hs u NN (s.sl 2) (s.sl 4) (s.sl 5) (s.sl 6) s.m s.fc) := by
  rw [show xeb = .block 0 xec from by kernel_rfl, block_r, xyf call hs u]
theorem xyh (call : FCall) (hs : FHs) (u : Nat) :
  fxK Try.prog pol NN call xea (AV × Mem) (x12 hs u) xb eNil xb = (fun s => xcv call hs u (s.sl 0) (s.sl 1) s.m s.fc) := by
  rw [show xea = .seq xxp xlw from by kernel_rfl, seq_r]; rw [show xlw = .seq xxq xlx from by kernel_rfl, seq_r]; rw [show xlx = .seq xxr xly from by kernel_rfl, seq_r]; rw [show xly = .seq xxs xeb from by kernel_rfl, seq_r]; rw [xyg call hs u]; kernel_rfl
theorem xyi (call : FCall) (hs : FHs) (t0 t1 : AV) (m : Mem) : fxBody Try.prog pol NN call hs x7 [t0, t1] m = x6c call hs [t0, t1] m := by
  rw [fxBody_at (fn := Try.f115) (body := xea) (nt := 139) (rs := [.cell 4 xd5]) (by kernel_rfl) (by kernel_rfl) (by kernel_rfl) (by kernel_rfl) (by kernel_rfl) (by kernel_rfl)]
  exact (congrFun (xyh call hs m.next) _).trans (by kernel_rfl)
theorem xtd (call : FCall) (hs : FHs) (args : List AV) (m : Mem) (r : AV × Mem) (h : x6c call hs args m = some r) : fxBody Try.prog pol NN call hs x7 args m = some r := by
  unfold x6c at h
  split at h
  · rw [xyi]; exact h
  · cases h

abbrev x5b (hs : FHs) (u : Nat) : FCtx := { f := x1k, u := u, nt := 53, hs := hs }
noncomputable abbrev x1m : Fs → Option (AV × Mem) := fxRes Try.prog []
noncomputable def xen : Code := nav (bodyOf x1k) []
noncomputable def xyj : Code := nav (bodyOf x1k) [false]
noncomputable def xeo : Code := nav (bodyOf x1k) [true]
noncomputable def xep : Code := nav (bodyOf x1k) [true, false]
noncomputable def xb5 : Code := nav (bodyOf x1k) [true, false, false]
noncomputable def xyk : Code := nav (bodyOf x1k) [true, false, false, false]
noncomputable def xm7 : Code := nav (bodyOf x1k) [true, false, false, true]
noncomputable def xyl : Code := nav (bodyOf x1k) [true, false, false, true, false]
noncomputable def xeq : Code := nav (bodyOf x1k) [true, false, false, true, true]
noncomputable def xm8 : Code := nav (bodyOf x1k) [true, false, false, true, true, false]
noncomputable def xm9 : Code := nav (bodyOf x1k) [true, false, false, true, true, true]
theorem xym (call : FCall) (hs : FHs) (u : Nat) (rec0 : AV → AV → AV → AV → AV → Mem → Nat → Option (AV × Mem)) :
  fxK Try.prog pol NN call xm9 (AV × Mem) (x5b hs u) (fun s => rec0 (s.sl 0) (s.sl 1) (s.sl 3) (s.sl 9) (s.sl 10) s.m s.fc) (setE 0 x1m eNil) x1m = (fun s => xas call hs u rec0 (s.sl 0) (s.sl 1) (s.sl 3) (s.sl 9) (s.sl 10) s.m s.fc) := by
  kernel_rfl
theorem xyn (call : FCall) (hs : FHs) (u : Nat) (rec0 : AV → AV → AV → AV → AV → Mem → Nat → Option (AV × Mem)) :
  fxK Try.prog pol NN call xm8 (AV × Mem) (x5b hs u) (fun s => xas call hs u rec0 (s.sl 0) (s.sl 1) (s.sl 3) (s.sl 9) (s.sl 10) s.m s.fc) (setE 0 x1m eNil) x1m = (fun s => xcw call hs u rec0 (s.sl 0) (s.sl 1) (s.sl 3) (s.sl 9) (s.sl 10) s.m s.fc) := by
  kernel_rfl
theorem xyo (call : FCall) (hs : FHs) (u : Nat) (rec0 : AV → AV → AV → AV → AV → Mem → Nat → Option (AV × Mem)) :
  fxK Try.prog pol NN call xeq (AV × Mem) (x5b hs u) (fun s => rec0 (s.sl 0) (s.sl 1) (s.sl 3) (s.sl 9) (s.sl 10) s.m s.fc) (setE 0 x1m eNil) x1m = (fun s => xcw call hs u rec0 (s.sl 0) (s.sl 1) (s.sl 3) (s.sl 9) (s.sl 10) s.m s.fc) := by
  rw [show xeq = .seq xm8 xm9 from by kernel_rfl, seq_r, xym call hs u rec0, xyn call hs u rec0]
theorem xyp (call : FCall) (hs : FHs) (u : Nat) (rec0 : AV → AV → AV → AV → AV → Mem → Nat → Option (AV × Mem)) :
  fxK Try.prog pol NN call xb5 (AV × Mem) (x5b hs u) (fun s => rec0 (s.sl 0) (s.sl 1) (s.sl 3) (s.sl 9) (s.sl 10) s.m s.fc) (setE 0 x1m eNil) x1m = (fun s => xkr call hs u rec0 (s.sl 0) (s.sl 1) (s.sl 3) (s.sl 9) (s.sl 10) s.m s.fc) := by
  rw [show xb5 = .seq xyk xm7 from by kernel_rfl, seq_r]; rw [show xm7 = .seq xyl xeq from by kernel_rfl, seq_r]; rw [xyo call hs u rec0]; kernel_rfl
theorem xma (call : FCall) (hs : FHs) (u : Nat) : ∀ n : Nat,
  iter (fun rec => fxK Try.prog pol NN call xb5 (AV × Mem) (x5b hs u) rec (setE 0 x1m eNil) x1m) n = (fun s => x7p call hs u n (s.sl 0) (s.sl 1) (s.sl 3) (s.sl 9) (s.sl 10) s.m s.fc)
  | 0 => rfl
  | n + 1 => by rw [iter_succ, xma call hs u n, xyp call hs u (x7p call hs u n)]; kernel_rfl
theorem xyq (call : FCall) (hs : FHs) (u : Nat) :
  fxK Try.prog pol NN call xep (AV × Mem) (x5b hs u) x1m (setE 0 x1m eNil) x1m = (fun s => x7p call hs u NN (s.sl 0) (s.sl 1) (s.sl 3) (s.sl 9) (s.sl 10) s.m s.fc) := by
  rw [show xep = .loop xb5 from by kernel_rfl, loop_r, xma call hs u NN]
theorem xyr (call : FCall) (hs : FHs) (u : Nat) :
  fxK Try.prog pol NN call xeo (AV × Mem) (x5b hs u) x1m eNil x1m = (fun s => x7p call hs u NN (s.sl 0) (s.sl 1) (s.sl 3) (s.sl 9) (s.sl 10) s.m s.fc) := by
  rw [show xeo = .block 0 xep from by kernel_rfl, block_r, xyq call hs u]
theorem xys (call : FCall) (hs : FHs) (u : Nat) :
  fxK Try.prog pol NN call xen (AV × Mem) (x5b hs u) x1m eNil x1m = (fun s => xks call hs u (s.sl 0) (s.sl 1) (s.sl 2) (s.sl 3) s.m s.fc) := by
  rw [show xen = .seq xyj xeo from by kernel_rfl, seq_r]; rw [xyr call hs u]; kernel_rfl
theorem xyt (call : FCall) (hs : FHs) (t0 t1 t2 t3 : AV) (m : Mem) : fxBody Try.prog pol NN call hs x1k [t0, t1, t2, t3] m = x7y call hs [t0, t1, t2, t3] m := by
  rw [fxBody_at (fn := Try.f116) (body := xen) (nt := 53) (rs := []) (by kernel_rfl) (by kernel_rfl) (by kernel_rfl) (by kernel_rfl) (by kernel_rfl) (by kernel_rfl)]
  exact (congrFun (xys call hs m.next) _).trans (by kernel_rfl)
theorem xth (call : FCall) (hs : FHs) (args : List AV) (m : Mem) (r : AV × Mem) (h : x7y call hs args m = some r) : fxBody Try.prog pol NN call hs x1k args m = some r := by
  unfold x7y at h
  split at h
  · rw [xyt]; exact h
  · cases h

abbrev xyu (hs : FHs) (u : Nat) : FCtx := { f := x2q, u := u, nt := 5, hs := hs }
noncomputable abbrev xmb : Fs → Option (AV × Mem) := fxRes Try.prog [.tmp 2]
noncomputable def xmc : Code := nav (bodyOf x2q) []
theorem xyv (call : FCall) (hs : FHs) (u : Nat) :
  fxK Try.prog pol NN call xmc (AV × Mem) (xyu hs u) xmb eNil xmb = (fun s => xcx call hs u (s.sl 0) s.m s.fc) := by
  kernel_rfl
theorem xyw (call : FCall) (hs : FHs) (t0 : AV) (m : Mem) : fxBody Try.prog pol NN call hs x2q [t0] m = x76 call hs [t0] m := by
  rw [fxBody_at (fn := Try.f118) (body := xmc) (nt := 5) (rs := [.tmp 2]) (by kernel_rfl) (by kernel_rfl) (by kernel_rfl) (by kernel_rfl) (by kernel_rfl) (by kernel_rfl)]
  exact (congrFun (xyv call hs m.next) _).trans (by kernel_rfl)
theorem xv3 (call : FCall) (hs : FHs) (args : List AV) (m : Mem) (r : AV × Mem) (h : x76 call hs args m = some r) : fxBody Try.prog pol NN call hs x2q args m = some r := by
  unfold x76 at h
  split at h
  · rw [xyw]; exact h
  · cases h

abbrev x1u (hs : FHs) (u : Nat) : FCtx := { f := xf, u := u, nt := 55, hs := hs }
noncomputable abbrev xe : Fs → Option (AV × Mem) := fxRes Try.prog []
noncomputable def xer : Code := nav (bodyOf xf) []
noncomputable def xyx : Code := nav (bodyOf xf) [false]
noncomputable def xmd : Code := nav (bodyOf xf) [true]
noncomputable def xyy : Code := nav (bodyOf xf) [true, false]
noncomputable def xes : Code := nav (bodyOf xf) [true, true]
noncomputable def xet : Code := nav (bodyOf xf) [true, true, false]
noncomputable def xb6 : Code := nav (bodyOf xf) [true, true, false, false]
noncomputable def xyz : Code := nav (bodyOf xf) [true, true, false, false, false]
noncomputable def xme : Code := nav (bodyOf xf) [true, true, false, false, true]
noncomputable def xz0 : Code := nav (bodyOf xf) [true, true, false, false, true, false]
noncomputable def xeu : Code := nav (bodyOf xf) [true, true, false, false, true, true]
noncomputable def xev : Code := nav (bodyOf xf) [true, true, false, false, true, true, false]
noncomputable def xmf : Code := nav (bodyOf xf) [true, true, false, false, true, true, true]
noncomputable def xew : Code := nav (bodyOf xf) [true, true, false, false, true, true, false, false]
noncomputable def xz1 : Code := nav (bodyOf xf) [true, true, false, false, true, true, false, false, false]
noncomputable def xmg : Code := nav (bodyOf xf) [true, true, false, false, true, true, false, false, true]
noncomputable def xz2 : Code := nav (bodyOf xf) [true, true, false, false, true, true, false, false, true, false]
noncomputable def xex : Code := nav (bodyOf xf) [true, true, false, false, true, true, false, false, true, true]
noncomputable def xey : Code := nav (bodyOf xf) [true, true, false, false, true, true, false, false, true, true, false]
noncomputable def xb7 : Code := nav (bodyOf xf) [true, true, false, false, true, true, false, false, true, true, false, false]
noncomputable def xz3 : Code := nav (bodyOf xf) [true, true, false, false, true, true, false, false, true, true, false, false, false]
noncomputable def xmh : Code := nav (bodyOf xf) [true, true, false, false, true, true, false, false, true, true, false, false, true]
noncomputable def xz4 : Code := nav (bodyOf xf) [true, true, false, false, true, true, false, false, true, true, false, false, true, false]
noncomputable def xez : Code := nav (bodyOf xf) [true, true, false, false, true, true, false, false, true, true, false, false, true, true]
noncomputable def xmi : Code := nav (bodyOf xf) [true, true, false, false, true, true, false, false, true, true, false, false, true, true, false]
noncomputable def xmj : Code := nav (bodyOf xf) [true, true, false, false, true, true, false, false, true, true, false, false, true, true, true]
theorem xz5 (call : FCall) (hs : FHs) (u : Nat) (rec0 : AV → AV → AV → AV → AV → AV → Mem → Nat → Option (AV × Mem)) :
  fxK Try.prog pol NN call xmf (AV × Mem) (x1u hs u) (fun s => rec0 (s.sl 0) (s.sl 1) (s.sl 2) (s.sl 4) (s.sl 9) (s.sl 10) s.m s.fc) (setE 0 xe eNil) xe = (fun s => x15 call hs u rec0 (s.sl 0) (s.sl 1) (s.sl 2) (s.sl 4) (s.sl 9) (s.sl 10) s.m s.fc) := by
  kernel_rfl
theorem xz6 (call : FCall) (hs : FHs) (u : Nat) (rec0 : AV → AV → AV → AV → AV → AV → Mem → Nat → Option (AV × Mem)) (rec1 : AV → AV → AV → AV → AV → AV → AV → AV → AV → AV → Mem → Nat → Option (AV × Mem)) :
  fxK Try.prog pol NN call xmj (AV × Mem) (x1u hs u) (fun s => rec1 (s.sl 0) (s.sl 1) (s.sl 2) (s.sl 4) (s.sl 5) (s.sl 6) (s.sl 9) (s.sl 10) (s.sl 16) (s.sl 17) s.m s.fc) (setE 2 (fun s => x15 call hs u rec0 (s.sl 0) (s.sl 1) (s.sl 2) (s.sl 4) (s.sl 9) (s.sl 10) s.m s.fc) (setE 1 (fun s => x15 call hs u rec0 (s.sl 0) (s.sl 1) (s.sl 2) (s.sl 4) (s.sl 9) (s.sl 10) s.m s.fc) (setE 0 xe eNil))) xe = (fun s => xat call hs u rec0 rec1 (s.sl 0) (s.sl 1) (s.sl 2) (s.sl 4) (s.sl 5) (s.sl 6) (s.sl 9) (s.sl 10) (s.sl 16) (s.sl 17) s.m s.fc) := by
  kernel_rfl
theorem xz7 (call : FCall) (hs : FHs) (u : Nat) (rec0 : AV → AV → AV → AV → AV → AV → Mem → Nat → Option (AV × Mem)) (rec1 : AV → AV → AV → AV → AV → AV → AV → AV → AV → AV → Mem → Nat → Option (AV × Mem)) :
  fxK Try.prog pol NN call xmi (AV × Mem) (x1u hs u) (fun s => xat call hs u rec0 rec1 (s.sl 0) (s.sl 1) (s.sl 2) (s.sl 4) (s.sl 5) (s.sl 6) (s.sl 9) (s.sl 10) (s.sl 16) (s.sl 17) s.m s.fc) (setE 2 (fun s => x15 call hs u rec0 (s.sl 0) (s.sl 1) (s.sl 2) (s.sl 4) (s.sl 9) (s.sl 10) s.m s.fc) (setE 1 (fun s => x15 call hs u rec0 (s.sl 0) (s.sl 1) (s.sl 2) (s.sl 4) (s.sl 9) (s.sl 10) s.m s.fc) (setE 0 xe eNil))) xe = (fun s => xcy call hs u rec0 rec1 (s.sl 0) (s.sl 1) (s.sl 2) (s.sl 4) (s.sl 5) (s.sl 6) (s.sl 9) (s.sl 10) (s.sl 16) (s.sl 17) s.m s.fc) := by
  kernel_rfl
theorem xz8 (call : FCall) (hs : FHs) (u : Nat) (rec0 : AV → AV → AV → AV → AV → AV → Mem → Nat → Option (AV × Mem)) (rec1 : AV → AV → AV → AV → AV → AV → AV → AV → AV → AV → Mem → Nat → Option (AV × Mem)) :
  fxK Try.prog pol NN call xez (AV × Mem) (x1u hs u) (fun s => rec1 (s.sl 0) (s.sl 1) (s.sl 2) (s.sl 4) (s.sl 5) (s.sl 6) (s.sl 9) (s.sl 10) (s.sl 16) (s.sl 17) s.m s.fc) (setE 2 (fun s => x15 call hs u rec0 (s.sl 0) (s.sl 1) (s.sl 2) (s.sl 4) (s.sl 9) (s.sl 10) s.m s.fc) (setE 1 (fun s => x15 call hs u rec0 (s.sl 0) (s.sl 1) (s.sl 2) (s.sl 4) (s.sl 9) (s.sl 10) s.m s.fc) (setE 0 xe eNil))) xe = (fun s => xcy call hs u rec0 rec1 (s.sl 0) (s.sl 1) (s.sl 2) (s.sl 4) (s.sl 5) (s.sl 6) (s.sl 9) (s.sl 10) (s.sl 16) (s.sl 17) s.m s.fc) := by
  rw [show xez = .seq xmi xmj from by kernel_rfl, seq_r, xz6 call hs u rec0 rec1, xz7 call hs u rec0 rec1]
theorem xz9 (call : FCall) (hs : FHs) (u : Nat) (rec0 : AV → AV → AV → AV → AV → AV → Mem → Nat → Option (AV × Mem)) (rec1 : AV → AV → AV → AV → AV → AV → AV → AV → AV → AV → Mem → Nat → Option (AV × Mem)) :
  fxK Try.prog pol NN call xb7 (AV × Mem) (x1u hs u) (fun s => rec1 (s.sl 0) (s.sl 1) (s.sl 2) (s.sl 4) (s.sl 5) (s.sl 6) (s.sl 9) (s.sl 10) (s.sl 16) (s.sl 17) s.m s.fc) (setE 2 (fun s => x15 call hs u rec0 (s.sl 0) (s.sl 1) (s.sl 2) (s.sl 4) (s.sl 9) (s.sl 10) s.m s.fc) (setE 1 (fun s => x15 call hs u rec0 (s.sl 0) (s.sl 1) (s.sl 2) (s.sl 4) (s.sl 9) (s.sl 10) s.m s.fc) (setE 0 xe eNil))) xe = (fun s => xkt call hs u rec0 rec1 (s.sl 0) (s.sl 1) (s.sl 2) (s.sl 4) (s.sl 5) (s.sl 6) (s.sl 9) (s.sl 10) (s.sl 16) (s.sl 17) s.m s.fc) := by
  rw [show xb7 = .seq xz3 xmh from by kernel_rfl, seq_r]; rw [show xmh = .seq xz4 xez from by kernel_rfl, seq_r]; rw [xz8 call hs u rec0 rec1]; kernel_rfl
theorem xmk (call : FCall) (hs : FHs) (u : Nat) (rec0 : AV → AV → AV → AV → AV → AV → Mem → Nat → Option (AV × Mem)) : ∀ n : Nat,
  iter (fun rec => fxK Try.prog pol NN call xb7 (AV × Mem) (x1u hs u) rec (setE 2 (fun s => x15 call hs u rec0 (s.sl 0) (s.sl 1) (s.sl 2) (s.sl 4) (s.sl 9) (s.sl 10) s.m s.fc) (setE 1 (fun s => x15 call hs u rec0 (s.sl 0) (s.sl 1) (s.sl 2) (s.sl 4) (s.sl 9) (s.sl 10) s.m s.fc) (setE 0 xe eNil))) xe) n = (fun s => x7q call hs u rec0 n (s.sl 0) (s.sl 1) (s.sl 2) (s.sl 4) (s.sl 5) (s.sl 6) (s.sl 9) (s.sl 10) (s.sl 16) (s.sl 17) s.m s.fc)
  | 0 => rfl
  | n + 1 => by rw [iter_succ, xmk call hs u rec0 n, xz9 call hs u rec0 (x7q call hs u rec0 n)]; kernel_rfl
theorem xza (call : FCall) (hs : FHs) (u : Nat) (rec0 : AV → AV → AV → AV → AV → AV → Mem → Nat → Option (AV × Mem)) :
  fxK Try.prog pol NN call xey (AV × Mem) (x1u hs u) (fun s => x15 call hs u rec0 (s.sl 0) (s.sl 1) (s.sl 2) (s.sl 4) (s.sl 9) (s.sl 10) s.m s.fc) (setE 2 (fun s => x15 call hs u rec0 (s.sl 0) (s.sl 1) (s.sl 2) (s.sl 4) (s.sl 9) (s.sl 10) s.m s.fc) (setE 1 (fun s => x15 call hs u rec0 (s.sl 0) (s.sl 1) (s.sl 2) (s.sl 4) (s.sl 9) (s.sl 10) s.m s.fc) (setE 0 xe eNil))) xe = (fun s => x7q call hs u rec0 NN (s.sl 0) (s.sl 1) (s.sl 2) (s.sl 4) (s.sl 5) (s.sl 6) (s.sl 9) (s.sl 10) (s.sl 16) (s.sl 17) s.m s.fc) := by
  rw [show xey = .loop xb7 from by kernel_rfl, loop_r, xmk call hs u rec0 NN]
theorem xzb (call : FCall) (hs : FHs) (u : Nat) (rec0 : AV → AV → AV → AV → AV → AV → Mem → Nat → Option (AV × Mem)) :
  fxK Try.prog pol NN call xex (AV × Mem) (x1u hs u) (fun s => x15 call hs u rec0 (s.sl 0) (s.sl 1) (s.sl 2) (s.sl 4) (s.sl 9) (s.sl 10) s.m s.fc) (setE 1 (fun s => x15 call hs u rec0 (s.sl 0) (s.sl 1) (s.sl 2) (s.sl 4) (s.sl 9) (s.sl 10) s.m s.fc) (setE 0 xe eNil)) xe = (fun s => x7q call hs u rec0 NN (s.sl 0) (s.sl 1) (s.sl 2) (s.sl 4) (s.sl 5) (s.sl 6) (s.sl 9) (s.sl 10) (s.sl 16) (s.sl 17) s.m s.fc) := by
  rw [show xex = .block 2 xey from by kernel_rfl, block_r, xza call hs u rec0]
theorem xzc (call : FCall) (hs : FHs) (u : Nat) (rec0 : AV → AV → AV → AV → AV → AV → Mem → Nat → Option (AV × Mem)) :
  fxK Try.prog pol NN call xew (AV × Mem) (x1u hs u) (fun s => x15 call hs u rec0 (s.sl 0) (s.sl 1) (s.sl 2) (s.sl 4) (s.sl 9) (s.sl 10) s.m s.fc) (setE 1 (fun s => x15 call hs u rec0 (s.sl 0) (s.sl 1) (s.sl 2) (s.sl 4) (s.sl 9) (s.sl 10) s.m s.fc) (setE 0 xe eNil)) xe = (fun s => xau call hs u rec0 (s.sl 0) (s.sl 1) (s.sl 2) (s.sl 4) (s.sl 9) (s.sl 10) s.m s.fc) := by
  rw [show xew = .seq xz1 xmg from by kernel_rfl, seq_r]; rw [show xmg = .seq xz2 xex from by kernel_rfl, seq_r]; rw [xzb call hs u rec0]; kernel_rfl
theorem xzd (call : FCall) (hs : FHs) (u : Nat) (rec0 : AV → AV → AV → AV → AV → AV → Mem → Nat → Option (AV × Mem)) :
  fxK Try.prog pol NN call xev (AV × Mem) (x1u hs u) (fun s => x15 call hs u rec0 (s.sl 0) (s.sl 1) (s.sl 2) (s.sl 4) (s.sl 9) (s.sl 10) s.m s.fc) (setE 0 xe eNil) xe = (fun s => xau call hs u rec0 (s.sl 0) (s.sl 1) (s.sl 2) (s.sl 4) (s.sl 9) (s.sl 10) s.m s.fc) := by
  rw [show xev = .block 1 xew from by kernel_rfl, block_r, xzc call hs u rec0]
theorem xze (call : FCall) (hs : FHs) (u : Nat) (rec0 : AV → AV → AV → AV → AV → AV → Mem → Nat → Option (AV × Mem)) :
  fxK Try.prog pol NN call xeu (AV × Mem) (x1u hs u) (fun s => rec0 (s.sl 0) (s.sl 1) (s.sl 2) (s.sl 4) (s.sl 9) (s.sl 10) s.m s.fc) (setE 0 xe eNil) xe = (fun s => xau call hs u rec0 (s.sl 0) (s.sl 1) (s.sl 2) (s.sl 4) (s.sl 9) (s.sl 10) s.m s.fc) := by
  rw [show xeu = .seq xev xmf from by kernel_rfl, seq_r, xz5 call hs u rec0, xzd call hs u rec0]
theorem xzf (call : FCall) (hs : FHs) (u : Nat) (rec0 : AV → AV → AV → AV → AV → AV → Mem → Nat → Option (AV × Mem)) :
  fxK Try.prog pol NN call xb6 (AV × Mem) (x1u hs u) (fun s => rec0 (s.sl 0) (s.sl 1) (s.sl 2) (s.sl 4) (s.sl 9) (s.sl 10) s.m s.fc) (setE 0 xe eNil) xe = (fun s => xkv call hs u rec0 (s.sl 0) (s.sl 1) (s.sl 2) (s.sl 4) (s.sl 9) (s.sl 10) s.m s.fc) := by
  rw [show xb6 = .seq xyz xme from by kernel_rfl, seq_r]; rw [show xme = .seq xz0 xeu from by kernel_rfl, seq_r]; rw [xze call hs u rec0]; kernel_rfl
theorem xml (call : FCall) (hs : FHs) (u : Nat) : ∀ n : Nat,
  iter (fun rec => fxK Try.prog pol NN call xb6 (AV × Mem) (x1u hs u) rec (setE 0 xe eNil) xe) n = (fun s => x7r call hs u n (s.sl 0) (s.sl 1) (s.sl 2) (s.sl 4) (s.sl 9) (s.sl 10) s.m s.fc)
  | 0 => rfl
  | n + 1 => by rw [iter_succ, xml call hs u n, xzf call hs u (x7r call hs u n)]; kernel_rfl
theorem xzg (call : FCall) (hs : FHs) (u : Nat) :
  fxK Try.prog pol NN call xet (AV × Mem) (x1u hs u) xe (setE 0 xe eNil) xe = (fun s => x7r call hs u NN (s.sl 0) (s.sl 1) (s.sl 2) (s.sl 4) (s.sl 9) (s.sl 10) s.m s.fc) := by
  rw [show xet = .loop xb6 from by kernel_rfl, loop_r, xml call hs u NN]
theorem xzh (call : FCall) (hs : FHs) (u : Nat) :
  fxK Try.prog pol NN call xes (AV × Mem) (x1u hs u) xe eNil xe = (fun s => x7r call hs u NN (s.sl 0) (s.sl 1) (s.sl 2) (s.sl 4) (s.sl 9) (s.sl 10) s.m s.fc) := by
  rw [show xes = .block 0 xet from by kernel_rfl, block_r, xzg call hs u]
theorem xzi (call : FCall) (hs : FHs) (u : Nat) :
  fxK Try.prog pol NN call xer (AV × Mem) (x1u hs u) xe eNil xe = (fun s => xkw call hs u (s.sl 0) (s.sl 1) (s.sl 2) s.m s.fc) := by
  rw [show xer = .seq xyx xmd from by kernel_rfl, seq_r]; rw [show xmd = .seq xyy xes from by kernel_rfl, seq_r]; rw [xzh call hs u]; kernel_rfl
theorem xzj (call : FCall) (hs : FHs) (t0 t1 t2 : AV) (m : Mem) : fxBody Try.prog pol NN call hs xf [t0, t1, t2] m = x8m call hs [t0, t1, t2] m := by
  rw [fxBody_at (fn := Try.f120) (body := xer) (nt := 55) (rs := []) (by kernel_rfl) (by kernel_rfl) (by kernel_rfl) (by kernel_rfl) (by kernel_rfl) (by kernel_rfl)]
  exact (congrFun (xzi call hs m.next) _).trans (by kernel_rfl)
theorem xv4 (call : FCall) (hs : FHs) (args : List AV) (m : Mem) (r : AV × Mem) (h : x8m call hs args m = some r) : fxBody Try.prog pol NN call hs xf args m = some r := by
  unfold x8m at h
  split at h
  · rw [xzj]; exact h
  · cases h

abbrev x2b (hs : FHs) (u : Nat) : FCtx := { f := xk, u := u, nt := 48, hs := hs }
noncomputable abbrev x16 : Fs → Option (AV × Mem) := fxRes Try.prog [.tmp 4]
noncomputable def xf0 : Code := nav (bodyOf xk) []
noncomputable def xzk : Code := nav (bodyOf xk) [false]
noncomputable def xf1 : Code := nav (bodyOf xk) [true]
noncomputable def xmm : Code := nav (bodyOf xk) [true, false]
noncomputable def xf2 : Code := nav (bodyOf xk) [true, true]
noncomputable def xzl : Code := nav (bodyOf xk) [true, true, false]
noncomputable def xf3 : Code := nav (bodyOf xk) [true, true, true]
noncomputable def xmn : Code := nav (bodyOf xk) [true, true, true, false]
noncomputable def xf4 : Code := nav (bodyOf xk) [true, true, true, true]
noncomputable def xzm : Code := nav (bodyOf xk) [true, true, true, true, false]
noncomputable def xmo : Code := nav (bodyOf xk) [true, true, true, true, true]
noncomputable def xzn : Code := nav (bodyOf xk) [true, true, true, true, true, false]
noncomputable def xf5 : Code := nav (bodyOf xk) [true, true, true, true, true, true]
noncomputable def xf6 : Code := nav (bodyOf xk) [true, true, true, true, true, true, false]
noncomputable def xmp : Code := nav (bodyOf xk) [true, true, true, true, true, true, true]
noncomputable def xf7 : Code := nav (bodyOf xk) [true, true, true, true, true, true, false, false]
noncomputable def xf8 : Code := nav (bodyOf xk) [true, true, true, true, true, true, false, false, false]
theorem xzo (call : FCall) (hs : FHs) (u : Nat) :
  fxK Try.prog pol NN call xmp (AV × Mem) (x2b hs u) x16 eNil x16 = (fun s => x4q call hs u (s.sl 7) s.m s.fc) := by
  kernel_rfl
theorem xzp (call : FCall) (hs : FHs) (u : Nat) (rec0 : AV → AV → Mem → Nat → Option (AV × Mem)) :
  fxK Try.prog pol NN call xf8 (AV × Mem) (x2b hs u) (fun s => rec0 (s.sl 7) (s.sl 8) s.m s.fc) (setE 0 (fun s => x4q call hs u (s.sl 7) s.m s.fc) eNil) x16 = (fun s => xav call hs u rec0 (s.sl 7) (s.sl 8) s.m s.fc) := by
  kernel_rfl
theorem xmq (call : FCall) (hs : FHs) (u : Nat) : ∀ n : Nat,
  iter (fun rec => fxK Try.prog pol NN call xf8 (AV × Mem) (x2b hs u) rec (setE 0 (fun s => x4q call hs u (s.sl 7) s.m s.fc) eNil) x16) n = (fun s => x33 call hs u n (s.sl 7) (s.sl 8) s.m s.fc)
  | 0 => rfl
  | n + 1 => by rw [iter_succ, xmq call hs u n, xzp call hs u (x33 call hs u n)]; kernel_rfl
theorem xzq (call : FCall) (hs : FHs) (u : Nat) :
  fxK Try.prog pol NN call xf7 (AV × Mem) (x2b hs u) (fun s => x4q call hs u (s.sl 7) s.m s.fc) (setE 0 (fun s => x4q call hs u (s.sl 7) s.m s.fc) eNil) x16 = (fun s => x33 call hs u NN (s.sl 7) (s.sl 8) s.m s.fc) := by
  rw [show xf7 = .loop xf8 from by kernel_rfl, loop_r, xmq call hs u NN]
theorem xzr (call : FCall) (hs : FHs) (u : Nat) :
  fxK Try.prog pol NN call xf6 (AV × Mem) (x2b hs u) (fun s => x4q call hs u (s.sl 7) s.m s.fc) eNil x16 = (fun s => x33 call hs u NN (s.sl 7) (s.sl 8) s.m s.fc) := by
  rw [show xf6 = .block 0 xf7 from by kernel_rfl, block_r, xzq call hs u]
theorem xzs (call : FCall) (hs : FHs) (u : Nat) :
  fxK Try.prog pol NN call xf5 (AV × Mem) (x2b hs u) x16 eNil x16 = (fun s => x33 call hs u NN (s.sl 7) (s.sl 8) s.m s.fc) := by
  rw [show xf5 = .seq xf6 xmp from by kernel_rfl, seq_r, xzo call hs u, xzr call hs u]
theorem xzt (call : FCall) (hs : FHs) (u : Nat) :
  fxK Try.prog pol NN call xf4 (AV × Mem) (x2b hs u) x16 eNil x16 = (fun s => xaw call hs u (s.sl 0) (s.sl 6) s.m s.fc) := by
  rw [show xf4 = .seq xzm xmo from by kernel_rfl, seq_r]; rw [show xmo = .seq xzn xf5 from by kernel_rfl, seq_r]; rw [xzs call hs u]; kernel_rfl
theorem xzu (call : FCall) (hs : FHs) (u : Nat) :
  fxK Try.prog pol NN call xmn (AV × Mem) (x2b hs u) (fun s => xaw call hs u (s.sl 0) (s.sl 6) s.m s.fc) eNil x16 = (fun s => xax call hs u (s.sl 0) (s.sl 5) (s.sl 6) s.m s.fc) := by
  kernel_rfl
theorem xzv (call : FCall) (hs : FHs) (u : Nat) :
  fxK Try.prog pol NN call xf3 (AV × Mem) (x2b hs u) x16 eNil x16 = (fun s => xax call hs u (s.sl 0) (s.sl 5) (s.sl 6) s.m s.fc) := by
  rw [show xf3 = .seq xmn xf4 from by kernel_rfl, seq_r, xzt call hs u, xzu call hs u]
theorem xzw (call : FCall) (hs : FHs) (u : Nat) :
  fxK Try.prog pol NN call xf2 (AV × Mem) (x2b hs u) x16 eNil x16 = (fun s => xay call hs u (s.sl 0) (s.sl 1) s.m s.fc) := by
  rw [show xf2 = .seq xzl xf3 from by kernel_rfl, seq_r]; rw [xzv call hs u]; kernel_rfl
theorem xzx (call : FCall) (hs : FHs) (u : Nat) :
  fxK Try.prog pol NN call xmm (AV × Mem) (x2b hs u) (fun s => xay call hs u (s.sl 0) (s.sl 1) s.m s.fc) eNil x16 = (fun s => xaz call hs u (s.sl 0) (s.sl 1) s.m s.fc) := by
  kernel_rfl
theorem xzy (call : FCall) (hs : FHs) (u : Nat) :
  fxK Try.prog pol NN call xf1 (AV × Mem) (x2b hs u) x16 eNil x16 = (fun s => xaz call hs u (s.sl 0) (s.sl 1) s.m s.fc) := by
  rw [show xf1 = .seq xmm xf2 from by kernel_rfl, seq_r, xzw call hs u, xzx call hs u]
theorem xzz (call : FCall) (hs : FHs) (u : Nat) :
  fxK Try.prog pol NN call xf0 (AV × Mem) (x2b hs u) x16 eNil x16 = (fun s => xcz call hs u (s.sl 0) (s.sl 1) s.m s.fc) := by
  rw [show xf0 = .seq xzk xf1 from by kernel_rfl, seq_r]; rw [xzy call hs u]; kernel_rfl
theorem x100 (call : FCall) (hs : FHs) (t0 t1 : AV) (m : Mem) : fxBody Try.prog pol NN call hs xk [t0, t1] m = x77 call hs [t0, t1] m := by
  rw [fxBody_at (fn := Try.f121) (body := xf0) (nt := 48) (rs := [.tmp 4]) (by kernel_rfl) (by kernel_rfl) (by kernel_rfl) (by kernel_rfl) (by kernel_rfl) (by kernel_rfl)]
  exact (congrFun (xzz call hs m.next) _).trans (by kernel_rfl)
theorem xv5 (call : FCall) (hs : FHs) (args : List AV) (m : Mem) (r : AV × Mem) (h : x77 call hs args m = some r) : fxBody Try.prog pol NN call hs xk args m = some r := by
  unfold x77 at h
  split at h
  · rw [x100]; exact h
  · cases h

abbrev x101 (hs : FHs) (u : Nat) : FCtx := { f := x2c, u := u, nt := 18, hs := hs }
noncomputable abbrev xmr : Fs → Option (AV × Mem) := fxRes Try.prog []
noncomputable def xms : Code := nav (bodyOf x2c) []
theorem x102 (call : FCall) (hs : FHs) (u : Nat) :
  fxK Try.prog pol NN call xms (AV × Mem) (x101 hs u) xmr eNil xmr = (fun s => x98 call hs u (s.sl 0) (s.sl 1) (s.sl 2) (s.sl 3) s.m s.fc) := by
  kernel_rfl
theorem x103 (call : FCall) (hs : FHs) (t0 t1 t2 t3 : AV) (m : Mem) : fxBody Try.prog pol NN call hs x2c [t0, t1, t2, t3] m = x7v call hs [t0, t1, t2, t3] m := by
  rw [fxBody_at (fn := Try.f122) (body := xms) (nt := 18) (rs := []) (by kernel_rfl) (by kernel_rfl) (by kernel_rfl) (by kernel_rfl) (by kernel_rfl) (by kernel_rfl)]
  exact (congrFun (x102 call hs m.next) _).trans (by kernel_rfl)
theorem xtc (call : FCall) (hs : FHs) (args : List AV) (m : Mem) (r : AV × Mem) (h : x7v call hs args m = some r) : fxBody Try.prog pol NN call hs x2c args m = some r := by
  unfold x7v at h
  split at h
  · rw [x103]; exact h
  · cases h

abbrev x104 (hs : FHs) (u : Nat) : FCtx := { f := x4t, u := u, nt := 6, hs := hs }
noncomputable abbrev xmt : Fs → Option (AV × Mem) := fxRes Try.prog [.tmp 4]
noncomputable def xmu : Code := nav (bodyOf x4t) []
theorem x105 (call : FCall) (hs : FHs) (u : Nat) :
  fxK Try.prog pol NN call xmu (AV × Mem) (x104 hs u) xmt eNil xmt = (fun s => xd0 call hs u (s.sl 0) (s.sl 1) s.m s.fc) := by
  kernel_rfl
theorem x106 (call : FCall) (hs : FHs) (t0 t1 : AV) (m : Mem) : fxBody Try.prog pol NN call hs x4t [t0, t1] m = x6d call hs [t0, t1] m := by
  rw [fxBody_at (fn := Try.f123) (body := xmu) (nt := 6) (rs := [.tmp 4]) (by kernel_rfl) (by kernel_rfl) (by kernel_rfl) (by kernel_rfl) (by kernel_rfl) (by kernel_rfl)]
  exact (congrFun (x105 call hs m.next) _).trans (by kernel_rfl)
theorem xte (call : FCall) (hs : FHs) (args : List AV) (m : Mem) (r : AV × Mem) (h : x6d call hs args m = some r) : fxBody Try.prog pol NN call hs x4t args m = some r := by
  unfold x6d at h
  split at h
  · rw [x106]; exact h
  · cases h

abbrev x107 (hs : FHs) (u : Nat) : FCtx := { f := x3y, u := u, nt := 30, hs := hs }
noncomputable abbrev xmv : Fs → Option (AV × Mem) := fxRes Try.prog [.tmp 4, .tmp 5]
noncomputable def xmw : Code := nav (bodyOf x3y) []
theorem x108 (call : FCall) (hs : FHs) (u : Nat) :
  fxK Try.prog pol NN call xmw (AV × Mem) (x107 hs u) xmv eNil xmv = (fun s => xkx call hs u (s.sl 0) (s.sl 1) s.m s.fc) := by
  kernel_rfl
theorem x109 (call : FCall) (hs : FHs) (t0 t1 : AV) (m : Mem) : fxBody Try.prog pol NN call hs x3y [t0, t1] m = x8n call hs [t0, t1] m := by
  rw [fxBody_at (fn := Try.f125) (body := xmw) (nt := 30) (rs := [.tmp 4, .tmp 5]) (by kernel_rfl) (by kernel_rfl) (by kernel_rfl) (by kernel_rfl) (by kernel_rfl) (by kernel_rfl)]
  exact (congrFun (x108 call hs m.next) _).trans (by kernel_rfl)
theorem xv6 (call : FCall) (hs : FHs) (args : List AV) (m : Mem) (r : AV × Mem) (h : x8n call hs args m = some r) : fxBody Try.prog pol NN call hs x3y args m = some r := by
  unfold x8n at h
  split at h
  · rw [x109]; exact h
  · cases h

abbrev x2l (hs : FHs) (u : Nat) : FCtx := { f := xi, u := u, nt := 76, hs := hs }
noncomputable abbrev xr : Fs → Option (AV × Mem) := fxRes Try.prog []
noncomputable def xf9 : Code := nav (bodyOf xi) []
noncomputable def x10a : Code := nav (bodyOf xi) [false]
noncomputable def xfa : Code := nav (bodyOf xi) [true]
noncomputable def xfb : Code := nav (bodyOf xi) [true, false]
noncomputable def xb8 : Code := nav (bodyOf xi) [true, false, false]
noncomputable def x10b : Code := nav (bodyOf xi) [true, false, false, false]
noncomputable def xmx : Code := nav (bodyOf xi) [true, false, false, true]
noncomputable def x10c : Code := nav (bodyOf xi) [true, false, false, true, false]
noncomputable def xfc : Code := nav (bodyOf xi) [true, false, false, true, true]
noncomputable def xfd : Code := nav (bodyOf xi) [true, false, false, true, true, false]
noncomputable def xmy : Code := nav (bodyOf xi) [true, false, false, true, true, true]
noncomputable def xfe : Code := nav (bodyOf xi) [true, false, false, true, true, false, false]
noncomputable def x10d : Code := nav (bodyOf xi) [true, false, false, true, true, false, false, false]
noncomputable def xmz : Code := nav (bodyOf xi) [true, false, false, true, true, false, false, true]
noncomputable def x10e : Code := nav (bodyOf xi) [true, false, false, true, true, false, false, true, false]
noncomputable def xn0 : Code := nav (bodyOf xi) [true, false, false, true, true, false, false, true, true]
noncomputable def x10f : Code := nav (bodyOf xi) [true, false, false, true, true, false, false, true, true, false]
noncomputable def xff : Code := nav (bodyOf xi) [true, false, false, true, true, false, false, true, true, true]
noncomputable def xn1 : Code := nav (bodyOf xi) [true, false, false, true, true, false, false, true, true, true, false]
noncomputable def xn2 : Code := nav (bodyOf xi) [true, false, false, true, true, false, false, true, true, true, true]
theorem x10g (call : FCall) (hs : FHs) (u : Nat) (rec0 : AV → AV → AV → AV → AV → AV → Mem → Nat → Option (AV × Mem)) :
  fxK Try.prog pol NN call xmy (AV × Mem) (x2l hs u) (fun s => rec0 (s.sl 0) (s.sl 1) (s.sl 2) (s.sl 14) (s.sl 15) (s.sl 16) s.m s.fc) (setE 0 xr eNil) xr = (fun s => x2j call hs u rec0 (s.sl 0) (s.sl 1) (s.sl 2) (s.sl 14) (s.sl 15) (s.sl 16) s.m s.fc) := by
  kernel_rfl
theorem x10h (call : FCall) (hs : FHs) (u : Nat) (rec0 : AV → AV → AV → AV → AV → AV → Mem → Nat → Option (AV × Mem)) :
  fxK Try.prog pol NN call xn2 (AV × Mem) (x2l hs u) (fun s => x2j call hs u rec0 (s.sl 0) (s.sl 1) (s.sl 2) (s.sl 14) (s.sl 15) (s.sl 16) s.m s.fc) (setE 1 (fun s => x2j call hs u rec0 (s.sl 0) (s.sl 1) (s.sl 2) (s.sl 14) (s.sl 15) (s.sl 16) s.m s.fc) (setE 0 xr eNil)) xr = (fun s => x7s call hs u rec0 (s.sl 0) (s.sl 1) (s.sl 2) (s.sl 7) (s.sl 14) (s.sl 15) (s.sl 16) s.m s.fc) := by
  kernel_rfl
theorem x10i (call : FCall) (hs : FHs) (u : Nat) (rec0 : AV → AV → AV → AV → AV → AV → Mem → Nat → Option (AV × Mem)) :
  fxK Try.prog pol NN call xn1 (AV × Mem) (x2l hs u) (fun s => x7s call hs u rec0 (s.sl 0) (s.sl 1) (s.sl 2) (s.sl 7) (s.sl 14) (s.sl 15) (s.sl 16) s.m s.fc) (setE 1 (fun s => x2j call hs u rec0 (s.sl 0) (s.sl 1) (s.sl 2) (s.sl 14) (s.sl 15) (s.sl 16) s.m s.fc) (setE 0 xr eNil)) xr = (fun s => x7t call hs u rec0 (s.sl 0) (s.sl 1) (s.sl 2) (s.sl 5) (s.sl 6) (s.sl 7) (s.sl 14) (s.sl 15) (s.sl 16) s.m s.fc) := by
  kernel_rfl
theorem x10j (call : FCall) (hs : FHs) (u : Nat) (rec0 : AV → AV → AV → AV → AV → AV → Mem → Nat → Option (AV × Mem)) :
  fxK Try.prog pol NN call xff (AV × Mem) (x2l hs u) (fun s => x2j call hs u rec0 (s.sl 0) (s.sl 1) (s.sl 2) (s.sl 14) (s.sl 15) (s.sl 16) s.m s.fc) (setE 1 (fun s => x2j call hs u rec0 (s.sl 0) (s.sl 1) (s.sl 2) (s.sl 14) (s.sl 15) (s.sl 16) s.m s.fc) (setE 0 xr eNil)) xr = (fun s => x7t call hs u rec0 (s.sl 0) (s.sl 1) (s.sl 2) (s.sl 5) (s.sl 6) (s.sl 7) (s.sl 14) (s.sl 15) (s.sl 16) s.m s.fc) := by
  rw [show xff = .seq xn1 xn2 from by kernel_rfl, seq_r, x10h call hs u rec0, x10i call hs u rec0]
theorem x10k (call : FCall) (hs : FHs) (u : Nat) (rec0 : AV → AV → AV → AV → AV → AV → Mem → Nat → Option (AV × Mem)) :
  fxK Try.prog pol NN call xfe (AV × Mem) (x2l hs u) (fun s => x2j call hs u rec0 (s.sl 0) (s.sl 1) (s.sl 2) (s.sl 14) (s.sl 15) (s.sl 16) s.m s.fc) (setE 1 (fun s => x2j call hs u rec0 (s.sl 0) (s.sl 1) (s.sl 2) (s.sl 14) (s.sl 15) (s.sl 16) s.m s.fc) (setE 0 xr eNil)) xr = (fun s => x99 call hs u rec0 (s.sl 0) (s.sl 1) (s.sl 2) (s.sl 14) (s.sl 15) (s.sl 16) s.m s.fc) := by
  rw [show xfe = .seq x10d xmz from by kernel_rfl, seq_r]; rw [show xmz = .seq x10e xn0 from by kernel_rfl, seq_r]; rw [show xn0 = .seq x10f xff from by kernel_rfl, seq_r]; rw [x10j call hs u rec0]; kernel_rfl
theorem x10l (call : FCall) (hs : FHs) (u : Nat) (rec0 : AV → AV → AV → AV → AV → AV → Mem → Nat → Option (AV × Mem)) :
  fxK Try.prog pol NN call xfd (AV × Mem) (x2l hs u) (fun s => x2j call hs u rec0 (s.sl 0) (s.sl 1) (s.sl 2) (s.sl 14) (s.sl 15) (s.sl 16) s.m s.fc) (setE 0 xr eNil) xr = (fun s => x99 call hs u rec0 (s.sl 0) (s.sl 1) (s.sl 2) (s.sl 14) (s.sl 15) (s.sl 16) s.m s.fc) := by
  rw [show xfd = .block 1 xfe from by kernel_rfl, block_r, x10k call hs u rec0]
theorem x10m (call : FCall) (hs : FHs) (u : Nat) (rec0 : AV → AV → AV → AV → AV → AV → Mem → Nat → Option (AV × Mem)) :
  fxK Try.prog pol NN call xfc (AV × Mem) (x2l hs u) (fun s => rec0 (s.sl 0) (s.sl 1) (s.sl 2) (s.sl 14) (s.sl 15) (s.sl 16) s.m s.fc) (setE 0 xr eNil) xr = (fun s => x99 call hs u rec0 (s.sl 0) (s.sl 1) (s.sl 2) (s.sl 14) (s.sl 15) (s.sl 16) s.m s.fc) := by
  rw [show xfc = .seq xfd xmy from by kernel_rfl, seq_r, x10g call hs u rec0, x10l call hs u rec0]
theorem x10n (call : FCall) (hs : FHs) (u : Nat) (rec0 : AV → AV → AV → AV → AV → AV → Mem → Nat → Option (AV × Mem)) :
  fxK Try.prog pol NN call xb8 (AV × Mem) (x2l hs u) (fun s => rec0 (s.sl 0) (s.sl 1) (s.sl 2) (s.sl 14) (s.sl 15) (s.sl 16) s.m s.fc) (setE 0 xr eNil) xr = (fun s => xb0 call hs u rec0 (s.sl 0) (s.sl 1) (s.sl 2) (s.sl 14) (s.sl 15) (s.sl 16) s.m s.fc) := by
  rw [show xb8 = .seq x10b xmx from by kernel_rfl, seq_r]; rw [show xmx = .seq x10c xfc from by kernel_rfl, seq_r]; rw [x10m call hs u rec0]; kernel_rfl
theorem xn3 (call : FCall) (hs : FHs) (u : Nat) : ∀ n : Nat,
  iter (fun rec => fxK Try.prog pol NN call xb8 (AV × Mem) (x2l hs u) rec (setE 0 xr eNil) xr) n = (fun s => x2k call hs u n (s.sl 0) (s.sl 1) (s.sl 2) (s.sl 14) (s.sl 15) (s.sl 16) s.m s.fc)
  | 0 => rfl
  | n + 1 => by rw [iter_succ, xn3 call hs u n, x10n call hs u (x2k call hs u n)]; kernel_rfl
theorem x10o (call : FCall) (hs : FHs) (u : Nat) :
  fxK Try.prog pol NN call xfb (AV × Mem) (x2l hs u) xr (setE 0 xr eNil) xr = (fun s => x2k call hs u NN (s.sl 0) (s.sl 1) (s.sl 2) (s.sl 14) (s.sl 15) (s.sl 16) s.m s.fc) := by
  rw [show xfb = .loop xb8 from by kernel_rfl, loop_r, xn3 call hs u NN]
theorem x10p (call : FCall) (hs : FHs) (u : Nat) :
  fxK Try.prog pol NN call xfa (AV × Mem) (x2l hs u) xr eNil xr = (fun s => x2k call hs u NN (s.sl 0) (s.sl 1) (s.sl 2) (s.sl 14) (s.sl 15) (s.sl 16) s.m s.fc) := by
  rw [show xfa = .block 0 xfb from by kernel_rfl, block_r, x10o call hs u]
theorem x10q (call : FCall) (hs : FHs) (u : Nat) :
  fxK Try.prog pol NN call xf9 (AV × Mem) (x2l hs u) xr eNil xr = (fun s => xd1 call hs u (s.sl 0) (s.sl 1) (s.sl 2) s.m s.fc) := by
  rw [show xf9 = .seq x10a xfa from by kernel_rfl, seq_r]; rw [x10p call hs u]; kernel_rfl
theorem x10r (call : FCall) (hs : FHs) (t0 t1 t2 : AV) (m : Mem) : fxBody Try.prog pol NN call hs xi [t0, t1, t2] m = x6a call hs [t0, t1, t2] m := by
  rw [fxBody_at (fn := Try.f126) (body := xf9) (nt := 76) (rs := []) (by kernel_rfl) (by kernel_rfl) (by kernel_rfl) (by kernel_rfl) (by kernel_rfl) (by kernel_rfl)]
  exact (congrFun (x10q call hs m.next) _).trans (by kernel_rfl)
theorem xta (call : FCall) (hs : FHs) (args : List AV) (m : Mem) (r : AV × Mem) (h : x6a call hs args m = some r) : fxBody Try.prog pol NN call hs xi args m = some r := by
  unfold x6a at h
  split at h
  · rw [x10r]; exact h
  · cases h

abbrev x10s (hs : FHs) (u : Nat) : FCtx := { f := x63, u := u, nt := 17, hs := hs }
noncomputable abbrev xn4 : Fs → Option (AV × Mem) := fxRes Try.prog [.tmp 4, .tmp 5]
noncomputable def xn5 : Code := nav (bodyOf x63) []
theorem x10t (call : FCall) (hs : FHs) (u : Nat) :
  fxK Try.prog pol NN call xn5 (AV × Mem) (x10s hs u) xn4 eNil xn4 = (fun s => xky call hs u (s.sl 0) (s.sl 1) s.m s.fc) := by
  kernel_rfl
theorem x10u (call : FCall) (hs : FHs) (t0 t1 : AV) (m : Mem) : fxBody Try.prog pol NN call hs x63 [t0, t1] m = x8o call hs [t0, t1] m := by
  rw [fxBody_at (fn := Try.f127) (body := xn5) (nt := 17) (rs := [.tmp 4, .tmp 5]) (by kernel_rfl) (by kernel_rfl) (by kernel_rfl) (by kernel_rfl) (by kernel_rfl) (by kernel_rfl)]
  exact (congrFun (x10t call hs m.next) _).trans (by kernel_rfl)
theorem xv7 (call : FCall) (hs : FHs) (args : List AV) (m : Mem) (r : AV × Mem) (h : x8o call hs args m = some r) : fxBody Try.prog pol NN call hs x63 args m = some r := by
  unfold x8o at h
  split at h
  · rw [x10u]; exact h
  · cases h

abbrev x10v (hs : FHs) (u : Nat) : FCtx := { f := x5n, u := u, nt := 51, hs := hs }
noncomputable abbrev xn6 : Fs → Option (AV × Mem) := fxRes Try.prog [.tmp 4, .tmp 5]
noncomputable def xn7 : Code := nav (bodyOf x5n) []
theorem x10w (call : FCall) (hs : FHs) (u : Nat) :
  fxK Try.prog pol NN call xn7 (AV × Mem) (x10v hs u) xn6 eNil xn6 = (fun s => xkz call hs u (s.sl 0) (s.sl 1) s.m s.fc) := by
  kernel_rfl
theorem x10x (call : FCall) (hs : FHs) (t0 t1 : AV) (m : Mem) : fxBody Try.prog pol NN call hs x5n [t0, t1] m = x7x call hs [t0, t1] m := by
  rw [fxBody_at (fn := Try.f128) (body := xn7) (nt := 51) (rs := [.tmp 4, .tmp 5]) (by kernel_rfl) (by kernel_rfl) (by kernel_rfl) (by kernel_rfl) (by kernel_rfl) (by kernel_rfl)]
  exact (congrFun (x10w call hs m.next) _).trans (by kernel_rfl)
theorem xtg (call : FCall) (hs : FHs) (args : List AV) (m : Mem) (r : AV × Mem) (h : x7x call hs args m = some r) : fxBody Try.prog pol NN call hs x5n args m = some r := by
  unfold x7x at h
  split at h
  · rw [x10x]; exact h
  · cases h

end Go.Ix
