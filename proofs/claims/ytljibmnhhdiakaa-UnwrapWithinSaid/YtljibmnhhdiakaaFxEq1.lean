import Derived.Test.YtljibmnhhdiakaaFxText0
import Derived.Test.YtljibmnhhdiakaaFxRules
import Derived.ProofKit
set_option linter.unusedVariables false
namespace Go.Ix
open Go.Proofs

abbrev xo (hs : FHs) (u : Nat) : FCtx := { f := x7, u := u, nt := 160, hs := hs }
noncomputable abbrev xb : Fs → Option (AV × Mem) := fxRes Try.prog []
noncomputable def xde : Code := nav (bodyOf x7) []
noncomputable def xvl : Code := nav (bodyOf x7) [false]
noncomputable def xl6 : Code := nav (bodyOf x7) [true]
noncomputable def xvm : Code := nav (bodyOf x7) [true, false]
noncomputable def xdf : Code := nav (bodyOf x7) [true, true]
noncomputable def xdg : Code := nav (bodyOf x7) [true, true, false]
noncomputable def xdh : Code := nav (bodyOf x7) [true, true, true]
noncomputable def xvn : Code := nav (bodyOf x7) [true, true, true, false]
noncomputable def xdi : Code := nav (bodyOf x7) [true, true, true, true]
noncomputable def xdj : Code := nav (bodyOf x7) [true, true, true, true, false]
noncomputable def xdk : Code := nav (bodyOf x7) [true, true, true, true, true]
noncomputable def xdl : Code := nav (bodyOf x7) [true, true, true, true, true, false]
noncomputable def xdm : Code := nav (bodyOf x7) [true, true, true, true, true, true]
noncomputable def xvo : Code := nav (bodyOf x7) [true, true, true, true, true, true, false]
noncomputable def xl7 : Code := nav (bodyOf x7) [true, true, true, true, true, true, true]
noncomputable def xvp : Code := nav (bodyOf x7) [true, true, true, true, true, true, true, false]
noncomputable def xl8 : Code := nav (bodyOf x7) [true, true, true, true, true, true, true, true]
noncomputable def xvq : Code := nav (bodyOf x7) [true, true, true, true, true, true, true, true, false]
noncomputable def xdn : Code := nav (bodyOf x7) [true, true, true, true, true, true, true, true, true]
noncomputable def xdo : Code := nav (bodyOf x7) [true, true, true, true, true, true, true, true, true, false]
noncomputable def xdp : Code := nav (bodyOf x7) [true, true, true, true, true, true, true, true, true, false, false]
noncomputable def xvr : Code := nav (bodyOf x7) [true, true, true, true, true, false, false]
noncomputable def xdq : Code := nav (bodyOf x7) [true, true, true, true, true, false, true]
noncomputable def xdr : Code := nav (bodyOf x7) [true, true, true, true, true, false, true, false]
noncomputable def xds : Code := nav (bodyOf x7) [true, true, true, true, true, false, true, false, false]
noncomputable def xvs : Code := nav (bodyOf x7) [true, true, true, true, false, false]
noncomputable def xdt : Code := nav (bodyOf x7) [true, true, true, true, false, true]
noncomputable def xdu : Code := nav (bodyOf x7) [true, true, true, true, false, true, false]
noncomputable def xdv : Code := nav (bodyOf x7) [true, true, true, true, false, true, false, false]
noncomputable def xvt : Code := nav (bodyOf x7) [true, true, false, false]
noncomputable def xdw : Code := nav (bodyOf x7) [true, true, false, true]
noncomputable def xdx : Code := nav (bodyOf x7) [true, true, false, true, false]
noncomputable def xb9 : Code := nav (bodyOf x7) [true, true, false, true, false, false]
noncomputable def xvu : Code := nav (bodyOf x7) [true, true, false, true, false, false, false]
noncomputable def xl9 : Code := nav (bodyOf x7) [true, true, false, true, false, false, true]
noncomputable def xvv : Code := nav (bodyOf x7) [true, true, false, true, false, false, true, false]
noncomputable def xdy : Code := nav (bodyOf x7) [true, true, false, true, false, false, true, true]
noncomputable def xla : Code := nav (bodyOf x7) [true, true, false, true, false, false, true, true, false]
noncomputable def xlb : Code := nav (bodyOf x7) [true, true, false, true, false, false, true, true, true]
theorem xvw (call : FCall) (hs : FHs) (u : Nat) (rec0 : AV → AV → AV → AV → AV → AV → Mem → Nat → Option (AV × Mem)) :
  fxK Try.prog pol NN call xdp (AV × Mem) (xo hs u) (fun s => rec0 (s.sl 0) (s.sl 4) (s.sl 5) (s.sl 136) (s.sl 137) (s.sl 138) s.m s.fc) (setE 6 xb eNil) xb = (fun s => xao call hs u rec0 (s.sl 0) (s.sl 4) (s.sl 5) (s.sl 136) (s.sl 137) (s.sl 138) s.m s.fc) := by
  kernel_rfl
theorem xlc (call : FCall) (hs : FHs) (u : Nat) : ∀ n : Nat,
  iter (fun rec => fxK Try.prog pol NN call xdp (AV × Mem) (xo hs u) rec (setE 6 xb eNil) xb) n = (fun s => x4o call hs u n (s.sl 0) (s.sl 4) (s.sl 5) (s.sl 136) (s.sl 137) (s.sl 138) s.m s.fc)
  | 0 => rfl
  | n + 1 => by rw [iter_succ, xlc call hs u n, xvw call hs u (x4o call hs u n)]; kernel_rfl
theorem xvx (call : FCall) (hs : FHs) (u : Nat) :
  fxK Try.prog pol NN call xdo (AV × Mem) (xo hs u) xb (setE 6 xb eNil) xb = (fun s => x4o call hs u NN (s.sl 0) (s.sl 4) (s.sl 5) (s.sl 136) (s.sl 137) (s.sl 138) s.m s.fc) := by
  rw [show xdo = .loop xdp from by kernel_rfl, loop_r, xlc call hs u NN]
theorem xvy (call : FCall) (hs : FHs) (u : Nat) :
  fxK Try.prog pol NN call xdn (AV × Mem) (xo hs u) xb eNil xb = (fun s => x4o call hs u NN (s.sl 0) (s.sl 4) (s.sl 5) (s.sl 136) (s.sl 137) (s.sl 138) s.m s.fc) := by
  rw [show xdn = .block 6 xdo from by kernel_rfl, block_r, xvx call hs u]
theorem xvz (call : FCall) (hs : FHs) (u : Nat) :
  fxK Try.prog pol NN call xdm (AV × Mem) (xo hs u) xb eNil xb = (fun s => x3v call hs u (s.sl 0) (s.sl 1) (s.sl 4) (s.sl 5) (s.sl 8) s.m s.fc) := by
  rw [show xdm = .seq xvo xl7 from by kernel_rfl, seq_r]; rw [show xl7 = .seq xvp xl8 from by kernel_rfl, seq_r]; rw [show xl8 = .seq xvq xdn from by kernel_rfl, seq_r]; rw [xvy call hs u]; kernel_rfl
theorem xw0 (call : FCall) (hs : FHs) (u : Nat) (rec1 : AV → AV → AV → AV → AV → AV → Mem → Nat → Option (AV × Mem)) :
  fxK Try.prog pol NN call xds (AV × Mem) (xo hs u) (fun s => rec1 (s.sl 0) (s.sl 1) (s.sl 4) (s.sl 5) (s.sl 8) (s.sl 10) s.m s.fc) (setE 4 (fun s => x3v call hs u (s.sl 0) (s.sl 1) (s.sl 4) (s.sl 5) (s.sl 8) s.m s.fc) eNil) xb = (fun s => xap call hs u rec1 (s.sl 0) (s.sl 1) (s.sl 4) (s.sl 5) (s.sl 8) (s.sl 10) s.m s.fc) := by
  kernel_rfl
theorem xld (call : FCall) (hs : FHs) (u : Nat) : ∀ n : Nat,
  iter (fun rec => fxK Try.prog pol NN call xds (AV × Mem) (xo hs u) rec (setE 4 (fun s => x3v call hs u (s.sl 0) (s.sl 1) (s.sl 4) (s.sl 5) (s.sl 8) s.m s.fc) eNil) xb) n = (fun s => x4p call hs u n (s.sl 0) (s.sl 1) (s.sl 4) (s.sl 5) (s.sl 8) (s.sl 10) s.m s.fc)
  | 0 => rfl
  | n + 1 => by rw [iter_succ, xld call hs u n, xw0 call hs u (x4p call hs u n)]; kernel_rfl
theorem xw1 (call : FCall) (hs : FHs) (u : Nat) :
  fxK Try.prog pol NN call xdr (AV × Mem) (xo hs u) (fun s => x3v call hs u (s.sl 0) (s.sl 1) (s.sl 4) (s.sl 5) (s.sl 8) s.m s.fc) (setE 4 (fun s => x3v call hs u (s.sl 0) (s.sl 1) (s.sl 4) (s.sl 5) (s.sl 8) s.m s.fc) eNil) xb = (fun s => x4p call hs u NN (s.sl 0) (s.sl 1) (s.sl 4) (s.sl 5) (s.sl 8) (s.sl 10) s.m s.fc) := by
  rw [show xdr = .loop xds from by kernel_rfl, loop_r, xld call hs u NN]
theorem xw2 (call : FCall) (hs : FHs) (u : Nat) :
  fxK Try.prog pol NN call xdq (AV × Mem) (xo hs u) (fun s => x3v call hs u (s.sl 0) (s.sl 1) (s.sl 4) (s.sl 5) (s.sl 8) s.m s.fc) eNil xb = (fun s => x4p call hs u NN (s.sl 0) (s.sl 1) (s.sl 4) (s.sl 5) (s.sl 8) (s.sl 10) s.m s.fc) := by
  rw [show xdq = .block 4 xdr from by kernel_rfl, block_r, xw1 call hs u]
theorem xw3 (call : FCall) (hs : FHs) (u : Nat) :
  fxK Try.prog pol NN call xdl (AV × Mem) (xo hs u) (fun s => x3v call hs u (s.sl 0) (s.sl 1) (s.sl 4) (s.sl 5) (s.sl 8) s.m s.fc) eNil xb = (fun s => x33 call hs u (s.sl 0) (s.sl 1) (s.sl 4) (s.sl 5) (s.sl 8) s.m s.fc) := by
  rw [show xdl = .seq xvr xdq from by kernel_rfl, seq_r]; rw [xw2 call hs u]; kernel_rfl
theorem xw4 (call : FCall) (hs : FHs) (u : Nat) :
  fxK Try.prog pol NN call xdk (AV × Mem) (xo hs u) xb eNil xb = (fun s => x33 call hs u (s.sl 0) (s.sl 1) (s.sl 4) (s.sl 5) (s.sl 8) s.m s.fc) := by
  rw [show xdk = .seq xdl xdm from by kernel_rfl, seq_r, xvz call hs u, xw3 call hs u]
theorem xw5 (call : FCall) (hs : FHs) (u : Nat) (rec2 : AV → AV → AV → AV → AV → AV → Mem → Nat → Option (AV × Mem)) :
  fxK Try.prog pol NN call xdv (AV × Mem) (xo hs u) (fun s => rec2 (s.sl 0) (s.sl 1) (s.sl 4) (s.sl 5) (s.sl 8) (s.sl 9) s.m s.fc) (setE 2 (fun s => x33 call hs u (s.sl 0) (s.sl 1) (s.sl 4) (s.sl 5) (s.sl 8) s.m s.fc) eNil) xb = (fun s => xaq call hs u rec2 (s.sl 0) (s.sl 1) (s.sl 4) (s.sl 5) (s.sl 8) (s.sl 9) s.m s.fc) := by
  kernel_rfl
theorem xle (call : FCall) (hs : FHs) (u : Nat) : ∀ n : Nat,
  iter (fun rec => fxK Try.prog pol NN call xdv (AV × Mem) (xo hs u) rec (setE 2 (fun s => x33 call hs u (s.sl 0) (s.sl 1) (s.sl 4) (s.sl 5) (s.sl 8) s.m s.fc) eNil) xb) n = (fun s => x4q call hs u n (s.sl 0) (s.sl 1) (s.sl 4) (s.sl 5) (s.sl 8) (s.sl 9) s.m s.fc)
  | 0 => rfl
  | n + 1 => by rw [iter_succ, xle call hs u n, xw5 call hs u (x4q call hs u n)]; kernel_rfl
theorem xw6 (call : FCall) (hs : FHs) (u : Nat) :
  fxK Try.prog pol NN call xdu (AV × Mem) (xo hs u) (fun s => x33 call hs u (s.sl 0) (s.sl 1) (s.sl 4) (s.sl 5) (s.sl 8) s.m s.fc) (setE 2 (fun s => x33 call hs u (s.sl 0) (s.sl 1) (s.sl 4) (s.sl 5) (s.sl 8) s.m s.fc) eNil) xb = (fun s => x4q call hs u NN (s.sl 0) (s.sl 1) (s.sl 4) (s.sl 5) (s.sl 8) (s.sl 9) s.m s.fc) := by
  rw [show xdu = .loop xdv from by kernel_rfl, loop_r, xle call hs u NN]
theorem xw7 (call : FCall) (hs : FHs) (u : Nat) :
  fxK Try.prog pol NN call xdt (AV × Mem) (xo hs u) (fun s => x33 call hs u (s.sl 0) (s.sl 1) (s.sl 4) (s.sl 5) (s.sl 8) s.m s.fc) eNil xb = (fun s => x4q call hs u NN (s.sl 0) (s.sl 1) (s.sl 4) (s.sl 5) (s.sl 8) (s.sl 9) s.m s.fc) := by
  rw [show xdt = .block 2 xdu from by kernel_rfl, block_r, xw6 call hs u]
theorem xw8 (call : FCall) (hs : FHs) (u : Nat) :
  fxK Try.prog pol NN call xdj (AV × Mem) (xo hs u) (fun s => x33 call hs u (s.sl 0) (s.sl 1) (s.sl 4) (s.sl 5) (s.sl 8) s.m s.fc) eNil xb = (fun s => xar call hs u (s.sl 0) (s.sl 1) (s.sl 4) (s.sl 5) (s.sl 8) s.m s.fc) := by
  rw [show xdj = .seq xvs xdt from by kernel_rfl, seq_r]; rw [xw7 call hs u]; kernel_rfl
theorem xw9 (call : FCall) (hs : FHs) (u : Nat) :
  fxK Try.prog pol NN call xdi (AV × Mem) (xo hs u) xb eNil xb = (fun s => xar call hs u (s.sl 0) (s.sl 1) (s.sl 4) (s.sl 5) (s.sl 8) s.m s.fc) := by
  rw [show xdi = .seq xdj xdk from by kernel_rfl, seq_r, xw4 call hs u, xw8 call hs u]
theorem xwa (call : FCall) (hs : FHs) (u : Nat) :
  fxK Try.prog pol NN call xdh (AV × Mem) (xo hs u) xb eNil xb = (fun s => x2d call hs u (s.sl 0) (s.sl 1) (s.sl 4) (s.sl 5) s.m s.fc) := by
  rw [show xdh = .seq xvn xdi from by kernel_rfl, seq_r]; rw [xw9 call hs u]; kernel_rfl
theorem xwb (call : FCall) (hs : FHs) (u : Nat) (rec3 : AV → AV → AV → AV → AV → AV → AV → Mem → Nat → Option (AV × Mem)) :
  fxK Try.prog pol NN call xlb (AV × Mem) (xo hs u) (fun s => rec3 (s.sl 0) (s.sl 1) (s.sl 4) (s.sl 5) (s.sl 17) (s.sl 18) (s.sl 19) s.m s.fc) (setE 0 (fun s => x2d call hs u (s.sl 0) (s.sl 1) (s.sl 4) (s.sl 5) s.m s.fc) eNil) xb = (fun s => x4r call hs u rec3 (s.sl 0) (s.sl 1) (s.sl 4) (s.sl 5) (s.sl 17) (s.sl 18) (s.sl 19) s.m s.fc) := by
  kernel_rfl
theorem xwc (call : FCall) (hs : FHs) (u : Nat) (rec3 : AV → AV → AV → AV → AV → AV → AV → Mem → Nat → Option (AV × Mem)) :
  fxK Try.prog pol NN call xla (AV × Mem) (xo hs u) (fun s => x4r call hs u rec3 (s.sl 0) (s.sl 1) (s.sl 4) (s.sl 5) (s.sl 17) (s.sl 18) (s.sl 19) s.m s.fc) (setE 0 (fun s => x2d call hs u (s.sl 0) (s.sl 1) (s.sl 4) (s.sl 5) s.m s.fc) eNil) xb = (fun s => x98 call hs u rec3 (s.sl 0) (s.sl 1) (s.sl 4) (s.sl 5) (s.sl 17) (s.sl 18) (s.sl 19) s.m s.fc) := by
  kernel_rfl
theorem xwd (call : FCall) (hs : FHs) (u : Nat) (rec3 : AV → AV → AV → AV → AV → AV → AV → Mem → Nat → Option (AV × Mem)) :
  fxK Try.prog pol NN call xdy (AV × Mem) (xo hs u) (fun s => rec3 (s.sl 0) (s.sl 1) (s.sl 4) (s.sl 5) (s.sl 17) (s.sl 18) (s.sl 19) s.m s.fc) (setE 0 (fun s => x2d call hs u (s.sl 0) (s.sl 1) (s.sl 4) (s.sl 5) s.m s.fc) eNil) xb = (fun s => x98 call hs u rec3 (s.sl 0) (s.sl 1) (s.sl 4) (s.sl 5) (s.sl 17) (s.sl 18) (s.sl 19) s.m s.fc) := by
  rw [show xdy = .seq xla xlb from by kernel_rfl, seq_r, xwb call hs u rec3, xwc call hs u rec3]
theorem xwe (call : FCall) (hs : FHs) (u : Nat) (rec3 : AV → AV → AV → AV → AV → AV → AV → Mem → Nat → Option (AV × Mem)) :
  fxK Try.prog pol NN call xb9 (AV × Mem) (xo hs u) (fun s => rec3 (s.sl 0) (s.sl 1) (s.sl 4) (s.sl 5) (s.sl 17) (s.sl 18) (s.sl 19) s.m s.fc) (setE 0 (fun s => x2d call hs u (s.sl 0) (s.sl 1) (s.sl 4) (s.sl 5) s.m s.fc) eNil) xb = (fun s => x99 call hs u rec3 (s.sl 0) (s.sl 1) (s.sl 4) (s.sl 5) (s.sl 17) (s.sl 18) (s.sl 19) s.m s.fc) := by
  rw [show xb9 = .seq xvu xl9 from by kernel_rfl, seq_r]; rw [show xl9 = .seq xvv xdy from by kernel_rfl, seq_r]; rw [xwd call hs u rec3]; kernel_rfl
theorem xlf (call : FCall) (hs : FHs) (u : Nat) : ∀ n : Nat,
  iter (fun rec => fxK Try.prog pol NN call xb9 (AV × Mem) (xo hs u) rec (setE 0 (fun s => x2d call hs u (s.sl 0) (s.sl 1) (s.sl 4) (s.sl 5) s.m s.fc) eNil) xb) n = (fun s => x3w call hs u n (s.sl 0) (s.sl 1) (s.sl 4) (s.sl 5) (s.sl 17) (s.sl 18) (s.sl 19) s.m s.fc)
  | 0 => rfl
  | n + 1 => by rw [iter_succ, xlf call hs u n, xwe call hs u (x3w call hs u n)]; kernel_rfl
theorem xwf (call : FCall) (hs : FHs) (u : Nat) :
  fxK Try.prog pol NN call xdx (AV × Mem) (xo hs u) (fun s => x2d call hs u (s.sl 0) (s.sl 1) (s.sl 4) (s.sl 5) s.m s.fc) (setE 0 (fun s => x2d call hs u (s.sl 0) (s.sl 1) (s.sl 4) (s.sl 5) s.m s.fc) eNil) xb = (fun s => x3w call hs u NN (s.sl 0) (s.sl 1) (s.sl 4) (s.sl 5) (s.sl 17) (s.sl 18) (s.sl 19) s.m s.fc) := by
  rw [show xdx = .loop xb9 from by kernel_rfl, loop_r, xlf call hs u NN]
theorem xwg (call : FCall) (hs : FHs) (u : Nat) :
  fxK Try.prog pol NN call xdw (AV × Mem) (xo hs u) (fun s => x2d call hs u (s.sl 0) (s.sl 1) (s.sl 4) (s.sl 5) s.m s.fc) eNil xb = (fun s => x3w call hs u NN (s.sl 0) (s.sl 1) (s.sl 4) (s.sl 5) (s.sl 17) (s.sl 18) (s.sl 19) s.m s.fc) := by
  rw [show xdw = .block 0 xdx from by kernel_rfl, block_r, xwf call hs u]
theorem xwh (call : FCall) (hs : FHs) (u : Nat) :
  fxK Try.prog pol NN call xdg (AV × Mem) (xo hs u) (fun s => x2d call hs u (s.sl 0) (s.sl 1) (s.sl 4) (s.sl 5) s.m s.fc) eNil xb = (fun s => xas call hs u (s.sl 0) (s.sl 1) (s.sl 4) (s.sl 5) s.m s.fc) := by
  rw [show xdg = .seq xvt xdw from by kernel_rfl, seq_r]; rw [xwg call hs u]; kernel_rfl
theorem xwi (call : FCall) (hs : FHs) (u : Nat) :
  fxK Try.prog pol NN call xdf (AV × Mem) (xo hs u) xb eNil xb = (fun s => xas call hs u (s.sl 0) (s.sl 1) (s.sl 4) (s.sl 5) s.m s.fc) := by
  rw [show xdf = .seq xdg xdh from by kernel_rfl, seq_r, xwa call hs u, xwh call hs u]
theorem xwj (call : FCall) (hs : FHs) (u : Nat) :
  fxK Try.prog pol NN call xde (AV × Mem) (xo hs u) xb eNil xb = (fun s => xd0 call hs u (s.sl 0) (s.sl 1) s.m s.fc) := by
  rw [show xde = .seq xvl xl6 from by kernel_rfl, seq_r]; rw [show xl6 = .seq xvm xdf from by kernel_rfl, seq_r]; rw [xwi call hs u]; kernel_rfl
theorem xwk (call : FCall) (hs : FHs) (t0 t1 : AV) (m : Mem) : fxBody Try.prog pol NN call hs x7 [t0, t1] m = x79 call hs [t0, t1] m := by
  rw [fxBody_at (fn := Try.f106) (body := xde) (nt := 160) (rs := []) (by kernel_rfl) (by kernel_rfl) (by kernel_rfl) (by kernel_rfl) (by kernel_rfl) (by kernel_rfl)]
  exact (congrFun (xwj call hs m.next) _).trans (by kernel_rfl)
theorem xv8 (call : FCall) (hs : FHs) (args : List AV) (m : Mem) (r : AV × Mem) (h : x79 call hs args m = some r) : fxBody Try.prog pol NN call hs x7 args m = some r := by
  unfold x79 at h
  split at h
  · rw [xwk]; exact h
  · cases h

abbrev xwl (hs : FHs) (u : Nat) : FCtx := { f := x50, u := u, nt := 7, hs := hs }
noncomputable abbrev xlg : Fs → Option (AV × Mem) := fxRes Try.prog [.tmp 2]
noncomputable def xlh : Code := nav (bodyOf x50) []
theorem xwm (call : FCall) (hs : FHs) (u : Nat) :
  fxK Try.prog pol NN call xlh (AV × Mem) (xwl hs u) xlg eNil xlg = (fun s => xd1 call hs u (s.sl 0) s.m s.fc) := by
  kernel_rfl
theorem xwn (call : FCall) (hs : FHs) (t0 : AV) (m : Mem) : fxBody Try.prog pol NN call hs x50 [t0] m = x6j call hs [t0] m := by
  rw [fxBody_at (fn := Try.f107) (body := xlh) (nt := 7) (rs := [.tmp 2]) (by kernel_rfl) (by kernel_rfl) (by kernel_rfl) (by kernel_rfl) (by kernel_rfl) (by kernel_rfl)]
  exact (congrFun (xwm call hs m.next) _).trans (by kernel_rfl)
theorem xtu (call : FCall) (hs : FHs) (args : List AV) (m : Mem) (r : AV × Mem) (h : x6j call hs args m = some r) : fxBody Try.prog pol NN call hs x50 args m = some r := by
  unfold x6j at h
  split at h
  · rw [xwn]; exact h
  · cases h

abbrev xwo (hs : FHs) (u : Nat) : FCtx := { f := x65, u := u, nt := 6, hs := hs }
noncomputable abbrev xli : Fs → Option (AV × Mem) := fxRes Try.prog [.tmp 4]
noncomputable def xlj : Code := nav (bodyOf x65) []
theorem xwp (call : FCall) (hs : FHs) (u : Nat) :
  fxK Try.prog pol NN call xlj (AV × Mem) (xwo hs u) xli eNil xli = (fun s => xkt call hs u (s.sl 0) (s.sl 1) s.m s.fc) := by
  kernel_rfl
theorem xwq (call : FCall) (hs : FHs) (t0 t1 : AV) (m : Mem) : fxBody Try.prog pol NN call hs x65 [t0, t1] m = x8o call hs [t0, t1] m := by
  rw [fxBody_at (fn := Try.f108) (body := xlj) (nt := 6) (rs := [.tmp 4]) (by kernel_rfl) (by kernel_rfl) (by kernel_rfl) (by kernel_rfl) (by kernel_rfl) (by kernel_rfl)]
  exact (congrFun (xwp call hs m.next) _).trans (by kernel_rfl)
theorem xv9 (call : FCall) (hs : FHs) (args : List AV) (m : Mem) (r : AV × Mem) (h : x8o call hs args m = some r) : fxBody Try.prog pol NN call hs x65 args m = some r := by
  unfold x8o at h
  split at h
  · rw [xwq]; exact h
  · cases h

abbrev xwr (hs : FHs) (u : Nat) : FCtx := { f := x66, u := u, nt := 13, hs := hs }
noncomputable abbrev xlk : Fs → Option (AV × Mem) := fxRes Try.prog [.tmp 3]
noncomputable def xll : Code := nav (bodyOf x66) []
theorem xws (call : FCall) (hs : FHs) (u : Nat) :
  fxK Try.prog pol NN call xll (AV × Mem) (xwr hs u) xlk eNil xlk = (fun s => xku call hs u (s.sl 0) (s.sl 1) s.m s.fc) := by
  kernel_rfl
theorem xwt (call : FCall) (hs : FHs) (t0 t1 : AV) (m : Mem) : fxBody Try.prog pol NN call hs x66 [t0, t1] m = x8p call hs [t0, t1] m := by
  rw [fxBody_at (fn := Try.f110) (body := xll) (nt := 13) (rs := [.tmp 3]) (by kernel_rfl) (by kernel_rfl) (by kernel_rfl) (by kernel_rfl) (by kernel_rfl) (by kernel_rfl)]
  exact (congrFun (xws call hs m.next) _).trans (by kernel_rfl)
theorem xva (call : FCall) (hs : FHs) (args : List AV) (m : Mem) (r : AV × Mem) (h : x8p call hs args m = some r) : fxBody Try.prog pol NN call hs x66 args m = some r := by
  unfold x8p at h
  split at h
  · rw [xwt]; exact h
  · cases h

abbrev x7z (hs : FHs) (u : Nat) : FCtx := { f := x1y, u := u, nt := 27, hs := hs }
noncomputable abbrev x3y : Fs → Option (AV × Mem) := fxRes Try.prog [.tmp 4]
noncomputable def xdz : Code := nav (bodyOf x1y) []
noncomputable def xwu : Code := nav (bodyOf x1y) [false]
noncomputable def xe0 : Code := nav (bodyOf x1y) [true]
noncomputable def xlm : Code := nav (bodyOf x1y) [true, false]
noncomputable def xe1 : Code := nav (bodyOf x1y) [true, true]
noncomputable def xln : Code := nav (bodyOf x1y) [true, true, false]
noncomputable def xlo : Code := nav (bodyOf x1y) [true, true, true]
theorem xwv (call : FCall) (hs : FHs) (u : Nat) :
  fxK Try.prog pol NN call xlo (AV × Mem) (x7z hs u) x3y eNil x3y = (fun s => x7p call hs u (s.sl 0) s.m s.fc) := by
  kernel_rfl
theorem xww (call : FCall) (hs : FHs) (u : Nat) :
  fxK Try.prog pol NN call xln (AV × Mem) (x7z hs u) (fun s => x7p call hs u (s.sl 0) s.m s.fc) eNil x3y = (fun s => x7q call hs u (s.sl 0) (s.sl 1) s.m s.fc) := by
  kernel_rfl
theorem xwx (call : FCall) (hs : FHs) (u : Nat) :
  fxK Try.prog pol NN call xe1 (AV × Mem) (x7z hs u) x3y eNil x3y = (fun s => x7q call hs u (s.sl 0) (s.sl 1) s.m s.fc) := by
  rw [show xe1 = .seq xln xlo from by kernel_rfl, seq_r, xwv call hs u, xww call hs u]
theorem xwy (call : FCall) (hs : FHs) (u : Nat) :
  fxK Try.prog pol NN call xlm (AV × Mem) (x7z hs u) (fun s => x7q call hs u (s.sl 0) (s.sl 1) s.m s.fc) eNil x3y = (fun s => x9a call hs u (s.sl 0) (s.sl 1) s.m s.fc) := by
  kernel_rfl
theorem xwz (call : FCall) (hs : FHs) (u : Nat) :
  fxK Try.prog pol NN call xe0 (AV × Mem) (x7z hs u) x3y eNil x3y = (fun s => x9a call hs u (s.sl 0) (s.sl 1) s.m s.fc) := by
  rw [show xe0 = .seq xlm xe1 from by kernel_rfl, seq_r, xwx call hs u, xwy call hs u]
theorem xx0 (call : FCall) (hs : FHs) (u : Nat) :
  fxK Try.prog pol NN call xdz (AV × Mem) (x7z hs u) x3y eNil x3y = (fun s => xat call hs u (s.sl 0) (s.sl 1) s.m s.fc) := by
  rw [show xdz = .seq xwu xe0 from by kernel_rfl, seq_r]; rw [xwz call hs u]; kernel_rfl
theorem xx1 (call : FCall) (hs : FHs) (t0 t1 : AV) (m : Mem) : fxBody Try.prog pol NN call hs x1y [t0, t1] m = x67 call hs [t0, t1] m := by
  rw [fxBody_at (fn := Try.f111) (body := xdz) (nt := 27) (rs := [.tmp 4]) (by kernel_rfl) (by kernel_rfl) (by kernel_rfl) (by kernel_rfl) (by kernel_rfl) (by kernel_rfl)]
  exact (congrFun (xx0 call hs m.next) _).trans (by kernel_rfl)
theorem xvb (call : FCall) (hs : FHs) (args : List AV) (m : Mem) (r : AV × Mem) (h : x67 call hs args m = some r) : fxBody Try.prog pol NN call hs x1y args m = some r := by
  unfold x67 at h
  split at h
  · rw [xx1]; exact h
  · cases h

abbrev x1j (hs : FHs) (u : Nat) : FCtx := { f := xa, u := u, nt := 45, hs := hs }
noncomputable abbrev x12 : Fs → Option (AV × Mem) := fxRes Try.prog [.tmp 4]
noncomputable def xe2 : Code := nav (bodyOf xa) []
noncomputable def xx2 : Code := nav (bodyOf xa) [false]
noncomputable def xlp : Code := nav (bodyOf xa) [true]
noncomputable def xx3 : Code := nav (bodyOf xa) [true, false]
noncomputable def xlq : Code := nav (bodyOf xa) [true, true]
noncomputable def xx4 : Code := nav (bodyOf xa) [true, true, false]
noncomputable def xe3 : Code := nav (bodyOf xa) [true, true, true]
noncomputable def xe4 : Code := nav (bodyOf xa) [true, true, true, false]
noncomputable def xlr : Code := nav (bodyOf xa) [true, true, true, true]
noncomputable def xx5 : Code := nav (bodyOf xa) [true, true, true, false, false]
noncomputable def xe5 : Code := nav (bodyOf xa) [true, true, true, false, true]
noncomputable def xe6 : Code := nav (bodyOf xa) [true, true, true, false, true, false]
noncomputable def xba : Code := nav (bodyOf xa) [true, true, true, false, true, false, false]
noncomputable def xx6 : Code := nav (bodyOf xa) [true, true, true, false, true, false, false, false]
noncomputable def xls : Code := nav (bodyOf xa) [true, true, true, false, true, false, false, true]
noncomputable def xx7 : Code := nav (bodyOf xa) [true, true, true, false, true, false, false, true, false]
noncomputable def xe7 : Code := nav (bodyOf xa) [true, true, true, false, true, false, false, true, true]
noncomputable def xe8 : Code := nav (bodyOf xa) [true, true, true, false, true, false, false, true, true, false]
noncomputable def xlt : Code := nav (bodyOf xa) [true, true, true, false, true, false, false, true, true, true]
noncomputable def xe9 : Code := nav (bodyOf xa) [true, true, true, false, true, false, false, true, true, false, false]
noncomputable def xx8 : Code := nav (bodyOf xa) [true, true, true, false, true, false, false, true, true, false, false, false]
noncomputable def xlu : Code := nav (bodyOf xa) [true, true, true, false, true, false, false, true, true, false, false, true]
noncomputable def xx9 : Code := nav (bodyOf xa) [true, true, true, false, true, false, false, true, true, false, false, true, false]
noncomputable def xlv : Code := nav (bodyOf xa) [true, true, true, false, true, false, false, true, true, false, false, true, true]
noncomputable def xxa : Code := nav (bodyOf xa) [true, true, true, false, true, false, false, true, true, false, false, true, true, false]
noncomputable def xlw : Code := nav (bodyOf xa) [true, true, true, false, true, false, false, true, true, false, false, true, true, true]
noncomputable def xxb : Code := nav (bodyOf xa) [true, true, true, false, true, false, false, true, true, false, false, true, true, true, false]
noncomputable def xea : Code := nav (bodyOf xa) [true, true, true, false, true, false, false, true, true, false, false, true, true, true, true]
noncomputable def xeb : Code := nav (bodyOf xa) [true, true, true, false, true, false, false, true, true, false, false, true, true, true, true, false]
noncomputable def xlx : Code := nav (bodyOf xa) [true, true, true, false, true, false, false, true, true, false, false, true, true, true, true, true]
noncomputable def xec : Code := nav (bodyOf xa) [true, true, true, false, true, false, false, true, true, false, false, true, true, true, true, false, false]
noncomputable def xed : Code := nav (bodyOf xa) [true, true, true, false, true, false, false, true, true, false, false, true, true, true, true, false, false, false]
theorem xxc (call : FCall) (hs : FHs) (u : Nat) :
  fxK Try.prog pol NN call xlr (AV × Mem) (x1j hs u) x12 eNil x12 = (fun s => x1d call hs u (s.sl 5) s.m s.fc) := by
  kernel_rfl
theorem xxd (call : FCall) (hs : FHs) (u : Nat) (rec0 : AV → AV → AV → AV → AV → Mem → Nat → Option (AV × Mem)) :
  fxK Try.prog pol NN call xlt (AV × Mem) (x1j hs u) (fun s => rec0 (s.sl 1) (s.sl 5) (s.sl 6) (s.sl 14) (s.sl 15) s.m s.fc) (setE 0 (fun s => x1d call hs u (s.sl 5) s.m s.fc) eNil) x12 = (fun s => x1t call hs u rec0 (s.sl 1) (s.sl 5) (s.sl 6) (s.sl 14) (s.sl 15) s.m s.fc) := by
  kernel_rfl
theorem xxe (call : FCall) (hs : FHs) (u : Nat) (rec0 : AV → AV → AV → AV → AV → Mem → Nat → Option (AV × Mem)) :
  fxK Try.prog pol NN call xlx (AV × Mem) (x1j hs u) (fun s => x1t call hs u rec0 (s.sl 1) (s.sl 5) (s.sl 6) (s.sl 14) (s.sl 15) s.m s.fc) (setE 1 (fun s => x1t call hs u rec0 (s.sl 1) (s.sl 5) (s.sl 6) (s.sl 14) (s.sl 15) s.m s.fc) (setE 0 (fun s => x1d call hs u (s.sl 5) s.m s.fc) eNil)) x12 = (fun s => x4s call hs u rec0 (s.sl 1) (s.sl 5) (s.sl 6) (s.sl 14) (s.sl 15) s.m s.fc) := by
  kernel_rfl
theorem xxf (call : FCall) (hs : FHs) (u : Nat) (rec0 : AV → AV → AV → AV → AV → Mem → Nat → Option (AV × Mem)) (rec1 : AV → AV → AV → AV → AV → AV → Mem → Nat → Option (AV × Mem)) :
  fxK Try.prog pol NN call xed (AV × Mem) (x1j hs u) (fun s => rec1 (s.sl 1) (s.sl 5) (s.sl 6) (s.sl 8) (s.sl 14) (s.sl 15) s.m s.fc) (setE 2 (fun s => x4s call hs u rec0 (s.sl 1) (s.sl 5) (s.sl 6) (s.sl 14) (s.sl 15) s.m s.fc) (setE 1 (fun s => x1t call hs u rec0 (s.sl 1) (s.sl 5) (s.sl 6) (s.sl 14) (s.sl 15) s.m s.fc) (setE 0 (fun s => x1d call hs u (s.sl 5) s.m s.fc) eNil))) x12 = (fun s => x9b call hs u rec0 rec1 (s.sl 1) (s.sl 5) (s.sl 6) (s.sl 8) (s.sl 14) (s.sl 15) s.m s.fc) := by
  kernel_rfl
theorem xly (call : FCall) (hs : FHs) (u : Nat) (rec0 : AV → AV → AV → AV → AV → Mem → Nat → Option (AV × Mem)) : ∀ n : Nat,
  iter (fun rec => fxK Try.prog pol NN call xed (AV × Mem) (x1j hs u) rec (setE 2 (fun s => x4s call hs u rec0 (s.sl 1) (s.sl 5) (s.sl 6) (s.sl 14) (s.sl 15) s.m s.fc) (setE 1 (fun s => x1t call hs u rec0 (s.sl 1) (s.sl 5) (s.sl 6) (s.sl 14) (s.sl 15) s.m s.fc) (setE 0 (fun s => x1d call hs u (s.sl 5) s.m s.fc) eNil))) x12) n = (fun s => x34 call hs u rec0 n (s.sl 1) (s.sl 5) (s.sl 6) (s.sl 8) (s.sl 14) (s.sl 15) s.m s.fc)
  | 0 => rfl
  | n + 1 => by rw [iter_succ, xly call hs u rec0 n, xxf call hs u rec0 (x34 call hs u rec0 n)]; kernel_rfl
theorem xxg (call : FCall) (hs : FHs) (u : Nat) (rec0 : AV → AV → AV → AV → AV → Mem → Nat → Option (AV × Mem)) :
  fxK Try.prog pol NN call xec (AV × Mem) (x1j hs u) (fun s => x4s call hs u rec0 (s.sl 1) (s.sl 5) (s.sl 6) (s.sl 14) (s.sl 15) s.m s.fc) (setE 2 (fun s => x4s call hs u rec0 (s.sl 1) (s.sl 5) (s.sl 6) (s.sl 14) (s.sl 15) s.m s.fc) (setE 1 (fun s => x1t call hs u rec0 (s.sl 1) (s.sl 5) (s.sl 6) (s.sl 14) (s.sl 15) s.m s.fc) (setE 0 (fun s => x1d call hs u (s.sl 5) s.m s.fc) eNil))) x12 = (fun s => x34 call hs u rec0 NN (s.sl 1) (s.sl 5) (s.sl 6) (s.sl 8) (s.sl 14) (s.sl 15) s.m s.fc) := by
  rw [show xec = .loop xed from by kernel_rfl, loop_r, xly call hs u rec0 NN]
theorem xxh (call : FCall) (hs : FHs) (u : Nat) (rec0 : AV → AV → AV → AV → AV → Mem → Nat → Option (AV × Mem)) :
  fxK Try.prog pol NN call xeb (AV × Mem) (x1j hs u) (fun s => x4s call hs u rec0 (s.sl 1) (s.sl 5) (s.sl 6) (s.sl 14) (s.sl 15) s.m s.fc) (setE 1 (fun s => x1t call hs u rec0 (s.sl 1) (s.sl 5) (s.sl 6) (s.sl 14) (s.sl 15) s.m s.fc) (setE 0 (fun s => x1d call hs u (s.sl 5) s.m s.fc) eNil)) x12 = (fun s => x34 call hs u rec0 NN (s.sl 1) (s.sl 5) (s.sl 6) (s.sl 8) (s.sl 14) (s.sl 15) s.m s.fc) := by
  rw [show xeb = .block 2 xec from by kernel_rfl, block_r, xxg call hs u rec0]
theorem xxi (call : FCall) (hs : FHs) (u : Nat) (rec0 : AV → AV → AV → AV → AV → Mem → Nat → Option (AV × Mem)) :
  fxK Try.prog pol NN call xea (AV × Mem) (x1j hs u) (fun s => x1t call hs u rec0 (s.sl 1) (s.sl 5) (s.sl 6) (s.sl 14) (s.sl 15) s.m s.fc) (setE 1 (fun s => x1t call hs u rec0 (s.sl 1) (s.sl 5) (s.sl 6) (s.sl 14) (s.sl 15) s.m s.fc) (setE 0 (fun s => x1d call hs u (s.sl 5) s.m s.fc) eNil)) x12 = (fun s => x34 call hs u rec0 NN (s.sl 1) (s.sl 5) (s.sl 6) (s.sl 8) (s.sl 14) (s.sl 15) s.m s.fc) := by
  rw [show xea = .seq xeb xlx from by kernel_rfl, seq_r, xxe call hs u rec0, xxh call hs u rec0]
theorem xxj (call : FCall) (hs : FHs) (u : Nat) (rec0 : AV → AV → AV → AV → AV → Mem → Nat → Option (AV × Mem)) :
  fxK Try.prog pol NN call xe9 (AV × Mem) (x1j hs u) (fun s => x1t call hs u rec0 (s.sl 1) (s.sl 5) (s.sl 6) (s.sl 14) (s.sl 15) s.m s.fc) (setE 1 (fun s => x1t call hs u rec0 (s.sl 1) (s.sl 5) (s.sl 6) (s.sl 14) (s.sl 15) s.m s.fc) (setE 0 (fun s => x1d call hs u (s.sl 5) s.m s.fc) eNil)) x12 = (fun s => x7r call hs u rec0 (s.sl 1) (s.sl 5) (s.sl 6) (s.sl 14) (s.sl 15) s.m s.fc) := by
  rw [show xe9 = .seq xx8 xlu from by kernel_rfl, seq_r]; rw [show xlu = .seq xx9 xlv from by kernel_rfl, seq_r]; rw [show xlv = .seq xxa xlw from by kernel_rfl, seq_r]; rw [show xlw = .seq xxb xea from by kernel_rfl, seq_r]; rw [xxi call hs u rec0]; kernel_rfl
theorem xxk (call : FCall) (hs : FHs) (u : Nat) (rec0 : AV → AV → AV → AV → AV → Mem → Nat → Option (AV × Mem)) :
  fxK Try.prog pol NN call xe8 (AV × Mem) (x1j hs u) (fun s => x1t call hs u rec0 (s.sl 1) (s.sl 5) (s.sl 6) (s.sl 14) (s.sl 15) s.m s.fc) (setE 0 (fun s => x1d call hs u (s.sl 5) s.m s.fc) eNil) x12 = (fun s => x7r call hs u rec0 (s.sl 1) (s.sl 5) (s.sl 6) (s.sl 14) (s.sl 15) s.m s.fc) := by
  rw [show xe8 = .block 1 xe9 from by kernel_rfl, block_r, xxj call hs u rec0]
theorem xxl (call : FCall) (hs : FHs) (u : Nat) (rec0 : AV → AV → AV → AV → AV → Mem → Nat → Option (AV × Mem)) :
  fxK Try.prog pol NN call xe7 (AV × Mem) (x1j hs u) (fun s => rec0 (s.sl 1) (s.sl 5) (s.sl 6) (s.sl 14) (s.sl 15) s.m s.fc) (setE 0 (fun s => x1d call hs u (s.sl 5) s.m s.fc) eNil) x12 = (fun s => x7r call hs u rec0 (s.sl 1) (s.sl 5) (s.sl 6) (s.sl 14) (s.sl 15) s.m s.fc) := by
  rw [show xe7 = .seq xe8 xlt from by kernel_rfl, seq_r, xxd call hs u rec0, xxk call hs u rec0]
theorem xxm (call : FCall) (hs : FHs) (u : Nat) (rec0 : AV → AV → AV → AV → AV → Mem → Nat → Option (AV × Mem)) :
  fxK Try.prog pol NN call xba (AV × Mem) (x1j hs u) (fun s => rec0 (s.sl 1) (s.sl 5) (s.sl 6) (s.sl 14) (s.sl 15) s.m s.fc) (setE 0 (fun s => x1d call hs u (s.sl 5) s.m s.fc) eNil) x12 = (fun s => x9c call hs u rec0 (s.sl 1) (s.sl 5) (s.sl 6) (s.sl 14) (s.sl 15) s.m s.fc) := by
  rw [show xba = .seq xx6 xls from by kernel_rfl, seq_r]; rw [show xls = .seq xx7 xe7 from by kernel_rfl, seq_r]; rw [xxl call hs u rec0]; kernel_rfl
theorem xlz (call : FCall) (hs : FHs) (u : Nat) : ∀ n : Nat,
  iter (fun rec => fxK Try.prog pol NN call xba (AV × Mem) (x1j hs u) rec (setE 0 (fun s => x1d call hs u (s.sl 5) s.m s.fc) eNil) x12) n = (fun s => x35 call hs u n (s.sl 1) (s.sl 5) (s.sl 6) (s.sl 14) (s.sl 15) s.m s.fc)
  | 0 => rfl
  | n + 1 => by rw [iter_succ, xlz call hs u n, xxm call hs u (x35 call hs u n)]; kernel_rfl
theorem xxn (call : FCall) (hs : FHs) (u : Nat) :
  fxK Try.prog pol NN call xe6 (AV × Mem) (x1j hs u) (fun s => x1d call hs u (s.sl 5) s.m s.fc) (setE 0 (fun s => x1d call hs u (s.sl 5) s.m s.fc) eNil) x12 = (fun s => x35 call hs u NN (s.sl 1) (s.sl 5) (s.sl 6) (s.sl 14) (s.sl 15) s.m s.fc) := by
  rw [show xe6 = .loop xba from by kernel_rfl, loop_r, xlz call hs u NN]
theorem xxo (call : FCall) (hs : FHs) (u : Nat) :
  fxK Try.prog pol NN call xe5 (AV × Mem) (x1j hs u) (fun s => x1d call hs u (s.sl 5) s.m s.fc) eNil x12 = (fun s => x35 call hs u NN (s.sl 1) (s.sl 5) (s.sl 6) (s.sl 14) (s.sl 15) s.m s.fc) := by
  rw [show xe5 = .block 0 xe6 from by kernel_rfl, block_r, xxn call hs u]
theorem xxp (call : FCall) (hs : FHs) (u : Nat) :
  fxK Try.prog pol NN call xe4 (AV × Mem) (x1j hs u) (fun s => x1d call hs u (s.sl 5) s.m s.fc) eNil x12 = (fun s => xau call hs u (s.sl 1) (s.sl 5) (s.sl 6) s.m s.fc) := by
  rw [show xe4 = .seq xx5 xe5 from by kernel_rfl, seq_r]; rw [xxo call hs u]; kernel_rfl
theorem xxq (call : FCall) (hs : FHs) (u : Nat) :
  fxK Try.prog pol NN call xe3 (AV × Mem) (x1j hs u) x12 eNil x12 = (fun s => xau call hs u (s.sl 1) (s.sl 5) (s.sl 6) s.m s.fc) := by
  rw [show xe3 = .seq xe4 xlr from by kernel_rfl, seq_r, xxc call hs u, xxp call hs u]
theorem xxr (call : FCall) (hs : FHs) (u : Nat) :
  fxK Try.prog pol NN call xe2 (AV × Mem) (x1j hs u) x12 eNil x12 = (fun s => xd2 call hs u (s.sl 0) (s.sl 1) s.m s.fc) := by
  rw [show xe2 = .seq xx2 xlp from by kernel_rfl, seq_r]; rw [show xlp = .seq xx3 xlq from by kernel_rfl, seq_r]; rw [show xlq = .seq xx4 xe3 from by kernel_rfl, seq_r]; rw [xxq call hs u]; kernel_rfl
theorem xxs (call : FCall) (hs : FHs) (t0 t1 : AV) (m : Mem) : fxBody Try.prog pol NN call hs xa [t0, t1] m = x7a call hs [t0, t1] m := by
  rw [fxBody_at (fn := Try.f113) (body := xe2) (nt := 45) (rs := [.tmp 4]) (by kernel_rfl) (by kernel_rfl) (by kernel_rfl) (by kernel_rfl) (by kernel_rfl) (by kernel_rfl)]
  exact (congrFun (xxr call hs m.next) _).trans (by kernel_rfl)
theorem xvc (call : FCall) (hs : FHs) (args : List AV) (m : Mem) (r : AV × Mem) (h : x7a call hs args m = some r) : fxBody Try.prog pol NN call hs xa args m = some r := by
  unfold x7a at h
  split at h
  · rw [xxs]; exact h
  · cases h

abbrev x9h (hs : FHs) (u : Nat) : FCtx := { f := x20, u := u, nt := 20, hs := hs }
noncomputable abbrev x37 : Fs → Option (AV × Mem) := fxRes Try.prog []
noncomputable def xee : Code := nav (bodyOf x20) []
noncomputable def xxt : Code := nav (bodyOf x20) [false]
noncomputable def xef : Code := nav (bodyOf x20) [true]
noncomputable def xeg : Code := nav (bodyOf x20) [true, false]
noncomputable def xeh : Code := nav (bodyOf x20) [true, false, false]
theorem xxu (call : FCall) (hs : FHs) (u : Nat) (rec0 : AV → AV → AV → AV → Mem → Nat → Option (AV × Mem)) :
  fxK Try.prog pol NN call xeh (AV × Mem) (x9h hs u) (fun s => rec0 (s.sl 1) (s.sl 10) (s.sl 11) (s.sl 12) s.m s.fc) (setE 0 x37 eNil) x37 = (fun s => xav call hs u rec0 (s.sl 1) (s.sl 10) (s.sl 11) (s.sl 12) s.m s.fc) := by
  kernel_rfl
theorem xm0 (call : FCall) (hs : FHs) (u : Nat) : ∀ n : Nat,
  iter (fun rec => fxK Try.prog pol NN call xeh (AV × Mem) (x9h hs u) rec (setE 0 x37 eNil) x37) n = (fun s => x4t call hs u n (s.sl 1) (s.sl 10) (s.sl 11) (s.sl 12) s.m s.fc)
  | 0 => rfl
  | n + 1 => by rw [iter_succ, xm0 call hs u n, xxu call hs u (x4t call hs u n)]; kernel_rfl
theorem xxv (call : FCall) (hs : FHs) (u : Nat) :
  fxK Try.prog pol NN call xeg (AV × Mem) (x9h hs u) x37 (setE 0 x37 eNil) x37 = (fun s => x4t call hs u NN (s.sl 1) (s.sl 10) (s.sl 11) (s.sl 12) s.m s.fc) := by
  rw [show xeg = .loop xeh from by kernel_rfl, loop_r, xm0 call hs u NN]
theorem xxw (call : FCall) (hs : FHs) (u : Nat) :
  fxK Try.prog pol NN call xef (AV × Mem) (x9h hs u) x37 eNil x37 = (fun s => x4t call hs u NN (s.sl 1) (s.sl 10) (s.sl 11) (s.sl 12) s.m s.fc) := by
  rw [show xef = .block 0 xeg from by kernel_rfl, block_r, xxv call hs u]
theorem xxx (call : FCall) (hs : FHs) (u : Nat) :
  fxK Try.prog pol NN call xee (AV × Mem) (x9h hs u) x37 eNil x37 = (fun s => xaw call hs u (s.sl 0) (s.sl 1) (s.sl 2) s.m s.fc) := by
  rw [show xee = .seq xxt xef from by kernel_rfl, seq_r]; rw [xxw call hs u]; kernel_rfl
theorem xxy (call : FCall) (hs : FHs) (t0 t1 t2 : AV) (m : Mem) : fxBody Try.prog pol NN call hs x20 [t0, t1, t2] m = x81 call hs [t0, t1, t2] m := by
  rw [fxBody_at (fn := Try.f114) (body := xee) (nt := 20) (rs := []) (by kernel_rfl) (by kernel_rfl) (by kernel_rfl) (by kernel_rfl) (by kernel_rfl) (by kernel_rfl)]
  exact (congrFun (xxx call hs m.next) _).trans (by kernel_rfl)
theorem xto (call : FCall) (hs : FHs) (args : List AV) (m : Mem) (r : AV × Mem) (h : x81 call hs args m = some r) : fxBody Try.prog pol NN call hs x20 args m = some r := by
  unfold x81 at h
  split at h
  · rw [xxy]; exact h
  · cases h

abbrev x13 (hs : FHs) (u : Nat) : FCtx := { f := x8, u := u, nt := 139, hs := hs }
noncomputable abbrev xc : Fs → Option (AV × Mem) := fxRes Try.prog [.cell 4 xdd]
noncomputable def xei : Code := nav (bodyOf x8) []
noncomputable def xxz : Code := nav (bodyOf x8) [false]
noncomputable def xm1 : Code := nav (bodyOf x8) [true]
noncomputable def xy0 : Code := nav (bodyOf x8) [true, false]
noncomputable def xm2 : Code := nav (bodyOf x8) [true, true]
noncomputable def xy1 : Code := nav (bodyOf x8) [true, true, false]
noncomputable def xm3 : Code := nav (bodyOf x8) [true, true, true]
noncomputable def xy2 : Code := nav (bodyOf x8) [true, true, true, false]
noncomputable def xej : Code := nav (bodyOf x8) [true, true, true, true]
noncomputable def xek : Code := nav (bodyOf x8) [true, true, true, true, false]
noncomputable def xbb : Code := nav (bodyOf x8) [true, true, true, true, false, false]
noncomputable def xel : Code := nav (bodyOf x8) [true, true, true, true, false, false, false]
noncomputable def xy3 : Code := nav (bodyOf x8) [true, true, true, true, false, false, false, false]
noncomputable def xem : Code := nav (bodyOf x8) [true, true, true, true, false, false, false, true]
noncomputable def xen : Code := nav (bodyOf x8) [true, true, true, true, false, false, false, true, false]
noncomputable def xeo : Code := nav (bodyOf x8) [true, true, true, true, false, false, false, true, true]
noncomputable def xy4 : Code := nav (bodyOf x8) [true, true, true, true, false, false, false, true, true, false]
noncomputable def xm4 : Code := nav (bodyOf x8) [true, true, true, true, false, false, false, true, true, true]
noncomputable def xy5 : Code := nav (bodyOf x8) [true, true, true, true, false, false, false, true, true, true, false]
noncomputable def xm5 : Code := nav (bodyOf x8) [true, true, true, true, false, false, false, true, true, true, true]
noncomputable def xy6 : Code := nav (bodyOf x8) [true, true, true, true, false, false, false, true, true, true, true, false]
noncomputable def xep : Code := nav (bodyOf x8) [true, true, true, true, false, false, false, true, true, true, true, true]
noncomputable def xeq : Code := nav (bodyOf x8) [true, true, true, true, false, false, false, true, true, true, true, true, false]
noncomputable def xer : Code := nav (bodyOf x8) [true, true, true, true, false, false, false, true, true, true, true, true, false, false]
noncomputable def xm6 : Code := nav (bodyOf x8) [true, true, true, true, false, false, false, true, true, true, true, true, false, true]
noncomputable def xy7 : Code := nav (bodyOf x8) [true, true, true, true, false, false, false, true, false, false]
noncomputable def xes : Code := nav (bodyOf x8) [true, true, true, true, false, false, false, true, false, true]
noncomputable def xet : Code := nav (bodyOf x8) [true, true, true, true, false, false, false, true, false, true, false]
noncomputable def xbc : Code := nav (bodyOf x8) [true, true, true, true, false, false, false, true, false, true, false, false]
noncomputable def xy8 : Code := nav (bodyOf x8) [true, true, true, true, false, false, false, true, false, true, false, false, false]
noncomputable def xm7 : Code := nav (bodyOf x8) [true, true, true, true, false, false, false, true, false, true, false, false, true]
noncomputable def xy9 : Code := nav (bodyOf x8) [true, true, true, true, false, false, false, true, false, true, false, false, true, false]
noncomputable def xeu : Code := nav (bodyOf x8) [true, true, true, true, false, false, false, true, false, true, false, false, true, true]
noncomputable def xm8 : Code := nav (bodyOf x8) [true, true, true, true, false, false, false, true, false, true, false, false, true, true, false]
noncomputable def xm9 : Code := nav (bodyOf x8) [true, true, true, true, false, false, false, true, false, true, false, false, true, true, true]
theorem xya (call : FCall) (hs : FHs) (u : Nat) :
  fxK Try.prog pol NN call xm6 Mem (x13 hs u) (fun s => some s.m) eNil fNil = (fun s => x7s call hs u (s.sl 2) (s.sl 5) (s.sl 7) (s.sl 10) s.m s.fc) := by
  kernel_rfl
theorem xyb (call : FCall) (hs : FHs) (u : Nat) :
  fxK Try.prog pol NN call xer Mem (x13 hs u) (fun s => x7s call hs u (s.sl 2) (s.sl 5) (s.sl 7) (s.sl 10) s.m s.fc) eNil fNil = (fun s => x5e call hs u (s.sl 2) (s.sl 5) (s.sl 7) (s.sl 87) s.m s.fc) := by
  kernel_rfl
theorem xyc (call : FCall) (hs : FHs) (u : Nat) (rec0 : AV → AV → AV → AV → Mem → Nat → Option (AV × Mem)) :
  fxK Try.prog pol NN call xeq (AV × Mem) (x13 hs u) (fun s => rec0 (s.sl 2) (s.sl 4) (s.sl 5) (s.sl 6) s.m s.fc) (setE 4 (fun s => rec0 (s.sl 2) (s.sl 4) (s.sl 5) (s.sl 6) s.m s.fc) (setE 1 (fun s => rec0 (s.sl 2) (s.sl 4) (s.sl 5) (s.sl 6) s.m s.fc) (setE 0 xc eNil))) xc = (fun s => xax call hs u rec0 (s.sl 2) (s.sl 4) (s.sl 5) (s.sl 6) (s.sl 7) (s.sl 86) s.m s.fc) := by
  rw [show xeq = .rangeFunc (.tmp 86) #[87] xer xm6 from by kernel_rfl, rng_r (H := fun u s => x5e call hs u (s.sl 2) (s.sl 5) (s.sl 7) (s.sl 87) s.m s.fc) (by intro u; exact (congrArg (fun Y => fxK Try.prog pol NN call xer Mem (x13 hs u) Y eNil fNil) (xya call hs u)).trans (xyb call hs u))]; kernel_rfl
theorem xyd (call : FCall) (hs : FHs) (u : Nat) (rec0 : AV → AV → AV → AV → Mem → Nat → Option (AV × Mem)) :
  fxK Try.prog pol NN call xep (AV × Mem) (x13 hs u) (fun s => rec0 (s.sl 2) (s.sl 4) (s.sl 5) (s.sl 6) s.m s.fc) (setE 1 (fun s => rec0 (s.sl 2) (s.sl 4) (s.sl 5) (s.sl 6) s.m s.fc) (setE 0 xc eNil)) xc = (fun s => xax call hs u rec0 (s.sl 2) (s.sl 4) (s.sl 5) (s.sl 6) (s.sl 7) (s.sl 86) s.m s.fc) := by
  rw [show xep = .block 4 xeq from by kernel_rfl, block_r, xyc call hs u rec0]
theorem xye (call : FCall) (hs : FHs) (u : Nat) (rec0 : AV → AV → AV → AV → Mem → Nat → Option (AV × Mem)) :
  fxK Try.prog pol NN call xeo (AV × Mem) (x13 hs u) (fun s => rec0 (s.sl 2) (s.sl 4) (s.sl 5) (s.sl 6) s.m s.fc) (setE 1 (fun s => rec0 (s.sl 2) (s.sl 4) (s.sl 5) (s.sl 6) s.m s.fc) (setE 0 xc eNil)) xc = (fun s => x1u call hs u rec0 (s.sl 2) (s.sl 4) (s.sl 5) (s.sl 6) (s.sl 7) s.m s.fc) := by
  rw [show xeo = .seq xy4 xm4 from by kernel_rfl, seq_r]; rw [show xm4 = .seq xy5 xm5 from by kernel_rfl, seq_r]; rw [show xm5 = .seq xy6 xep from by kernel_rfl, seq_r]; rw [xyd call hs u rec0]; kernel_rfl
theorem xyf (call : FCall) (hs : FHs) (u : Nat) (rec0 : AV → AV → AV → AV → Mem → Nat → Option (AV × Mem)) (rec1 : AV → AV → AV → AV → AV → AV → AV → AV → Mem → Nat → Option (AV × Mem)) :
  fxK Try.prog pol NN call xm9 (AV × Mem) (x13 hs u) (fun s => rec1 (s.sl 2) (s.sl 4) (s.sl 5) (s.sl 6) (s.sl 7) (s.sl 47) (s.sl 48) (s.sl 49) s.m s.fc) (setE 2 (fun s => x1u call hs u rec0 (s.sl 2) (s.sl 4) (s.sl 5) (s.sl 6) (s.sl 7) s.m s.fc) (setE 1 (fun s => rec0 (s.sl 2) (s.sl 4) (s.sl 5) (s.sl 6) s.m s.fc) (setE 0 xc eNil))) xc = (fun s => x4u call hs u rec0 rec1 (s.sl 2) (s.sl 4) (s.sl 5) (s.sl 6) (s.sl 7) (s.sl 47) (s.sl 48) (s.sl 49) s.m s.fc) := by
  kernel_rfl
theorem xyg (call : FCall) (hs : FHs) (u : Nat) (rec0 : AV → AV → AV → AV → Mem → Nat → Option (AV × Mem)) (rec1 : AV → AV → AV → AV → AV → AV → AV → AV → Mem → Nat → Option (AV × Mem)) :
  fxK Try.prog pol NN call xm8 (AV × Mem) (x13 hs u) (fun s => x4u call hs u rec0 rec1 (s.sl 2) (s.sl 4) (s.sl 5) (s.sl 6) (s.sl 7) (s.sl 47) (s.sl 48) (s.sl 49) s.m s.fc) (setE 2 (fun s => x1u call hs u rec0 (s.sl 2) (s.sl 4) (s.sl 5) (s.sl 6) (s.sl 7) s.m s.fc) (setE 1 (fun s => rec0 (s.sl 2) (s.sl 4) (s.sl 5) (s.sl 6) s.m s.fc) (setE 0 xc eNil))) xc = (fun s => x9d call hs u rec0 rec1 (s.sl 2) (s.sl 4) (s.sl 5) (s.sl 6) (s.sl 7) (s.sl 47) (s.sl 48) (s.sl 49) s.m s.fc) := by
  kernel_rfl
theorem xyh (call : FCall) (hs : FHs) (u : Nat) (rec0 : AV → AV → AV → AV → Mem → Nat → Option (AV × Mem)) (rec1 : AV → AV → AV → AV → AV → AV → AV → AV → Mem → Nat → Option (AV × Mem)) :
  fxK Try.prog pol NN call xeu (AV × Mem) (x13 hs u) (fun s => rec1 (s.sl 2) (s.sl 4) (s.sl 5) (s.sl 6) (s.sl 7) (s.sl 47) (s.sl 48) (s.sl 49) s.m s.fc) (setE 2 (fun s => x1u call hs u rec0 (s.sl 2) (s.sl 4) (s.sl 5) (s.sl 6) (s.sl 7) s.m s.fc) (setE 1 (fun s => rec0 (s.sl 2) (s.sl 4) (s.sl 5) (s.sl 6) s.m s.fc) (setE 0 xc eNil))) xc = (fun s => x9d call hs u rec0 rec1 (s.sl 2) (s.sl 4) (s.sl 5) (s.sl 6) (s.sl 7) (s.sl 47) (s.sl 48) (s.sl 49) s.m s.fc) := by
  rw [show xeu = .seq xm8 xm9 from by kernel_rfl, seq_r, xyf call hs u rec0 rec1, xyg call hs u rec0 rec1]
theorem xyi (call : FCall) (hs : FHs) (u : Nat) (rec0 : AV → AV → AV → AV → Mem → Nat → Option (AV × Mem)) (rec1 : AV → AV → AV → AV → AV → AV → AV → AV → Mem → Nat → Option (AV × Mem)) :
  fxK Try.prog pol NN call xbc (AV × Mem) (x13 hs u) (fun s => rec1 (s.sl 2) (s.sl 4) (s.sl 5) (s.sl 6) (s.sl 7) (s.sl 47) (s.sl 48) (s.sl 49) s.m s.fc) (setE 2 (fun s => x1u call hs u rec0 (s.sl 2) (s.sl 4) (s.sl 5) (s.sl 6) (s.sl 7) s.m s.fc) (setE 1 (fun s => rec0 (s.sl 2) (s.sl 4) (s.sl 5) (s.sl 6) s.m s.fc) (setE 0 xc eNil))) xc = (fun s => x9e call hs u rec0 rec1 (s.sl 2) (s.sl 4) (s.sl 5) (s.sl 6) (s.sl 7) (s.sl 47) (s.sl 48) (s.sl 49) s.m s.fc) := by
  rw [show xbc = .seq xy8 xm7 from by kernel_rfl, seq_r]; rw [show xm7 = .seq xy9 xeu from by kernel_rfl, seq_r]; rw [xyh call hs u rec0 rec1]; kernel_rfl
theorem xma (call : FCall) (hs : FHs) (u : Nat) (rec0 : AV → AV → AV → AV → Mem → Nat → Option (AV × Mem)) : ∀ n : Nat,
  iter (fun rec => fxK Try.prog pol NN call xbc (AV × Mem) (x13 hs u) rec (setE 2 (fun s => x1u call hs u rec0 (s.sl 2) (s.sl 4) (s.sl 5) (s.sl 6) (s.sl 7) s.m s.fc) (setE 1 (fun s => rec0 (s.sl 2) (s.sl 4) (s.sl 5) (s.sl 6) s.m s.fc) (setE 0 xc eNil))) xc) n = (fun s => x3x call hs u rec0 n (s.sl 2) (s.sl 4) (s.sl 5) (s.sl 6) (s.sl 7) (s.sl 47) (s.sl 48) (s.sl 49) s.m s.fc)
  | 0 => rfl
  | n + 1 => by rw [iter_succ, xma call hs u rec0 n, xyi call hs u rec0 (x3x call hs u rec0 n)]; kernel_rfl
theorem xyj (call : FCall) (hs : FHs) (u : Nat) (rec0 : AV → AV → AV → AV → Mem → Nat → Option (AV × Mem)) :
  fxK Try.prog pol NN call xet (AV × Mem) (x13 hs u) (fun s => x1u call hs u rec0 (s.sl 2) (s.sl 4) (s.sl 5) (s.sl 6) (s.sl 7) s.m s.fc) (setE 2 (fun s => x1u call hs u rec0 (s.sl 2) (s.sl 4) (s.sl 5) (s.sl 6) (s.sl 7) s.m s.fc) (setE 1 (fun s => rec0 (s.sl 2) (s.sl 4) (s.sl 5) (s.sl 6) s.m s.fc) (setE 0 xc eNil))) xc = (fun s => x3x call hs u rec0 NN (s.sl 2) (s.sl 4) (s.sl 5) (s.sl 6) (s.sl 7) (s.sl 47) (s.sl 48) (s.sl 49) s.m s.fc) := by
  rw [show xet = .loop xbc from by kernel_rfl, loop_r, xma call hs u rec0 NN]
theorem xyk (call : FCall) (hs : FHs) (u : Nat) (rec0 : AV → AV → AV → AV → Mem → Nat → Option (AV × Mem)) :
  fxK Try.prog pol NN call xes (AV × Mem) (x13 hs u) (fun s => x1u call hs u rec0 (s.sl 2) (s.sl 4) (s.sl 5) (s.sl 6) (s.sl 7) s.m s.fc) (setE 1 (fun s => rec0 (s.sl 2) (s.sl 4) (s.sl 5) (s.sl 6) s.m s.fc) (setE 0 xc eNil)) xc = (fun s => x3x call hs u rec0 NN (s.sl 2) (s.sl 4) (s.sl 5) (s.sl 6) (s.sl 7) (s.sl 47) (s.sl 48) (s.sl 49) s.m s.fc) := by
  rw [show xes = .block 2 xet from by kernel_rfl, block_r, xyj call hs u rec0]
theorem xyl (call : FCall) (hs : FHs) (u : Nat) (rec0 : AV → AV → AV → AV → Mem → Nat → Option (AV × Mem)) :
  fxK Try.prog pol NN call xen (AV × Mem) (x13 hs u) (fun s => x1u call hs u rec0 (s.sl 2) (s.sl 4) (s.sl 5) (s.sl 6) (s.sl 7) s.m s.fc) (setE 1 (fun s => rec0 (s.sl 2) (s.sl 4) (s.sl 5) (s.sl 6) s.m s.fc) (setE 0 xc eNil)) xc = (fun s => xay call hs u rec0 (s.sl 2) (s.sl 4) (s.sl 5) (s.sl 6) (s.sl 7) s.m s.fc) := by
  rw [show xen = .seq xy7 xes from by kernel_rfl, seq_r]; rw [xyk call hs u rec0]; kernel_rfl
theorem xym (call : FCall) (hs : FHs) (u : Nat) (rec0 : AV → AV → AV → AV → Mem → Nat → Option (AV × Mem)) :
  fxK Try.prog pol NN call xem (AV × Mem) (x13 hs u) (fun s => rec0 (s.sl 2) (s.sl 4) (s.sl 5) (s.sl 6) s.m s.fc) (setE 1 (fun s => rec0 (s.sl 2) (s.sl 4) (s.sl 5) (s.sl 6) s.m s.fc) (setE 0 xc eNil)) xc = (fun s => xay call hs u rec0 (s.sl 2) (s.sl 4) (s.sl 5) (s.sl 6) (s.sl 7) s.m s.fc) := by
  rw [show xem = .seq xen xeo from by kernel_rfl, seq_r, xye call hs u rec0, xyl call hs u rec0]
theorem xyn (call : FCall) (hs : FHs) (u : Nat) (rec0 : AV → AV → AV → AV → Mem → Nat → Option (AV × Mem)) :
  fxK Try.prog pol NN call xel (AV × Mem) (x13 hs u) (fun s => rec0 (s.sl 2) (s.sl 4) (s.sl 5) (s.sl 6) s.m s.fc) (setE 1 (fun s => rec0 (s.sl 2) (s.sl 4) (s.sl 5) (s.sl 6) s.m s.fc) (setE 0 xc eNil)) xc = (fun s => xaz call hs u rec0 (s.sl 2) (s.sl 4) (s.sl 5) (s.sl 6) s.m s.fc) := by
  rw [show xel = .seq xy3 xem from by kernel_rfl, seq_r]; rw [xym call hs u rec0]; kernel_rfl
theorem xyo (call : FCall) (hs : FHs) (u : Nat) (rec0 : AV → AV → AV → AV → Mem → Nat → Option (AV × Mem)) :
  fxK Try.prog pol NN call xbb (AV × Mem) (x13 hs u) (fun s => rec0 (s.sl 2) (s.sl 4) (s.sl 5) (s.sl 6) s.m s.fc) (setE 0 xc eNil) xc = (fun s => xaz call hs u rec0 (s.sl 2) (s.sl 4) (s.sl 5) (s.sl 6) s.m s.fc) := by
  rw [show xbb = .block 1 xel from by kernel_rfl, block_r, xyn call hs u rec0]
theorem xmb (call : FCall) (hs : FHs) (u : Nat) : ∀ n : Nat,
  iter (fun rec => fxK Try.prog pol NN call xbb (AV × Mem) (x13 hs u) rec (setE 0 xc eNil) xc) n = (fun s => x2n call hs u n (s.sl 2) (s.sl 4) (s.sl 5) (s.sl 6) s.m s.fc)
  | 0 => rfl
  | n + 1 => by rw [iter_succ, xmb call hs u n, xyo call hs u (x2n call hs u n)]; kernel_rfl
theorem xyp (call : FCall) (hs : FHs) (u : Nat) :
  fxK Try.prog pol NN call xek (AV × Mem) (x13 hs u) xc (setE 0 xc eNil) xc = (fun s => x2n call hs u NN (s.sl 2) (s.sl 4) (s.sl 5) (s.sl 6) s.m s.fc) := by
  rw [show xek = .loop xbb from by kernel_rfl, loop_r, xmb call hs u NN]
theorem xyq (call : FCall) (hs : FHs) (u : Nat) :
  fxK Try.prog pol NN call xej (AV × Mem) (x13 hs u) xc eNil xc = (fun s => x2n call hs u NN (s.sl 2) (s.sl 4) (s.sl 5) (s.sl 6) s.m s.fc) := by
  rw [show xej = .block 0 xek from by kernel_rfl, block_r, xyp call hs u]
theorem xyr (call : FCall) (hs : FHs) (u : Nat) :
  fxK Try.prog pol NN call xei (AV × Mem) (x13 hs u) xc eNil xc = (fun s => xd3 call hs u (s.sl 0) (s.sl 1) s.m s.fc) := by
  rw [show xei = .seq xxz xm1 from by kernel_rfl, seq_r]; rw [show xm1 = .seq xy0 xm2 from by kernel_rfl, seq_r]; rw [show xm2 = .seq xy1 xm3 from by kernel_rfl, seq_r]; rw [show xm3 = .seq xy2 xej from by kernel_rfl, seq_r]; rw [xyq call hs u]; kernel_rfl
theorem xys (call : FCall) (hs : FHs) (t0 t1 : AV) (m : Mem) : fxBody Try.prog pol NN call hs x8 [t0, t1] m = x6g call hs [t0, t1] m := by
  rw [fxBody_at (fn := Try.f115) (body := xei) (nt := 139) (rs := [.cell 4 xdd]) (by kernel_rfl) (by kernel_rfl) (by kernel_rfl) (by kernel_rfl) (by kernel_rfl) (by kernel_rfl)]
  exact (congrFun (xyr call hs m.next) _).trans (by kernel_rfl)
theorem xtm (call : FCall) (hs : FHs) (args : List AV) (m : Mem) (r : AV × Mem) (h : x6g call hs args m = some r) : fxBody Try.prog pol NN call hs x8 args m = some r := by
  unfold x6g at h
  split at h
  · rw [xys]; exact h
  · cases h

abbrev x5g (hs : FHs) (u : Nat) : FCtx := { f := x1n, u := u, nt := 53, hs := hs }
noncomputable abbrev x1p : Fs → Option (AV × Mem) := fxRes Try.prog []
noncomputable def xev : Code := nav (bodyOf x1n) []
noncomputable def xyt : Code := nav (bodyOf x1n) [false]
noncomputable def xew : Code := nav (bodyOf x1n) [true]
noncomputable def xex : Code := nav (bodyOf x1n) [true, false]
noncomputable def xbd : Code := nav (bodyOf x1n) [true, false, false]
noncomputable def xyu : Code := nav (bodyOf x1n) [true, false, false, false]
noncomputable def xmc : Code := nav (bodyOf x1n) [true, false, false, true]
noncomputable def xyv : Code := nav (bodyOf x1n) [true, false, false, true, false]
noncomputable def xey : Code := nav (bodyOf x1n) [true, false, false, true, true]
noncomputable def xmd : Code := nav (bodyOf x1n) [true, false, false, true, true, false]
noncomputable def xme : Code := nav (bodyOf x1n) [true, false, false, true, true, true]
theorem xyw (call : FCall) (hs : FHs) (u : Nat) (rec0 : AV → AV → AV → AV → AV → Mem → Nat → Option (AV × Mem)) :
  fxK Try.prog pol NN call xme (AV × Mem) (x5g hs u) (fun s => rec0 (s.sl 0) (s.sl 1) (s.sl 3) (s.sl 9) (s.sl 10) s.m s.fc) (setE 0 x1p eNil) x1p = (fun s => xb0 call hs u rec0 (s.sl 0) (s.sl 1) (s.sl 3) (s.sl 9) (s.sl 10) s.m s.fc) := by
  kernel_rfl
theorem xyx (call : FCall) (hs : FHs) (u : Nat) (rec0 : AV → AV → AV → AV → AV → Mem → Nat → Option (AV × Mem)) :
  fxK Try.prog pol NN call xmd (AV × Mem) (x5g hs u) (fun s => xb0 call hs u rec0 (s.sl 0) (s.sl 1) (s.sl 3) (s.sl 9) (s.sl 10) s.m s.fc) (setE 0 x1p eNil) x1p = (fun s => xd4 call hs u rec0 (s.sl 0) (s.sl 1) (s.sl 3) (s.sl 9) (s.sl 10) s.m s.fc) := by
  kernel_rfl
theorem xyy (call : FCall) (hs : FHs) (u : Nat) (rec0 : AV → AV → AV → AV → AV → Mem → Nat → Option (AV × Mem)) :
  fxK Try.prog pol NN call xey (AV × Mem) (x5g hs u) (fun s => rec0 (s.sl 0) (s.sl 1) (s.sl 3) (s.sl 9) (s.sl 10) s.m s.fc) (setE 0 x1p eNil) x1p = (fun s => xd4 call hs u rec0 (s.sl 0) (s.sl 1) (s.sl 3) (s.sl 9) (s.sl 10) s.m s.fc) := by
  rw [show xey = .seq xmd xme from by kernel_rfl, seq_r, xyw call hs u rec0, xyx call hs u rec0]
theorem xyz (call : FCall) (hs : FHs) (u : Nat) (rec0 : AV → AV → AV → AV → AV → Mem → Nat → Option (AV × Mem)) :
  fxK Try.prog pol NN call xbd (AV × Mem) (x5g hs u) (fun s => rec0 (s.sl 0) (s.sl 1) (s.sl 3) (s.sl 9) (s.sl 10) s.m s.fc) (setE 0 x1p eNil) x1p = (fun s => xkw call hs u rec0 (s.sl 0) (s.sl 1) (s.sl 3) (s.sl 9) (s.sl 10) s.m s.fc) := by
  rw [show xbd = .seq xyu xmc from by kernel_rfl, seq_r]; rw [show xmc = .seq xyv xey from by kernel_rfl, seq_r]; rw [xyy call hs u rec0]; kernel_rfl
theorem xmf (call : FCall) (hs : FHs) (u : Nat) : ∀ n : Nat,
  iter (fun rec => fxK Try.prog pol NN call xbd (AV × Mem) (x5g hs u) rec (setE 0 x1p eNil) x1p) n = (fun s => x7u call hs u n (s.sl 0) (s.sl 1) (s.sl 3) (s.sl 9) (s.sl 10) s.m s.fc)
  | 0 => rfl
  | n + 1 => by rw [iter_succ, xmf call hs u n, xyz call hs u (x7u call hs u n)]; kernel_rfl
theorem xz0 (call : FCall) (hs : FHs) (u : Nat) :
  fxK Try.prog pol NN call xex (AV × Mem) (x5g hs u) x1p (setE 0 x1p eNil) x1p = (fun s => x7u call hs u NN (s.sl 0) (s.sl 1) (s.sl 3) (s.sl 9) (s.sl 10) s.m s.fc) := by
  rw [show xex = .loop xbd from by kernel_rfl, loop_r, xmf call hs u NN]
theorem xz1 (call : FCall) (hs : FHs) (u : Nat) :
  fxK Try.prog pol NN call xew (AV × Mem) (x5g hs u) x1p eNil x1p = (fun s => x7u call hs u NN (s.sl 0) (s.sl 1) (s.sl 3) (s.sl 9) (s.sl 10) s.m s.fc) := by
  rw [show xew = .block 0 xex from by kernel_rfl, block_r, xz0 call hs u]
theorem xz2 (call : FCall) (hs : FHs) (u : Nat) :
  fxK Try.prog pol NN call xev (AV × Mem) (x5g hs u) x1p eNil x1p = (fun s => xkx call hs u (s.sl 0) (s.sl 1) (s.sl 2) (s.sl 3) s.m s.fc) := by
  rw [show xev = .seq xyt xew from by kernel_rfl, seq_r]; rw [xz1 call hs u]; kernel_rfl
theorem xz3 (call : FCall) (hs : FHs) (t0 t1 t2 t3 : AV) (m : Mem) : fxBody Try.prog pol NN call hs x1n [t0, t1, t2, t3] m = x83 call hs [t0, t1, t2, t3] m := by
  rw [fxBody_at (fn := Try.f116) (body := xev) (nt := 53) (rs := []) (by kernel_rfl) (by kernel_rfl) (by kernel_rfl) (by kernel_rfl) (by kernel_rfl) (by kernel_rfl)]
  exact (congrFun (xz2 call hs m.next) _).trans (by kernel_rfl)
theorem xtq (call : FCall) (hs : FHs) (args : List AV) (m : Mem) (r : AV × Mem) (h : x83 call hs args m = some r) : fxBody Try.prog pol NN call hs x1n args m = some r := by
  unfold x83 at h
  split at h
  · rw [xz3]; exact h
  · cases h

abbrev xz4 (hs : FHs) (u : Nat) : FCtx := { f := x2u, u := u, nt := 5, hs := hs }
noncomputable abbrev xmg : Fs → Option (AV × Mem) := fxRes Try.prog [.tmp 2]
noncomputable def xmh : Code := nav (bodyOf x2u) []
theorem xz5 (call : FCall) (hs : FHs) (u : Nat) :
  fxK Try.prog pol NN call xmh (AV × Mem) (xz4 hs u) xmg eNil xmg = (fun s => xd5 call hs u (s.sl 0) s.m s.fc) := by
  kernel_rfl
theorem xz6 (call : FCall) (hs : FHs) (t0 : AV) (m : Mem) : fxBody Try.prog pol NN call hs x2u [t0] m = x7b call hs [t0] m := by
  rw [fxBody_at (fn := Try.f118) (body := xmh) (nt := 5) (rs := [.tmp 2]) (by kernel_rfl) (by kernel_rfl) (by kernel_rfl) (by kernel_rfl) (by kernel_rfl) (by kernel_rfl)]
  exact (congrFun (xz5 call hs m.next) _).trans (by kernel_rfl)
theorem xvd (call : FCall) (hs : FHs) (args : List AV) (m : Mem) (r : AV × Mem) (h : x7b call hs args m = some r) : fxBody Try.prog pol NN call hs x2u args m = some r := by
  unfold x7b at h
  split at h
  · rw [xz6]; exact h
  · cases h

abbrev x1w (hs : FHs) (u : Nat) : FCtx := { f := xg, u := u, nt := 55, hs := hs }
noncomputable abbrev xf : Fs → Option (AV × Mem) := fxRes Try.prog []
noncomputable def xez : Code := nav (bodyOf xg) []
noncomputable def xz7 : Code := nav (bodyOf xg) [false]
noncomputable def xmi : Code := nav (bodyOf xg) [true]
noncomputable def xz8 : Code := nav (bodyOf xg) [true, false]
noncomputable def xf0 : Code := nav (bodyOf xg) [true, true]
noncomputable def xf1 : Code := nav (bodyOf xg) [true, true, false]
noncomputable def xbe : Code := nav (bodyOf xg) [true, true, false, false]
noncomputable def xz9 : Code := nav (bodyOf xg) [true, true, false, false, false]
noncomputable def xmj : Code := nav (bodyOf xg) [true, true, false, false, true]
noncomputable def xza : Code := nav (bodyOf xg) [true, true, false, false, true, false]
noncomputable def xf2 : Code := nav (bodyOf xg) [true, true, false, false, true, true]
noncomputable def xf3 : Code := nav (bodyOf xg) [true, true, false, false, true, true, false]
noncomputable def xmk : Code := nav (bodyOf xg) [true, true, false, false, true, true, true]
noncomputable def xf4 : Code := nav (bodyOf xg) [true, true, false, false, true, true, false, false]
noncomputable def xzb : Code := nav (bodyOf xg) [true, true, false, false, true, true, false, false, false]
noncomputable def xml : Code := nav (bodyOf xg) [true, true, false, false, true, true, false, false, true]
noncomputable def xzc : Code := nav (bodyOf xg) [true, true, false, false, true, true, false, false, true, false]
noncomputable def xf5 : Code := nav (bodyOf xg) [true, true, false, false, true, true, false, false, true, true]
noncomputable def xf6 : Code := nav (bodyOf xg) [true, true, false, false, true, true, false, false, true, true, false]
noncomputable def xbf : Code := nav (bodyOf xg) [true, true, false, false, true, true, false, false, true, true, false, false]
noncomputable def xzd : Code := nav (bodyOf xg) [true, true, false, false, true, true, false, false, true, true, false, false, false]
noncomputable def xmm : Code := nav (bodyOf xg) [true, true, false, false, true, true, false, false, true, true, false, false, true]
noncomputable def xze : Code := nav (bodyOf xg) [true, true, false, false, true, true, false, false, true, true, false, false, true, false]
noncomputable def xf7 : Code := nav (bodyOf xg) [true, true, false, false, true, true, false, false, true, true, false, false, true, true]
noncomputable def xmn : Code := nav (bodyOf xg) [true, true, false, false, true, true, false, false, true, true, false, false, true, true, false]
noncomputable def xmo : Code := nav (bodyOf xg) [true, true, false, false, true, true, false, false, true, true, false, false, true, true, true]
theorem xzf (call : FCall) (hs : FHs) (u : Nat) (rec0 : AV → AV → AV → AV → AV → AV → Mem → Nat → Option (AV × Mem)) :
  fxK Try.prog pol NN call xmk (AV × Mem) (x1w hs u) (fun s => rec0 (s.sl 0) (s.sl 1) (s.sl 2) (s.sl 4) (s.sl 9) (s.sl 10) s.m s.fc) (setE 0 xf eNil) xf = (fun s => x17 call hs u rec0 (s.sl 0) (s.sl 1) (s.sl 2) (s.sl 4) (s.sl 9) (s.sl 10) s.m s.fc) := by
  kernel_rfl
theorem xzg (call : FCall) (hs : FHs) (u : Nat) (rec0 : AV → AV → AV → AV → AV → AV → Mem → Nat → Option (AV × Mem)) (rec1 : AV → AV → AV → AV → AV → AV → AV → AV → AV → AV → Mem → Nat → Option (AV × Mem)) :
  fxK Try.prog pol NN call xmo (AV × Mem) (x1w hs u) (fun s => rec1 (s.sl 0) (s.sl 1) (s.sl 2) (s.sl 4) (s.sl 5) (s.sl 6) (s.sl 9) (s.sl 10) (s.sl 16) (s.sl 17) s.m s.fc) (setE 2 (fun s => x17 call hs u rec0 (s.sl 0) (s.sl 1) (s.sl 2) (s.sl 4) (s.sl 9) (s.sl 10) s.m s.fc) (setE 1 (fun s => x17 call hs u rec0 (s.sl 0) (s.sl 1) (s.sl 2) (s.sl 4) (s.sl 9) (s.sl 10) s.m s.fc) (setE 0 xf eNil))) xf = (fun s => xb1 call hs u rec0 rec1 (s.sl 0) (s.sl 1) (s.sl 2) (s.sl 4) (s.sl 5) (s.sl 6) (s.sl 9) (s.sl 10) (s.sl 16) (s.sl 17) s.m s.fc) := by
  kernel_rfl
theorem xzh (call : FCall) (hs : FHs) (u : Nat) (rec0 : AV → AV → AV → AV → AV → AV → Mem → Nat → Option (AV × Mem)) (rec1 : AV → AV → AV → AV → AV → AV → AV → AV → AV → AV → Mem → Nat → Option (AV × Mem)) :
  fxK Try.prog pol NN call xmn (AV × Mem) (x1w hs u) (fun s => xb1 call hs u rec0 rec1 (s.sl 0) (s.sl 1) (s.sl 2) (s.sl 4) (s.sl 5) (s.sl 6) (s.sl 9) (s.sl 10) (s.sl 16) (s.sl 17) s.m s.fc) (setE 2 (fun s => x17 call hs u rec0 (s.sl 0) (s.sl 1) (s.sl 2) (s.sl 4) (s.sl 9) (s.sl 10) s.m s.fc) (setE 1 (fun s => x17 call hs u rec0 (s.sl 0) (s.sl 1) (s.sl 2) (s.sl 4) (s.sl 9) (s.sl 10) s.m s.fc) (setE 0 xf eNil))) xf = (fun s => xd6 call hs u rec0 rec1 (s.sl 0) (s.sl 1) (s.sl 2) (s.sl 4) (s.sl 5) (s.sl 6) (s.sl 9) (s.sl 10) (s.sl 16) (s.sl 17) s.m s.fc) := by
  kernel_rfl
theorem xzi (call : FCall) (hs : FHs) (u : Nat) (rec0 : AV → AV → AV → AV → AV → AV → Mem → Nat → Option (AV × Mem)) (rec1 : AV → AV → AV → AV → AV → AV → AV → AV → AV → AV → Mem → Nat → Option (AV × Mem)) :
  fxK Try.prog pol NN call xf7 (AV × Mem) (x1w hs u) (fun s => rec1 (s.sl 0) (s.sl 1) (s.sl 2) (s.sl 4) (s.sl 5) (s.sl 6) (s.sl 9) (s.sl 10) (s.sl 16) (s.sl 17) s.m s.fc) (setE 2 (fun s => x17 call hs u rec0 (s.sl 0) (s.sl 1) (s.sl 2) (s.sl 4) (s.sl 9) (s.sl 10) s.m s.fc) (setE 1 (fun s => x17 call hs u rec0 (s.sl 0) (s.sl 1) (s.sl 2) (s.sl 4) (s.sl 9) (s.sl 10) s.m s.fc) (setE 0 xf eNil))) xf = (fun s => xd6 call hs u rec0 rec1 (s.sl 0) (s.sl 1) (s.sl 2) (s.sl 4) (s.sl 5) (s.sl 6) (s.sl 9) (s.sl 10) (s.sl 16) (s.sl 17) s.m s.fc) := by
  rw [show xf7 = .seq xmn xmo from by kernel_rfl, seq_r, xzg call hs u rec0 rec1, xzh call hs u rec0 rec1]
theorem xzj (call : FCall) (hs : FHs) (u : Nat) (rec0 : AV → AV → AV → AV → AV → AV → Mem → Nat → Option (AV × Mem)) (rec1 : AV → AV → AV → AV → AV → AV → AV → AV → AV → AV → Mem → Nat → Option (AV × Mem)) :
  fxK Try.prog pol NN call xbf (AV × Mem) (x1w hs u) (fun s => rec1 (s.sl 0) (s.sl 1) (s.sl 2) (s.sl 4) (s.sl 5) (s.sl 6) (s.sl 9) (s.sl 10) (s.sl 16) (s.sl 17) s.m s.fc) (setE 2 (fun s => x17 call hs u rec0 (s.sl 0) (s.sl 1) (s.sl 2) (s.sl 4) (s.sl 9) (s.sl 10) s.m s.fc) (setE 1 (fun s => x17 call hs u rec0 (s.sl 0) (s.sl 1) (s.sl 2) (s.sl 4) (s.sl 9) (s.sl 10) s.m s.fc) (setE 0 xf eNil))) xf = (fun s => xky call hs u rec0 rec1 (s.sl 0) (s.sl 1) (s.sl 2) (s.sl 4) (s.sl 5) (s.sl 6) (s.sl 9) (s.sl 10) (s.sl 16) (s.sl 17) s.m s.fc) := by
  rw [show xbf = .seq xzd xmm from by kernel_rfl, seq_r]; rw [show xmm = .seq xze xf7 from by kernel_rfl, seq_r]; rw [xzi call hs u rec0 rec1]; kernel_rfl
theorem xmp (call : FCall) (hs : FHs) (u : Nat) (rec0 : AV → AV → AV → AV → AV → AV → Mem → Nat → Option (AV × Mem)) : ∀ n : Nat,
  iter (fun rec => fxK Try.prog pol NN call xbf (AV × Mem) (x1w hs u) rec (setE 2 (fun s => x17 call hs u rec0 (s.sl 0) (s.sl 1) (s.sl 2) (s.sl 4) (s.sl 9) (s.sl 10) s.m s.fc) (setE 1 (fun s => x17 call hs u rec0 (s.sl 0) (s.sl 1) (s.sl 2) (s.sl 4) (s.sl 9) (s.sl 10) s.m s.fc) (setE 0 xf eNil))) xf) n = (fun s => x7v call hs u rec0 n (s.sl 0) (s.sl 1) (s.sl 2) (s.sl 4) (s.sl 5) (s.sl 6) (s.sl 9) (s.sl 10) (s.sl 16) (s.sl 17) s.m s.fc)
  | 0 => rfl
  | n + 1 => by rw [iter_succ, xmp call hs u rec0 n, xzj call hs u rec0 (x7v call hs u rec0 n)]; kernel_rfl
theorem xzk (call : FCall) (hs : FHs) (u : Nat) (rec0 : AV → AV → AV → AV → AV → AV → Mem → Nat → Option (AV × Mem)) :
  fxK Try.prog pol NN call xf6 (AV × Mem) (x1w hs u) (fun s => x17 call hs u rec0 (s.sl 0) (s.sl 1) (s.sl 2) (s.sl 4) (s.sl 9) (s.sl 10) s.m s.fc) (setE 2 (fun s => x17 call hs u rec0 (s.sl 0) (s.sl 1) (s.sl 2) (s.sl 4) (s.sl 9) (s.sl 10) s.m s.fc) (setE 1 (fun s => x17 call hs u rec0 (s.sl 0) (s.sl 1) (s.sl 2) (s.sl 4) (s.sl 9) (s.sl 10) s.m s.fc) (setE 0 xf eNil))) xf = (fun s => x7v call hs u rec0 NN (s.sl 0) (s.sl 1) (s.sl 2) (s.sl 4) (s.sl 5) (s.sl 6) (s.sl 9) (s.sl 10) (s.sl 16) (s.sl 17) s.m s.fc) := by
  rw [show xf6 = .loop xbf from by kernel_rfl, loop_r, xmp call hs u rec0 NN]
theorem xzl (call : FCall) (hs : FHs) (u : Nat) (rec0 : AV → AV → AV → AV → AV → AV → Mem → Nat → Option (AV × Mem)) :
  fxK Try.prog pol NN call xf5 (AV × Mem) (x1w hs u) (fun s => x17 call hs u rec0 (s.sl 0) (s.sl 1) (s.sl 2) (s.sl 4) (s.sl 9) (s.sl 10) s.m s.fc) (setE 1 (fun s => x17 call hs u rec0 (s.sl 0) (s.sl 1) (s.sl 2) (s.sl 4) (s.sl 9) (s.sl 10) s.m s.fc) (setE 0 xf eNil)) xf = (fun s => x7v call hs u rec0 NN (s.sl 0) (s.sl 1) (s.sl 2) (s.sl 4) (s.sl 5) (s.sl 6) (s.sl 9) (s.sl 10) (s.sl 16) (s.sl 17) s.m s.fc) := by
  rw [show xf5 = .block 2 xf6 from by kernel_rfl, block_r, xzk call hs u rec0]
theorem xzm (call : FCall) (hs : FHs) (u : Nat) (rec0 : AV → AV → AV → AV → AV → AV → Mem → Nat → Option (AV × Mem)) :
  fxK Try.prog pol NN call xf4 (AV × Mem) (x1w hs u) (fun s => x17 call hs u rec0 (s.sl 0) (s.sl 1) (s.sl 2) (s.sl 4) (s.sl 9) (s.sl 10) s.m s.fc) (setE 1 (fun s => x17 call hs u rec0 (s.sl 0) (s.sl 1) (s.sl 2) (s.sl 4) (s.sl 9) (s.sl 10) s.m s.fc) (setE 0 xf eNil)) xf = (fun s => xb2 call hs u rec0 (s.sl 0) (s.sl 1) (s.sl 2) (s.sl 4) (s.sl 9) (s.sl 10) s.m s.fc) := by
  rw [show xf4 = .seq xzb xml from by kernel_rfl, seq_r]; rw [show xml = .seq xzc xf5 from by kernel_rfl, seq_r]; rw [xzl call hs u rec0]; kernel_rfl
theorem xzn (call : FCall) (hs : FHs) (u : Nat) (rec0 : AV → AV → AV → AV → AV → AV → Mem → Nat → Option (AV × Mem)) :
  fxK Try.prog pol NN call xf3 (AV × Mem) (x1w hs u) (fun s => x17 call hs u rec0 (s.sl 0) (s.sl 1) (s.sl 2) (s.sl 4) (s.sl 9) (s.sl 10) s.m s.fc) (setE 0 xf eNil) xf = (fun s => xb2 call hs u rec0 (s.sl 0) (s.sl 1) (s.sl 2) (s.sl 4) (s.sl 9) (s.sl 10) s.m s.fc) := by
  rw [show xf3 = .block 1 xf4 from by kernel_rfl, block_r, xzm call hs u rec0]
theorem xzo (call : FCall) (hs : FHs) (u : Nat) (rec0 : AV → AV → AV → AV → AV → AV → Mem → Nat → Option (AV × Mem)) :
  fxK Try.prog pol NN call xf2 (AV × Mem) (x1w hs u) (fun s => rec0 (s.sl 0) (s.sl 1) (s.sl 2) (s.sl 4) (s.sl 9) (s.sl 10) s.m s.fc) (setE 0 xf eNil) xf = (fun s => xb2 call hs u rec0 (s.sl 0) (s.sl 1) (s.sl 2) (s.sl 4) (s.sl 9) (s.sl 10) s.m s.fc) := by
  rw [show xf2 = .seq xf3 xmk from by kernel_rfl, seq_r, xzf call hs u rec0, xzn call hs u rec0]
theorem xzp (call : FCall) (hs : FHs) (u : Nat) (rec0 : AV → AV → AV → AV → AV → AV → Mem → Nat → Option (AV × Mem)) :
  fxK Try.prog pol NN call xbe (AV × Mem) (x1w hs u) (fun s => rec0 (s.sl 0) (s.sl 1) (s.sl 2) (s.sl 4) (s.sl 9) (s.sl 10) s.m s.fc) (setE 0 xf eNil) xf = (fun s => xl0 call hs u rec0 (s.sl 0) (s.sl 1) (s.sl 2) (s.sl 4) (s.sl 9) (s.sl 10) s.m s.fc) := by
  rw [show xbe = .seq xz9 xmj from by kernel_rfl, seq_r]; rw [show xmj = .seq xza xf2 from by kernel_rfl, seq_r]; rw [xzo call hs u rec0]; kernel_rfl
theorem xmq (call : FCall) (hs : FHs) (u : Nat) : ∀ n : Nat,
  iter (fun rec => fxK Try.prog pol NN call xbe (AV × Mem) (x1w hs u) rec (setE 0 xf eNil) xf) n = (fun s => x7w call hs u n (s.sl 0) (s.sl 1) (s.sl 2) (s.sl 4) (s.sl 9) (s.sl 10) s.m s.fc)
  | 0 => rfl
  | n + 1 => by rw [iter_succ, xmq call hs u n, xzp call hs u (x7w call hs u n)]; kernel_rfl
theorem xzq (call : FCall) (hs : FHs) (u : Nat) :
  fxK Try.prog pol NN call xf1 (AV × Mem) (x1w hs u) xf (setE 0 xf eNil) xf = (fun s => x7w call hs u NN (s.sl 0) (s.sl 1) (s.sl 2) (s.sl 4) (s.sl 9) (s.sl 10) s.m s.fc) := by
  rw [show xf1 = .loop xbe from by kernel_rfl, loop_r, xmq call hs u NN]
theorem xzr (call : FCall) (hs : FHs) (u : Nat) :
  fxK Try.prog pol NN call xf0 (AV × Mem) (x1w hs u) xf eNil xf = (fun s => x7w call hs u NN (s.sl 0) (s.sl 1) (s.sl 2) (s.sl 4) (s.sl 9) (s.sl 10) s.m s.fc) := by
  rw [show xf0 = .block 0 xf1 from by kernel_rfl, block_r, xzq call hs u]
theorem xzs (call : FCall) (hs : FHs) (u : Nat) :
  fxK Try.prog pol NN call xez (AV × Mem) (x1w hs u) xf eNil xf = (fun s => xl1 call hs u (s.sl 0) (s.sl 1) (s.sl 2) s.m s.fc) := by
  rw [show xez = .seq xz7 xmi from by kernel_rfl, seq_r]; rw [show xmi = .seq xz8 xf0 from by kernel_rfl, seq_r]; rw [xzr call hs u]; kernel_rfl
theorem xzt (call : FCall) (hs : FHs) (t0 t1 t2 : AV) (m : Mem) : fxBody Try.prog pol NN call hs xg [t0, t1, t2] m = x8q call hs [t0, t1, t2] m := by
  rw [fxBody_at (fn := Try.f120) (body := xez) (nt := 55) (rs := []) (by kernel_rfl) (by kernel_rfl) (by kernel_rfl) (by kernel_rfl) (by kernel_rfl) (by kernel_rfl)]
  exact (congrFun (xzs call hs m.next) _).trans (by kernel_rfl)
theorem xve (call : FCall) (hs : FHs) (args : List AV) (m : Mem) (r : AV × Mem) (h : x8q call hs args m = some r) : fxBody Try.prog pol NN call hs xg args m = some r := by
  unfold x8q at h
  split at h
  · rw [xzt]; exact h
  · cases h

abbrev x2e (hs : FHs) (u : Nat) : FCtx := { f := xm, u := u, nt := 48, hs := hs }
noncomputable abbrev x18 : Fs → Option (AV × Mem) := fxRes Try.prog [.tmp 4]
noncomputable def xf8 : Code := nav (bodyOf xm) []
noncomputable def xzu : Code := nav (bodyOf xm) [false]
noncomputable def xf9 : Code := nav (bodyOf xm) [true]
noncomputable def xmr : Code := nav (bodyOf xm) [true, false]
noncomputable def xfa : Code := nav (bodyOf xm) [true, true]
noncomputable def xzv : Code := nav (bodyOf xm) [true, true, false]
noncomputable def xfb : Code := nav (bodyOf xm) [true, true, true]
noncomputable def xms : Code := nav (bodyOf xm) [true, true, true, false]
noncomputable def xfc : Code := nav (bodyOf xm) [true, true, true, true]
noncomputable def xzw : Code := nav (bodyOf xm) [true, true, true, true, false]
noncomputable def xmt : Code := nav (bodyOf xm) [true, true, true, true, true]
noncomputable def xzx : Code := nav (bodyOf xm) [true, true, true, true, true, false]
noncomputable def xfd : Code := nav (bodyOf xm) [true, true, true, true, true, true]
noncomputable def xfe : Code := nav (bodyOf xm) [true, true, true, true, true, true, false]
noncomputable def xmu : Code := nav (bodyOf xm) [true, true, true, true, true, true, true]
noncomputable def xff : Code := nav (bodyOf xm) [true, true, true, true, true, true, false, false]
noncomputable def xfg : Code := nav (bodyOf xm) [true, true, true, true, true, true, false, false, false]
theorem xzy (call : FCall) (hs : FHs) (u : Nat) :
  fxK Try.prog pol NN call xmu (AV × Mem) (x2e hs u) x18 eNil x18 = (fun s => x4v call hs u (s.sl 7) s.m s.fc) := by
  kernel_rfl
theorem xzz (call : FCall) (hs : FHs) (u : Nat) (rec0 : AV → AV → Mem → Nat → Option (AV × Mem)) :
  fxK Try.prog pol NN call xfg (AV × Mem) (x2e hs u) (fun s => rec0 (s.sl 7) (s.sl 8) s.m s.fc) (setE 0 (fun s => x4v call hs u (s.sl 7) s.m s.fc) eNil) x18 = (fun s => xb3 call hs u rec0 (s.sl 7) (s.sl 8) s.m s.fc) := by
  kernel_rfl
theorem xmv (call : FCall) (hs : FHs) (u : Nat) : ∀ n : Nat,
  iter (fun rec => fxK Try.prog pol NN call xfg (AV × Mem) (x2e hs u) rec (setE 0 (fun s => x4v call hs u (s.sl 7) s.m s.fc) eNil) x18) n = (fun s => x36 call hs u n (s.sl 7) (s.sl 8) s.m s.fc)
  | 0 => rfl
  | n + 1 => by rw [iter_succ, xmv call hs u n, xzz call hs u (x36 call hs u n)]; kernel_rfl
theorem x100 (call : FCall) (hs : FHs) (u : Nat) :
  fxK Try.prog pol NN call xff (AV × Mem) (x2e hs u) (fun s => x4v call hs u (s.sl 7) s.m s.fc) (setE 0 (fun s => x4v call hs u (s.sl 7) s.m s.fc) eNil) x18 = (fun s => x36 call hs u NN (s.sl 7) (s.sl 8) s.m s.fc) := by
  rw [show xff = .loop xfg from by kernel_rfl, loop_r, xmv call hs u NN]
theorem x101 (call : FCall) (hs : FHs) (u : Nat) :
  fxK Try.prog pol NN call xfe (AV × Mem) (x2e hs u) (fun s => x4v call hs u (s.sl 7) s.m s.fc) eNil x18 = (fun s => x36 call hs u NN (s.sl 7) (s.sl 8) s.m s.fc) := by
  rw [show xfe = .block 0 xff from by kernel_rfl, block_r, x100 call hs u]
theorem x102 (call : FCall) (hs : FHs) (u : Nat) :
  fxK Try.prog pol NN call xfd (AV × Mem) (x2e hs u) x18 eNil x18 = (fun s => x36 call hs u NN (s.sl 7) (s.sl 8) s.m s.fc) := by
  rw [show xfd = .seq xfe xmu from by kernel_rfl, seq_r, xzy call hs u, x101 call hs u]
theorem x103 (call : FCall) (hs : FHs) (u : Nat) :
  fxK Try.prog pol NN call xfc (AV × Mem) (x2e hs u) x18 eNil x18 = (fun s => xb4 call hs u (s.sl 0) (s.sl 6) s.m s.fc) := by
  rw [show xfc = .seq xzw xmt from by kernel_rfl, seq_r]; rw [show xmt = .seq xzx xfd from by kernel_rfl, seq_r]; rw [x102 call hs u]; kernel_rfl
theorem x104 (call : FCall) (hs : FHs) (u : Nat) :
  fxK Try.prog pol NN call xms (AV × Mem) (x2e hs u) (fun s => xb4 call hs u (s.sl 0) (s.sl 6) s.m s.fc) eNil x18 = (fun s => xb5 call hs u (s.sl 0) (s.sl 5) (s.sl 6) s.m s.fc) := by
  kernel_rfl
theorem x105 (call : FCall) (hs : FHs) (u : Nat) :
  fxK Try.prog pol NN call xfb (AV × Mem) (x2e hs u) x18 eNil x18 = (fun s => xb5 call hs u (s.sl 0) (s.sl 5) (s.sl 6) s.m s.fc) := by
  rw [show xfb = .seq xms xfc from by kernel_rfl, seq_r, x103 call hs u, x104 call hs u]
theorem x106 (call : FCall) (hs : FHs) (u : Nat) :
  fxK Try.prog pol NN call xfa (AV × Mem) (x2e hs u) x18 eNil x18 = (fun s => xb6 call hs u (s.sl 0) (s.sl 1) s.m s.fc) := by
  rw [show xfa = .seq xzv xfb from by kernel_rfl, seq_r]; rw [x105 call hs u]; kernel_rfl
theorem x107 (call : FCall) (hs : FHs) (u : Nat) :
  fxK Try.prog pol NN call xmr (AV × Mem) (x2e hs u) (fun s => xb6 call hs u (s.sl 0) (s.sl 1) s.m s.fc) eNil x18 = (fun s => xb7 call hs u (s.sl 0) (s.sl 1) s.m s.fc) := by
  kernel_rfl
theorem x108 (call : FCall) (hs : FHs) (u : Nat) :
  fxK Try.prog pol NN call xf9 (AV × Mem) (x2e hs u) x18 eNil x18 = (fun s => xb7 call hs u (s.sl 0) (s.sl 1) s.m s.fc) := by
  rw [show xf9 = .seq xmr xfa from by kernel_rfl, seq_r, x106 call hs u, x107 call hs u]
theorem x109 (call : FCall) (hs : FHs) (u : Nat) :
  fxK Try.prog pol NN call xf8 (AV × Mem) (x2e hs u) x18 eNil x18 = (fun s => xd7 call hs u (s.sl 0) (s.sl 1) s.m s.fc) := by
  rw [show xf8 = .seq xzu xf9 from by kernel_rfl, seq_r]; rw [x108 call hs u]; kernel_rfl
theorem x10a (call : FCall) (hs : FHs) (t0 t1 : AV) (m : Mem) : fxBody Try.prog pol NN call hs xm [t0, t1] m = x7c call hs [t0, t1] m := by
  rw [fxBody_at (fn := Try.f121) (body := xf8) (nt := 48) (rs := [.tmp 4]) (by kernel_rfl) (by kernel_rfl) (by kernel_rfl) (by kernel_rfl) (by kernel_rfl) (by kernel_rfl)]
  exact (congrFun (x109 call hs m.next) _).trans (by kernel_rfl)
theorem xvf (call : FCall) (hs : FHs) (args : List AV) (m : Mem) (r : AV × Mem) (h : x7c call hs args m = some r) : fxBody Try.prog pol NN call hs xm args m = some r := by
  unfold x7c at h
  split at h
  · rw [x10a]; exact h
  · cases h

abbrev x10b (hs : FHs) (u : Nat) : FCtx := { f := x2f, u := u, nt := 18, hs := hs }
noncomputable abbrev xmw : Fs → Option (AV × Mem) := fxRes Try.prog []
noncomputable def xmx : Code := nav (bodyOf x2f) []
theorem x10c (call : FCall) (hs : FHs) (u : Nat) :
  fxK Try.prog pol NN call xmx (AV × Mem) (x10b hs u) xmw eNil xmw = (fun s => x9f call hs u (s.sl 0) (s.sl 1) (s.sl 2) (s.sl 3) s.m s.fc) := by
  kernel_rfl
theorem x10d (call : FCall) (hs : FHs) (t0 t1 t2 t3 : AV) (m : Mem) : fxBody Try.prog pol NN call hs x2f [t0, t1, t2, t3] m = x80 call hs [t0, t1, t2, t3] m := by
  rw [fxBody_at (fn := Try.f122) (body := xmx) (nt := 18) (rs := []) (by kernel_rfl) (by kernel_rfl) (by kernel_rfl) (by kernel_rfl) (by kernel_rfl) (by kernel_rfl)]
  exact (congrFun (x10c call hs m.next) _).trans (by kernel_rfl)
theorem xtl (call : FCall) (hs : FHs) (args : List AV) (m : Mem) (r : AV × Mem) (h : x80 call hs args m = some r) : fxBody Try.prog pol NN call hs x2f args m = some r := by
  unfold x80 at h
  split at h
  · rw [x10d]; exact h
  · cases h

abbrev x10e (hs : FHs) (u : Nat) : FCtx := { f := x4y, u := u, nt := 6, hs := hs }
noncomputable abbrev xmy : Fs → Option (AV × Mem) := fxRes Try.prog [.tmp 4]
noncomputable def xmz : Code := nav (bodyOf x4y) []
theorem x10f (call : FCall) (hs : FHs) (u : Nat) :
  fxK Try.prog pol NN call xmz (AV × Mem) (x10e hs u) xmy eNil xmy = (fun s => xd8 call hs u (s.sl 0) (s.sl 1) s.m s.fc) := by
  kernel_rfl
theorem x10g (call : FCall) (hs : FHs) (t0 t1 : AV) (m : Mem) : fxBody Try.prog pol NN call hs x4y [t0, t1] m = x6h call hs [t0, t1] m := by
  rw [fxBody_at (fn := Try.f123) (body := xmz) (nt := 6) (rs := [.tmp 4]) (by kernel_rfl) (by kernel_rfl) (by kernel_rfl) (by kernel_rfl) (by kernel_rfl) (by kernel_rfl)]
  exact (congrFun (x10f call hs m.next) _).trans (by kernel_rfl)
theorem xtn (call : FCall) (hs : FHs) (args : List AV) (m : Mem) (r : AV × Mem) (h : x6h call hs args m = some r) : fxBody Try.prog pol NN call hs x4y args m = some r := by
  unfold x6h at h
  split at h
  · rw [x10g]; exact h
  · cases h

abbrev x10h (hs : FHs) (u : Nat) : FCtx := { f := x43, u := u, nt := 30, hs := hs }
noncomputable abbrev xn0 : Fs → Option (AV × Mem) := fxRes Try.prog [.tmp 4, .tmp 5]
noncomputable def xn1 : Code := nav (bodyOf x43) []
theorem x10i (call : FCall) (hs : FHs) (u : Nat) :
  fxK Try.prog pol NN call xn1 (AV × Mem) (x10h hs u) xn0 eNil xn0 = (fun s => xl2 call hs u (s.sl 0) (s.sl 1) s.m s.fc) := by
  kernel_rfl
theorem x10j (call : FCall) (hs : FHs) (t0 t1 : AV) (m : Mem) : fxBody Try.prog pol NN call hs x43 [t0, t1] m = x8r call hs [t0, t1] m := by
  rw [fxBody_at (fn := Try.f125) (body := xn1) (nt := 30) (rs := [.tmp 4, .tmp 5]) (by kernel_rfl) (by kernel_rfl) (by kernel_rfl) (by kernel_rfl) (by kernel_rfl) (by kernel_rfl)]
  exact (congrFun (x10i call hs m.next) _).trans (by kernel_rfl)
theorem xvg (call : FCall) (hs : FHs) (args : List AV) (m : Mem) (r : AV × Mem) (h : x8r call hs args m = some r) : fxBody Try.prog pol NN call hs x43 args m = some r := by
  unfold x8r at h
  split at h
  · rw [x10j]; exact h
  · cases h

abbrev x2q (hs : FHs) (u : Nat) : FCtx := { f := xk, u := u, nt := 76, hs := hs }
noncomputable abbrev xt : Fs → Option (AV × Mem) := fxRes Try.prog []
noncomputable def xfh : Code := nav (bodyOf xk) []
noncomputable def x10k : Code := nav (bodyOf xk) [false]
noncomputable def xfi : Code := nav (bodyOf xk) [true]
noncomputable def xfj : Code := nav (bodyOf xk) [true, false]
noncomputable def xbg : Code := nav (bodyOf xk) [true, false, false]
noncomputable def x10l : Code := nav (bodyOf xk) [true, false, false, false]
noncomputable def xn2 : Code := nav (bodyOf xk) [true, false, false, true]
noncomputable def x10m : Code := nav (bodyOf xk) [true, false, false, true, false]
noncomputable def xfk : Code := nav (bodyOf xk) [true, false, false, true, true]
noncomputable def xfl : Code := nav (bodyOf xk) [true, false, false, true, true, false]
noncomputable def xn3 : Code := nav (bodyOf xk) [true, false, false, true, true, true]
noncomputable def xfm : Code := nav (bodyOf xk) [true, false, false, true, true, false, false]
noncomputable def x10n : Code := nav (bodyOf xk) [true, false, false, true, true, false, false, false]
noncomputable def xn4 : Code := nav (bodyOf xk) [true, false, false, true, true, false, false, true]
noncomputable def x10o : Code := nav (bodyOf xk) [true, false, false, true, true, false, false, true, false]
noncomputable def xn5 : Code := nav (bodyOf xk) [true, false, false, true, true, false, false, true, true]
noncomputable def x10p : Code := nav (bodyOf xk) [true, false, false, true, true, false, false, true, true, false]
noncomputable def xfn : Code := nav (bodyOf xk) [true, false, false, true, true, false, false, true, true, true]
noncomputable def xn6 : Code := nav (bodyOf xk) [true, false, false, true, true, false, false, true, true, true, false]
noncomputable def xn7 : Code := nav (bodyOf xk) [true, false, false, true, true, false, false, true, true, true, true]
theorem x10q (call : FCall) (hs : FHs) (u : Nat) (rec0 : AV → AV → AV → AV → AV → AV → Mem → Nat → Option (AV × Mem)) :
  fxK Try.prog pol NN call xn3 (AV × Mem) (x2q hs u) (fun s => rec0 (s.sl 0) (s.sl 1) (s.sl 2) (s.sl 14) (s.sl 15) (s.sl 16) s.m s.fc) (setE 0 xt eNil) xt = (fun s => x2o call hs u rec0 (s.sl 0) (s.sl 1) (s.sl 2) (s.sl 14) (s.sl 15) (s.sl 16) s.m s.fc) := by
  kernel_rfl
theorem x10r (call : FCall) (hs : FHs) (u : Nat) (rec0 : AV → AV → AV → AV → AV → AV → Mem → Nat → Option (AV × Mem)) :
  fxK Try.prog pol NN call xn7 (AV × Mem) (x2q hs u) (fun s => x2o call hs u rec0 (s.sl 0) (s.sl 1) (s.sl 2) (s.sl 14) (s.sl 15) (s.sl 16) s.m s.fc) (setE 1 (fun s => x2o call hs u rec0 (s.sl 0) (s.sl 1) (s.sl 2) (s.sl 14) (s.sl 15) (s.sl 16) s.m s.fc) (setE 0 xt eNil)) xt = (fun s => x7x call hs u rec0 (s.sl 0) (s.sl 1) (s.sl 2) (s.sl 7) (s.sl 14) (s.sl 15) (s.sl 16) s.m s.fc) := by
  kernel_rfl
theorem x10s (call : FCall) (hs : FHs) (u : Nat) (rec0 : AV → AV → AV → AV → AV → AV → Mem → Nat → Option (AV × Mem)) :
  fxK Try.prog pol NN call xn6 (AV × Mem) (x2q hs u) (fun s => x7x call hs u rec0 (s.sl 0) (s.sl 1) (s.sl 2) (s.sl 7) (s.sl 14) (s.sl 15) (s.sl 16) s.m s.fc) (setE 1 (fun s => x2o call hs u rec0 (s.sl 0) (s.sl 1) (s.sl 2) (s.sl 14) (s.sl 15) (s.sl 16) s.m s.fc) (setE 0 xt eNil)) xt = (fun s => x7y call hs u rec0 (s.sl 0) (s.sl 1) (s.sl 2) (s.sl 5) (s.sl 6) (s.sl 7) (s.sl 14) (s.sl 15) (s.sl 16) s.m s.fc) := by
  kernel_rfl
theorem x10t (call : FCall) (hs : FHs) (u : Nat) (rec0 : AV → AV → AV → AV → AV → AV → Mem → Nat → Option (AV × Mem)) :
  fxK Try.prog pol NN call xfn (AV × Mem) (x2q hs u) (fun s => x2o call hs u rec0 (s.sl 0) (s.sl 1) (s.sl 2) (s.sl 14) (s.sl 15) (s.sl 16) s.m s.fc) (setE 1 (fun s => x2o call hs u rec0 (s.sl 0) (s.sl 1) (s.sl 2) (s.sl 14) (s.sl 15) (s.sl 16) s.m s.fc) (setE 0 xt eNil)) xt = (fun s => x7y call hs u rec0 (s.sl 0) (s.sl 1) (s.sl 2) (s.sl 5) (s.sl 6) (s.sl 7) (s.sl 14) (s.sl 15) (s.sl 16) s.m s.fc) := by
  rw [show xfn = .seq xn6 xn7 from by kernel_rfl, seq_r, x10r call hs u rec0, x10s call hs u rec0]
theorem x10u (call : FCall) (hs : FHs) (u : Nat) (rec0 : AV → AV → AV → AV → AV → AV → Mem → Nat → Option (AV × Mem)) :
  fxK Try.prog pol NN call xfm (AV × Mem) (x2q hs u) (fun s => x2o call hs u rec0 (s.sl 0) (s.sl 1) (s.sl 2) (s.sl 14) (s.sl 15) (s.sl 16) s.m s.fc) (setE 1 (fun s => x2o call hs u rec0 (s.sl 0) (s.sl 1) (s.sl 2) (s.sl 14) (s.sl 15) (s.sl 16) s.m s.fc) (setE 0 xt eNil)) xt = (fun s => x9g call hs u rec0 (s.sl 0) (s.sl 1) (s.sl 2) (s.sl 14) (s.sl 15) (s.sl 16) s.m s.fc) := by
  rw [show xfm = .seq x10n xn4 from by kernel_rfl, seq_r]; rw [show xn4 = .seq x10o xn5 from by kernel_rfl, seq_r]; rw [show xn5 = .seq x10p xfn from by kernel_rfl, seq_r]; rw [x10t call hs u rec0]; kernel_rfl
theorem x10v (call : FCall) (hs : FHs) (u : Nat) (rec0 : AV → AV → AV → AV → AV → AV → Mem → Nat → Option (AV × Mem)) :
  fxK Try.prog pol NN call xfl (AV × Mem) (x2q hs u) (fun s => x2o call hs u rec0 (s.sl 0) (s.sl 1) (s.sl 2) (s.sl 14) (s.sl 15) (s.sl 16) s.m s.fc) (setE 0 xt eNil) xt = (fun s => x9g call hs u rec0 (s.sl 0) (s.sl 1) (s.sl 2) (s.sl 14) (s.sl 15) (s.sl 16) s.m s.fc) := by
  rw [show xfl = .block 1 xfm from by kernel_rfl, block_r, x10u call hs u rec0]
theorem x10w (call : FCall) (hs : FHs) (u : Nat) (rec0 : AV → AV → AV → AV → AV → AV → Mem → Nat → Option (AV × Mem)) :
  fxK Try.prog pol NN call xfk (AV × Mem) (x2q hs u) (fun s => rec0 (s.sl 0) (s.sl 1) (s.sl 2) (s.sl 14) (s.sl 15) (s.sl 16) s.m s.fc) (setE 0 xt eNil) xt = (fun s => x9g call hs u rec0 (s.sl 0) (s.sl 1) (s.sl 2) (s.sl 14) (s.sl 15) (s.sl 16) s.m s.fc) := by
  rw [show xfk = .seq xfl xn3 from by kernel_rfl, seq_r, x10q call hs u rec0, x10v call hs u rec0]
theorem x10x (call : FCall) (hs : FHs) (u : Nat) (rec0 : AV → AV → AV → AV → AV → AV → Mem → Nat → Option (AV × Mem)) :
  fxK Try.prog pol NN call xbg (AV × Mem) (x2q hs u) (fun s => rec0 (s.sl 0) (s.sl 1) (s.sl 2) (s.sl 14) (s.sl 15) (s.sl 16) s.m s.fc) (setE 0 xt eNil) xt = (fun s => xb8 call hs u rec0 (s.sl 0) (s.sl 1) (s.sl 2) (s.sl 14) (s.sl 15) (s.sl 16) s.m s.fc) := by
  rw [show xbg = .seq x10l xn2 from by kernel_rfl, seq_r]; rw [show xn2 = .seq x10m xfk from by kernel_rfl, seq_r]; rw [x10w call hs u rec0]; kernel_rfl
theorem xn8 (call : FCall) (hs : FHs) (u : Nat) : ∀ n : Nat,
  iter (fun rec => fxK Try.prog pol NN call xbg (AV × Mem) (x2q hs u) rec (setE 0 xt eNil) xt) n = (fun s => x2p call hs u n (s.sl 0) (s.sl 1) (s.sl 2) (s.sl 14) (s.sl 15) (s.sl 16) s.m s.fc)
  | 0 => rfl
  | n + 1 => by rw [iter_succ, xn8 call hs u n, x10x call hs u (x2p call hs u n)]; kernel_rfl
theorem x10y (call : FCall) (hs : FHs) (u : Nat) :
  fxK Try.prog pol NN call xfj (AV × Mem) (x2q hs u) xt (setE 0 xt eNil) xt = (fun s => x2p call hs u NN (s.sl 0) (s.sl 1) (s.sl 2) (s.sl 14) (s.sl 15) (s.sl 16) s.m s.fc) := by
  rw [show xfj = .loop xbg from by kernel_rfl, loop_r, xn8 call hs u NN]
theorem x10z (call : FCall) (hs : FHs) (u : Nat) :
  fxK Try.prog pol NN call xfi (AV × Mem) (x2q hs u) xt eNil xt = (fun s => x2p call hs u NN (s.sl 0) (s.sl 1) (s.sl 2) (s.sl 14) (s.sl 15) (s.sl 16) s.m s.fc) := by
  rw [show xfi = .block 0 xfj from by kernel_rfl, block_r, x10y call hs u]
theorem x110 (call : FCall) (hs : FHs) (u : Nat) :
  fxK Try.prog pol NN call xfh (AV × Mem) (x2q hs u) xt eNil xt = (fun s => xd9 call hs u (s.sl 0) (s.sl 1) (s.sl 2) s.m s.fc) := by
  rw [show xfh = .seq x10k xfi from by kernel_rfl, seq_r]; rw [x10z call hs u]; kernel_rfl
theorem x111 (call : FCall) (hs : FHs) (t0 t1 t2 : AV) (m : Mem) : fxBody Try.prog pol NN call hs xk [t0, t1, t2] m = x6e call hs [t0, t1, t2] m := by
  rw [fxBody_at (fn := Try.f126) (body := xfh) (nt := 76) (rs := []) (by kernel_rfl) (by kernel_rfl) (by kernel_rfl) (by kernel_rfl) (by kernel_rfl) (by kernel_rfl)]
  exact (congrFun (x110 call hs m.next) _).trans (by kernel_rfl)
theorem xtj (call : FCall) (hs : FHs) (args : List AV) (m : Mem) (r : AV × Mem) (h : x6e call hs args m = some r) : fxBody Try.prog pol NN call hs xk args m = some r := by
  unfold x6e at h
  split at h
  · rw [x111]; exact h
  · cases h

abbrev x112 (hs : FHs) (u : Nat) : FCtx := { f := x68, u := u, nt := 17, hs := hs }
noncomputable abbrev xn9 : Fs → Option (AV × Mem) := fxRes Try.prog [.tmp 4, .tmp 5]
noncomputable def xna : Code := nav (bodyOf x68) []
theorem x113 (call : FCall) (hs : FHs) (u : Nat) :
  fxK Try.prog pol NN call xna (AV × Mem) (x112 hs u) xn9 eNil xn9 = (fun s => xl3 call hs u (s.sl 0) (s.sl 1) s.m s.fc) := by
  kernel_rfl
theorem x114 (call : FCall) (hs : FHs) (t0 t1 : AV) (m : Mem) : fxBody Try.prog pol NN call hs x68 [t0, t1] m = x8s call hs [t0, t1] m := by
  rw [fxBody_at (fn := Try.f127) (body := xna) (nt := 17) (rs := [.tmp 4, .tmp 5]) (by kernel_rfl) (by kernel_rfl) (by kernel_rfl) (by kernel_rfl) (by kernel_rfl) (by kernel_rfl)]
  exact (congrFun (x113 call hs m.next) _).trans (by kernel_rfl)
theorem xvh (call : FCall) (hs : FHs) (args : List AV) (m : Mem) (r : AV × Mem) (h : x8s call hs args m = some r) : fxBody Try.prog pol NN call hs x68 args m = some r := by
  unfold x8s at h
  split at h
  · rw [x114]; exact h
  · cases h

abbrev x115 (hs : FHs) (u : Nat) : FCtx := { f := x5s, u := u, nt := 51, hs := hs }
noncomputable abbrev xnb : Fs → Option (AV × Mem) := fxRes Try.prog [.tmp 4, .tmp 5]
noncomputable def xnc : Code := nav (bodyOf x5s) []
theorem x116 (call : FCall) (hs : FHs) (u : Nat) :
  fxK Try.prog pol NN call xnc (AV × Mem) (x115 hs u) xnb eNil xnb = (fun s => xl4 call hs u (s.sl 0) (s.sl 1) s.m s.fc) := by
  kernel_rfl
theorem x117 (call : FCall) (hs : FHs) (t0 t1 : AV) (m : Mem) : fxBody Try.prog pol NN call hs x5s [t0, t1] m = x82 call hs [t0, t1] m := by
  rw [fxBody_at (fn := Try.f128) (body := xnc) (nt := 51) (rs := [.tmp 4, .tmp 5]) (by kernel_rfl) (by kernel_rfl) (by kernel_rfl) (by kernel_rfl) (by kernel_rfl) (by kernel_rfl)]
  exact (congrFun (x116 call hs m.next) _).trans (by kernel_rfl)
theorem xtp (call : FCall) (hs : FHs) (args : List AV) (m : Mem) (r : AV × Mem) (h : x82 call hs args m = some r) : fxBody Try.prog pol NN call hs x5s args m = some r := by
  unfold x82 at h
  split at h
  · rw [x117]; exact h
  · cases h

end Go.Ix
