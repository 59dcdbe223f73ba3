/- MADE BY PROGRAM (gen.py). What the code does, block by block. -/
import Derived.Test.YtljibmnhhdiakaaFxText0
import Derived.Test.YtljibmnhhdiakaaFxText1
import Derived.Test.YtljibmnhhdiakaaFxRules
import Derived.ProofKit
set_option linter.unusedVariables false
namespace Go.Ix
open Go.Proofs

/- swath/swathlaw05.UnwrapTasks -/
abbrev x1go (hs : FHs) (u : Nat) : FCtx := { f := x77, u := u, nt := 38, hs := hs }
noncomputable abbrev xwc : Fs → Option (AV × Mem) := fxRes Try.prog [.tmp 2]
noncomputable def xwd : Code := nav (bodyOf x77) []
theorem x1gp (call : FCall) (hs : FHs) (u : Nat) :
  fxK Try.prog pol NN call xwd (AV × Mem) (x1go hs u) xwc eNil xwc = (fun s => xf9 call hs u (s.sl 0) s.m s.fc) := by
  kernel_rfl
theorem x1gq (call : FCall) (hs : FHs) (t0 : AV) (m : Mem) : fxBody Try.prog pol NN call hs x77 [t0] m = x8b call hs [t0] m := by
  rw [fxBody_at (fn := Try.f4) (body := xwd) (nt := 38) (rs := [.tmp 2]) (by kernel_rfl) (by kernel_rfl) (by kernel_rfl) (by kernel_rfl) (by kernel_rfl) (by kernel_rfl)]
  exact (congrFun (x1gp call hs m.next) _).trans (by kernel_rfl)
theorem x13l (call : FCall) (hs : FHs) (args : List AV) (m : Mem) (r : AV × Mem) (h : x8b call hs args m = some r) : fxBody Try.prog pol NN call hs x77 args m = some r := by
  unfold x8b at h
  split at h
  · rw [x1gq]; exact h
  · cases h

/- swath/swathlaw05.UnwrapAlong -/
abbrev xet (hs : FHs) (u : Nat) : FCtx := { f := x18, u := u, nt := 56, hs := hs }
noncomputable abbrev x83 : Fs → Option (AV × Mem) := fxRes Try.prog [.tmp 4]
noncomputable def xlg : Code := nav (bodyOf x18) []
noncomputable def x1gr : Code := nav (bodyOf x18) [false]
noncomputable def xwe : Code := nav (bodyOf x18) [true]
noncomputable def x1gs : Code := nav (bodyOf x18) [true, false]
noncomputable def xwf : Code := nav (bodyOf x18) [true, true]
noncomputable def x1gt : Code := nav (bodyOf x18) [true, true, false]
noncomputable def xwg : Code := nav (bodyOf x18) [true, true, true]
noncomputable def x1gu : Code := nav (bodyOf x18) [true, true, true, false]
noncomputable def xwh : Code := nav (bodyOf x18) [true, true, true, true]
noncomputable def x1gv : Code := nav (bodyOf x18) [true, true, true, true, false]
noncomputable def xwi : Code := nav (bodyOf x18) [true, true, true, true, true]
noncomputable def x1gw : Code := nav (bodyOf x18) [true, true, true, true, true, false]
noncomputable def xlh : Code := nav (bodyOf x18) [true, true, true, true, true, true]
noncomputable def xwj : Code := nav (bodyOf x18) [true, true, true, true, true, true, false]
noncomputable def xwk : Code := nav (bodyOf x18) [true, true, true, true, true, true, true]
theorem x1gx (call : FCall) (hs : FHs) (u : Nat) :
  fxK Try.prog pol NN call xwk (AV × Mem) (xet hs u) x83 eNil x83 = (fun s => x9p call hs u (s.sl 5) (s.sl 6) (s.sl 7) (s.sl 8) s.m s.fc) := by
  kernel_rfl
theorem x1gy (call : FCall) (hs : FHs) (u : Nat) :
  fxK Try.prog pol NN call xwj (AV × Mem) (xet hs u) (fun s => x9p call hs u (s.sl 5) (s.sl 6) (s.sl 7) (s.sl 8) s.m s.fc) eNil x83 = (fun s => xbf call hs u (s.sl 1) (s.sl 2) (s.sl 5) (s.sl 6) (s.sl 7) (s.sl 8) s.m s.fc) := by
  kernel_rfl
theorem x1gz (call : FCall) (hs : FHs) (u : Nat) :
  fxK Try.prog pol NN call xlh (AV × Mem) (xet hs u) x83 eNil x83 = (fun s => xbf call hs u (s.sl 1) (s.sl 2) (s.sl 5) (s.sl 6) (s.sl 7) (s.sl 8) s.m s.fc) := by
  rw [show xlh = .seq xwj xwk from by kernel_rfl, seq_r, x1gx call hs u, x1gy call hs u]
theorem x1h0 (call : FCall) (hs : FHs) (u : Nat) :
  fxK Try.prog pol NN call xlg (AV × Mem) (xet hs u) x83 eNil x83 = (fun s => xfa call hs u (s.sl 0) (s.sl 1) s.m s.fc) := by
  rw [show xlg = .seq x1gr xwe from by kernel_rfl, seq_r]; rw [show xwe = .seq x1gs xwf from by kernel_rfl, seq_r]; rw [show xwf = .seq x1gt xwg from by kernel_rfl, seq_r]; rw [show xwg = .seq x1gu xwh from by kernel_rfl, seq_r]; rw [show xwh = .seq x1gv xwi from by kernel_rfl, seq_r]; rw [show xwi = .seq x1gw xlh from by kernel_rfl, seq_r]; rw [x1gz call hs u]; kernel_rfl
theorem x1h1 (call : FCall) (hs : FHs) (t0 t1 : AV) (m : Mem) : fxBody Try.prog pol NN call hs x18 [t0, t1] m = x8c call hs [t0, t1] m := by
  rw [fxBody_at (fn := Try.f11) (body := xlg) (nt := 56) (rs := [.tmp 4]) (by kernel_rfl) (by kernel_rfl) (by kernel_rfl) (by kernel_rfl) (by kernel_rfl) (by kernel_rfl)]
  exact (congrFun (x1h0 call hs m.next) _).trans (by kernel_rfl)
theorem x13m (call : FCall) (hs : FHs) (args : List AV) (m : Mem) (r : AV × Mem) (h : x8c call hs args m = some r) : fxBody Try.prog pol NN call hs x18 args m = some r := by
  unfold x8c at h
  split at h
  · rw [x1h1]; exact h
  · cases h

/- swath/swathlaw05.UnwrapFields -/
abbrev xeu (hs : FHs) (u : Nat) : FCtx := { f := x12, u := u, nt := 89, hs := hs }
noncomputable abbrev x84 : Fs → Option (AV × Mem) := fxRes Try.prog [.tmp 4]
noncomputable def xli : Code := nav (bodyOf x12) []
noncomputable def x1h2 : Code := nav (bodyOf x12) [false]
noncomputable def xwl : Code := nav (bodyOf x12) [true]
noncomputable def x1h3 : Code := nav (bodyOf x12) [true, false]
noncomputable def xwm : Code := nav (bodyOf x12) [true, true]
noncomputable def x1h4 : Code := nav (bodyOf x12) [true, true, false]
noncomputable def xwn : Code := nav (bodyOf x12) [true, true, true]
noncomputable def x1h5 : Code := nav (bodyOf x12) [true, true, true, false]
noncomputable def xwo : Code := nav (bodyOf x12) [true, true, true, true]
noncomputable def x1h6 : Code := nav (bodyOf x12) [true, true, true, true, false]
noncomputable def xwp : Code := nav (bodyOf x12) [true, true, true, true, true]
noncomputable def x1h7 : Code := nav (bodyOf x12) [true, true, true, true, true, false]
noncomputable def xwq : Code := nav (bodyOf x12) [true, true, true, true, true, true]
noncomputable def x1h8 : Code := nav (bodyOf x12) [true, true, true, true, true, true, false]
noncomputable def xlj : Code := nav (bodyOf x12) [true, true, true, true, true, true, true]
noncomputable def xwr : Code := nav (bodyOf x12) [true, true, true, true, true, true, true, false]
noncomputable def xws : Code := nav (bodyOf x12) [true, true, true, true, true, true, true, true]
theorem x1h9 (call : FCall) (hs : FHs) (u : Nat) :
  fxK Try.prog pol NN call xws (AV × Mem) (xeu hs u) x84 eNil x84 = (fun s => x7p call hs u (s.sl 2) (s.sl 5) (s.sl 6) (s.sl 7) (s.sl 8) (s.sl 9) (s.sl 10) s.m s.fc) := by
  kernel_rfl
theorem x1ha (call : FCall) (hs : FHs) (u : Nat) :
  fxK Try.prog pol NN call xwr (AV × Mem) (xeu hs u) (fun s => x7p call hs u (s.sl 2) (s.sl 5) (s.sl 6) (s.sl 7) (s.sl 8) (s.sl 9) (s.sl 10) s.m s.fc) eNil x84 = (fun s => xc2 call hs u (s.sl 2) (s.sl 3) (s.sl 5) (s.sl 6) (s.sl 7) (s.sl 8) (s.sl 9) (s.sl 10) s.m s.fc) := by
  kernel_rfl
theorem x1hb (call : FCall) (hs : FHs) (u : Nat) :
  fxK Try.prog pol NN call xlj (AV × Mem) (xeu hs u) x84 eNil x84 = (fun s => xc2 call hs u (s.sl 2) (s.sl 3) (s.sl 5) (s.sl 6) (s.sl 7) (s.sl 8) (s.sl 9) (s.sl 10) s.m s.fc) := by
  rw [show xlj = .seq xwr xws from by kernel_rfl, seq_r, x1h9 call hs u, x1ha call hs u]
theorem x1hc (call : FCall) (hs : FHs) (u : Nat) :
  fxK Try.prog pol NN call xli (AV × Mem) (xeu hs u) x84 eNil x84 = (fun s => xfb call hs u (s.sl 0) (s.sl 1) s.m s.fc) := by
  rw [show xli = .seq x1h2 xwl from by kernel_rfl, seq_r]; rw [show xwl = .seq x1h3 xwm from by kernel_rfl, seq_r]; rw [show xwm = .seq x1h4 xwn from by kernel_rfl, seq_r]; rw [show xwn = .seq x1h5 xwo from by kernel_rfl, seq_r]; rw [show xwo = .seq x1h6 xwp from by kernel_rfl, seq_r]; rw [show xwp = .seq x1h7 xwq from by kernel_rfl, seq_r]; rw [show xwq = .seq x1h8 xlj from by kernel_rfl, seq_r]; rw [x1hb call hs u]; kernel_rfl
theorem x1hd (call : FCall) (hs : FHs) (t0 t1 : AV) (m : Mem) : fxBody Try.prog pol NN call hs x12 [t0, t1] m = x8d call hs [t0, t1] m := by
  rw [fxBody_at (fn := Try.f13) (body := xli) (nt := 89) (rs := [.tmp 4]) (by kernel_rfl) (by kernel_rfl) (by kernel_rfl) (by kernel_rfl) (by kernel_rfl) (by kernel_rfl)]
  exact (congrFun (x1hc call hs m.next) _).trans (by kernel_rfl)
theorem x13n (call : FCall) (hs : FHs) (args : List AV) (m : Mem) (r : AV × Mem) (h : x8d call hs args m = some r) : fxBody Try.prog pol NN call hs x12 args m = some r := by
  unfold x8d at h
  split at h
  · rw [x1hd]; exact h
  · cases h

/- swath/swathlaw05.awake -/
abbrev x1he (hs : FHs) (u : Nat) : FCtx := { f := x3a, u := u, nt := 79, hs := hs }
noncomputable abbrev xwt : Fs → Option (AV × Mem) := fxRes Try.prog [.tmp 0]
noncomputable def xwu : Code := nav (bodyOf x3a) []
theorem x1hf (call : FCall) (hs : FHs) (u : Nat) :
  fxK Try.prog pol NN call xwu (AV × Mem) (x1he hs u) xwt eNil xwt = (fun s => xql call hs u s.m s.fc) := by
  kernel_rfl
theorem x1hg (call : FCall) (hs : FHs) (m : Mem) : fxBody Try.prog pol NN call hs x3a [] m = xaw call hs [] m := by
  rw [fxBody_at (fn := Try.f15) (body := xwu) (nt := 79) (rs := [.tmp 0]) (by kernel_rfl) (by kernel_rfl) (by kernel_rfl) (by kernel_rfl) (by kernel_rfl) (by kernel_rfl)]
  exact (congrFun (x1hf call hs m.next) _).trans (by kernel_rfl)
theorem x13o (call : FCall) (hs : FHs) (args : List AV) (m : Mem) (r : AV × Mem) (h : xaw call hs args m = some r) : fxBody Try.prog pol NN call hs x3a args m = some r := by
  unfold xaw at h
  split at h
  · rw [x1hg]; exact h
  · cases h

/- swath/swathlaw05.Few -/
abbrev x6s (hs : FHs) (u : Nat) : FCtx := { f := x1m, u := u, nt := 56, hs := hs }
noncomputable abbrev x3v : Fs → Option (AV × Mem) := fxRes Try.prog [.tmp 2]
noncomputable def xlk : Code := nav (bodyOf x1m) []
noncomputable def x1hh : Code := nav (bodyOf x1m) [false]
noncomputable def xwv : Code := nav (bodyOf x1m) [true]
noncomputable def x1hi : Code := nav (bodyOf x1m) [true, false]
noncomputable def xww : Code := nav (bodyOf x1m) [true, true]
noncomputable def x1hj : Code := nav (bodyOf x1m) [true, true, false]
noncomputable def xll : Code := nav (bodyOf x1m) [true, true, true]
noncomputable def xlm : Code := nav (bodyOf x1m) [true, true, true, false]
noncomputable def xwx : Code := nav (bodyOf x1m) [true, true, true, true]
noncomputable def x1hk : Code := nav (bodyOf x1m) [true, true, true, false, false]
noncomputable def xln : Code := nav (bodyOf x1m) [true, true, true, false, true]
noncomputable def xlo : Code := nav (bodyOf x1m) [true, true, true, false, true, false]
noncomputable def xlp : Code := nav (bodyOf x1m) [true, true, true, false, true, false, false]
theorem x1hl (call : FCall) (hs : FHs) (u : Nat) :
  fxK Try.prog pol NN call xwx (AV × Mem) (x6s hs u) x3v eNil x3v = (fun s => x50 call hs u s.m s.fc) := by
  kernel_rfl
theorem x1hm (call : FCall) (hs : FHs) (u : Nat) (rec0 : AV → AV → Mem → Nat → Option (AV × Mem)) :
  fxK Try.prog pol NN call xlp (AV × Mem) (x6s hs u) (fun s => rec0 (s.sl 1) (s.sl 3) s.m s.fc) (setE 0 (fun s => x50 call hs u s.m s.fc) eNil) x3v = (fun s => xc4 call hs u rec0 (s.sl 1) (s.sl 3) s.m s.fc) := by
  kernel_rfl
theorem xwy (call : FCall) (hs : FHs) (u : Nat) : ∀ n : Nat,
  iter (fun rec => fxK Try.prog pol NN call xlp (AV × Mem) (x6s hs u) rec (setE 0 (fun s => x50 call hs u s.m s.fc) eNil) x3v) n = (fun s => x51 call hs u n (s.sl 1) (s.sl 3) s.m s.fc)
  | 0 => rfl
  | n + 1 => by rw [iter_succ, xwy call hs u n, x1hm call hs u (x51 call hs u n)]; kernel_rfl
theorem x1hn (call : FCall) (hs : FHs) (u : Nat) :
  fxK Try.prog pol NN call xlo (AV × Mem) (x6s hs u) (fun s => x50 call hs u s.m s.fc) (setE 0 (fun s => x50 call hs u s.m s.fc) eNil) x3v = (fun s => x51 call hs u NN (s.sl 1) (s.sl 3) s.m s.fc) := by
  rw [show xlo = .loop xlp from by kernel_rfl, loop_r, xwy call hs u NN]
theorem x1ho (call : FCall) (hs : FHs) (u : Nat) :
  fxK Try.prog pol NN call xln (AV × Mem) (x6s hs u) (fun s => x50 call hs u s.m s.fc) eNil x3v = (fun s => x51 call hs u NN (s.sl 1) (s.sl 3) s.m s.fc) := by
  rw [show xln = .block 0 xlo from by kernel_rfl, block_r, x1hn call hs u]
theorem x1hp (call : FCall) (hs : FHs) (u : Nat) :
  fxK Try.prog pol NN call xlm (AV × Mem) (x6s hs u) (fun s => x50 call hs u s.m s.fc) eNil x3v = (fun s => xc5 call hs u (s.sl 1) s.m s.fc) := by
  rw [show xlm = .seq x1hk xln from by kernel_rfl, seq_r]; rw [x1ho call hs u]; kernel_rfl
theorem x1hq (call : FCall) (hs : FHs) (u : Nat) :
  fxK Try.prog pol NN call xll (AV × Mem) (x6s hs u) x3v eNil x3v = (fun s => xc5 call hs u (s.sl 1) s.m s.fc) := by
  rw [show xll = .seq xlm xwx from by kernel_rfl, seq_r, x1hl call hs u, x1hp call hs u]
theorem x1hr (call : FCall) (hs : FHs) (u : Nat) :
  fxK Try.prog pol NN call xlk (AV × Mem) (x6s hs u) x3v eNil x3v = (fun s => xfc call hs u (s.sl 0) s.m s.fc) := by
  rw [show xlk = .seq x1hh xwv from by kernel_rfl, seq_r]; rw [show xwv = .seq x1hi xww from by kernel_rfl, seq_r]; rw [show xww = .seq x1hj xll from by kernel_rfl, seq_r]; rw [x1hq call hs u]; kernel_rfl
theorem x1hs (call : FCall) (hs : FHs) (t0 : AV) (m : Mem) : fxBody Try.prog pol NN call hs x1m [t0] m = x8e call hs [t0] m := by
  rw [fxBody_at (fn := Try.f16) (body := xlk) (nt := 56) (rs := [.tmp 2]) (by kernel_rfl) (by kernel_rfl) (by kernel_rfl) (by kernel_rfl) (by kernel_rfl) (by kernel_rfl)]
  exact (congrFun (x1hr call hs m.next) _).trans (by kernel_rfl)
theorem x13p (call : FCall) (hs : FHs) (args : List AV) (m : Mem) (r : AV × Mem) (h : x8e call hs args m = some r) : fxBody Try.prog pol NN call hs x1m args m = some r := by
  unfold x8e at h
  split at h
  · rw [x1hs]; exact h
  · cases h

/- swath/unwrap.SolveNet -/
abbrev x1ht (hs : FHs) (u : Nat) : FCtx := { f := x78, u := u, nt := 33, hs := hs }
noncomputable abbrev xwz : Fs → Option (AV × Mem) := fxRes Try.prog [.tmp 2, .tmp 3, .tmp 4, .tmp 5]
noncomputable def xx0 : Code := nav (bodyOf x78) []
theorem x1hu (call : FCall) (hs : FHs) (u : Nat) :
  fxK Try.prog pol NN call xx0 (AV × Mem) (x1ht hs u) xwz eNil xwz = (fun s => xqm call hs u (s.sl 0) s.m s.fc) := by
  kernel_rfl
theorem x1hv (call : FCall) (hs : FHs) (t0 : AV) (m : Mem) : fxBody Try.prog pol NN call hs x78 [t0] m = xax call hs [t0] m := by
  rw [fxBody_at (fn := Try.f17) (body := xx0) (nt := 33) (rs := [.tmp 2, .tmp 3, .tmp 4, .tmp 5]) (by kernel_rfl) (by kernel_rfl) (by kernel_rfl) (by kernel_rfl) (by kernel_rfl) (by kernel_rfl)]
  exact (congrFun (x1hu call hs m.next) _).trans (by kernel_rfl)
theorem x13q (call : FCall) (hs : FHs) (args : List AV) (m : Mem) (r : AV × Mem) (h : xax call hs args m = some r) : fxBody Try.prog pol NN call hs x78 args m = some r := by
  unfold xax at h
  split at h
  · rw [x1hv]; exact h
  · cases h

/- swath/swathref05.CopyNet -/
abbrev x1hw (hs : FHs) (u : Nat) : FCtx := { f := x62, u := u, nt := 10, hs := hs }
noncomputable abbrev xx1 : Fs → Option (AV × Mem) := fxRes Try.prog [.cell 2 x3m]
noncomputable def xx2 : Code := nav (bodyOf x62) []
theorem x1hx (call : FCall) (hs : FHs) (u : Nat) :
  fxK Try.prog pol NN call xx2 (AV × Mem) (x1hw hs u) xx1 eNil xx1 = (fun s => xc6 call hs u (s.sl 0) s.m s.fc) := by
  kernel_rfl
theorem x1hy (call : FCall) (hs : FHs) (t0 : AV) (m : Mem) : fxBody Try.prog pol NN call hs x62 [t0] m = x79 call hs [t0] m := by
  rw [fxBody_at (fn := Try.f18) (body := xx2) (nt := 10) (rs := [.cell 2 x3m]) (by kernel_rfl) (by kernel_rfl) (by kernel_rfl) (by kernel_rfl) (by kernel_rfl) (by kernel_rfl)]
  exact (congrFun (x1hx call hs m.next) _).trans (by kernel_rfl)
theorem x13r (call : FCall) (hs : FHs) (args : List AV) (m : Mem) (r : AV × Mem) (h : x79 call hs args m = some r) : fxBody Try.prog pol NN call hs x62 args m = some r := by
  unfold x79 at h
  split at h
  · rw [x1hy]; exact h
  · cases h

/- swath/swathref05.Err -/
abbrev x1hz (hs : FHs) (u : Nat) : FCtx := { f := x63, u := u, nt := 11, hs := hs }
noncomputable abbrev xx3 : Fs → Option (AV × Mem) := fxRes Try.prog [.tmp 2]
noncomputable def xx4 : Code := nav (bodyOf x63) []
theorem x1i0 (call : FCall) (hs : FHs) (u : Nat) :
  fxK Try.prog pol NN call xx4 (AV × Mem) (x1hz hs u) xx3 eNil xx3 = (fun s => xfd call hs u (s.sl 0) s.m s.fc) := by
  kernel_rfl
theorem x1i1 (call : FCall) (hs : FHs) (t0 : AV) (m : Mem) : fxBody Try.prog pol NN call hs x63 [t0] m = x8f call hs [t0] m := by
  rw [fxBody_at (fn := Try.f19) (body := xx4) (nt := 11) (rs := [.tmp 2]) (by kernel_rfl) (by kernel_rfl) (by kernel_rfl) (by kernel_rfl) (by kernel_rfl) (by kernel_rfl)]
  exact (congrFun (x1i0 call hs m.next) _).trans (by kernel_rfl)
theorem x13s (call : FCall) (hs : FHs) (args : List AV) (m : Mem) (r : AV × Mem) (h : x8f call hs args m = some r) : fxBody Try.prog pol NN call hs x63 args m = some r := by
  unfold x8f at h
  split at h
  · rw [x1i1]; exact h
  · cases h

/- swath/swathref05.CheckTurns -/
abbrev x6t (hs : FHs) (u : Nat) : FCtx := { f := x21, u := u, nt := 27, hs := hs }
noncomputable abbrev x3w : Fs → Option (AV × Mem) := fxRes Try.prog [.tmp 4, .tmp 5]
noncomputable def xlq : Code := nav (bodyOf x21) []
noncomputable def x1i2 : Code := nav (bodyOf x21) [false]
noncomputable def xx5 : Code := nav (bodyOf x21) [true]
noncomputable def x1i3 : Code := nav (bodyOf x21) [true, false]
noncomputable def xlr : Code := nav (bodyOf x21) [true, true]
noncomputable def xls : Code := nav (bodyOf x21) [true, true, false]
noncomputable def xx6 : Code := nav (bodyOf x21) [true, true, true]
noncomputable def x1i4 : Code := nav (bodyOf x21) [true, true, false, false]
noncomputable def xlt : Code := nav (bodyOf x21) [true, true, false, true]
noncomputable def xlu : Code := nav (bodyOf x21) [true, true, false, true, false]
noncomputable def xlv : Code := nav (bodyOf x21) [true, true, false, true, false, false]
theorem x1i5 (call : FCall) (hs : FHs) (u : Nat) :
  fxK Try.prog pol NN call xx6 (AV × Mem) (x6t hs u) x3w eNil x3w = (fun s => x52 call hs u (s.sl 1) (s.sl 2) s.m s.fc) := by
  kernel_rfl
theorem x1i6 (call : FCall) (hs : FHs) (u : Nat) (rec0 : AV → AV → AV → Mem → Nat → Option (AV × Mem)) :
  fxK Try.prog pol NN call xlv (AV × Mem) (x6t hs u) (fun s => rec0 (s.sl 1) (s.sl 2) (s.sl 6) s.m s.fc) (setE 0 (fun s => x52 call hs u (s.sl 1) (s.sl 2) s.m s.fc) eNil) x3w = (fun s => xc7 call hs u rec0 (s.sl 1) (s.sl 2) (s.sl 6) s.m s.fc) := by
  kernel_rfl
theorem xx7 (call : FCall) (hs : FHs) (u : Nat) : ∀ n : Nat,
  iter (fun rec => fxK Try.prog pol NN call xlv (AV × Mem) (x6t hs u) rec (setE 0 (fun s => x52 call hs u (s.sl 1) (s.sl 2) s.m s.fc) eNil) x3w) n = (fun s => x53 call hs u n (s.sl 1) (s.sl 2) (s.sl 6) s.m s.fc)
  | 0 => rfl
  | n + 1 => by rw [iter_succ, xx7 call hs u n, x1i6 call hs u (x53 call hs u n)]; kernel_rfl
theorem x1i7 (call : FCall) (hs : FHs) (u : Nat) :
  fxK Try.prog pol NN call xlu (AV × Mem) (x6t hs u) (fun s => x52 call hs u (s.sl 1) (s.sl 2) s.m s.fc) (setE 0 (fun s => x52 call hs u (s.sl 1) (s.sl 2) s.m s.fc) eNil) x3w = (fun s => x53 call hs u NN (s.sl 1) (s.sl 2) (s.sl 6) s.m s.fc) := by
  rw [show xlu = .loop xlv from by kernel_rfl, loop_r, xx7 call hs u NN]
theorem x1i8 (call : FCall) (hs : FHs) (u : Nat) :
  fxK Try.prog pol NN call xlt (AV × Mem) (x6t hs u) (fun s => x52 call hs u (s.sl 1) (s.sl 2) s.m s.fc) eNil x3w = (fun s => x53 call hs u NN (s.sl 1) (s.sl 2) (s.sl 6) s.m s.fc) := by
  rw [show xlt = .block 0 xlu from by kernel_rfl, block_r, x1i7 call hs u]
theorem x1i9 (call : FCall) (hs : FHs) (u : Nat) :
  fxK Try.prog pol NN call xls (AV × Mem) (x6t hs u) (fun s => x52 call hs u (s.sl 1) (s.sl 2) s.m s.fc) eNil x3w = (fun s => xc8 call hs u (s.sl 1) (s.sl 2) s.m s.fc) := by
  rw [show xls = .seq x1i4 xlt from by kernel_rfl, seq_r]; rw [x1i8 call hs u]; kernel_rfl
theorem x1ia (call : FCall) (hs : FHs) (u : Nat) :
  fxK Try.prog pol NN call xlr (AV × Mem) (x6t hs u) x3w eNil x3w = (fun s => xc8 call hs u (s.sl 1) (s.sl 2) s.m s.fc) := by
  rw [show xlr = .seq xls xx6 from by kernel_rfl, seq_r, x1i5 call hs u, x1i9 call hs u]
theorem x1ib (call : FCall) (hs : FHs) (u : Nat) :
  fxK Try.prog pol NN call xlq (AV × Mem) (x6t hs u) x3w eNil x3w = (fun s => xfe call hs u (s.sl 0) (s.sl 1) s.m s.fc) := by
  rw [show xlq = .seq x1i2 xx5 from by kernel_rfl, seq_r]; rw [show xx5 = .seq x1i3 xlr from by kernel_rfl, seq_r]; rw [x1ia call hs u]; kernel_rfl
theorem x1ic (call : FCall) (hs : FHs) (t0 t1 : AV) (m : Mem) : fxBody Try.prog pol NN call hs x21 [t0, t1] m = x8g call hs [t0, t1] m := by
  rw [fxBody_at (fn := Try.f20) (body := xlq) (nt := 27) (rs := [.tmp 4, .tmp 5]) (by kernel_rfl) (by kernel_rfl) (by kernel_rfl) (by kernel_rfl) (by kernel_rfl) (by kernel_rfl)]
  exact (congrFun (x1ib call hs m.next) _).trans (by kernel_rfl)
theorem x13t (call : FCall) (hs : FHs) (args : List AV) (m : Mem) (r : AV × Mem) (h : x8g call hs args m = some r) : fxBody Try.prog pol NN call hs x21 args m = some r := by
  unfold x8g at h
  split at h
  · rw [x1ic]; exact h
  · cases h

/- swath/swathlaw05.small -/
abbrev x2q (hs : FHs) (u : Nat) : FCtx := { f := xl, u := u, nt := 56, hs := hs }
noncomputable abbrev x1w : Fs → Option (AV × Mem) := fxRes Try.prog [.tmp 2]
noncomputable def xlw : Code := nav (bodyOf xl) []
noncomputable def x1id : Code := nav (bodyOf xl) [false]
noncomputable def xx8 : Code := nav (bodyOf xl) [true]
noncomputable def x1ie : Code := nav (bodyOf xl) [true, false]
noncomputable def xx9 : Code := nav (bodyOf xl) [true, true]
noncomputable def x1if : Code := nav (bodyOf xl) [true, true, false]
noncomputable def xxa : Code := nav (bodyOf xl) [true, true, true]
noncomputable def x1ig : Code := nav (bodyOf xl) [true, true, true, false]
noncomputable def xlx : Code := nav (bodyOf xl) [true, true, true, true]
noncomputable def xly : Code := nav (bodyOf xl) [true, true, true, true, false]
noncomputable def xlz : Code := nav (bodyOf xl) [true, true, true, true, true]
noncomputable def xm0 : Code := nav (bodyOf xl) [true, true, true, true, true, false]
noncomputable def xxb : Code := nav (bodyOf xl) [true, true, true, true, true, true]
noncomputable def x1ih : Code := nav (bodyOf xl) [true, true, true, true, true, false, false]
noncomputable def xm1 : Code := nav (bodyOf xl) [true, true, true, true, true, false, true]
noncomputable def xm2 : Code := nav (bodyOf xl) [true, true, true, true, true, false, true, false]
noncomputable def xm3 : Code := nav (bodyOf xl) [true, true, true, true, true, false, true, false, false]
noncomputable def x1ii : Code := nav (bodyOf xl) [true, true, true, true, false, false]
noncomputable def xm4 : Code := nav (bodyOf xl) [true, true, true, true, false, true]
noncomputable def xm5 : Code := nav (bodyOf xl) [true, true, true, true, false, true, false]
noncomputable def xm6 : Code := nav (bodyOf xl) [true, true, true, true, false, true, false, false]
theorem x1ij (call : FCall) (hs : FHs) (u : Nat) :
  fxK Try.prog pol NN call xxb (AV × Mem) (x2q hs u) x1w eNil x1w = (fun s => x54 call hs u s.m s.fc) := by
  kernel_rfl
theorem x1ik (call : FCall) (hs : FHs) (u : Nat) (rec0 : AV → AV → Mem → Nat → Option (AV × Mem)) :
  fxK Try.prog pol NN call xm3 (AV × Mem) (x2q hs u) (fun s => rec0 (s.sl 1) (s.sl 4) s.m s.fc) (setE 2 (fun s => x54 call hs u s.m s.fc) eNil) x1w = (fun s => xc9 call hs u rec0 (s.sl 1) (s.sl 4) s.m s.fc) := by
  kernel_rfl
theorem xxc (call : FCall) (hs : FHs) (u : Nat) : ∀ n : Nat,
  iter (fun rec => fxK Try.prog pol NN call xm3 (AV × Mem) (x2q hs u) rec (setE 2 (fun s => x54 call hs u s.m s.fc) eNil) x1w) n = (fun s => x55 call hs u n (s.sl 1) (s.sl 4) s.m s.fc)
  | 0 => rfl
  | n + 1 => by rw [iter_succ, xxc call hs u n, x1ik call hs u (x55 call hs u n)]; kernel_rfl
theorem x1il (call : FCall) (hs : FHs) (u : Nat) :
  fxK Try.prog pol NN call xm2 (AV × Mem) (x2q hs u) (fun s => x54 call hs u s.m s.fc) (setE 2 (fun s => x54 call hs u s.m s.fc) eNil) x1w = (fun s => x55 call hs u NN (s.sl 1) (s.sl 4) s.m s.fc) := by
  rw [show xm2 = .loop xm3 from by kernel_rfl, loop_r, xxc call hs u NN]
theorem x1im (call : FCall) (hs : FHs) (u : Nat) :
  fxK Try.prog pol NN call xm1 (AV × Mem) (x2q hs u) (fun s => x54 call hs u s.m s.fc) eNil x1w = (fun s => x55 call hs u NN (s.sl 1) (s.sl 4) s.m s.fc) := by
  rw [show xm1 = .block 2 xm2 from by kernel_rfl, block_r, x1il call hs u]
theorem x1in (call : FCall) (hs : FHs) (u : Nat) :
  fxK Try.prog pol NN call xm0 (AV × Mem) (x2q hs u) (fun s => x54 call hs u s.m s.fc) eNil x1w = (fun s => x4e call hs u (s.sl 1) s.m s.fc) := by
  rw [show xm0 = .seq x1ih xm1 from by kernel_rfl, seq_r]; rw [x1im call hs u]; kernel_rfl
theorem x1io (call : FCall) (hs : FHs) (u : Nat) :
  fxK Try.prog pol NN call xlz (AV × Mem) (x2q hs u) x1w eNil x1w = (fun s => x4e call hs u (s.sl 1) s.m s.fc) := by
  rw [show xlz = .seq xm0 xxb from by kernel_rfl, seq_r, x1ij call hs u, x1in call hs u]
theorem x1ip (call : FCall) (hs : FHs) (u : Nat) (rec1 : AV → AV → Mem → Nat → Option (AV × Mem)) :
  fxK Try.prog pol NN call xm6 (AV × Mem) (x2q hs u) (fun s => rec1 (s.sl 1) (s.sl 3) s.m s.fc) (setE 0 (fun s => x4e call hs u (s.sl 1) s.m s.fc) eNil) x1w = (fun s => xca call hs u rec1 (s.sl 1) (s.sl 3) s.m s.fc) := by
  kernel_rfl
theorem xxd (call : FCall) (hs : FHs) (u : Nat) : ∀ n : Nat,
  iter (fun rec => fxK Try.prog pol NN call xm6 (AV × Mem) (x2q hs u) rec (setE 0 (fun s => x4e call hs u (s.sl 1) s.m s.fc) eNil) x1w) n = (fun s => x56 call hs u n (s.sl 1) (s.sl 3) s.m s.fc)
  | 0 => rfl
  | n + 1 => by rw [iter_succ, xxd call hs u n, x1ip call hs u (x56 call hs u n)]; kernel_rfl
theorem x1iq (call : FCall) (hs : FHs) (u : Nat) :
  fxK Try.prog pol NN call xm5 (AV × Mem) (x2q hs u) (fun s => x4e call hs u (s.sl 1) s.m s.fc) (setE 0 (fun s => x4e call hs u (s.sl 1) s.m s.fc) eNil) x1w = (fun s => x56 call hs u NN (s.sl 1) (s.sl 3) s.m s.fc) := by
  rw [show xm5 = .loop xm6 from by kernel_rfl, loop_r, xxd call hs u NN]
theorem x1ir (call : FCall) (hs : FHs) (u : Nat) :
  fxK Try.prog pol NN call xm4 (AV × Mem) (x2q hs u) (fun s => x4e call hs u (s.sl 1) s.m s.fc) eNil x1w = (fun s => x56 call hs u NN (s.sl 1) (s.sl 3) s.m s.fc) := by
  rw [show xm4 = .block 0 xm5 from by kernel_rfl, block_r, x1iq call hs u]
theorem x1is (call : FCall) (hs : FHs) (u : Nat) :
  fxK Try.prog pol NN call xly (AV × Mem) (x2q hs u) (fun s => x4e call hs u (s.sl 1) s.m s.fc) eNil x1w = (fun s => xcb call hs u (s.sl 1) s.m s.fc) := by
  rw [show xly = .seq x1ii xm4 from by kernel_rfl, seq_r]; rw [x1ir call hs u]; kernel_rfl
theorem x1it (call : FCall) (hs : FHs) (u : Nat) :
  fxK Try.prog pol NN call xlx (AV × Mem) (x2q hs u) x1w eNil x1w = (fun s => xcb call hs u (s.sl 1) s.m s.fc) := by
  rw [show xlx = .seq xly xlz from by kernel_rfl, seq_r, x1io call hs u, x1is call hs u]
theorem x1iu (call : FCall) (hs : FHs) (u : Nat) :
  fxK Try.prog pol NN call xlw (AV × Mem) (x2q hs u) x1w eNil x1w = (fun s => xff call hs u (s.sl 0) s.m s.fc) := by
  rw [show xlw = .seq x1id xx8 from by kernel_rfl, seq_r]; rw [show xx8 = .seq x1ie xx9 from by kernel_rfl, seq_r]; rw [show xx9 = .seq x1if xxa from by kernel_rfl, seq_r]; rw [show xxa = .seq x1ig xlx from by kernel_rfl, seq_r]; rw [x1it call hs u]; kernel_rfl
theorem x1iv (call : FCall) (hs : FHs) (t0 : AV) (m : Mem) : fxBody Try.prog pol NN call hs xl [t0] m = x8h call hs [t0] m := by
  rw [fxBody_at (fn := Try.f25) (body := xlw) (nt := 56) (rs := [.tmp 2]) (by kernel_rfl) (by kernel_rfl) (by kernel_rfl) (by kernel_rfl) (by kernel_rfl) (by kernel_rfl)]
  exact (congrFun (x1iu call hs m.next) _).trans (by kernel_rfl)
theorem x13u (call : FCall) (hs : FHs) (args : List AV) (m : Mem) (r : AV × Mem) (h : x8h call hs args m = some r) : fxBody Try.prog pol NN call hs xl args m = some r := by
  unfold x8h at h
  split at h
  · rw [x1iv]; exact h
  · cases h

/- swath/unwrap.NetOf -/
abbrev x1iw (hs : FHs) (u : Nat) : FCtx := { f := x64, u := u, nt := 13, hs := hs }
noncomputable abbrev xxe : Fs → Option (AV × Mem) := fxRes Try.prog [.cell 2 x3m, .tmp 3]
noncomputable def xxf : Code := nav (bodyOf x64) []
theorem x1ix (call : FCall) (hs : FHs) (u : Nat) :
  fxK Try.prog pol NN call xxf (AV × Mem) (x1iw hs u) xxe eNil xxe = (fun s => xcc call hs u (s.sl 0) s.m s.fc) := by
  kernel_rfl
theorem x1iy (call : FCall) (hs : FHs) (t0 : AV) (m : Mem) : fxBody Try.prog pol NN call hs x64 [t0] m = x7a call hs [t0] m := by
  rw [fxBody_at (fn := Try.f26) (body := xxf) (nt := 13) (rs := [.cell 2 x3m, .tmp 3]) (by kernel_rfl) (by kernel_rfl) (by kernel_rfl) (by kernel_rfl) (by kernel_rfl) (by kernel_rfl)]
  exact (congrFun (x1ix call hs m.next) _).trans (by kernel_rfl)
theorem x13v (call : FCall) (hs : FHs) (args : List AV) (m : Mem) (r : AV × Mem) (h : x7a call hs args m = some r) : fxBody Try.prog pol NN call hs x64 args m = some r := by
  unfold x7a at h
  split at h
  · rw [x1iy]; exact h
  · cases h

/- swath/swathref05.CopyTask -/
abbrev x1iz (hs : FHs) (u : Nat) : FCtx := { f := x3b, u := u, nt := 13, hs := hs }
noncomputable abbrev xxg : Fs → Option (AV × Mem) := fxRes Try.prog [.cell 2 xbz]
noncomputable def xxh : Code := nav (bodyOf x3b) []
theorem x1j0 (call : FCall) (hs : FHs) (u : Nat) :
  fxK Try.prog pol NN call xxh (AV × Mem) (x1iz hs u) xxg eNil xxg = (fun s => xfg call hs u (s.sl 0) s.m s.fc) := by
  kernel_rfl
theorem x1j1 (call : FCall) (hs : FHs) (t0 : AV) (m : Mem) : fxBody Try.prog pol NN call hs x3b [t0] m = x8i call hs [t0] m := by
  rw [fxBody_at (fn := Try.f27) (body := xxh) (nt := 13) (rs := [.cell 2 xbz]) (by kernel_rfl) (by kernel_rfl) (by kernel_rfl) (by kernel_rfl) (by kernel_rfl) (by kernel_rfl)]
  exact (congrFun (x1j0 call hs m.next) _).trans (by kernel_rfl)
theorem x13w (call : FCall) (hs : FHs) (args : List AV) (m : Mem) (r : AV × Mem) (h : x8i call hs args m = some r) : fxBody Try.prog pol NN call hs x3b args m = some r := by
  unfold x8i at h
  split at h
  · rw [x1j1]; exact h
  · cases h

/- swath/swathref05.CheckTask -/
abbrev x2r (hs : FHs) (u : Nat) : FCtx := { f := xh, u := u, nt := 83, hs := hs }
noncomputable abbrev x1x : Fs → Option (AV × Mem) := fxRes Try.prog [.tmp 2]
noncomputable def xm7 : Code := nav (bodyOf xh) []
noncomputable def x1j2 : Code := nav (bodyOf xh) [false]
noncomputable def xxi : Code := nav (bodyOf xh) [true]
noncomputable def x1j3 : Code := nav (bodyOf xh) [true, false]
noncomputable def xxj : Code := nav (bodyOf xh) [true, true]
noncomputable def x1j4 : Code := nav (bodyOf xh) [true, true, false]
noncomputable def xxk : Code := nav (bodyOf xh) [true, true, true]
noncomputable def x1j5 : Code := nav (bodyOf xh) [true, true, true, false]
noncomputable def xxl : Code := nav (bodyOf xh) [true, true, true, true]
noncomputable def x1j6 : Code := nav (bodyOf xh) [true, true, true, true, false]
noncomputable def xxm : Code := nav (bodyOf xh) [true, true, true, true, true]
noncomputable def x1j7 : Code := nav (bodyOf xh) [true, true, true, true, true, false]
noncomputable def xm8 : Code := nav (bodyOf xh) [true, true, true, true, true, true]
noncomputable def xm9 : Code := nav (bodyOf xh) [true, true, true, true, true, true, false]
noncomputable def xma : Code := nav (bodyOf xh) [true, true, true, true, true, true, true]
noncomputable def xmb : Code := nav (bodyOf xh) [true, true, true, true, true, true, true, false]
noncomputable def xxn : Code := nav (bodyOf xh) [true, true, true, true, true, true, true, true]
noncomputable def x1j8 : Code := nav (bodyOf xh) [true, true, true, true, true, true, true, false, false]
noncomputable def xmc : Code := nav (bodyOf xh) [true, true, true, true, true, true, true, false, true]
noncomputable def xmd : Code := nav (bodyOf xh) [true, true, true, true, true, true, true, false, true, false]
noncomputable def xme : Code := nav (bodyOf xh) [true, true, true, true, true, true, true, false, true, false, false]
noncomputable def x1j9 : Code := nav (bodyOf xh) [true, true, true, true, true, true, false, false]
noncomputable def xmf : Code := nav (bodyOf xh) [true, true, true, true, true, true, false, true]
noncomputable def xmg : Code := nav (bodyOf xh) [true, true, true, true, true, true, false, true, false]
noncomputable def xmh : Code := nav (bodyOf xh) [true, true, true, true, true, true, false, true, false, false]
theorem x1ja (call : FCall) (hs : FHs) (u : Nat) :
  fxK Try.prog pol NN call xxn (AV × Mem) (x2r hs u) x1x eNil x1x = (fun s => x57 call hs u s.m s.fc) := by
  kernel_rfl
theorem x1jb (call : FCall) (hs : FHs) (u : Nat) (rec0 : AV → AV → Mem → Nat → Option (AV × Mem)) :
  fxK Try.prog pol NN call xme (AV × Mem) (x2r hs u) (fun s => rec0 (s.sl 1) (s.sl 7) s.m s.fc) (setE 2 (fun s => x57 call hs u s.m s.fc) eNil) x1x = (fun s => xcd call hs u rec0 (s.sl 1) (s.sl 7) s.m s.fc) := by
  kernel_rfl
theorem xxo (call : FCall) (hs : FHs) (u : Nat) : ∀ n : Nat,
  iter (fun rec => fxK Try.prog pol NN call xme (AV × Mem) (x2r hs u) rec (setE 2 (fun s => x57 call hs u s.m s.fc) eNil) x1x) n = (fun s => x58 call hs u n (s.sl 1) (s.sl 7) s.m s.fc)
  | 0 => rfl
  | n + 1 => by rw [iter_succ, xxo call hs u n, x1jb call hs u (x58 call hs u n)]; kernel_rfl
theorem x1jc (call : FCall) (hs : FHs) (u : Nat) :
  fxK Try.prog pol NN call xmd (AV × Mem) (x2r hs u) (fun s => x57 call hs u s.m s.fc) (setE 2 (fun s => x57 call hs u s.m s.fc) eNil) x1x = (fun s => x58 call hs u NN (s.sl 1) (s.sl 7) s.m s.fc) := by
  rw [show xmd = .loop xme from by kernel_rfl, loop_r, xxo call hs u NN]
theorem x1jd (call : FCall) (hs : FHs) (u : Nat) :
  fxK Try.prog pol NN call xmc (AV × Mem) (x2r hs u) (fun s => x57 call hs u s.m s.fc) eNil x1x = (fun s => x58 call hs u NN (s.sl 1) (s.sl 7) s.m s.fc) := by
  rw [show xmc = .block 2 xmd from by kernel_rfl, block_r, x1jc call hs u]
theorem x1je (call : FCall) (hs : FHs) (u : Nat) :
  fxK Try.prog pol NN call xmb (AV × Mem) (x2r hs u) (fun s => x57 call hs u s.m s.fc) eNil x1x = (fun s => x4f call hs u (s.sl 1) s.m s.fc) := by
  rw [show xmb = .seq x1j8 xmc from by kernel_rfl, seq_r]; rw [x1jd call hs u]; kernel_rfl
theorem x1jf (call : FCall) (hs : FHs) (u : Nat) :
  fxK Try.prog pol NN call xma (AV × Mem) (x2r hs u) x1x eNil x1x = (fun s => x4f call hs u (s.sl 1) s.m s.fc) := by
  rw [show xma = .seq xmb xxn from by kernel_rfl, seq_r, x1ja call hs u, x1je call hs u]
theorem x1jg (call : FCall) (hs : FHs) (u : Nat) (rec1 : AV → AV → Mem → Nat → Option (AV × Mem)) :
  fxK Try.prog pol NN call xmh (AV × Mem) (x2r hs u) (fun s => rec1 (s.sl 1) (s.sl 6) s.m s.fc) (setE 0 (fun s => x4f call hs u (s.sl 1) s.m s.fc) eNil) x1x = (fun s => xce call hs u rec1 (s.sl 1) (s.sl 6) s.m s.fc) := by
  kernel_rfl
theorem xxp (call : FCall) (hs : FHs) (u : Nat) : ∀ n : Nat,
  iter (fun rec => fxK Try.prog pol NN call xmh (AV × Mem) (x2r hs u) rec (setE 0 (fun s => x4f call hs u (s.sl 1) s.m s.fc) eNil) x1x) n = (fun s => x59 call hs u n (s.sl 1) (s.sl 6) s.m s.fc)
  | 0 => rfl
  | n + 1 => by rw [iter_succ, xxp call hs u n, x1jg call hs u (x59 call hs u n)]; kernel_rfl
theorem x1jh (call : FCall) (hs : FHs) (u : Nat) :
  fxK Try.prog pol NN call xmg (AV × Mem) (x2r hs u) (fun s => x4f call hs u (s.sl 1) s.m s.fc) (setE 0 (fun s => x4f call hs u (s.sl 1) s.m s.fc) eNil) x1x = (fun s => x59 call hs u NN (s.sl 1) (s.sl 6) s.m s.fc) := by
  rw [show xmg = .loop xmh from by kernel_rfl, loop_r, xxp call hs u NN]
theorem x1ji (call : FCall) (hs : FHs) (u : Nat) :
  fxK Try.prog pol NN call xmf (AV × Mem) (x2r hs u) (fun s => x4f call hs u (s.sl 1) s.m s.fc) eNil x1x = (fun s => x59 call hs u NN (s.sl 1) (s.sl 6) s.m s.fc) := by
  rw [show xmf = .block 0 xmg from by kernel_rfl, block_r, x1jh call hs u]
theorem x1jj (call : FCall) (hs : FHs) (u : Nat) :
  fxK Try.prog pol NN call xm9 (AV × Mem) (x2r hs u) (fun s => x4f call hs u (s.sl 1) s.m s.fc) eNil x1x = (fun s => xcf call hs u (s.sl 1) s.m s.fc) := by
  rw [show xm9 = .seq x1j9 xmf from by kernel_rfl, seq_r]; rw [x1ji call hs u]; kernel_rfl
theorem x1jk (call : FCall) (hs : FHs) (u : Nat) :
  fxK Try.prog pol NN call xm8 (AV × Mem) (x2r hs u) x1x eNil x1x = (fun s => xcf call hs u (s.sl 1) s.m s.fc) := by
  rw [show xm8 = .seq xm9 xma from by kernel_rfl, seq_r, x1jf call hs u, x1jj call hs u]
theorem x1jl (call : FCall) (hs : FHs) (u : Nat) :
  fxK Try.prog pol NN call xm7 (AV × Mem) (x2r hs u) x1x eNil x1x = (fun s => xfh call hs u (s.sl 0) s.m s.fc) := by
  rw [show xm7 = .seq x1j2 xxi from by kernel_rfl, seq_r]; rw [show xxi = .seq x1j3 xxj from by kernel_rfl, seq_r]; rw [show xxj = .seq x1j4 xxk from by kernel_rfl, seq_r]; rw [show xxk = .seq x1j5 xxl from by kernel_rfl, seq_r]; rw [show xxl = .seq x1j6 xxm from by kernel_rfl, seq_r]; rw [show xxm = .seq x1j7 xm8 from by kernel_rfl, seq_r]; rw [x1jk call hs u]; kernel_rfl
theorem x1jm (call : FCall) (hs : FHs) (t0 : AV) (m : Mem) : fxBody Try.prog pol NN call hs xh [t0] m = x8j call hs [t0] m := by
  rw [fxBody_at (fn := Try.f28) (body := xm7) (nt := 83) (rs := [.tmp 2]) (by kernel_rfl) (by kernel_rfl) (by kernel_rfl) (by kernel_rfl) (by kernel_rfl) (by kernel_rfl)]
  exact (congrFun (x1jl call hs m.next) _).trans (by kernel_rfl)
theorem x13x (call : FCall) (hs : FHs) (args : List AV) (m : Mem) (r : AV × Mem) (h : x8j call hs args m = some r) : fxBody Try.prog pol NN call hs xh args m = some r := by
  unfold x8j at h
  split at h
  · rw [x1jm]; exact h
  · cases h

/- swath/unwrap.CheckTask -/
abbrev x6u (hs : FHs) (u : Nat) : FCtx := { f := xk, u := u, nt := 67, hs := hs }
noncomputable abbrev x3x : Fs → Option (AV × Mem) := fxRes Try.prog [.tmp 2]
noncomputable def xmi : Code := nav (bodyOf xk) []
noncomputable def x1jn : Code := nav (bodyOf xk) [false]
noncomputable def xxq : Code := nav (bodyOf xk) [true]
noncomputable def x1jo : Code := nav (bodyOf xk) [true, false]
noncomputable def xxr : Code := nav (bodyOf xk) [true, true]
noncomputable def x1jp : Code := nav (bodyOf xk) [true, true, false]
noncomputable def xxs : Code := nav (bodyOf xk) [true, true, true]
noncomputable def x1jq : Code := nav (bodyOf xk) [true, true, true, false]
noncomputable def xxt : Code := nav (bodyOf xk) [true, true, true, true]
noncomputable def x1jr : Code := nav (bodyOf xk) [true, true, true, true, false]
noncomputable def xxu : Code := nav (bodyOf xk) [true, true, true, true, true]
noncomputable def x1js : Code := nav (bodyOf xk) [true, true, true, true, true, false]
noncomputable def xmj : Code := nav (bodyOf xk) [true, true, true, true, true, true]
noncomputable def xmk : Code := nav (bodyOf xk) [true, true, true, true, true, true, false]
noncomputable def xxv : Code := nav (bodyOf xk) [true, true, true, true, true, true, true]
noncomputable def x1jt : Code := nav (bodyOf xk) [true, true, true, true, true, true, false, false]
noncomputable def xml : Code := nav (bodyOf xk) [true, true, true, true, true, true, false, true]
noncomputable def xmm : Code := nav (bodyOf xk) [true, true, true, true, true, true, false, true, false]
noncomputable def xmn : Code := nav (bodyOf xk) [true, true, true, true, true, true, false, true, false, false]
theorem x1ju (call : FCall) (hs : FHs) (u : Nat) :
  fxK Try.prog pol NN call xxv (AV × Mem) (x6u hs u) x3x eNil x3x = (fun s => x5a call hs u s.m s.fc) := by
  kernel_rfl
theorem x1jv (call : FCall) (hs : FHs) (u : Nat) (rec0 : AV → AV → AV → Mem → Nat → Option (AV × Mem)) :
  fxK Try.prog pol NN call xmn (AV × Mem) (x6u hs u) (fun s => rec0 (s.sl 57) (s.sl 58) (s.sl 59) s.m s.fc) (setE 0 (fun s => x5a call hs u s.m s.fc) eNil) x3x = (fun s => xcg call hs u rec0 (s.sl 57) (s.sl 58) (s.sl 59) s.m s.fc) := by
  kernel_rfl
theorem xxw (call : FCall) (hs : FHs) (u : Nat) : ∀ n : Nat,
  iter (fun rec => fxK Try.prog pol NN call xmn (AV × Mem) (x6u hs u) rec (setE 0 (fun s => x5a call hs u s.m s.fc) eNil) x3x) n = (fun s => x5b call hs u n (s.sl 57) (s.sl 58) (s.sl 59) s.m s.fc)
  | 0 => rfl
  | n + 1 => by rw [iter_succ, xxw call hs u n, x1jv call hs u (x5b call hs u n)]; kernel_rfl
theorem x1jw (call : FCall) (hs : FHs) (u : Nat) :
  fxK Try.prog pol NN call xmm (AV × Mem) (x6u hs u) (fun s => x5a call hs u s.m s.fc) (setE 0 (fun s => x5a call hs u s.m s.fc) eNil) x3x = (fun s => x5b call hs u NN (s.sl 57) (s.sl 58) (s.sl 59) s.m s.fc) := by
  rw [show xmm = .loop xmn from by kernel_rfl, loop_r, xxw call hs u NN]
theorem x1jx (call : FCall) (hs : FHs) (u : Nat) :
  fxK Try.prog pol NN call xml (AV × Mem) (x6u hs u) (fun s => x5a call hs u s.m s.fc) eNil x3x = (fun s => x5b call hs u NN (s.sl 57) (s.sl 58) (s.sl 59) s.m s.fc) := by
  rw [show xml = .block 0 xmm from by kernel_rfl, block_r, x1jw call hs u]
theorem x1jy (call : FCall) (hs : FHs) (u : Nat) :
  fxK Try.prog pol NN call xmk (AV × Mem) (x6u hs u) (fun s => x5a call hs u s.m s.fc) eNil x3x = (fun s => xch call hs u (s.sl 1) s.m s.fc) := by
  rw [show xmk = .seq x1jt xml from by kernel_rfl, seq_r]; rw [x1jx call hs u]; kernel_rfl
theorem x1jz (call : FCall) (hs : FHs) (u : Nat) :
  fxK Try.prog pol NN call xmj (AV × Mem) (x6u hs u) x3x eNil x3x = (fun s => xch call hs u (s.sl 1) s.m s.fc) := by
  rw [show xmj = .seq xmk xxv from by kernel_rfl, seq_r, x1ju call hs u, x1jy call hs u]
theorem x1k0 (call : FCall) (hs : FHs) (u : Nat) :
  fxK Try.prog pol NN call xmi (AV × Mem) (x6u hs u) x3x eNil x3x = (fun s => xfi call hs u (s.sl 0) s.m s.fc) := by
  rw [show xmi = .seq x1jn xxq from by kernel_rfl, seq_r]; rw [show xxq = .seq x1jo xxr from by kernel_rfl, seq_r]; rw [show xxr = .seq x1jp xxs from by kernel_rfl, seq_r]; rw [show xxs = .seq x1jq xxt from by kernel_rfl, seq_r]; rw [show xxt = .seq x1jr xxu from by kernel_rfl, seq_r]; rw [show xxu = .seq x1js xmj from by kernel_rfl, seq_r]; rw [x1jz call hs u]; kernel_rfl
theorem x1k1 (call : FCall) (hs : FHs) (t0 : AV) (m : Mem) : fxBody Try.prog pol NN call hs xk [t0] m = x8k call hs [t0] m := by
  rw [fxBody_at (fn := Try.f29) (body := xmi) (nt := 67) (rs := [.tmp 2]) (by kernel_rfl) (by kernel_rfl) (by kernel_rfl) (by kernel_rfl) (by kernel_rfl) (by kernel_rfl)]
  exact (congrFun (x1k0 call hs m.next) _).trans (by kernel_rfl)
theorem x13y (call : FCall) (hs : FHs) (args : List AV) (m : Mem) (r : AV × Mem) (h : x8k call hs args m = some r) : fxBody Try.prog pol NN call hs xk args m = some r := by
  unfold x8k at h
  split at h
  · rw [x1k1]; exact h
  · cases h

/- swath/swathref05.SameNet -/
abbrev x6v (hs : FHs) (u : Nat) : FCtx := { f := x1n, u := u, nt := 38, hs := hs }
noncomputable abbrev x3y : Fs → Option (AV × Mem) := fxRes Try.prog [.tmp 4]
noncomputable def xmo : Code := nav (bodyOf x1n) []
noncomputable def x1k2 : Code := nav (bodyOf x1n) [false]
noncomputable def xxx : Code := nav (bodyOf x1n) [true]
noncomputable def x1k3 : Code := nav (bodyOf x1n) [true, false]
noncomputable def xmp : Code := nav (bodyOf x1n) [true, true]
noncomputable def xmq : Code := nav (bodyOf x1n) [true, true, false]
noncomputable def xxy : Code := nav (bodyOf x1n) [true, true, true]
noncomputable def x1k4 : Code := nav (bodyOf x1n) [true, true, false, false]
noncomputable def xmr : Code := nav (bodyOf x1n) [true, true, false, true]
noncomputable def xms : Code := nav (bodyOf x1n) [true, true, false, true, false]
noncomputable def xmt : Code := nav (bodyOf x1n) [true, true, false, true, false, false]
theorem x1k5 (call : FCall) (hs : FHs) (u : Nat) :
  fxK Try.prog pol NN call xxy (AV × Mem) (x6v hs u) x3y eNil x3y = (fun s => x5c call hs u s.m s.fc) := by
  kernel_rfl
theorem x1k6 (call : FCall) (hs : FHs) (u : Nat) (rec0 : AV → AV → AV → Mem → Nat → Option (AV × Mem)) :
  fxK Try.prog pol NN call xmt (AV × Mem) (x6v hs u) (fun s => rec0 (s.sl 2) (s.sl 3) (s.sl 5) s.m s.fc) (setE 0 (fun s => x5c call hs u s.m s.fc) eNil) x3y = (fun s => xci call hs u rec0 (s.sl 2) (s.sl 3) (s.sl 5) s.m s.fc) := by
  kernel_rfl
theorem xxz (call : FCall) (hs : FHs) (u : Nat) : ∀ n : Nat,
  iter (fun rec => fxK Try.prog pol NN call xmt (AV × Mem) (x6v hs u) rec (setE 0 (fun s => x5c call hs u s.m s.fc) eNil) x3y) n = (fun s => x5d call hs u n (s.sl 2) (s.sl 3) (s.sl 5) s.m s.fc)
  | 0 => rfl
  | n + 1 => by rw [iter_succ, xxz call hs u n, x1k6 call hs u (x5d call hs u n)]; kernel_rfl
theorem x1k7 (call : FCall) (hs : FHs) (u : Nat) :
  fxK Try.prog pol NN call xms (AV × Mem) (x6v hs u) (fun s => x5c call hs u s.m s.fc) (setE 0 (fun s => x5c call hs u s.m s.fc) eNil) x3y = (fun s => x5d call hs u NN (s.sl 2) (s.sl 3) (s.sl 5) s.m s.fc) := by
  rw [show xms = .loop xmt from by kernel_rfl, loop_r, xxz call hs u NN]
theorem x1k8 (call : FCall) (hs : FHs) (u : Nat) :
  fxK Try.prog pol NN call xmr (AV × Mem) (x6v hs u) (fun s => x5c call hs u s.m s.fc) eNil x3y = (fun s => x5d call hs u NN (s.sl 2) (s.sl 3) (s.sl 5) s.m s.fc) := by
  rw [show xmr = .block 0 xms from by kernel_rfl, block_r, x1k7 call hs u]
theorem x1k9 (call : FCall) (hs : FHs) (u : Nat) :
  fxK Try.prog pol NN call xmq (AV × Mem) (x6v hs u) (fun s => x5c call hs u s.m s.fc) eNil x3y = (fun s => xcj call hs u (s.sl 2) (s.sl 3) s.m s.fc) := by
  rw [show xmq = .seq x1k4 xmr from by kernel_rfl, seq_r]; rw [x1k8 call hs u]; kernel_rfl
theorem x1ka (call : FCall) (hs : FHs) (u : Nat) :
  fxK Try.prog pol NN call xmp (AV × Mem) (x6v hs u) x3y eNil x3y = (fun s => xcj call hs u (s.sl 2) (s.sl 3) s.m s.fc) := by
  rw [show xmp = .seq xmq xxy from by kernel_rfl, seq_r, x1k5 call hs u, x1k9 call hs u]
theorem x1kb (call : FCall) (hs : FHs) (u : Nat) :
  fxK Try.prog pol NN call xmo (AV × Mem) (x6v hs u) x3y eNil x3y = (fun s => xbg call hs u (s.sl 0) (s.sl 1) s.m s.fc) := by
  rw [show xmo = .seq x1k2 xxx from by kernel_rfl, seq_r]; rw [show xxx = .seq x1k3 xmp from by kernel_rfl, seq_r]; rw [x1ka call hs u]; kernel_rfl
theorem x1kc (call : FCall) (hs : FHs) (t0 t1 : AV) (m : Mem) : fxBody Try.prog pol NN call hs x1n [t0, t1] m = x65 call hs [t0, t1] m := by
  rw [fxBody_at (fn := Try.f30) (body := xmo) (nt := 38) (rs := [.tmp 4]) (by kernel_rfl) (by kernel_rfl) (by kernel_rfl) (by kernel_rfl) (by kernel_rfl) (by kernel_rfl)]
  exact (congrFun (x1kb call hs m.next) _).trans (by kernel_rfl)
theorem x13z (call : FCall) (hs : FHs) (args : List AV) (m : Mem) (r : AV × Mem) (h : x65 call hs args m = some r) : fxBody Try.prog pol NN call hs x1n args m = some r := by
  unfold x65 at h
  split at h
  · rw [x1kc]; exact h
  · cases h

/- swath/swathref05.NetOf -/
abbrev xf (hs : FHs) (u : Nat) : FCtx := { f := x6, u := u, nt := 119, hs := hs }
noncomputable abbrev x9 : Fs → Option (AV × Mem) := fxRes Try.prog [.cell 2 x3m]
noncomputable def xmu : Code := nav (bodyOf x6) []
noncomputable def x1kd : Code := nav (bodyOf x6) [false]
noncomputable def xy0 : Code := nav (bodyOf x6) [true]
noncomputable def x1ke : Code := nav (bodyOf x6) [true, false]
noncomputable def xy1 : Code := nav (bodyOf x6) [true, true]
noncomputable def x1kf : Code := nav (bodyOf x6) [true, true, false]
noncomputable def xmv : Code := nav (bodyOf x6) [true, true, true]
noncomputable def xmw : Code := nav (bodyOf x6) [true, true, true, false]
noncomputable def xmx : Code := nav (bodyOf x6) [true, true, true, true]
noncomputable def xmy : Code := nav (bodyOf x6) [true, true, true, true, false]
noncomputable def xy2 : Code := nav (bodyOf x6) [true, true, true, true, true]
noncomputable def x1kg : Code := nav (bodyOf x6) [true, true, true, true, false, false]
noncomputable def xmz : Code := nav (bodyOf x6) [true, true, true, true, false, true]
noncomputable def xn0 : Code := nav (bodyOf x6) [true, true, true, true, false, true, false]
noncomputable def xev : Code := nav (bodyOf x6) [true, true, true, true, false, true, false, false]
noncomputable def x1kh : Code := nav (bodyOf x6) [true, true, true, true, false, true, false, false, false]
noncomputable def xn1 : Code := nav (bodyOf x6) [true, true, true, true, false, true, false, false, true]
noncomputable def xn2 : Code := nav (bodyOf x6) [true, true, true, true, false, true, false, false, true, false]
noncomputable def xy3 : Code := nav (bodyOf x6) [true, true, true, true, false, true, false, false, true, true]
noncomputable def xn3 : Code := nav (bodyOf x6) [true, true, true, true, false, true, false, false, true, false, false]
noncomputable def x1ki : Code := nav (bodyOf x6) [true, true, true, true, false, true, false, false, true, false, false, false]
noncomputable def xn4 : Code := nav (bodyOf x6) [true, true, true, true, false, true, false, false, true, false, false, true]
noncomputable def xn5 : Code := nav (bodyOf x6) [true, true, true, true, false, true, false, false, true, false, false, true, false]
noncomputable def xew : Code := nav (bodyOf x6) [true, true, true, true, false, true, false, false, true, false, false, true, false, false]
noncomputable def x1kj : Code := nav (bodyOf x6) [true, true, true, true, false, true, false, false, true, false, false, true, false, false, false]
noncomputable def xn6 : Code := nav (bodyOf x6) [true, true, true, true, false, true, false, false, true, false, false, true, false, false, true]
noncomputable def xy4 : Code := nav (bodyOf x6) [true, true, true, true, false, true, false, false, true, false, false, true, false, false, true, false]
noncomputable def xy5 : Code := nav (bodyOf x6) [true, true, true, true, false, true, false, false, true, false, false, true, false, false, true, true]
noncomputable def x1kk : Code := nav (bodyOf x6) [true, true, true, false, false]
noncomputable def xn7 : Code := nav (bodyOf x6) [true, true, true, false, true]
noncomputable def xn8 : Code := nav (bodyOf x6) [true, true, true, false, true, false]
noncomputable def xex : Code := nav (bodyOf x6) [true, true, true, false, true, false, false]
noncomputable def x1kl : Code := nav (bodyOf x6) [true, true, true, false, true, false, false, false]
noncomputable def xn9 : Code := nav (bodyOf x6) [true, true, true, false, true, false, false, true]
noncomputable def xna : Code := nav (bodyOf x6) [true, true, true, false, true, false, false, true, false]
noncomputable def xy6 : Code := nav (bodyOf x6) [true, true, true, false, true, false, false, true, true]
noncomputable def xnb : Code := nav (bodyOf x6) [true, true, true, false, true, false, false, true, false, false]
noncomputable def x1km : Code := nav (bodyOf x6) [true, true, true, false, true, false, false, true, false, false, false]
noncomputable def xnc : Code := nav (bodyOf x6) [true, true, true, false, true, false, false, true, false, false, true]
noncomputable def xnd : Code := nav (bodyOf x6) [true, true, true, false, true, false, false, true, false, false, true, false]
noncomputable def xey : Code := nav (bodyOf x6) [true, true, true, false, true, false, false, true, false, false, true, false, false]
noncomputable def x1kn : Code := nav (bodyOf x6) [true, true, true, false, true, false, false, true, false, false, true, false, false, false]
noncomputable def xne : Code := nav (bodyOf x6) [true, true, true, false, true, false, false, true, false, false, true, false, false, true]
noncomputable def xy7 : Code := nav (bodyOf x6) [true, true, true, false, true, false, false, true, false, false, true, false, false, true, false]
noncomputable def xy8 : Code := nav (bodyOf x6) [true, true, true, false, true, false, false, true, false, false, true, false, false, true, true]
theorem x1ko (call : FCall) (hs : FHs) (u : Nat) :
  fxK Try.prog pol NN call xy2 (AV × Mem) (xf hs u) x9 eNil x9 = (fun s => x1b call hs u (s.sl 2) (s.sl 4) s.m s.fc) := by
  kernel_rfl
theorem x1kp (call : FCall) (hs : FHs) (u : Nat) (rec0 : AV → AV → AV → AV → AV → Mem → Nat → Option (AV × Mem)) :
  fxK Try.prog pol NN call xy3 (AV × Mem) (xf hs u) (fun s => rec0 (s.sl 1) (s.sl 2) (s.sl 3) (s.sl 4) (s.sl 9) s.m s.fc) (setE 4 (fun s => x1b call hs u (s.sl 2) (s.sl 4) s.m s.fc) eNil) x9 = (fun s => x1c call hs u rec0 (s.sl 1) (s.sl 2) (s.sl 3) (s.sl 4) (s.sl 9) s.m s.fc) := by
  kernel_rfl
theorem x1kq (call : FCall) (hs : FHs) (u : Nat) (rec0 : AV → AV → AV → AV → AV → Mem → Nat → Option (AV × Mem)) (rec1 : AV → AV → AV → AV → AV → AV → Mem → Nat → Option (AV × Mem)) :
  fxK Try.prog pol NN call xy5 (AV × Mem) (xf hs u) (fun s => rec1 (s.sl 1) (s.sl 2) (s.sl 3) (s.sl 4) (s.sl 9) (s.sl 10) s.m s.fc) (setE 6 (fun s => x1c call hs u rec0 (s.sl 1) (s.sl 2) (s.sl 3) (s.sl 4) (s.sl 9) s.m s.fc) (setE 5 (fun s => x1c call hs u rec0 (s.sl 1) (s.sl 2) (s.sl 3) (s.sl 4) (s.sl 9) s.m s.fc) (setE 4 (fun s => x1b call hs u (s.sl 2) (s.sl 4) s.m s.fc) eNil))) x9 = (fun s => x9t call hs u rec0 rec1 (s.sl 1) (s.sl 2) (s.sl 3) (s.sl 4) (s.sl 9) (s.sl 10) s.m s.fc) := by
  kernel_rfl
theorem x1kr (call : FCall) (hs : FHs) (u : Nat) (rec0 : AV → AV → AV → AV → AV → Mem → Nat → Option (AV × Mem)) (rec1 : AV → AV → AV → AV → AV → AV → Mem → Nat → Option (AV × Mem)) :
  fxK Try.prog pol NN call xy4 (AV × Mem) (xf hs u) (fun s => x9t call hs u rec0 rec1 (s.sl 1) (s.sl 2) (s.sl 3) (s.sl 4) (s.sl 9) (s.sl 10) s.m s.fc) (setE 6 (fun s => x1c call hs u rec0 (s.sl 1) (s.sl 2) (s.sl 3) (s.sl 4) (s.sl 9) s.m s.fc) (setE 5 (fun s => x1c call hs u rec0 (s.sl 1) (s.sl 2) (s.sl 3) (s.sl 4) (s.sl 9) s.m s.fc) (setE 4 (fun s => x1b call hs u (s.sl 2) (s.sl 4) s.m s.fc) eNil))) x9 = (fun s => xbh call hs u rec0 rec1 (s.sl 1) (s.sl 2) (s.sl 3) (s.sl 4) (s.sl 9) (s.sl 10) s.m s.fc) := by
  kernel_rfl
theorem x1ks (call : FCall) (hs : FHs) (u : Nat) (rec0 : AV → AV → AV → AV → AV → Mem → Nat → Option (AV × Mem)) (rec1 : AV → AV → AV → AV → AV → AV → Mem → Nat → Option (AV × Mem)) :
  fxK Try.prog pol NN call xn6 (AV × Mem) (xf hs u) (fun s => rec1 (s.sl 1) (s.sl 2) (s.sl 3) (s.sl 4) (s.sl 9) (s.sl 10) s.m s.fc) (setE 6 (fun s => x1c call hs u rec0 (s.sl 1) (s.sl 2) (s.sl 3) (s.sl 4) (s.sl 9) s.m s.fc) (setE 5 (fun s => x1c call hs u rec0 (s.sl 1) (s.sl 2) (s.sl 3) (s.sl 4) (s.sl 9) s.m s.fc) (setE 4 (fun s => x1b call hs u (s.sl 2) (s.sl 4) s.m s.fc) eNil))) x9 = (fun s => xbh call hs u rec0 rec1 (s.sl 1) (s.sl 2) (s.sl 3) (s.sl 4) (s.sl 9) (s.sl 10) s.m s.fc) := by
  rw [show xn6 = .seq xy4 xy5 from by kernel_rfl, seq_r, x1kq call hs u rec0 rec1, x1kr call hs u rec0 rec1]
theorem x1kt (call : FCall) (hs : FHs) (u : Nat) (rec0 : AV → AV → AV → AV → AV → Mem → Nat → Option (AV × Mem)) (rec1 : AV → AV → AV → AV → AV → AV → Mem → Nat → Option (AV × Mem)) :
  fxK Try.prog pol NN call xew (AV × Mem) (xf hs u) (fun s => rec1 (s.sl 1) (s.sl 2) (s.sl 3) (s.sl 4) (s.sl 9) (s.sl 10) s.m s.fc) (setE 6 (fun s => x1c call hs u rec0 (s.sl 1) (s.sl 2) (s.sl 3) (s.sl 4) (s.sl 9) s.m s.fc) (setE 5 (fun s => x1c call hs u rec0 (s.sl 1) (s.sl 2) (s.sl 3) (s.sl 4) (s.sl 9) s.m s.fc) (setE 4 (fun s => x1b call hs u (s.sl 2) (s.sl 4) s.m s.fc) eNil))) x9 = (fun s => xbi call hs u rec0 rec1 (s.sl 1) (s.sl 2) (s.sl 3) (s.sl 4) (s.sl 9) (s.sl 10) s.m s.fc) := by
  rw [show xew = .seq x1kj xn6 from by kernel_rfl, seq_r]; rw [x1ks call hs u rec0 rec1]; kernel_rfl
theorem xy9 (call : FCall) (hs : FHs) (u : Nat) (rec0 : AV → AV → AV → AV → AV → Mem → Nat → Option (AV × Mem)) : ∀ n : Nat,
  iter (fun rec => fxK Try.prog pol NN call xew (AV × Mem) (xf hs u) rec (setE 6 (fun s => x1c call hs u rec0 (s.sl 1) (s.sl 2) (s.sl 3) (s.sl 4) (s.sl 9) s.m s.fc) (setE 5 (fun s => x1c call hs u rec0 (s.sl 1) (s.sl 2) (s.sl 3) (s.sl 4) (s.sl 9) s.m s.fc) (setE 4 (fun s => x1b call hs u (s.sl 2) (s.sl 4) s.m s.fc) eNil))) x9) n = (fun s => x2i call hs u rec0 n (s.sl 1) (s.sl 2) (s.sl 3) (s.sl 4) (s.sl 9) (s.sl 10) s.m s.fc)
  | 0 => rfl
  | n + 1 => by rw [iter_succ, xy9 call hs u rec0 n, x1kt call hs u rec0 (x2i call hs u rec0 n)]; kernel_rfl
theorem x1ku (call : FCall) (hs : FHs) (u : Nat) (rec0 : AV → AV → AV → AV → AV → Mem → Nat → Option (AV × Mem)) :
  fxK Try.prog pol NN call xn5 (AV × Mem) (xf hs u) (fun s => x1c call hs u rec0 (s.sl 1) (s.sl 2) (s.sl 3) (s.sl 4) (s.sl 9) s.m s.fc) (setE 6 (fun s => x1c call hs u rec0 (s.sl 1) (s.sl 2) (s.sl 3) (s.sl 4) (s.sl 9) s.m s.fc) (setE 5 (fun s => x1c call hs u rec0 (s.sl 1) (s.sl 2) (s.sl 3) (s.sl 4) (s.sl 9) s.m s.fc) (setE 4 (fun s => x1b call hs u (s.sl 2) (s.sl 4) s.m s.fc) eNil))) x9 = (fun s => x2i call hs u rec0 NN (s.sl 1) (s.sl 2) (s.sl 3) (s.sl 4) (s.sl 9) (s.sl 10) s.m s.fc) := by
  rw [show xn5 = .loop xew from by kernel_rfl, loop_r, xy9 call hs u rec0 NN]
theorem x1kv (call : FCall) (hs : FHs) (u : Nat) (rec0 : AV → AV → AV → AV → AV → Mem → Nat → Option (AV × Mem)) :
  fxK Try.prog pol NN call xn4 (AV × Mem) (xf hs u) (fun s => x1c call hs u rec0 (s.sl 1) (s.sl 2) (s.sl 3) (s.sl 4) (s.sl 9) s.m s.fc) (setE 5 (fun s => x1c call hs u rec0 (s.sl 1) (s.sl 2) (s.sl 3) (s.sl 4) (s.sl 9) s.m s.fc) (setE 4 (fun s => x1b call hs u (s.sl 2) (s.sl 4) s.m s.fc) eNil)) x9 = (fun s => x2i call hs u rec0 NN (s.sl 1) (s.sl 2) (s.sl 3) (s.sl 4) (s.sl 9) (s.sl 10) s.m s.fc) := by
  rw [show xn4 = .block 6 xn5 from by kernel_rfl, block_r, x1ku call hs u rec0]
theorem x1kw (call : FCall) (hs : FHs) (u : Nat) (rec0 : AV → AV → AV → AV → AV → Mem → Nat → Option (AV × Mem)) :
  fxK Try.prog pol NN call xn3 (AV × Mem) (xf hs u) (fun s => x1c call hs u rec0 (s.sl 1) (s.sl 2) (s.sl 3) (s.sl 4) (s.sl 9) s.m s.fc) (setE 5 (fun s => x1c call hs u rec0 (s.sl 1) (s.sl 2) (s.sl 3) (s.sl 4) (s.sl 9) s.m s.fc) (setE 4 (fun s => x1b call hs u (s.sl 2) (s.sl 4) s.m s.fc) eNil)) x9 = (fun s => xbj call hs u rec0 (s.sl 1) (s.sl 2) (s.sl 3) (s.sl 4) (s.sl 9) s.m s.fc) := by
  rw [show xn3 = .seq x1ki xn4 from by kernel_rfl, seq_r]; rw [x1kv call hs u rec0]; kernel_rfl
theorem x1kx (call : FCall) (hs : FHs) (u : Nat) (rec0 : AV → AV → AV → AV → AV → Mem → Nat → Option (AV × Mem)) :
  fxK Try.prog pol NN call xn2 (AV × Mem) (xf hs u) (fun s => x1c call hs u rec0 (s.sl 1) (s.sl 2) (s.sl 3) (s.sl 4) (s.sl 9) s.m s.fc) (setE 4 (fun s => x1b call hs u (s.sl 2) (s.sl 4) s.m s.fc) eNil) x9 = (fun s => xbj call hs u rec0 (s.sl 1) (s.sl 2) (s.sl 3) (s.sl 4) (s.sl 9) s.m s.fc) := by
  rw [show xn2 = .block 5 xn3 from by kernel_rfl, block_r, x1kw call hs u rec0]
theorem x1ky (call : FCall) (hs : FHs) (u : Nat) (rec0 : AV → AV → AV → AV → AV → Mem → Nat → Option (AV × Mem)) :
  fxK Try.prog pol NN call xn1 (AV × Mem) (xf hs u) (fun s => rec0 (s.sl 1) (s.sl 2) (s.sl 3) (s.sl 4) (s.sl 9) s.m s.fc) (setE 4 (fun s => x1b call hs u (s.sl 2) (s.sl 4) s.m s.fc) eNil) x9 = (fun s => xbj call hs u rec0 (s.sl 1) (s.sl 2) (s.sl 3) (s.sl 4) (s.sl 9) s.m s.fc) := by
  rw [show xn1 = .seq xn2 xy3 from by kernel_rfl, seq_r, x1kp call hs u rec0, x1kx call hs u rec0]
theorem x1kz (call : FCall) (hs : FHs) (u : Nat) (rec0 : AV → AV → AV → AV → AV → Mem → Nat → Option (AV × Mem)) :
  fxK Try.prog pol NN call xev (AV × Mem) (xf hs u) (fun s => rec0 (s.sl 1) (s.sl 2) (s.sl 3) (s.sl 4) (s.sl 9) s.m s.fc) (setE 4 (fun s => x1b call hs u (s.sl 2) (s.sl 4) s.m s.fc) eNil) x9 = (fun s => xck call hs u rec0 (s.sl 1) (s.sl 2) (s.sl 3) (s.sl 4) (s.sl 9) s.m s.fc) := by
  rw [show xev = .seq x1kh xn1 from by kernel_rfl, seq_r]; rw [x1ky call hs u rec0]; kernel_rfl
theorem xya (call : FCall) (hs : FHs) (u : Nat) : ∀ n : Nat,
  iter (fun rec => fxK Try.prog pol NN call xev (AV × Mem) (xf hs u) rec (setE 4 (fun s => x1b call hs u (s.sl 2) (s.sl 4) s.m s.fc) eNil) x9) n = (fun s => x4g call hs u n (s.sl 1) (s.sl 2) (s.sl 3) (s.sl 4) (s.sl 9) s.m s.fc)
  | 0 => rfl
  | n + 1 => by rw [iter_succ, xya call hs u n, x1kz call hs u (x4g call hs u n)]; kernel_rfl
theorem x1l0 (call : FCall) (hs : FHs) (u : Nat) :
  fxK Try.prog pol NN call xn0 (AV × Mem) (xf hs u) (fun s => x1b call hs u (s.sl 2) (s.sl 4) s.m s.fc) (setE 4 (fun s => x1b call hs u (s.sl 2) (s.sl 4) s.m s.fc) eNil) x9 = (fun s => x4g call hs u NN (s.sl 1) (s.sl 2) (s.sl 3) (s.sl 4) (s.sl 9) s.m s.fc) := by
  rw [show xn0 = .loop xev from by kernel_rfl, loop_r, xya call hs u NN]
theorem x1l1 (call : FCall) (hs : FHs) (u : Nat) :
  fxK Try.prog pol NN call xmz (AV × Mem) (xf hs u) (fun s => x1b call hs u (s.sl 2) (s.sl 4) s.m s.fc) eNil x9 = (fun s => x4g call hs u NN (s.sl 1) (s.sl 2) (s.sl 3) (s.sl 4) (s.sl 9) s.m s.fc) := by
  rw [show xmz = .block 4 xn0 from by kernel_rfl, block_r, x1l0 call hs u]
theorem x1l2 (call : FCall) (hs : FHs) (u : Nat) :
  fxK Try.prog pol NN call xmy (AV × Mem) (xf hs u) (fun s => x1b call hs u (s.sl 2) (s.sl 4) s.m s.fc) eNil x9 = (fun s => x16 call hs u (s.sl 1) (s.sl 2) (s.sl 3) (s.sl 4) s.m s.fc) := by
  rw [show xmy = .seq x1kg xmz from by kernel_rfl, seq_r]; rw [x1l1 call hs u]; kernel_rfl
theorem x1l3 (call : FCall) (hs : FHs) (u : Nat) :
  fxK Try.prog pol NN call xmx (AV × Mem) (xf hs u) x9 eNil x9 = (fun s => x16 call hs u (s.sl 1) (s.sl 2) (s.sl 3) (s.sl 4) s.m s.fc) := by
  rw [show xmx = .seq xmy xy2 from by kernel_rfl, seq_r, x1ko call hs u, x1l2 call hs u]
theorem x1l4 (call : FCall) (hs : FHs) (u : Nat) (rec2 : AV → AV → AV → AV → AV → Mem → Nat → Option (AV × Mem)) :
  fxK Try.prog pol NN call xy6 (AV × Mem) (xf hs u) (fun s => rec2 (s.sl 1) (s.sl 2) (s.sl 3) (s.sl 4) (s.sl 5) s.m s.fc) (setE 0 (fun s => x16 call hs u (s.sl 1) (s.sl 2) (s.sl 3) (s.sl 4) s.m s.fc) eNil) x9 = (fun s => x1d call hs u rec2 (s.sl 1) (s.sl 2) (s.sl 3) (s.sl 4) (s.sl 5) s.m s.fc) := by
  kernel_rfl
theorem x1l5 (call : FCall) (hs : FHs) (u : Nat) (rec2 : AV → AV → AV → AV → AV → Mem → Nat → Option (AV × Mem)) (rec3 : AV → AV → AV → AV → AV → AV → Mem → Nat → Option (AV × Mem)) :
  fxK Try.prog pol NN call xy8 (AV × Mem) (xf hs u) (fun s => rec3 (s.sl 1) (s.sl 2) (s.sl 3) (s.sl 4) (s.sl 5) (s.sl 6) s.m s.fc) (setE 2 (fun s => x1d call hs u rec2 (s.sl 1) (s.sl 2) (s.sl 3) (s.sl 4) (s.sl 5) s.m s.fc) (setE 1 (fun s => x1d call hs u rec2 (s.sl 1) (s.sl 2) (s.sl 3) (s.sl 4) (s.sl 5) s.m s.fc) (setE 0 (fun s => x16 call hs u (s.sl 1) (s.sl 2) (s.sl 3) (s.sl 4) s.m s.fc) eNil))) x9 = (fun s => x9u call hs u rec2 rec3 (s.sl 1) (s.sl 2) (s.sl 3) (s.sl 4) (s.sl 5) (s.sl 6) s.m s.fc) := by
  kernel_rfl
theorem x1l6 (call : FCall) (hs : FHs) (u : Nat) (rec2 : AV → AV → AV → AV → AV → Mem → Nat → Option (AV × Mem)) (rec3 : AV → AV → AV → AV → AV → AV → Mem → Nat → Option (AV × Mem)) :
  fxK Try.prog pol NN call xy7 (AV × Mem) (xf hs u) (fun s => x9u call hs u rec2 rec3 (s.sl 1) (s.sl 2) (s.sl 3) (s.sl 4) (s.sl 5) (s.sl 6) s.m s.fc) (setE 2 (fun s => x1d call hs u rec2 (s.sl 1) (s.sl 2) (s.sl 3) (s.sl 4) (s.sl 5) s.m s.fc) (setE 1 (fun s => x1d call hs u rec2 (s.sl 1) (s.sl 2) (s.sl 3) (s.sl 4) (s.sl 5) s.m s.fc) (setE 0 (fun s => x16 call hs u (s.sl 1) (s.sl 2) (s.sl 3) (s.sl 4) s.m s.fc) eNil))) x9 = (fun s => xbk call hs u rec2 rec3 (s.sl 1) (s.sl 2) (s.sl 3) (s.sl 4) (s.sl 5) (s.sl 6) s.m s.fc) := by
  kernel_rfl
theorem x1l7 (call : FCall) (hs : FHs) (u : Nat) (rec2 : AV → AV → AV → AV → AV → Mem → Nat → Option (AV × Mem)) (rec3 : AV → AV → AV → AV → AV → AV → Mem → Nat → Option (AV × Mem)) :
  fxK Try.prog pol NN call xne (AV × Mem) (xf hs u) (fun s => rec3 (s.sl 1) (s.sl 2) (s.sl 3) (s.sl 4) (s.sl 5) (s.sl 6) s.m s.fc) (setE 2 (fun s => x1d call hs u rec2 (s.sl 1) (s.sl 2) (s.sl 3) (s.sl 4) (s.sl 5) s.m s.fc) (setE 1 (fun s => x1d call hs u rec2 (s.sl 1) (s.sl 2) (s.sl 3) (s.sl 4) (s.sl 5) s.m s.fc) (setE 0 (fun s => x16 call hs u (s.sl 1) (s.sl 2) (s.sl 3) (s.sl 4) s.m s.fc) eNil))) x9 = (fun s => xbk call hs u rec2 rec3 (s.sl 1) (s.sl 2) (s.sl 3) (s.sl 4) (s.sl 5) (s.sl 6) s.m s.fc) := by
  rw [show xne = .seq xy7 xy8 from by kernel_rfl, seq_r, x1l5 call hs u rec2 rec3, x1l6 call hs u rec2 rec3]
theorem x1l8 (call : FCall) (hs : FHs) (u : Nat) (rec2 : AV → AV → AV → AV → AV → Mem → Nat → Option (AV × Mem)) (rec3 : AV → AV → AV → AV → AV → AV → Mem → Nat → Option (AV × Mem)) :
  fxK Try.prog pol NN call xey (AV × Mem) (xf hs u) (fun s => rec3 (s.sl 1) (s.sl 2) (s.sl 3) (s.sl 4) (s.sl 5) (s.sl 6) s.m s.fc) (setE 2 (fun s => x1d call hs u rec2 (s.sl 1) (s.sl 2) (s.sl 3) (s.sl 4) (s.sl 5) s.m s.fc) (setE 1 (fun s => x1d call hs u rec2 (s.sl 1) (s.sl 2) (s.sl 3) (s.sl 4) (s.sl 5) s.m s.fc) (setE 0 (fun s => x16 call hs u (s.sl 1) (s.sl 2) (s.sl 3) (s.sl 4) s.m s.fc) eNil))) x9 = (fun s => xbl call hs u rec2 rec3 (s.sl 1) (s.sl 2) (s.sl 3) (s.sl 4) (s.sl 5) (s.sl 6) s.m s.fc) := by
  rw [show xey = .seq x1kn xne from by kernel_rfl, seq_r]; rw [x1l7 call hs u rec2 rec3]; kernel_rfl
theorem xyb (call : FCall) (hs : FHs) (u : Nat) (rec2 : AV → AV → AV → AV → AV → Mem → Nat → Option (AV × Mem)) : ∀ n : Nat,
  iter (fun rec => fxK Try.prog pol NN call xey (AV × Mem) (xf hs u) rec (setE 2 (fun s => x1d call hs u rec2 (s.sl 1) (s.sl 2) (s.sl 3) (s.sl 4) (s.sl 5) s.m s.fc) (setE 1 (fun s => x1d call hs u rec2 (s.sl 1) (s.sl 2) (s.sl 3) (s.sl 4) (s.sl 5) s.m s.fc) (setE 0 (fun s => x16 call hs u (s.sl 1) (s.sl 2) (s.sl 3) (s.sl 4) s.m s.fc) eNil))) x9) n = (fun s => x2j call hs u rec2 n (s.sl 1) (s.sl 2) (s.sl 3) (s.sl 4) (s.sl 5) (s.sl 6) s.m s.fc)
  | 0 => rfl
  | n + 1 => by rw [iter_succ, xyb call hs u rec2 n, x1l8 call hs u rec2 (x2j call hs u rec2 n)]; kernel_rfl
theorem x1l9 (call : FCall) (hs : FHs) (u : Nat) (rec2 : AV → AV → AV → AV → AV → Mem → Nat → Option (AV × Mem)) :
  fxK Try.prog pol NN call xnd (AV × Mem) (xf hs u) (fun s => x1d call hs u rec2 (s.sl 1) (s.sl 2) (s.sl 3) (s.sl 4) (s.sl 5) s.m s.fc) (setE 2 (fun s => x1d call hs u rec2 (s.sl 1) (s.sl 2) (s.sl 3) (s.sl 4) (s.sl 5) s.m s.fc) (setE 1 (fun s => x1d call hs u rec2 (s.sl 1) (s.sl 2) (s.sl 3) (s.sl 4) (s.sl 5) s.m s.fc) (setE 0 (fun s => x16 call hs u (s.sl 1) (s.sl 2) (s.sl 3) (s.sl 4) s.m s.fc) eNil))) x9 = (fun s => x2j call hs u rec2 NN (s.sl 1) (s.sl 2) (s.sl 3) (s.sl 4) (s.sl 5) (s.sl 6) s.m s.fc) := by
  rw [show xnd = .loop xey from by kernel_rfl, loop_r, xyb call hs u rec2 NN]
theorem x1la (call : FCall) (hs : FHs) (u : Nat) (rec2 : AV → AV → AV → AV → AV → Mem → Nat → Option (AV × Mem)) :
  fxK Try.prog pol NN call xnc (AV × Mem) (xf hs u) (fun s => x1d call hs u rec2 (s.sl 1) (s.sl 2) (s.sl 3) (s.sl 4) (s.sl 5) s.m s.fc) (setE 1 (fun s => x1d call hs u rec2 (s.sl 1) (s.sl 2) (s.sl 3) (s.sl 4) (s.sl 5) s.m s.fc) (setE 0 (fun s => x16 call hs u (s.sl 1) (s.sl 2) (s.sl 3) (s.sl 4) s.m s.fc) eNil)) x9 = (fun s => x2j call hs u rec2 NN (s.sl 1) (s.sl 2) (s.sl 3) (s.sl 4) (s.sl 5) (s.sl 6) s.m s.fc) := by
  rw [show xnc = .block 2 xnd from by kernel_rfl, block_r, x1l9 call hs u rec2]
theorem x1lb (call : FCall) (hs : FHs) (u : Nat) (rec2 : AV → AV → AV → AV → AV → Mem → Nat → Option (AV × Mem)) :
  fxK Try.prog pol NN call xnb (AV × Mem) (xf hs u) (fun s => x1d call hs u rec2 (s.sl 1) (s.sl 2) (s.sl 3) (s.sl 4) (s.sl 5) s.m s.fc) (setE 1 (fun s => x1d call hs u rec2 (s.sl 1) (s.sl 2) (s.sl 3) (s.sl 4) (s.sl 5) s.m s.fc) (setE 0 (fun s => x16 call hs u (s.sl 1) (s.sl 2) (s.sl 3) (s.sl 4) s.m s.fc) eNil)) x9 = (fun s => xbm call hs u rec2 (s.sl 1) (s.sl 2) (s.sl 3) (s.sl 4) (s.sl 5) s.m s.fc) := by
  rw [show xnb = .seq x1km xnc from by kernel_rfl, seq_r]; rw [x1la call hs u rec2]; kernel_rfl
theorem x1lc (call : FCall) (hs : FHs) (u : Nat) (rec2 : AV → AV → AV → AV → AV → Mem → Nat → Option (AV × Mem)) :
  fxK Try.prog pol NN call xna (AV × Mem) (xf hs u) (fun s => x1d call hs u rec2 (s.sl 1) (s.sl 2) (s.sl 3) (s.sl 4) (s.sl 5) s.m s.fc) (setE 0 (fun s => x16 call hs u (s.sl 1) (s.sl 2) (s.sl 3) (s.sl 4) s.m s.fc) eNil) x9 = (fun s => xbm call hs u rec2 (s.sl 1) (s.sl 2) (s.sl 3) (s.sl 4) (s.sl 5) s.m s.fc) := by
  rw [show xna = .block 1 xnb from by kernel_rfl, block_r, x1lb call hs u rec2]
theorem x1ld (call : FCall) (hs : FHs) (u : Nat) (rec2 : AV → AV → AV → AV → AV → Mem → Nat → Option (AV × Mem)) :
  fxK Try.prog pol NN call xn9 (AV × Mem) (xf hs u) (fun s => rec2 (s.sl 1) (s.sl 2) (s.sl 3) (s.sl 4) (s.sl 5) s.m s.fc) (setE 0 (fun s => x16 call hs u (s.sl 1) (s.sl 2) (s.sl 3) (s.sl 4) s.m s.fc) eNil) x9 = (fun s => xbm call hs u rec2 (s.sl 1) (s.sl 2) (s.sl 3) (s.sl 4) (s.sl 5) s.m s.fc) := by
  rw [show xn9 = .seq xna xy6 from by kernel_rfl, seq_r, x1l4 call hs u rec2, x1lc call hs u rec2]
theorem x1le (call : FCall) (hs : FHs) (u : Nat) (rec2 : AV → AV → AV → AV → AV → Mem → Nat → Option (AV × Mem)) :
  fxK Try.prog pol NN call xex (AV × Mem) (xf hs u) (fun s => rec2 (s.sl 1) (s.sl 2) (s.sl 3) (s.sl 4) (s.sl 5) s.m s.fc) (setE 0 (fun s => x16 call hs u (s.sl 1) (s.sl 2) (s.sl 3) (s.sl 4) s.m s.fc) eNil) x9 = (fun s => xcl call hs u rec2 (s.sl 1) (s.sl 2) (s.sl 3) (s.sl 4) (s.sl 5) s.m s.fc) := by
  rw [show xex = .seq x1kl xn9 from by kernel_rfl, seq_r]; rw [x1ld call hs u rec2]; kernel_rfl
theorem xyc (call : FCall) (hs : FHs) (u : Nat) : ∀ n : Nat,
  iter (fun rec => fxK Try.prog pol NN call xex (AV × Mem) (xf hs u) rec (setE 0 (fun s => x16 call hs u (s.sl 1) (s.sl 2) (s.sl 3) (s.sl 4) s.m s.fc) eNil) x9) n = (fun s => x4h call hs u n (s.sl 1) (s.sl 2) (s.sl 3) (s.sl 4) (s.sl 5) s.m s.fc)
  | 0 => rfl
  | n + 1 => by rw [iter_succ, xyc call hs u n, x1le call hs u (x4h call hs u n)]; kernel_rfl
theorem x1lf (call : FCall) (hs : FHs) (u : Nat) :
  fxK Try.prog pol NN call xn8 (AV × Mem) (xf hs u) (fun s => x16 call hs u (s.sl 1) (s.sl 2) (s.sl 3) (s.sl 4) s.m s.fc) (setE 0 (fun s => x16 call hs u (s.sl 1) (s.sl 2) (s.sl 3) (s.sl 4) s.m s.fc) eNil) x9 = (fun s => x4h call hs u NN (s.sl 1) (s.sl 2) (s.sl 3) (s.sl 4) (s.sl 5) s.m s.fc) := by
  rw [show xn8 = .loop xex from by kernel_rfl, loop_r, xyc call hs u NN]
theorem x1lg (call : FCall) (hs : FHs) (u : Nat) :
  fxK Try.prog pol NN call xn7 (AV × Mem) (xf hs u) (fun s => x16 call hs u (s.sl 1) (s.sl 2) (s.sl 3) (s.sl 4) s.m s.fc) eNil x9 = (fun s => x4h call hs u NN (s.sl 1) (s.sl 2) (s.sl 3) (s.sl 4) (s.sl 5) s.m s.fc) := by
  rw [show xn7 = .block 0 xn8 from by kernel_rfl, block_r, x1lf call hs u]
theorem x1lh (call : FCall) (hs : FHs) (u : Nat) :
  fxK Try.prog pol NN call xmw (AV × Mem) (xf hs u) (fun s => x16 call hs u (s.sl 1) (s.sl 2) (s.sl 3) (s.sl 4) s.m s.fc) eNil x9 = (fun s => xcm call hs u (s.sl 1) (s.sl 2) (s.sl 3) (s.sl 4) s.m s.fc) := by
  rw [show xmw = .seq x1kk xn7 from by kernel_rfl, seq_r]; rw [x1lg call hs u]; kernel_rfl
theorem x1li (call : FCall) (hs : FHs) (u : Nat) :
  fxK Try.prog pol NN call xmv (AV × Mem) (xf hs u) x9 eNil x9 = (fun s => xcm call hs u (s.sl 1) (s.sl 2) (s.sl 3) (s.sl 4) s.m s.fc) := by
  rw [show xmv = .seq xmw xmx from by kernel_rfl, seq_r, x1l3 call hs u, x1lh call hs u]
theorem x1lj (call : FCall) (hs : FHs) (u : Nat) :
  fxK Try.prog pol NN call xmu (AV × Mem) (xf hs u) x9 eNil x9 = (fun s => xfj call hs u (s.sl 0) s.m s.fc) := by
  rw [show xmu = .seq x1kd xy0 from by kernel_rfl, seq_r]; rw [show xy0 = .seq x1ke xy1 from by kernel_rfl, seq_r]; rw [show xy1 = .seq x1kf xmv from by kernel_rfl, seq_r]; rw [x1li call hs u]; kernel_rfl
theorem x1lk (call : FCall) (hs : FHs) (t0 : AV) (m : Mem) : fxBody Try.prog pol NN call hs x6 [t0] m = x8l call hs [t0] m := by
  rw [fxBody_at (fn := Try.f31) (body := xmu) (nt := 119) (rs := [.cell 2 x3m]) (by kernel_rfl) (by kernel_rfl) (by kernel_rfl) (by kernel_rfl) (by kernel_rfl) (by kernel_rfl)]
  exact (congrFun (x1lj call hs m.next) _).trans (by kernel_rfl)
theorem x140 (call : FCall) (hs : FHs) (args : List AV) (m : Mem) (r : AV × Mem) (h : x8l call hs args m = some r) : fxBody Try.prog pol NN call hs x6 args m = some r := by
  unfold x8l at h
  split at h
  · rw [x1lk]; exact h
  · cases h

/- swath/unwrap.NetBetween -/
abbrev x1ll (hs : FHs) (u : Nat) : FCtx := { f := x7b, u := u, nt := 66, hs := hs }
noncomputable abbrev xyd : Fs → Option (AV × Mem) := fxRes Try.prog [.cell 6 xc3, .tmp 7]
noncomputable def xye : Code := nav (bodyOf x7b) []
theorem x1lm (call : FCall) (hs : FHs) (u : Nat) :
  fxK Try.prog pol NN call xye (AV × Mem) (x1ll hs u) xyd eNil xyd = (fun s => xqn call hs u (s.sl 0) (s.sl 1) (s.sl 2) s.m s.fc) := by
  kernel_rfl
theorem x1ln (call : FCall) (hs : FHs) (t0 t1 t2 : AV) (m : Mem) : fxBody Try.prog pol NN call hs x7b [t0, t1, t2] m = xay call hs [t0, t1, t2] m := by
  rw [fxBody_at (fn := Try.f32) (body := xye) (nt := 66) (rs := [.cell 6 xc3, .tmp 7]) (by kernel_rfl) (by kernel_rfl) (by kernel_rfl) (by kernel_rfl) (by kernel_rfl) (by kernel_rfl)]
  exact (congrFun (x1lm call hs m.next) _).trans (by kernel_rfl)
theorem x141 (call : FCall) (hs : FHs) (args : List AV) (m : Mem) (r : AV × Mem) (h : xay call hs args m = some r) : fxBody Try.prog pol NN call hs x7b args m = some r := by
  unfold xay at h
  split at h
  · rw [x1ln]; exact h
  · cases h

/- swath/swathbase.Ints -/
abbrev x6w (hs : FHs) (u : Nat) : FCtx := { f := x1h, u := u, nt := 26, hs := hs }
noncomputable abbrev x3z : Fs → Option (AV × Mem) := fxRes Try.prog [.tmp 4]
noncomputable def xnf : Code := nav (bodyOf x1h) []
noncomputable def x1lo : Code := nav (bodyOf x1h) [false]
noncomputable def xyf : Code := nav (bodyOf x1h) [true]
noncomputable def x1lp : Code := nav (bodyOf x1h) [true, false]
noncomputable def xng : Code := nav (bodyOf x1h) [true, true]
noncomputable def xnh : Code := nav (bodyOf x1h) [true, true, false]
noncomputable def xyg : Code := nav (bodyOf x1h) [true, true, true]
noncomputable def x1lq : Code := nav (bodyOf x1h) [true, true, false, false]
noncomputable def xni : Code := nav (bodyOf x1h) [true, true, false, true]
noncomputable def xnj : Code := nav (bodyOf x1h) [true, true, false, true, false]
noncomputable def xnk : Code := nav (bodyOf x1h) [true, true, false, true, false, false]
theorem x1lr (call : FCall) (hs : FHs) (u : Nat) :
  fxK Try.prog pol NN call xyg (AV × Mem) (x6w hs u) x3z eNil x3z = (fun s => x5e call hs u s.m s.fc) := by
  kernel_rfl
theorem x1ls (call : FCall) (hs : FHs) (u : Nat) (rec0 : AV → AV → AV → Mem → Nat → Option (AV × Mem)) :
  fxK Try.prog pol NN call xnk (AV × Mem) (x6w hs u) (fun s => rec0 (s.sl 0) (s.sl 1) (s.sl 5) s.m s.fc) (setE 0 (fun s => x5e call hs u s.m s.fc) eNil) x3z = (fun s => xcn call hs u rec0 (s.sl 0) (s.sl 1) (s.sl 5) s.m s.fc) := by
  kernel_rfl
theorem xyh (call : FCall) (hs : FHs) (u : Nat) : ∀ n : Nat,
  iter (fun rec => fxK Try.prog pol NN call xnk (AV × Mem) (x6w hs u) rec (setE 0 (fun s => x5e call hs u s.m s.fc) eNil) x3z) n = (fun s => x5f call hs u n (s.sl 0) (s.sl 1) (s.sl 5) s.m s.fc)
  | 0 => rfl
  | n + 1 => by rw [iter_succ, xyh call hs u n, x1ls call hs u (x5f call hs u n)]; kernel_rfl
theorem x1lt (call : FCall) (hs : FHs) (u : Nat) :
  fxK Try.prog pol NN call xnj (AV × Mem) (x6w hs u) (fun s => x5e call hs u s.m s.fc) (setE 0 (fun s => x5e call hs u s.m s.fc) eNil) x3z = (fun s => x5f call hs u NN (s.sl 0) (s.sl 1) (s.sl 5) s.m s.fc) := by
  rw [show xnj = .loop xnk from by kernel_rfl, loop_r, xyh call hs u NN]
theorem x1lu (call : FCall) (hs : FHs) (u : Nat) :
  fxK Try.prog pol NN call xni (AV × Mem) (x6w hs u) (fun s => x5e call hs u s.m s.fc) eNil x3z = (fun s => x5f call hs u NN (s.sl 0) (s.sl 1) (s.sl 5) s.m s.fc) := by
  rw [show xni = .block 0 xnj from by kernel_rfl, block_r, x1lt call hs u]
theorem x1lv (call : FCall) (hs : FHs) (u : Nat) :
  fxK Try.prog pol NN call xnh (AV × Mem) (x6w hs u) (fun s => x5e call hs u s.m s.fc) eNil x3z = (fun s => xco call hs u (s.sl 0) (s.sl 1) s.m s.fc) := by
  rw [show xnh = .seq x1lq xni from by kernel_rfl, seq_r]; rw [x1lu call hs u]; kernel_rfl
theorem x1lw (call : FCall) (hs : FHs) (u : Nat) :
  fxK Try.prog pol NN call xng (AV × Mem) (x6w hs u) x3z eNil x3z = (fun s => xco call hs u (s.sl 0) (s.sl 1) s.m s.fc) := by
  rw [show xng = .seq xnh xyg from by kernel_rfl, seq_r, x1lr call hs u, x1lv call hs u]
theorem x1lx (call : FCall) (hs : FHs) (u : Nat) :
  fxK Try.prog pol NN call xnf (AV × Mem) (x6w hs u) x3z eNil x3z = (fun s => xfk call hs u (s.sl 0) (s.sl 1) s.m s.fc) := by
  rw [show xnf = .seq x1lo xyf from by kernel_rfl, seq_r]; rw [show xyf = .seq x1lp xng from by kernel_rfl, seq_r]; rw [x1lw call hs u]; kernel_rfl
theorem x1ly (call : FCall) (hs : FHs) (t0 t1 : AV) (m : Mem) : fxBody Try.prog pol NN call hs x1h [t0, t1] m = x8m call hs [t0, t1] m := by
  rw [fxBody_at (fn := Try.f34) (body := xnf) (nt := 26) (rs := [.tmp 4]) (by kernel_rfl) (by kernel_rfl) (by kernel_rfl) (by kernel_rfl) (by kernel_rfl) (by kernel_rfl)]
  exact (congrFun (x1lx call hs m.next) _).trans (by kernel_rfl)
theorem x142 (call : FCall) (hs : FHs) (args : List AV) (m : Mem) (r : AV × Mem) (h : x8m call hs args m = some r) : fxBody Try.prog pol NN call hs x1h args m = some r := by
  unfold x8m at h
  split at h
  · rw [x1ly]; exact h
  · cases h

/- swath/swathbase.Within -/
abbrev x1lz (hs : FHs) (u : Nat) : FCtx := { f := x1i, u := u, nt := 15, hs := hs }
noncomputable abbrev xyi : Fs → Option (AV × Mem) := fxRes Try.prog [.tmp 6]
noncomputable def xyj : Code := nav (bodyOf x1i) []
theorem x1m0 (call : FCall) (hs : FHs) (u : Nat) :
  fxK Try.prog pol NN call xyj (AV × Mem) (x1lz hs u) xyi eNil xyi = (fun s => xfl call hs u (s.sl 0) (s.sl 1) (s.sl 2) s.m s.fc) := by
  kernel_rfl
theorem x1m1 (call : FCall) (hs : FHs) (t0 t1 t2 : AV) (m : Mem) : fxBody Try.prog pol NN call hs x1i [t0, t1, t2] m = x8n call hs [t0, t1, t2] m := by
  rw [fxBody_at (fn := Try.f36) (body := xyj) (nt := 15) (rs := [.tmp 6]) (by kernel_rfl) (by kernel_rfl) (by kernel_rfl) (by kernel_rfl) (by kernel_rfl) (by kernel_rfl)]
  exact (congrFun (x1m0 call hs m.next) _).trans (by kernel_rfl)
theorem x143 (call : FCall) (hs : FHs) (args : List AV) (m : Mem) (r : AV × Mem) (h : x8n call hs args m = some r) : fxBody Try.prog pol NN call hs x1i args m = some r := by
  unfold x8n at h
  split at h
  · rw [x1m1]; exact h
  · cases h

/- swath/unwrap.CheckTurns -/
abbrev x1m2 (hs : FHs) (u : Nat) : FCtx := { f := x66, u := u, nt := 29, hs := hs }
noncomputable abbrev xyk : Fs → Option (AV × Mem) := fxRes Try.prog [.tmp 4, .tmp 5]
noncomputable def xyl : Code := nav (bodyOf x66) []
theorem x1m3 (call : FCall) (hs : FHs) (u : Nat) :
  fxK Try.prog pol NN call xyl (AV × Mem) (x1m2 hs u) xyk eNil xyk = (fun s => xfm call hs u (s.sl 0) (s.sl 1) s.m s.fc) := by
  kernel_rfl
theorem x1m4 (call : FCall) (hs : FHs) (t0 t1 : AV) (m : Mem) : fxBody Try.prog pol NN call hs x66 [t0, t1] m = x8o call hs [t0, t1] m := by
  rw [fxBody_at (fn := Try.f39) (body := xyl) (nt := 29) (rs := [.tmp 4, .tmp 5]) (by kernel_rfl) (by kernel_rfl) (by kernel_rfl) (by kernel_rfl) (by kernel_rfl) (by kernel_rfl)]
  exact (congrFun (x1m3 call hs m.next) _).trans (by kernel_rfl)
theorem x144 (call : FCall) (hs : FHs) (args : List AV) (m : Mem) (r : AV × Mem) (h : x8o call hs args m = some r) : fxBody Try.prog pol NN call hs x66 args m = some r := by
  unfold x8o at h
  split at h
  · rw [x1m4]; exact h
  · cases h

/- swath/swathbase.CopyInts -/
abbrev x1m5 (hs : FHs) (u : Nat) : FCtx := { f := x3c, u := u, nt := 6, hs := hs }
noncomputable abbrev xym : Fs → Option (AV × Mem) := fxRes Try.prog [.tmp 2]
noncomputable def xyn : Code := nav (bodyOf x3c) []
theorem x1m6 (call : FCall) (hs : FHs) (u : Nat) :
  fxK Try.prog pol NN call xyn (AV × Mem) (x1m5 hs u) xym eNil xym = (fun s => xcp call hs u (s.sl 0) s.m s.fc) := by
  kernel_rfl
theorem x1m7 (call : FCall) (hs : FHs) (t0 : AV) (m : Mem) : fxBody Try.prog pol NN call hs x3c [t0] m = x7c call hs [t0] m := by
  rw [fxBody_at (fn := Try.f40) (body := xyn) (nt := 6) (rs := [.tmp 2]) (by kernel_rfl) (by kernel_rfl) (by kernel_rfl) (by kernel_rfl) (by kernel_rfl) (by kernel_rfl)]
  exact (congrFun (x1m6 call hs m.next) _).trans (by kernel_rfl)
theorem x145 (call : FCall) (hs : FHs) (args : List AV) (m : Mem) (r : AV × Mem) (h : x7c call hs args m = some r) : fxBody Try.prog pol NN call hs x3c args m = some r := by
  unfold x7c at h
  split at h
  · rw [x1m7]; exact h
  · cases h

/- swath/unwrap.Unwrap -/
abbrev x40 (hs : FHs) (u : Nat) : FCtx := { f := xm, u := u, nt := 72, hs := hs }
noncomputable abbrev x2s : Fs → Option (AV × Mem) := fxRes Try.prog [.cell 2 xby, .tmp 3, .tmp 4, .tmp 5]
noncomputable def xnl : Code := nav (bodyOf xm) []
noncomputable def x1m8 : Code := nav (bodyOf xm) [false]
noncomputable def xyo : Code := nav (bodyOf xm) [true]
noncomputable def x1m9 : Code := nav (bodyOf xm) [true, false]
noncomputable def xyp : Code := nav (bodyOf xm) [true, true]
noncomputable def x1ma : Code := nav (bodyOf xm) [true, true, false]
noncomputable def xyq : Code := nav (bodyOf xm) [true, true, true]
noncomputable def x1mb : Code := nav (bodyOf xm) [true, true, true, false]
noncomputable def xyr : Code := nav (bodyOf xm) [true, true, true, true]
noncomputable def x1mc : Code := nav (bodyOf xm) [true, true, true, true, false]
noncomputable def xnm : Code := nav (bodyOf xm) [true, true, true, true, true]
noncomputable def xnn : Code := nav (bodyOf xm) [true, true, true, true, true, false]
noncomputable def xys : Code := nav (bodyOf xm) [true, true, true, true, true, true]
noncomputable def x1md : Code := nav (bodyOf xm) [true, true, true, true, true, false, false]
noncomputable def xno : Code := nav (bodyOf xm) [true, true, true, true, true, false, true]
noncomputable def xnp : Code := nav (bodyOf xm) [true, true, true, true, true, false, true, false]
noncomputable def xez : Code := nav (bodyOf xm) [true, true, true, true, true, false, true, false, false]
noncomputable def x1me : Code := nav (bodyOf xm) [true, true, true, true, true, false, true, false, false, false]
noncomputable def xyt : Code := nav (bodyOf xm) [true, true, true, true, true, false, true, false, false, true]
noncomputable def x1mf : Code := nav (bodyOf xm) [true, true, true, true, true, false, true, false, false, true, false]
noncomputable def xnq : Code := nav (bodyOf xm) [true, true, true, true, true, false, true, false, false, true, true]
noncomputable def xyu : Code := nav (bodyOf xm) [true, true, true, true, true, false, true, false, false, true, true, false]
noncomputable def xyv : Code := nav (bodyOf xm) [true, true, true, true, true, false, true, false, false, true, true, true]
theorem x1mg (call : FCall) (hs : FHs) (u : Nat) :
  fxK Try.prog pol NN call xys (AV × Mem) (x40 hs u) x2s eNil x2s = (fun s => x3g call hs u (s.sl 2) (s.sl 7) (s.sl 8) (s.sl 9) s.m s.fc) := by
  kernel_rfl
theorem x1mh (call : FCall) (hs : FHs) (u : Nat) (rec0 : AV → AV → AV → AV → AV → AV → AV → Mem → Nat → Option (AV × Mem)) :
  fxK Try.prog pol NN call xyv (AV × Mem) (x40 hs u) (fun s => rec0 (s.sl 2) (s.sl 7) (s.sl 8) (s.sl 9) (s.sl 37) (s.sl 38) (s.sl 39) s.m s.fc) (setE 0 (fun s => x3g call hs u (s.sl 2) (s.sl 7) (s.sl 8) (s.sl 9) s.m s.fc) eNil) x2s = (fun s => xcq call hs u rec0 (s.sl 2) (s.sl 7) (s.sl 8) (s.sl 9) (s.sl 37) (s.sl 38) (s.sl 39) s.m s.fc) := by
  kernel_rfl
theorem x1mi (call : FCall) (hs : FHs) (u : Nat) (rec0 : AV → AV → AV → AV → AV → AV → AV → Mem → Nat → Option (AV × Mem)) :
  fxK Try.prog pol NN call xyu (AV × Mem) (x40 hs u) (fun s => xcq call hs u rec0 (s.sl 2) (s.sl 7) (s.sl 8) (s.sl 9) (s.sl 37) (s.sl 38) (s.sl 39) s.m s.fc) (setE 0 (fun s => x3g call hs u (s.sl 2) (s.sl 7) (s.sl 8) (s.sl 9) s.m s.fc) eNil) x2s = (fun s => xfn call hs u rec0 (s.sl 2) (s.sl 7) (s.sl 8) (s.sl 9) (s.sl 37) (s.sl 38) (s.sl 39) s.m s.fc) := by
  kernel_rfl
theorem x1mj (call : FCall) (hs : FHs) (u : Nat) (rec0 : AV → AV → AV → AV → AV → AV → AV → Mem → Nat → Option (AV × Mem)) :
  fxK Try.prog pol NN call xnq (AV × Mem) (x40 hs u) (fun s => rec0 (s.sl 2) (s.sl 7) (s.sl 8) (s.sl 9) (s.sl 37) (s.sl 38) (s.sl 39) s.m s.fc) (setE 0 (fun s => x3g call hs u (s.sl 2) (s.sl 7) (s.sl 8) (s.sl 9) s.m s.fc) eNil) x2s = (fun s => xfn call hs u rec0 (s.sl 2) (s.sl 7) (s.sl 8) (s.sl 9) (s.sl 37) (s.sl 38) (s.sl 39) s.m s.fc) := by
  rw [show xnq = .seq xyu xyv from by kernel_rfl, seq_r, x1mh call hs u rec0, x1mi call hs u rec0]
theorem x1mk (call : FCall) (hs : FHs) (u : Nat) (rec0 : AV → AV → AV → AV → AV → AV → AV → Mem → Nat → Option (AV × Mem)) :
  fxK Try.prog pol NN call xez (AV × Mem) (x40 hs u) (fun s => rec0 (s.sl 2) (s.sl 7) (s.sl 8) (s.sl 9) (s.sl 37) (s.sl 38) (s.sl 39) s.m s.fc) (setE 0 (fun s => x3g call hs u (s.sl 2) (s.sl 7) (s.sl 8) (s.sl 9) s.m s.fc) eNil) x2s = (fun s => xqo call hs u rec0 (s.sl 2) (s.sl 7) (s.sl 8) (s.sl 9) (s.sl 37) (s.sl 38) (s.sl 39) s.m s.fc) := by
  rw [show xez = .seq x1me xyt from by kernel_rfl, seq_r]; rw [show xyt = .seq x1mf xnq from by kernel_rfl, seq_r]; rw [x1mj call hs u rec0]; kernel_rfl
theorem xyw (call : FCall) (hs : FHs) (u : Nat) : ∀ n : Nat,
  iter (fun rec => fxK Try.prog pol NN call xez (AV × Mem) (x40 hs u) rec (setE 0 (fun s => x3g call hs u (s.sl 2) (s.sl 7) (s.sl 8) (s.sl 9) s.m s.fc) eNil) x2s) n = (fun s => x9v call hs u n (s.sl 2) (s.sl 7) (s.sl 8) (s.sl 9) (s.sl 37) (s.sl 38) (s.sl 39) s.m s.fc)
  | 0 => rfl
  | n + 1 => by rw [iter_succ, xyw call hs u n, x1mk call hs u (x9v call hs u n)]; kernel_rfl
theorem x1ml (call : FCall) (hs : FHs) (u : Nat) :
  fxK Try.prog pol NN call xnp (AV × Mem) (x40 hs u) (fun s => x3g call hs u (s.sl 2) (s.sl 7) (s.sl 8) (s.sl 9) s.m s.fc) (setE 0 (fun s => x3g call hs u (s.sl 2) (s.sl 7) (s.sl 8) (s.sl 9) s.m s.fc) eNil) x2s = (fun s => x9v call hs u NN (s.sl 2) (s.sl 7) (s.sl 8) (s.sl 9) (s.sl 37) (s.sl 38) (s.sl 39) s.m s.fc) := by
  rw [show xnp = .loop xez from by kernel_rfl, loop_r, xyw call hs u NN]
theorem x1mm (call : FCall) (hs : FHs) (u : Nat) :
  fxK Try.prog pol NN call xno (AV × Mem) (x40 hs u) (fun s => x3g call hs u (s.sl 2) (s.sl 7) (s.sl 8) (s.sl 9) s.m s.fc) eNil x2s = (fun s => x9v call hs u NN (s.sl 2) (s.sl 7) (s.sl 8) (s.sl 9) (s.sl 37) (s.sl 38) (s.sl 39) s.m s.fc) := by
  rw [show xno = .block 0 xnp from by kernel_rfl, block_r, x1ml call hs u]
theorem x1mn (call : FCall) (hs : FHs) (u : Nat) :
  fxK Try.prog pol NN call xnn (AV × Mem) (x40 hs u) (fun s => x3g call hs u (s.sl 2) (s.sl 7) (s.sl 8) (s.sl 9) s.m s.fc) eNil x2s = (fun s => xfo call hs u (s.sl 2) (s.sl 7) (s.sl 8) (s.sl 9) s.m s.fc) := by
  rw [show xnn = .seq x1md xno from by kernel_rfl, seq_r]; rw [x1mm call hs u]; kernel_rfl
theorem x1mo (call : FCall) (hs : FHs) (u : Nat) :
  fxK Try.prog pol NN call xnm (AV × Mem) (x40 hs u) x2s eNil x2s = (fun s => xfo call hs u (s.sl 2) (s.sl 7) (s.sl 8) (s.sl 9) s.m s.fc) := by
  rw [show xnm = .seq xnn xys from by kernel_rfl, seq_r, x1mg call hs u, x1mn call hs u]
theorem x1mp (call : FCall) (hs : FHs) (u : Nat) :
  fxK Try.prog pol NN call xnl (AV × Mem) (x40 hs u) x2s eNil x2s = (fun s => xqp call hs u (s.sl 0) s.m s.fc) := by
  rw [show xnl = .seq x1m8 xyo from by kernel_rfl, seq_r]; rw [show xyo = .seq x1m9 xyp from by kernel_rfl, seq_r]; rw [show xyp = .seq x1ma xyq from by kernel_rfl, seq_r]; rw [show xyq = .seq x1mb xyr from by kernel_rfl, seq_r]; rw [show xyr = .seq x1mc xnm from by kernel_rfl, seq_r]; rw [x1mo call hs u]; kernel_rfl
theorem x1mq (call : FCall) (hs : FHs) (t0 : AV) (m : Mem) : fxBody Try.prog pol NN call hs xm [t0] m = xaz call hs [t0] m := by
  rw [fxBody_at (fn := Try.f42) (body := xnl) (nt := 72) (rs := [.cell 2 xby, .tmp 3, .tmp 4, .tmp 5]) (by kernel_rfl) (by kernel_rfl) (by kernel_rfl) (by kernel_rfl) (by kernel_rfl) (by kernel_rfl)]
  exact (congrFun (x1mp call hs m.next) _).trans (by kernel_rfl)
theorem x146 (call : FCall) (hs : FHs) (args : List AV) (m : Mem) (r : AV × Mem) (h : xaz call hs args m = some r) : fxBody Try.prog pol NN call hs xm args m = some r := by
  unfold xaz at h
  split at h
  · rw [x1mq]; exact h
  · cases h

/- swath/unwrap.Along -/
abbrev x2f (hs : FHs) (u : Nat) : FCtx := { f := xd, u := u, nt := 101, hs := hs }
noncomputable abbrev x1y : Fs → Option (AV × Mem) := fxRes Try.prog [.tmp 4, .tmp 5]
noncomputable def xnr : Code := nav (bodyOf xd) []
noncomputable def x1mr : Code := nav (bodyOf xd) [false]
noncomputable def xyx : Code := nav (bodyOf xd) [true]
noncomputable def x1ms : Code := nav (bodyOf xd) [true, false]
noncomputable def xyy : Code := nav (bodyOf xd) [true, true]
noncomputable def x1mt : Code := nav (bodyOf xd) [true, true, false]
noncomputable def xyz : Code := nav (bodyOf xd) [true, true, true]
noncomputable def x1mu : Code := nav (bodyOf xd) [true, true, true, false]
noncomputable def xns : Code := nav (bodyOf xd) [true, true, true, true]
noncomputable def xnt : Code := nav (bodyOf xd) [true, true, true, true, false]
noncomputable def xz0 : Code := nav (bodyOf xd) [true, true, true, true, true]
noncomputable def x1mv : Code := nav (bodyOf xd) [true, true, true, true, false, false]
noncomputable def xnu : Code := nav (bodyOf xd) [true, true, true, true, false, true]
noncomputable def xnv : Code := nav (bodyOf xd) [true, true, true, true, false, true, false]
noncomputable def xf0 : Code := nav (bodyOf xd) [true, true, true, true, false, true, false, false]
noncomputable def x1mw : Code := nav (bodyOf xd) [true, true, true, true, false, true, false, false, false]
noncomputable def xz1 : Code := nav (bodyOf xd) [true, true, true, true, false, true, false, false, true]
noncomputable def x1mx : Code := nav (bodyOf xd) [true, true, true, true, false, true, false, false, true, false]
noncomputable def xnw : Code := nav (bodyOf xd) [true, true, true, true, false, true, false, false, true, true]
noncomputable def xnx : Code := nav (bodyOf xd) [true, true, true, true, false, true, false, false, true, true, false]
noncomputable def xz2 : Code := nav (bodyOf xd) [true, true, true, true, false, true, false, false, true, true, true]
noncomputable def xny : Code := nav (bodyOf xd) [true, true, true, true, false, true, false, false, true, true, false, false]
noncomputable def x1my : Code := nav (bodyOf xd) [true, true, true, true, false, true, false, false, true, true, false, false, false]
noncomputable def xz3 : Code := nav (bodyOf xd) [true, true, true, true, false, true, false, false, true, true, false, false, true]
noncomputable def x1mz : Code := nav (bodyOf xd) [true, true, true, true, false, true, false, false, true, true, false, false, true, false]
noncomputable def xz4 : Code := nav (bodyOf xd) [true, true, true, true, false, true, false, false, true, true, false, false, true, true]
noncomputable def x1n0 : Code := nav (bodyOf xd) [true, true, true, true, false, true, false, false, true, true, false, false, true, true, false]
noncomputable def xnz : Code := nav (bodyOf xd) [true, true, true, true, false, true, false, false, true, true, false, false, true, true, true]
noncomputable def xz5 : Code := nav (bodyOf xd) [true, true, true, true, false, true, false, false, true, true, false, false, true, true, true, false]
noncomputable def xz6 : Code := nav (bodyOf xd) [true, true, true, true, false, true, false, false, true, true, false, false, true, true, true, true]
theorem x1n1 (call : FCall) (hs : FHs) (u : Nat) :
  fxK Try.prog pol NN call xz0 (AV × Mem) (x2f hs u) x1y eNil x1y = (fun s => x25 call hs u (s.sl 7) s.m s.fc) := by
  kernel_rfl
theorem x1n2 (call : FCall) (hs : FHs) (u : Nat) (rec0 : AV → AV → AV → AV → AV → AV → Mem → Nat → Option (AV × Mem)) :
  fxK Try.prog pol NN call xz2 (AV × Mem) (x2f hs u) (fun s => rec0 (s.sl 1) (s.sl 2) (s.sl 7) (s.sl 21) (s.sl 22) (s.sl 23) s.m s.fc) (setE 0 (fun s => x25 call hs u (s.sl 7) s.m s.fc) eNil) x1y = (fun s => x2k call hs u rec0 (s.sl 1) (s.sl 2) (s.sl 7) (s.sl 21) (s.sl 22) (s.sl 23) s.m s.fc) := by
  kernel_rfl
theorem x1n3 (call : FCall) (hs : FHs) (u : Nat) (rec0 : AV → AV → AV → AV → AV → AV → Mem → Nat → Option (AV × Mem)) :
  fxK Try.prog pol NN call xz6 (AV × Mem) (x2f hs u) (fun s => x2k call hs u rec0 (s.sl 1) (s.sl 2) (s.sl 7) (s.sl 21) (s.sl 22) (s.sl 23) s.m s.fc) (setE 1 (fun s => x2k call hs u rec0 (s.sl 1) (s.sl 2) (s.sl 7) (s.sl 21) (s.sl 22) (s.sl 23) s.m s.fc) (setE 0 (fun s => x25 call hs u (s.sl 7) s.m s.fc) eNil)) x1y = (fun s => xbn call hs u rec0 (s.sl 1) (s.sl 2) (s.sl 7) (s.sl 8) (s.sl 10) (s.sl 11) (s.sl 12) (s.sl 21) (s.sl 22) (s.sl 23) s.m s.fc) := by
  kernel_rfl
theorem x1n4 (call : FCall) (hs : FHs) (u : Nat) (rec0 : AV → AV → AV → AV → AV → AV → Mem → Nat → Option (AV × Mem)) :
  fxK Try.prog pol NN call xz5 (AV × Mem) (x2f hs u) (fun s => xbn call hs u rec0 (s.sl 1) (s.sl 2) (s.sl 7) (s.sl 8) (s.sl 10) (s.sl 11) (s.sl 12) (s.sl 21) (s.sl 22) (s.sl 23) s.m s.fc) (setE 1 (fun s => x2k call hs u rec0 (s.sl 1) (s.sl 2) (s.sl 7) (s.sl 21) (s.sl 22) (s.sl 23) s.m s.fc) (setE 0 (fun s => x25 call hs u (s.sl 7) s.m s.fc) eNil)) x1y = (fun s => xcr call hs u rec0 (s.sl 1) (s.sl 2) (s.sl 7) (s.sl 8) (s.sl 10) (s.sl 11) (s.sl 12) (s.sl 21) (s.sl 22) (s.sl 23) s.m s.fc) := by
  kernel_rfl
theorem x1n5 (call : FCall) (hs : FHs) (u : Nat) (rec0 : AV → AV → AV → AV → AV → AV → Mem → Nat → Option (AV × Mem)) :
  fxK Try.prog pol NN call xnz (AV × Mem) (x2f hs u) (fun s => x2k call hs u rec0 (s.sl 1) (s.sl 2) (s.sl 7) (s.sl 21) (s.sl 22) (s.sl 23) s.m s.fc) (setE 1 (fun s => x2k call hs u rec0 (s.sl 1) (s.sl 2) (s.sl 7) (s.sl 21) (s.sl 22) (s.sl 23) s.m s.fc) (setE 0 (fun s => x25 call hs u (s.sl 7) s.m s.fc) eNil)) x1y = (fun s => xcr call hs u rec0 (s.sl 1) (s.sl 2) (s.sl 7) (s.sl 8) (s.sl 10) (s.sl 11) (s.sl 12) (s.sl 21) (s.sl 22) (s.sl 23) s.m s.fc) := by
  rw [show xnz = .seq xz5 xz6 from by kernel_rfl, seq_r, x1n3 call hs u rec0, x1n4 call hs u rec0]
theorem x1n6 (call : FCall) (hs : FHs) (u : Nat) (rec0 : AV → AV → AV → AV → AV → AV → Mem → Nat → Option (AV × Mem)) :
  fxK Try.prog pol NN call xny (AV × Mem) (x2f hs u) (fun s => x2k call hs u rec0 (s.sl 1) (s.sl 2) (s.sl 7) (s.sl 21) (s.sl 22) (s.sl 23) s.m s.fc) (setE 1 (fun s => x2k call hs u rec0 (s.sl 1) (s.sl 2) (s.sl 7) (s.sl 21) (s.sl 22) (s.sl 23) s.m s.fc) (setE 0 (fun s => x25 call hs u (s.sl 7) s.m s.fc) eNil)) x1y = (fun s => xbo call hs u rec0 (s.sl 1) (s.sl 2) (s.sl 7) (s.sl 21) (s.sl 22) (s.sl 23) s.m s.fc) := by
  rw [show xny = .seq x1my xz3 from by kernel_rfl, seq_r]; rw [show xz3 = .seq x1mz xz4 from by kernel_rfl, seq_r]; rw [show xz4 = .seq x1n0 xnz from by kernel_rfl, seq_r]; rw [x1n5 call hs u rec0]; kernel_rfl
theorem x1n7 (call : FCall) (hs : FHs) (u : Nat) (rec0 : AV → AV → AV → AV → AV → AV → Mem → Nat → Option (AV × Mem)) :
  fxK Try.prog pol NN call xnx (AV × Mem) (x2f hs u) (fun s => x2k call hs u rec0 (s.sl 1) (s.sl 2) (s.sl 7) (s.sl 21) (s.sl 22) (s.sl 23) s.m s.fc) (setE 0 (fun s => x25 call hs u (s.sl 7) s.m s.fc) eNil) x1y = (fun s => xbo call hs u rec0 (s.sl 1) (s.sl 2) (s.sl 7) (s.sl 21) (s.sl 22) (s.sl 23) s.m s.fc) := by
  rw [show xnx = .block 1 xny from by kernel_rfl, block_r, x1n6 call hs u rec0]
theorem x1n8 (call : FCall) (hs : FHs) (u : Nat) (rec0 : AV → AV → AV → AV → AV → AV → Mem → Nat → Option (AV × Mem)) :
  fxK Try.prog pol NN call xnw (AV × Mem) (x2f hs u) (fun s => rec0 (s.sl 1) (s.sl 2) (s.sl 7) (s.sl 21) (s.sl 22) (s.sl 23) s.m s.fc) (setE 0 (fun s => x25 call hs u (s.sl 7) s.m s.fc) eNil) x1y = (fun s => xbo call hs u rec0 (s.sl 1) (s.sl 2) (s.sl 7) (s.sl 21) (s.sl 22) (s.sl 23) s.m s.fc) := by
  rw [show xnw = .seq xnx xz2 from by kernel_rfl, seq_r, x1n2 call hs u rec0, x1n7 call hs u rec0]
theorem x1n9 (call : FCall) (hs : FHs) (u : Nat) (rec0 : AV → AV → AV → AV → AV → AV → Mem → Nat → Option (AV × Mem)) :
  fxK Try.prog pol NN call xf0 (AV × Mem) (x2f hs u) (fun s => rec0 (s.sl 1) (s.sl 2) (s.sl 7) (s.sl 21) (s.sl 22) (s.sl 23) s.m s.fc) (setE 0 (fun s => x25 call hs u (s.sl 7) s.m s.fc) eNil) x1y = (fun s => xcs call hs u rec0 (s.sl 1) (s.sl 2) (s.sl 7) (s.sl 21) (s.sl 22) (s.sl 23) s.m s.fc) := by
  rw [show xf0 = .seq x1mw xz1 from by kernel_rfl, seq_r]; rw [show xz1 = .seq x1mx xnw from by kernel_rfl, seq_r]; rw [x1n8 call hs u rec0]; kernel_rfl
theorem xz7 (call : FCall) (hs : FHs) (u : Nat) : ∀ n : Nat,
  iter (fun rec => fxK Try.prog pol NN call xf0 (AV × Mem) (x2f hs u) rec (setE 0 (fun s => x25 call hs u (s.sl 7) s.m s.fc) eNil) x1y) n = (fun s => x5g call hs u n (s.sl 1) (s.sl 2) (s.sl 7) (s.sl 21) (s.sl 22) (s.sl 23) s.m s.fc)
  | 0 => rfl
  | n + 1 => by rw [iter_succ, xz7 call hs u n, x1n9 call hs u (x5g call hs u n)]; kernel_rfl
theorem x1na (call : FCall) (hs : FHs) (u : Nat) :
  fxK Try.prog pol NN call xnv (AV × Mem) (x2f hs u) (fun s => x25 call hs u (s.sl 7) s.m s.fc) (setE 0 (fun s => x25 call hs u (s.sl 7) s.m s.fc) eNil) x1y = (fun s => x5g call hs u NN (s.sl 1) (s.sl 2) (s.sl 7) (s.sl 21) (s.sl 22) (s.sl 23) s.m s.fc) := by
  rw [show xnv = .loop xf0 from by kernel_rfl, loop_r, xz7 call hs u NN]
theorem x1nb (call : FCall) (hs : FHs) (u : Nat) :
  fxK Try.prog pol NN call xnu (AV × Mem) (x2f hs u) (fun s => x25 call hs u (s.sl 7) s.m s.fc) eNil x1y = (fun s => x5g call hs u NN (s.sl 1) (s.sl 2) (s.sl 7) (s.sl 21) (s.sl 22) (s.sl 23) s.m s.fc) := by
  rw [show xnu = .block 0 xnv from by kernel_rfl, block_r, x1na call hs u]
theorem x1nc (call : FCall) (hs : FHs) (u : Nat) :
  fxK Try.prog pol NN call xnt (AV × Mem) (x2f hs u) (fun s => x25 call hs u (s.sl 7) s.m s.fc) eNil x1y = (fun s => xct call hs u (s.sl 1) (s.sl 2) (s.sl 7) s.m s.fc) := by
  rw [show xnt = .seq x1mv xnu from by kernel_rfl, seq_r]; rw [x1nb call hs u]; kernel_rfl
theorem x1nd (call : FCall) (hs : FHs) (u : Nat) :
  fxK Try.prog pol NN call xns (AV × Mem) (x2f hs u) x1y eNil x1y = (fun s => xct call hs u (s.sl 1) (s.sl 2) (s.sl 7) s.m s.fc) := by
  rw [show xns = .seq xnt xz0 from by kernel_rfl, seq_r, x1n1 call hs u, x1nc call hs u]
theorem x1ne (call : FCall) (hs : FHs) (u : Nat) :
  fxK Try.prog pol NN call xnr (AV × Mem) (x2f hs u) x1y eNil x1y = (fun s => xbp call hs u (s.sl 0) (s.sl 1) s.m s.fc) := by
  rw [show xnr = .seq x1mr xyx from by kernel_rfl, seq_r]; rw [show xyx = .seq x1ms xyy from by kernel_rfl, seq_r]; rw [show xyy = .seq x1mt xyz from by kernel_rfl, seq_r]; rw [show xyz = .seq x1mu xns from by kernel_rfl, seq_r]; rw [x1nd call hs u]; kernel_rfl
theorem x1nf (call : FCall) (hs : FHs) (t0 t1 : AV) (m : Mem) : fxBody Try.prog pol NN call hs xd [t0, t1] m = x67 call hs [t0, t1] m := by
  rw [fxBody_at (fn := Try.f47) (body := xnr) (nt := 101) (rs := [.tmp 4, .tmp 5]) (by kernel_rfl) (by kernel_rfl) (by kernel_rfl) (by kernel_rfl) (by kernel_rfl) (by kernel_rfl)]
  exact (congrFun (x1ne call hs m.next) _).trans (by kernel_rfl)
theorem x147 (call : FCall) (hs : FHs) (args : List AV) (m : Mem) (r : AV × Mem) (h : x67 call hs args m = some r) : fxBody Try.prog pol NN call hs xd args m = some r := by
  unfold x67 at h
  split at h
  · rw [x1nf]; exact h
  · cases h

/- swath/swathref05.CopyMap -/
abbrev x1ng (hs : FHs) (u : Nat) : FCtx := { f := x3d, u := u, nt := 11, hs := hs }
noncomputable abbrev xz8 : Fs → Option (AV × Mem) := fxRes Try.prog [.cell 2 xby]
noncomputable def xz9 : Code := nav (bodyOf x3d) []
theorem x1nh (call : FCall) (hs : FHs) (u : Nat) :
  fxK Try.prog pol NN call xz9 (AV × Mem) (x1ng hs u) xz8 eNil xz8 = (fun s => xfp call hs u (s.sl 0) s.m s.fc) := by
  kernel_rfl
theorem x1ni (call : FCall) (hs : FHs) (t0 : AV) (m : Mem) : fxBody Try.prog pol NN call hs x3d [t0] m = x8p call hs [t0] m := by
  rw [fxBody_at (fn := Try.f48) (body := xz9) (nt := 11) (rs := [.cell 2 xby]) (by kernel_rfl) (by kernel_rfl) (by kernel_rfl) (by kernel_rfl) (by kernel_rfl) (by kernel_rfl)]
  exact (congrFun (x1nh call hs m.next) _).trans (by kernel_rfl)
theorem x148 (call : FCall) (hs : FHs) (args : List AV) (m : Mem) (r : AV × Mem) (h : x8p call hs args m = some r) : fxBody Try.prog pol NN call hs x3d args m = some r := by
  unfold x8p at h
  split at h
  · rw [x1ni]; exact h
  · cases h

/- swath/swathref05.WrappedErr -/
abbrev x1nj (hs : FHs) (u : Nat) : FCtx := { f := x68, u := u, nt := 18, hs := hs }
noncomputable abbrev xza : Fs → Option (AV × Mem) := fxRes Try.prog [.tmp 2]
noncomputable def xzb : Code := nav (bodyOf x68) []
theorem x1nk (call : FCall) (hs : FHs) (u : Nat) :
  fxK Try.prog pol NN call xzb (AV × Mem) (x1nj hs u) xza eNil xza = (fun s => xfq call hs u (s.sl 0) s.m s.fc) := by
  kernel_rfl
theorem x1nl (call : FCall) (hs : FHs) (t0 : AV) (m : Mem) : fxBody Try.prog pol NN call hs x68 [t0] m = x8q call hs [t0] m := by
  rw [fxBody_at (fn := Try.f49) (body := xzb) (nt := 18) (rs := [.tmp 2]) (by kernel_rfl) (by kernel_rfl) (by kernel_rfl) (by kernel_rfl) (by kernel_rfl) (by kernel_rfl)]
  exact (congrFun (x1nk call hs m.next) _).trans (by kernel_rfl)
theorem x149 (call : FCall) (hs : FHs) (args : List AV) (m : Mem) (r : AV × Mem) (h : x8q call hs args m = some r) : fxBody Try.prog pol NN call hs x68 args m = some r := by
  unfold x8q at h
  split at h
  · rw [x1nl]; exact h
  · cases h

/- swath/swathref05.Along -/
abbrev x41 (hs : FHs) (u : Nat) : FCtx := { f := xx, u := u, nt := 77, hs := hs }
noncomputable abbrev x2t : Fs → Option (AV × Mem) := fxRes Try.prog [.tmp 4, .tmp 5]
noncomputable def xo0 : Code := nav (bodyOf xx) []
noncomputable def x1nm : Code := nav (bodyOf xx) [false]
noncomputable def xzc : Code := nav (bodyOf xx) [true]
noncomputable def x1nn : Code := nav (bodyOf xx) [true, false]
noncomputable def xzd : Code := nav (bodyOf xx) [true, true]
noncomputable def x1no : Code := nav (bodyOf xx) [true, true, false]
noncomputable def xo1 : Code := nav (bodyOf xx) [true, true, true]
noncomputable def xo2 : Code := nav (bodyOf xx) [true, true, true, false]
noncomputable def xze : Code := nav (bodyOf xx) [true, true, true, true]
noncomputable def x1np : Code := nav (bodyOf xx) [true, true, true, false, false]
noncomputable def xo3 : Code := nav (bodyOf xx) [true, true, true, false, true]
noncomputable def xo4 : Code := nav (bodyOf xx) [true, true, true, false, true, false]
noncomputable def xf1 : Code := nav (bodyOf xx) [true, true, true, false, true, false, false]
noncomputable def x1nq : Code := nav (bodyOf xx) [true, true, true, false, true, false, false, false]
noncomputable def xo5 : Code := nav (bodyOf xx) [true, true, true, false, true, false, false, true]
noncomputable def xzf : Code := nav (bodyOf xx) [true, true, true, false, true, false, false, true, false]
noncomputable def xzg : Code := nav (bodyOf xx) [true, true, true, false, true, false, false, true, true]
theorem x1nr (call : FCall) (hs : FHs) (u : Nat) :
  fxK Try.prog pol NN call xze (AV × Mem) (x41 hs u) x2t eNil x2t = (fun s => x2z call hs u (s.sl 6) s.m s.fc) := by
  kernel_rfl
theorem x1ns (call : FCall) (hs : FHs) (u : Nat) (rec0 : AV → AV → AV → AV → Mem → Nat → Option (AV × Mem)) :
  fxK Try.prog pol NN call xzg (AV × Mem) (x41 hs u) (fun s => rec0 (s.sl 1) (s.sl 2) (s.sl 6) (s.sl 7) s.m s.fc) (setE 0 (fun s => x2z call hs u (s.sl 6) s.m s.fc) eNil) x2t = (fun s => x9w call hs u rec0 (s.sl 1) (s.sl 2) (s.sl 6) (s.sl 7) s.m s.fc) := by
  kernel_rfl
theorem x1nt (call : FCall) (hs : FHs) (u : Nat) (rec0 : AV → AV → AV → AV → Mem → Nat → Option (AV × Mem)) :
  fxK Try.prog pol NN call xzf (AV × Mem) (x41 hs u) (fun s => x9w call hs u rec0 (s.sl 1) (s.sl 2) (s.sl 6) (s.sl 7) s.m s.fc) (setE 0 (fun s => x2z call hs u (s.sl 6) s.m s.fc) eNil) x2t = (fun s => xcu call hs u rec0 (s.sl 1) (s.sl 2) (s.sl 6) (s.sl 7) s.m s.fc) := by
  kernel_rfl
theorem x1nu (call : FCall) (hs : FHs) (u : Nat) (rec0 : AV → AV → AV → AV → Mem → Nat → Option (AV × Mem)) :
  fxK Try.prog pol NN call xo5 (AV × Mem) (x41 hs u) (fun s => rec0 (s.sl 1) (s.sl 2) (s.sl 6) (s.sl 7) s.m s.fc) (setE 0 (fun s => x2z call hs u (s.sl 6) s.m s.fc) eNil) x2t = (fun s => xcu call hs u rec0 (s.sl 1) (s.sl 2) (s.sl 6) (s.sl 7) s.m s.fc) := by
  rw [show xo5 = .seq xzf xzg from by kernel_rfl, seq_r, x1ns call hs u rec0, x1nt call hs u rec0]
theorem x1nv (call : FCall) (hs : FHs) (u : Nat) (rec0 : AV → AV → AV → AV → Mem → Nat → Option (AV × Mem)) :
  fxK Try.prog pol NN call xf1 (AV × Mem) (x41 hs u) (fun s => rec0 (s.sl 1) (s.sl 2) (s.sl 6) (s.sl 7) s.m s.fc) (setE 0 (fun s => x2z call hs u (s.sl 6) s.m s.fc) eNil) x2t = (fun s => xcv call hs u rec0 (s.sl 1) (s.sl 2) (s.sl 6) (s.sl 7) s.m s.fc) := by
  rw [show xf1 = .seq x1nq xo5 from by kernel_rfl, seq_r]; rw [x1nu call hs u rec0]; kernel_rfl
theorem xzh (call : FCall) (hs : FHs) (u : Nat) : ∀ n : Nat,
  iter (fun rec => fxK Try.prog pol NN call xf1 (AV × Mem) (x41 hs u) rec (setE 0 (fun s => x2z call hs u (s.sl 6) s.m s.fc) eNil) x2t) n = (fun s => x5h call hs u n (s.sl 1) (s.sl 2) (s.sl 6) (s.sl 7) s.m s.fc)
  | 0 => rfl
  | n + 1 => by rw [iter_succ, xzh call hs u n, x1nv call hs u (x5h call hs u n)]; kernel_rfl
theorem x1nw (call : FCall) (hs : FHs) (u : Nat) :
  fxK Try.prog pol NN call xo4 (AV × Mem) (x41 hs u) (fun s => x2z call hs u (s.sl 6) s.m s.fc) (setE 0 (fun s => x2z call hs u (s.sl 6) s.m s.fc) eNil) x2t = (fun s => x5h call hs u NN (s.sl 1) (s.sl 2) (s.sl 6) (s.sl 7) s.m s.fc) := by
  rw [show xo4 = .loop xf1 from by kernel_rfl, loop_r, xzh call hs u NN]
theorem x1nx (call : FCall) (hs : FHs) (u : Nat) :
  fxK Try.prog pol NN call xo3 (AV × Mem) (x41 hs u) (fun s => x2z call hs u (s.sl 6) s.m s.fc) eNil x2t = (fun s => x5h call hs u NN (s.sl 1) (s.sl 2) (s.sl 6) (s.sl 7) s.m s.fc) := by
  rw [show xo3 = .block 0 xo4 from by kernel_rfl, block_r, x1nw call hs u]
theorem x1ny (call : FCall) (hs : FHs) (u : Nat) :
  fxK Try.prog pol NN call xo2 (AV × Mem) (x41 hs u) (fun s => x2z call hs u (s.sl 6) s.m s.fc) eNil x2t = (fun s => xcw call hs u (s.sl 1) (s.sl 2) (s.sl 6) s.m s.fc) := by
  rw [show xo2 = .seq x1np xo3 from by kernel_rfl, seq_r]; rw [x1nx call hs u]; kernel_rfl
theorem x1nz (call : FCall) (hs : FHs) (u : Nat) :
  fxK Try.prog pol NN call xo1 (AV × Mem) (x41 hs u) x2t eNil x2t = (fun s => xcw call hs u (s.sl 1) (s.sl 2) (s.sl 6) s.m s.fc) := by
  rw [show xo1 = .seq xo2 xze from by kernel_rfl, seq_r, x1nr call hs u, x1ny call hs u]
theorem x1o0 (call : FCall) (hs : FHs) (u : Nat) :
  fxK Try.prog pol NN call xo0 (AV × Mem) (x41 hs u) x2t eNil x2t = (fun s => xcx call hs u (s.sl 0) (s.sl 1) s.m s.fc) := by
  rw [show xo0 = .seq x1nm xzc from by kernel_rfl, seq_r]; rw [show xzc = .seq x1nn xzd from by kernel_rfl, seq_r]; rw [show xzd = .seq x1no xo1 from by kernel_rfl, seq_r]; rw [x1nz call hs u]; kernel_rfl
theorem x1o1 (call : FCall) (hs : FHs) (t0 t1 : AV) (m : Mem) : fxBody Try.prog pol NN call hs xx [t0, t1] m = x7d call hs [t0, t1] m := by
  rw [fxBody_at (fn := Try.f50) (body := xo0) (nt := 77) (rs := [.tmp 4, .tmp 5]) (by kernel_rfl) (by kernel_rfl) (by kernel_rfl) (by kernel_rfl) (by kernel_rfl) (by kernel_rfl)]
  exact (congrFun (x1o0 call hs m.next) _).trans (by kernel_rfl)
theorem x14a (call : FCall) (hs : FHs) (args : List AV) (m : Mem) (r : AV × Mem) (h : x7d call hs args m = some r) : fxBody Try.prog pol NN call hs xx args m = some r := by
  unfold x7d at h
  split at h
  · rw [x1o1]; exact h
  · cases h

/- swath/unwrap.CheckField -/
abbrev x1o2 (hs : FHs) (u : Nat) : FCtx := { f := x69, u := u, nt := 22, hs := hs }
noncomputable abbrev xzi : Fs → Option (AV × Mem) := fxRes Try.prog [.tmp 4, .tmp 5]
noncomputable def xzj : Code := nav (bodyOf x69) []
theorem x1o3 (call : FCall) (hs : FHs) (u : Nat) :
  fxK Try.prog pol NN call xzj (AV × Mem) (x1o2 hs u) xzi eNil xzi = (fun s => xfr call hs u (s.sl 0) (s.sl 1) s.m s.fc) := by
  kernel_rfl
theorem x1o4 (call : FCall) (hs : FHs) (t0 t1 : AV) (m : Mem) : fxBody Try.prog pol NN call hs x69 [t0, t1] m = x8r call hs [t0, t1] m := by
  rw [fxBody_at (fn := Try.f52) (body := xzj) (nt := 22) (rs := [.tmp 4, .tmp 5]) (by kernel_rfl) (by kernel_rfl) (by kernel_rfl) (by kernel_rfl) (by kernel_rfl) (by kernel_rfl)]
  exact (congrFun (x1o3 call hs m.next) _).trans (by kernel_rfl)
theorem x14b (call : FCall) (hs : FHs) (args : List AV) (m : Mem) (r : AV × Mem) (h : x8r call hs args m = some r) : fxBody Try.prog pol NN call hs x69 args m = some r := by
  unfold x8r at h
  split at h
  · rw [x1o4]; exact h
  · cases h

/- swath/unwrap.Cuts -/
abbrev x1o5 (hs : FHs) (u : Nat) : FCtx := { f := x4p, u := u, nt := 22, hs := hs }
noncomputable abbrev xzk : Fs → Option (AV × Mem) := fxRes Try.prog [.tmp 4, .tmp 5]
noncomputable def xzl : Code := nav (bodyOf x4p) []
theorem x1o6 (call : FCall) (hs : FHs) (u : Nat) :
  fxK Try.prog pol NN call xzl (AV × Mem) (x1o5 hs u) xzk eNil xzk = (fun s => xfs call hs u (s.sl 0) (s.sl 1) s.m s.fc) := by
  kernel_rfl
theorem x1o7 (call : FCall) (hs : FHs) (t0 t1 : AV) (m : Mem) : fxBody Try.prog pol NN call hs x4p [t0, t1] m = x8s call hs [t0, t1] m := by
  rw [fxBody_at (fn := Try.f53) (body := xzl) (nt := 22) (rs := [.tmp 4, .tmp 5]) (by kernel_rfl) (by kernel_rfl) (by kernel_rfl) (by kernel_rfl) (by kernel_rfl) (by kernel_rfl)]
  exact (congrFun (x1o6 call hs m.next) _).trans (by kernel_rfl)
theorem x14c (call : FCall) (hs : FHs) (args : List AV) (m : Mem) (r : AV × Mem) (h : x8s call hs args m = some r) : fxBody Try.prog pol NN call hs x4p args m = some r := by
  unfold x8s at h
  split at h
  · rw [x1o7]; exact h
  · cases h

/- swath/swathref05.TurnsOf -/
abbrev x42 (hs : FHs) (u : Nat) : FCtx := { f := xy, u := u, nt := 78, hs := hs }
noncomputable abbrev x2u : Fs → Option (AV × Mem) := fxRes Try.prog [.tmp 4, .tmp 5]
noncomputable def xo6 : Code := nav (bodyOf xy) []
noncomputable def x1o8 : Code := nav (bodyOf xy) [false]
noncomputable def xzm : Code := nav (bodyOf xy) [true]
noncomputable def x1o9 : Code := nav (bodyOf xy) [true, false]
noncomputable def xzn : Code := nav (bodyOf xy) [true, true]
noncomputable def x1oa : Code := nav (bodyOf xy) [true, true, false]
noncomputable def xo7 : Code := nav (bodyOf xy) [true, true, true]
noncomputable def xo8 : Code := nav (bodyOf xy) [true, true, true, false]
noncomputable def xzo : Code := nav (bodyOf xy) [true, true, true, true]
noncomputable def x1ob : Code := nav (bodyOf xy) [true, true, true, false, false]
noncomputable def xo9 : Code := nav (bodyOf xy) [true, true, true, false, true]
noncomputable def xoa : Code := nav (bodyOf xy) [true, true, true, false, true, false]
noncomputable def xf2 : Code := nav (bodyOf xy) [true, true, true, false, true, false, false]
noncomputable def x1oc : Code := nav (bodyOf xy) [true, true, true, false, true, false, false, false]
noncomputable def xob : Code := nav (bodyOf xy) [true, true, true, false, true, false, false, true]
noncomputable def xzp : Code := nav (bodyOf xy) [true, true, true, false, true, false, false, true, false]
noncomputable def xzq : Code := nav (bodyOf xy) [true, true, true, false, true, false, false, true, true]
theorem x1od (call : FCall) (hs : FHs) (u : Nat) :
  fxK Try.prog pol NN call xzo (AV × Mem) (x42 hs u) x2u eNil x2u = (fun s => x30 call hs u (s.sl 6) s.m s.fc) := by
  kernel_rfl
theorem x1oe (call : FCall) (hs : FHs) (u : Nat) (rec0 : AV → AV → AV → AV → Mem → Nat → Option (AV × Mem)) :
  fxK Try.prog pol NN call xzq (AV × Mem) (x42 hs u) (fun s => rec0 (s.sl 2) (s.sl 3) (s.sl 6) (s.sl 7) s.m s.fc) (setE 0 (fun s => x30 call hs u (s.sl 6) s.m s.fc) eNil) x2u = (fun s => x9x call hs u rec0 (s.sl 2) (s.sl 3) (s.sl 6) (s.sl 7) s.m s.fc) := by
  kernel_rfl
theorem x1of (call : FCall) (hs : FHs) (u : Nat) (rec0 : AV → AV → AV → AV → Mem → Nat → Option (AV × Mem)) :
  fxK Try.prog pol NN call xzp (AV × Mem) (x42 hs u) (fun s => x9x call hs u rec0 (s.sl 2) (s.sl 3) (s.sl 6) (s.sl 7) s.m s.fc) (setE 0 (fun s => x30 call hs u (s.sl 6) s.m s.fc) eNil) x2u = (fun s => xcy call hs u rec0 (s.sl 2) (s.sl 3) (s.sl 6) (s.sl 7) s.m s.fc) := by
  kernel_rfl
theorem x1og (call : FCall) (hs : FHs) (u : Nat) (rec0 : AV → AV → AV → AV → Mem → Nat → Option (AV × Mem)) :
  fxK Try.prog pol NN call xob (AV × Mem) (x42 hs u) (fun s => rec0 (s.sl 2) (s.sl 3) (s.sl 6) (s.sl 7) s.m s.fc) (setE 0 (fun s => x30 call hs u (s.sl 6) s.m s.fc) eNil) x2u = (fun s => xcy call hs u rec0 (s.sl 2) (s.sl 3) (s.sl 6) (s.sl 7) s.m s.fc) := by
  rw [show xob = .seq xzp xzq from by kernel_rfl, seq_r, x1oe call hs u rec0, x1of call hs u rec0]
theorem x1oh (call : FCall) (hs : FHs) (u : Nat) (rec0 : AV → AV → AV → AV → Mem → Nat → Option (AV × Mem)) :
  fxK Try.prog pol NN call xf2 (AV × Mem) (x42 hs u) (fun s => rec0 (s.sl 2) (s.sl 3) (s.sl 6) (s.sl 7) s.m s.fc) (setE 0 (fun s => x30 call hs u (s.sl 6) s.m s.fc) eNil) x2u = (fun s => xd0 call hs u rec0 (s.sl 2) (s.sl 3) (s.sl 6) (s.sl 7) s.m s.fc) := by
  rw [show xf2 = .seq x1oc xob from by kernel_rfl, seq_r]; rw [x1og call hs u rec0]; kernel_rfl
theorem xzr (call : FCall) (hs : FHs) (u : Nat) : ∀ n : Nat,
  iter (fun rec => fxK Try.prog pol NN call xf2 (AV × Mem) (x42 hs u) rec (setE 0 (fun s => x30 call hs u (s.sl 6) s.m s.fc) eNil) x2u) n = (fun s => x5i call hs u n (s.sl 2) (s.sl 3) (s.sl 6) (s.sl 7) s.m s.fc)
  | 0 => rfl
  | n + 1 => by rw [iter_succ, xzr call hs u n, x1oh call hs u (x5i call hs u n)]; kernel_rfl
theorem x1oi (call : FCall) (hs : FHs) (u : Nat) :
  fxK Try.prog pol NN call xoa (AV × Mem) (x42 hs u) (fun s => x30 call hs u (s.sl 6) s.m s.fc) (setE 0 (fun s => x30 call hs u (s.sl 6) s.m s.fc) eNil) x2u = (fun s => x5i call hs u NN (s.sl 2) (s.sl 3) (s.sl 6) (s.sl 7) s.m s.fc) := by
  rw [show xoa = .loop xf2 from by kernel_rfl, loop_r, xzr call hs u NN]
theorem x1oj (call : FCall) (hs : FHs) (u : Nat) :
  fxK Try.prog pol NN call xo9 (AV × Mem) (x42 hs u) (fun s => x30 call hs u (s.sl 6) s.m s.fc) eNil x2u = (fun s => x5i call hs u NN (s.sl 2) (s.sl 3) (s.sl 6) (s.sl 7) s.m s.fc) := by
  rw [show xo9 = .block 0 xoa from by kernel_rfl, block_r, x1oi call hs u]
theorem x1ok (call : FCall) (hs : FHs) (u : Nat) :
  fxK Try.prog pol NN call xo8 (AV × Mem) (x42 hs u) (fun s => x30 call hs u (s.sl 6) s.m s.fc) eNil x2u = (fun s => xd1 call hs u (s.sl 2) (s.sl 3) (s.sl 6) s.m s.fc) := by
  rw [show xo8 = .seq x1ob xo9 from by kernel_rfl, seq_r]; rw [x1oj call hs u]; kernel_rfl
theorem x1ol (call : FCall) (hs : FHs) (u : Nat) :
  fxK Try.prog pol NN call xo7 (AV × Mem) (x42 hs u) x2u eNil x2u = (fun s => xd1 call hs u (s.sl 2) (s.sl 3) (s.sl 6) s.m s.fc) := by
  rw [show xo7 = .seq xo8 xzo from by kernel_rfl, seq_r, x1od call hs u, x1ok call hs u]
theorem x1om (call : FCall) (hs : FHs) (u : Nat) :
  fxK Try.prog pol NN call xo6 (AV × Mem) (x42 hs u) x2u eNil x2u = (fun s => xd2 call hs u (s.sl 0) (s.sl 1) s.m s.fc) := by
  rw [show xo6 = .seq x1o8 xzm from by kernel_rfl, seq_r]; rw [show xzm = .seq x1o9 xzn from by kernel_rfl, seq_r]; rw [show xzn = .seq x1oa xo7 from by kernel_rfl, seq_r]; rw [x1ol call hs u]; kernel_rfl
theorem x1on (call : FCall) (hs : FHs) (t0 t1 : AV) (m : Mem) : fxBody Try.prog pol NN call hs xy [t0, t1] m = x7e call hs [t0, t1] m := by
  rw [fxBody_at (fn := Try.f54) (body := xo6) (nt := 78) (rs := [.tmp 4, .tmp 5]) (by kernel_rfl) (by kernel_rfl) (by kernel_rfl) (by kernel_rfl) (by kernel_rfl) (by kernel_rfl)]
  exact (congrFun (x1om call hs m.next) _).trans (by kernel_rfl)
theorem x14d (call : FCall) (hs : FHs) (args : List AV) (m : Mem) (r : AV × Mem) (h : x7e call hs args m = some r) : fxBody Try.prog pol NN call hs xy args m = some r := by
  unfold x7e at h
  split at h
  · rw [x1on]; exact h
  · cases h

/- swath/swathref05.Cost -/
abbrev x6x (hs : FHs) (u : Nat) : FCtx := { f := x1o, u := u, nt := 32, hs := hs }
noncomputable abbrev x43 : Fs → Option (AV × Mem) := fxRes Try.prog [.tmp 4]
noncomputable def xoc : Code := nav (bodyOf x1o) []
noncomputable def x1oo : Code := nav (bodyOf x1o) [false]
noncomputable def xzs : Code := nav (bodyOf x1o) [true]
noncomputable def x1op : Code := nav (bodyOf x1o) [true, false]
noncomputable def xod : Code := nav (bodyOf x1o) [true, true]
noncomputable def xoe : Code := nav (bodyOf x1o) [true, true, false]
noncomputable def xzt : Code := nav (bodyOf x1o) [true, true, true]
noncomputable def x1oq : Code := nav (bodyOf x1o) [true, true, false, false]
noncomputable def xof : Code := nav (bodyOf x1o) [true, true, false, true]
noncomputable def xog : Code := nav (bodyOf x1o) [true, true, false, true, false]
noncomputable def xoh : Code := nav (bodyOf x1o) [true, true, false, true, false, false]
theorem x1or (call : FCall) (hs : FHs) (u : Nat) :
  fxK Try.prog pol NN call xzt (AV × Mem) (x6x hs u) x43 eNil x43 = (fun s => x5j call hs u (s.sl 5) s.m s.fc) := by
  kernel_rfl
theorem x1os (call : FCall) (hs : FHs) (u : Nat) (rec0 : AV → AV → AV → AV → Mem → Nat → Option (AV × Mem)) :
  fxK Try.prog pol NN call xoh (AV × Mem) (x6x hs u) (fun s => rec0 (s.sl 1) (s.sl 2) (s.sl 5) (s.sl 6) s.m s.fc) (setE 0 (fun s => x5j call hs u (s.sl 5) s.m s.fc) eNil) x43 = (fun s => xd3 call hs u rec0 (s.sl 1) (s.sl 2) (s.sl 5) (s.sl 6) s.m s.fc) := by
  kernel_rfl
theorem xzu (call : FCall) (hs : FHs) (u : Nat) : ∀ n : Nat,
  iter (fun rec => fxK Try.prog pol NN call xoh (AV × Mem) (x6x hs u) rec (setE 0 (fun s => x5j call hs u (s.sl 5) s.m s.fc) eNil) x43) n = (fun s => x5k call hs u n (s.sl 1) (s.sl 2) (s.sl 5) (s.sl 6) s.m s.fc)
  | 0 => rfl
  | n + 1 => by rw [iter_succ, xzu call hs u n, x1os call hs u (x5k call hs u n)]; kernel_rfl
theorem x1ot (call : FCall) (hs : FHs) (u : Nat) :
  fxK Try.prog pol NN call xog (AV × Mem) (x6x hs u) (fun s => x5j call hs u (s.sl 5) s.m s.fc) (setE 0 (fun s => x5j call hs u (s.sl 5) s.m s.fc) eNil) x43 = (fun s => x5k call hs u NN (s.sl 1) (s.sl 2) (s.sl 5) (s.sl 6) s.m s.fc) := by
  rw [show xog = .loop xoh from by kernel_rfl, loop_r, xzu call hs u NN]
theorem x1ou (call : FCall) (hs : FHs) (u : Nat) :
  fxK Try.prog pol NN call xof (AV × Mem) (x6x hs u) (fun s => x5j call hs u (s.sl 5) s.m s.fc) eNil x43 = (fun s => x5k call hs u NN (s.sl 1) (s.sl 2) (s.sl 5) (s.sl 6) s.m s.fc) := by
  rw [show xof = .block 0 xog from by kernel_rfl, block_r, x1ot call hs u]
theorem x1ov (call : FCall) (hs : FHs) (u : Nat) :
  fxK Try.prog pol NN call xoe (AV × Mem) (x6x hs u) (fun s => x5j call hs u (s.sl 5) s.m s.fc) eNil x43 = (fun s => xd4 call hs u (s.sl 1) (s.sl 2) (s.sl 5) s.m s.fc) := by
  rw [show xoe = .seq x1oq xof from by kernel_rfl, seq_r]; rw [x1ou call hs u]; kernel_rfl
theorem x1ow (call : FCall) (hs : FHs) (u : Nat) :
  fxK Try.prog pol NN call xod (AV × Mem) (x6x hs u) x43 eNil x43 = (fun s => xd4 call hs u (s.sl 1) (s.sl 2) (s.sl 5) s.m s.fc) := by
  rw [show xod = .seq xoe xzt from by kernel_rfl, seq_r, x1or call hs u, x1ov call hs u]
theorem x1ox (call : FCall) (hs : FHs) (u : Nat) :
  fxK Try.prog pol NN call xoc (AV × Mem) (x6x hs u) x43 eNil x43 = (fun s => xft call hs u (s.sl 0) (s.sl 1) s.m s.fc) := by
  rw [show xoc = .seq x1oo xzs from by kernel_rfl, seq_r]; rw [show xzs = .seq x1op xod from by kernel_rfl, seq_r]; rw [x1ow call hs u]; kernel_rfl
theorem x1oy (call : FCall) (hs : FHs) (t0 t1 : AV) (m : Mem) : fxBody Try.prog pol NN call hs x1o [t0, t1] m = x8t call hs [t0, t1] m := by
  rw [fxBody_at (fn := Try.f55) (body := xoc) (nt := 32) (rs := [.tmp 4]) (by kernel_rfl) (by kernel_rfl) (by kernel_rfl) (by kernel_rfl) (by kernel_rfl) (by kernel_rfl)]
  exact (congrFun (x1ox call hs m.next) _).trans (by kernel_rfl)
theorem x14e (call : FCall) (hs : FHs) (args : List AV) (m : Mem) (r : AV × Mem) (h : x8t call hs args m = some r) : fxBody Try.prog pol NN call hs x1o args m = some r := by
  unfold x8t at h
  split at h
  · rw [x1oy]; exact h
  · cases h

/- swath/swathlaw05.same -/
abbrev x6y (hs : FHs) (u : Nat) : FCtx := { f := x1s, u := u, nt := 26, hs := hs }
noncomputable abbrev x44 : Fs → Option (AV × Mem) := fxRes Try.prog [.tmp 4]
noncomputable def xoi : Code := nav (bodyOf x1s) []
noncomputable def x1oz : Code := nav (bodyOf x1s) [false]
noncomputable def xzv : Code := nav (bodyOf x1s) [true]
noncomputable def x1p0 : Code := nav (bodyOf x1s) [true, false]
noncomputable def xoj : Code := nav (bodyOf x1s) [true, true]
noncomputable def xok : Code := nav (bodyOf x1s) [true, true, false]
noncomputable def xzw : Code := nav (bodyOf x1s) [true, true, true]
noncomputable def x1p1 : Code := nav (bodyOf x1s) [true, true, false, false]
noncomputable def xol : Code := nav (bodyOf x1s) [true, true, false, true]
noncomputable def xom : Code := nav (bodyOf x1s) [true, true, false, true, false]
noncomputable def xon : Code := nav (bodyOf x1s) [true, true, false, true, false, false]
theorem x1p2 (call : FCall) (hs : FHs) (u : Nat) :
  fxK Try.prog pol NN call xzw (AV × Mem) (x6y hs u) x44 eNil x44 = (fun s => x5l call hs u s.m s.fc) := by
  kernel_rfl
theorem x1p3 (call : FCall) (hs : FHs) (u : Nat) (rec0 : AV → AV → AV → Mem → Nat → Option (AV × Mem)) :
  fxK Try.prog pol NN call xon (AV × Mem) (x6y hs u) (fun s => rec0 (s.sl 0) (s.sl 1) (s.sl 5) s.m s.fc) (setE 0 (fun s => x5l call hs u s.m s.fc) eNil) x44 = (fun s => xd5 call hs u rec0 (s.sl 0) (s.sl 1) (s.sl 5) s.m s.fc) := by
  kernel_rfl
theorem xzx (call : FCall) (hs : FHs) (u : Nat) : ∀ n : Nat,
  iter (fun rec => fxK Try.prog pol NN call xon (AV × Mem) (x6y hs u) rec (setE 0 (fun s => x5l call hs u s.m s.fc) eNil) x44) n = (fun s => x5n call hs u n (s.sl 0) (s.sl 1) (s.sl 5) s.m s.fc)
  | 0 => rfl
  | n + 1 => by rw [iter_succ, xzx call hs u n, x1p3 call hs u (x5n call hs u n)]; kernel_rfl
theorem x1p4 (call : FCall) (hs : FHs) (u : Nat) :
  fxK Try.prog pol NN call xom (AV × Mem) (x6y hs u) (fun s => x5l call hs u s.m s.fc) (setE 0 (fun s => x5l call hs u s.m s.fc) eNil) x44 = (fun s => x5n call hs u NN (s.sl 0) (s.sl 1) (s.sl 5) s.m s.fc) := by
  rw [show xom = .loop xon from by kernel_rfl, loop_r, xzx call hs u NN]
theorem x1p5 (call : FCall) (hs : FHs) (u : Nat) :
  fxK Try.prog pol NN call xol (AV × Mem) (x6y hs u) (fun s => x5l call hs u s.m s.fc) eNil x44 = (fun s => x5n call hs u NN (s.sl 0) (s.sl 1) (s.sl 5) s.m s.fc) := by
  rw [show xol = .block 0 xom from by kernel_rfl, block_r, x1p4 call hs u]
theorem x1p6 (call : FCall) (hs : FHs) (u : Nat) :
  fxK Try.prog pol NN call xok (AV × Mem) (x6y hs u) (fun s => x5l call hs u s.m s.fc) eNil x44 = (fun s => xd6 call hs u (s.sl 0) (s.sl 1) s.m s.fc) := by
  rw [show xok = .seq x1p1 xol from by kernel_rfl, seq_r]; rw [x1p5 call hs u]; kernel_rfl
theorem x1p7 (call : FCall) (hs : FHs) (u : Nat) :
  fxK Try.prog pol NN call xoj (AV × Mem) (x6y hs u) x44 eNil x44 = (fun s => xd6 call hs u (s.sl 0) (s.sl 1) s.m s.fc) := by
  rw [show xoj = .seq xok xzw from by kernel_rfl, seq_r, x1p2 call hs u, x1p6 call hs u]
theorem x1p8 (call : FCall) (hs : FHs) (u : Nat) :
  fxK Try.prog pol NN call xoi (AV × Mem) (x6y hs u) x44 eNil x44 = (fun s => xfu call hs u (s.sl 0) (s.sl 1) s.m s.fc) := by
  rw [show xoi = .seq x1oz xzv from by kernel_rfl, seq_r]; rw [show xzv = .seq x1p0 xoj from by kernel_rfl, seq_r]; rw [x1p7 call hs u]; kernel_rfl
theorem x1p9 (call : FCall) (hs : FHs) (t0 t1 : AV) (m : Mem) : fxBody Try.prog pol NN call hs x1s [t0, t1] m = x8u call hs [t0, t1] m := by
  rw [fxBody_at (fn := Try.f56) (body := xoi) (nt := 26) (rs := [.tmp 4]) (by kernel_rfl) (by kernel_rfl) (by kernel_rfl) (by kernel_rfl) (by kernel_rfl) (by kernel_rfl)]
  exact (congrFun (x1p8 call hs m.next) _).trans (by kernel_rfl)
theorem x14f (call : FCall) (hs : FHs) (args : List AV) (m : Mem) (r : AV × Mem) (h : x8u call hs args m = some r) : fxBody Try.prog pol NN call hs x1s args m = some r := by
  unfold x8u at h
  split at h
  · rw [x1p9]; exact h
  · cases h

/- swath/swathref05.Cuts -/
abbrev x45 (hs : FHs) (u : Nat) : FCtx := { f := x15, u := u, nt := 39, hs := hs }
noncomputable abbrev x2v : Fs → Option (AV × Mem) := fxRes Try.prog [.tmp 4]
noncomputable def xoo : Code := nav (bodyOf x15) []
noncomputable def x1pa : Code := nav (bodyOf x15) [false]
noncomputable def xzy : Code := nav (bodyOf x15) [true]
noncomputable def x1pb : Code := nav (bodyOf x15) [true, false]
noncomputable def xop : Code := nav (bodyOf x15) [true, true]
noncomputable def xoq : Code := nav (bodyOf x15) [true, true, false]
noncomputable def xzz : Code := nav (bodyOf x15) [true, true, true]
noncomputable def x1pc : Code := nav (bodyOf x15) [true, true, false, false]
noncomputable def xor : Code := nav (bodyOf x15) [true, true, false, true]
noncomputable def xos : Code := nav (bodyOf x15) [true, true, false, true, false]
noncomputable def xf3 : Code := nav (bodyOf x15) [true, true, false, true, false, false]
noncomputable def x1pd : Code := nav (bodyOf x15) [true, true, false, true, false, false, false]
noncomputable def xot : Code := nav (bodyOf x15) [true, true, false, true, false, false, true]
noncomputable def x100 : Code := nav (bodyOf x15) [true, true, false, true, false, false, true, false]
noncomputable def x101 : Code := nav (bodyOf x15) [true, true, false, true, false, false, true, true]
theorem x1pe (call : FCall) (hs : FHs) (u : Nat) :
  fxK Try.prog pol NN call xzz (AV × Mem) (x45 hs u) x2v eNil x2v = (fun s => x31 call hs u (s.sl 5) s.m s.fc) := by
  kernel_rfl
theorem x1pf (call : FCall) (hs : FHs) (u : Nat) (rec0 : AV → AV → AV → AV → Mem → Nat → Option (AV × Mem)) :
  fxK Try.prog pol NN call x101 (AV × Mem) (x45 hs u) (fun s => rec0 (s.sl 1) (s.sl 2) (s.sl 5) (s.sl 6) s.m s.fc) (setE 0 (fun s => x31 call hs u (s.sl 5) s.m s.fc) eNil) x2v = (fun s => x9y call hs u rec0 (s.sl 1) (s.sl 2) (s.sl 5) (s.sl 6) s.m s.fc) := by
  kernel_rfl
theorem x1pg (call : FCall) (hs : FHs) (u : Nat) (rec0 : AV → AV → AV → AV → Mem → Nat → Option (AV × Mem)) :
  fxK Try.prog pol NN call x100 (AV × Mem) (x45 hs u) (fun s => x9y call hs u rec0 (s.sl 1) (s.sl 2) (s.sl 5) (s.sl 6) s.m s.fc) (setE 0 (fun s => x31 call hs u (s.sl 5) s.m s.fc) eNil) x2v = (fun s => xd7 call hs u rec0 (s.sl 1) (s.sl 2) (s.sl 5) (s.sl 6) s.m s.fc) := by
  kernel_rfl
theorem x1ph (call : FCall) (hs : FHs) (u : Nat) (rec0 : AV → AV → AV → AV → Mem → Nat → Option (AV × Mem)) :
  fxK Try.prog pol NN call xot (AV × Mem) (x45 hs u) (fun s => rec0 (s.sl 1) (s.sl 2) (s.sl 5) (s.sl 6) s.m s.fc) (setE 0 (fun s => x31 call hs u (s.sl 5) s.m s.fc) eNil) x2v = (fun s => xd7 call hs u rec0 (s.sl 1) (s.sl 2) (s.sl 5) (s.sl 6) s.m s.fc) := by
  rw [show xot = .seq x100 x101 from by kernel_rfl, seq_r, x1pf call hs u rec0, x1pg call hs u rec0]
theorem x1pi (call : FCall) (hs : FHs) (u : Nat) (rec0 : AV → AV → AV → AV → Mem → Nat → Option (AV × Mem)) :
  fxK Try.prog pol NN call xf3 (AV × Mem) (x45 hs u) (fun s => rec0 (s.sl 1) (s.sl 2) (s.sl 5) (s.sl 6) s.m s.fc) (setE 0 (fun s => x31 call hs u (s.sl 5) s.m s.fc) eNil) x2v = (fun s => xd8 call hs u rec0 (s.sl 1) (s.sl 2) (s.sl 5) (s.sl 6) s.m s.fc) := by
  rw [show xf3 = .seq x1pd xot from by kernel_rfl, seq_r]; rw [x1ph call hs u rec0]; kernel_rfl
theorem x102 (call : FCall) (hs : FHs) (u : Nat) : ∀ n : Nat,
  iter (fun rec => fxK Try.prog pol NN call xf3 (AV × Mem) (x45 hs u) rec (setE 0 (fun s => x31 call hs u (s.sl 5) s.m s.fc) eNil) x2v) n = (fun s => x5o call hs u n (s.sl 1) (s.sl 2) (s.sl 5) (s.sl 6) s.m s.fc)
  | 0 => rfl
  | n + 1 => by rw [iter_succ, x102 call hs u n, x1pi call hs u (x5o call hs u n)]; kernel_rfl
theorem x1pj (call : FCall) (hs : FHs) (u : Nat) :
  fxK Try.prog pol NN call xos (AV × Mem) (x45 hs u) (fun s => x31 call hs u (s.sl 5) s.m s.fc) (setE 0 (fun s => x31 call hs u (s.sl 5) s.m s.fc) eNil) x2v = (fun s => x5o call hs u NN (s.sl 1) (s.sl 2) (s.sl 5) (s.sl 6) s.m s.fc) := by
  rw [show xos = .loop xf3 from by kernel_rfl, loop_r, x102 call hs u NN]
theorem x1pk (call : FCall) (hs : FHs) (u : Nat) :
  fxK Try.prog pol NN call xor (AV × Mem) (x45 hs u) (fun s => x31 call hs u (s.sl 5) s.m s.fc) eNil x2v = (fun s => x5o call hs u NN (s.sl 1) (s.sl 2) (s.sl 5) (s.sl 6) s.m s.fc) := by
  rw [show xor = .block 0 xos from by kernel_rfl, block_r, x1pj call hs u]
theorem x1pl (call : FCall) (hs : FHs) (u : Nat) :
  fxK Try.prog pol NN call xoq (AV × Mem) (x45 hs u) (fun s => x31 call hs u (s.sl 5) s.m s.fc) eNil x2v = (fun s => xd9 call hs u (s.sl 1) (s.sl 2) (s.sl 5) s.m s.fc) := by
  rw [show xoq = .seq x1pc xor from by kernel_rfl, seq_r]; rw [x1pk call hs u]; kernel_rfl
theorem x1pm (call : FCall) (hs : FHs) (u : Nat) :
  fxK Try.prog pol NN call xop (AV × Mem) (x45 hs u) x2v eNil x2v = (fun s => xd9 call hs u (s.sl 1) (s.sl 2) (s.sl 5) s.m s.fc) := by
  rw [show xop = .seq xoq xzz from by kernel_rfl, seq_r, x1pe call hs u, x1pl call hs u]
theorem x1pn (call : FCall) (hs : FHs) (u : Nat) :
  fxK Try.prog pol NN call xoo (AV × Mem) (x45 hs u) x2v eNil x2v = (fun s => xfv call hs u (s.sl 0) (s.sl 1) s.m s.fc) := by
  rw [show xoo = .seq x1pa xzy from by kernel_rfl, seq_r]; rw [show xzy = .seq x1pb xop from by kernel_rfl, seq_r]; rw [x1pm call hs u]; kernel_rfl
theorem x1po (call : FCall) (hs : FHs) (t0 t1 : AV) (m : Mem) : fxBody Try.prog pol NN call hs x15 [t0, t1] m = x8v call hs [t0, t1] m := by
  rw [fxBody_at (fn := Try.f57) (body := xoo) (nt := 39) (rs := [.tmp 4]) (by kernel_rfl) (by kernel_rfl) (by kernel_rfl) (by kernel_rfl) (by kernel_rfl) (by kernel_rfl)]
  exact (congrFun (x1pn call hs m.next) _).trans (by kernel_rfl)
theorem x14g (call : FCall) (hs : FHs) (args : List AV) (m : Mem) (r : AV × Mem) (h : x8v call hs args m = some r) : fxBody Try.prog pol NN call hs x15 args m = some r := by
  unfold x8v at h
  split at h
  · rw [x1po]; exact h
  · cases h

/- swath/unwrap.Undecided -/
abbrev x1pp (hs : FHs) (u : Nat) : FCtx := { f := x7f, u := u, nt := 20, hs := hs }
noncomputable abbrev x103 : Fs → Option (AV × Mem) := fxRes Try.prog [.tmp 2, .tmp 3]
noncomputable def x104 : Code := nav (bodyOf x7f) []
theorem x1pq (call : FCall) (hs : FHs) (u : Nat) :
  fxK Try.prog pol NN call x104 (AV × Mem) (x1pp hs u) x103 eNil x103 = (fun s => xqq call hs u (s.sl 0) s.m s.fc) := by
  kernel_rfl
theorem x1pr (call : FCall) (hs : FHs) (t0 : AV) (m : Mem) : fxBody Try.prog pol NN call hs x7f [t0] m = xb0 call hs [t0] m := by
  rw [fxBody_at (fn := Try.f58) (body := x104) (nt := 20) (rs := [.tmp 2, .tmp 3]) (by kernel_rfl) (by kernel_rfl) (by kernel_rfl) (by kernel_rfl) (by kernel_rfl) (by kernel_rfl)]
  exact (congrFun (x1pq call hs m.next) _).trans (by kernel_rfl)
theorem x14h (call : FCall) (hs : FHs) (args : List AV) (m : Mem) (r : AV × Mem) (h : xb0 call hs args m = some r) : fxBody Try.prog pol NN call hs x7f args m = some r := by
  unfold xb0 at h
  split at h
  · rw [x1pr]; exact h
  · cases h

/- swath/swathlaw05.Loop -/
abbrev x1ps (hs : FHs) (u : Nat) : FCtx := { f := x6a, u := u, nt := 9, hs := hs }
noncomputable abbrev x105 : Fs → Option (AV × Mem) := fxRes Try.prog [.cell 2 x3m]
noncomputable def x106 : Code := nav (bodyOf x6a) []
theorem x1pt (call : FCall) (hs : FHs) (u : Nat) :
  fxK Try.prog pol NN call x106 (AV × Mem) (x1ps hs u) x105 eNil x105 = (fun s => xqr call hs u (s.sl 0) s.m s.fc) := by
  kernel_rfl
theorem x1pu (call : FCall) (hs : FHs) (t0 : AV) (m : Mem) : fxBody Try.prog pol NN call hs x6a [t0] m = xb1 call hs [t0] m := by
  rw [fxBody_at (fn := Try.f60) (body := x106) (nt := 9) (rs := [.cell 2 x3m]) (by kernel_rfl) (by kernel_rfl) (by kernel_rfl) (by kernel_rfl) (by kernel_rfl) (by kernel_rfl)]
  exact (congrFun (x1pt call hs m.next) _).trans (by kernel_rfl)
theorem x14i (call : FCall) (hs : FHs) (args : List AV) (m : Mem) (r : AV × Mem) (h : xb1 call hs args m = some r) : fxBody Try.prog pol NN call hs x6a args m = some r := by
  unfold xb1 at h
  split at h
  · rw [x1pu]; exact h
  · cases h

/- swath/swathlaw05.Square -/
abbrev xf4 (hs : FHs) (u : Nat) : FCtx := { f := x2g, u := u, nt := 20, hs := hs }
noncomputable abbrev x85 : Fs → Option (AV × Mem) := fxRes Try.prog [.cell 2 xbz]
noncomputable def xou : Code := nav (bodyOf x2g) []
noncomputable def x1pv : Code := nav (bodyOf x2g) [false]
noncomputable def x107 : Code := nav (bodyOf x2g) [true]
noncomputable def x1pw : Code := nav (bodyOf x2g) [true, false]
noncomputable def xov : Code := nav (bodyOf x2g) [true, true]
noncomputable def x108 : Code := nav (bodyOf x2g) [true, true, false]
noncomputable def x109 : Code := nav (bodyOf x2g) [true, true, true]
theorem x1px (call : FCall) (hs : FHs) (u : Nat) :
  fxK Try.prog pol NN call x109 (AV × Mem) (xf4 hs u) x85 eNil x85 = (fun s => xda call hs u (s.sl 2) (s.sl 3) s.m s.fc) := by
  kernel_rfl
theorem x1py (call : FCall) (hs : FHs) (u : Nat) :
  fxK Try.prog pol NN call x108 (AV × Mem) (xf4 hs u) (fun s => xda call hs u (s.sl 2) (s.sl 3) s.m s.fc) eNil x85 = (fun s => xfw call hs u (s.sl 0) (s.sl 2) (s.sl 3) s.m s.fc) := by
  kernel_rfl
theorem x1pz (call : FCall) (hs : FHs) (u : Nat) :
  fxK Try.prog pol NN call xov (AV × Mem) (xf4 hs u) x85 eNil x85 = (fun s => xfw call hs u (s.sl 0) (s.sl 2) (s.sl 3) s.m s.fc) := by
  rw [show xov = .seq x108 x109 from by kernel_rfl, seq_r, x1px call hs u, x1py call hs u]
theorem x1q0 (call : FCall) (hs : FHs) (u : Nat) :
  fxK Try.prog pol NN call xou (AV × Mem) (xf4 hs u) x85 eNil x85 = (fun s => xqs call hs u (s.sl 0) s.m s.fc) := by
  rw [show xou = .seq x1pv x107 from by kernel_rfl, seq_r]; rw [show x107 = .seq x1pw xov from by kernel_rfl, seq_r]; rw [x1pz call hs u]; kernel_rfl
theorem x1q1 (call : FCall) (hs : FHs) (t0 : AV) (m : Mem) : fxBody Try.prog pol NN call hs x2g [t0] m = xb2 call hs [t0] m := by
  rw [fxBody_at (fn := Try.f61) (body := xou) (nt := 20) (rs := [.cell 2 xbz]) (by kernel_rfl) (by kernel_rfl) (by kernel_rfl) (by kernel_rfl) (by kernel_rfl) (by kernel_rfl)]
  exact (congrFun (x1q0 call hs m.next) _).trans (by kernel_rfl)
theorem x14j (call : FCall) (hs : FHs) (args : List AV) (m : Mem) (r : AV × Mem) (h : xb2 call hs args m = some r) : fxBody Try.prog pol NN call hs x2g args m = some r := by
  unfold xb2 at h
  split at h
  · rw [x1q1]; exact h
  · cases h

/- swath/swathbase.Size -/
abbrev x1q2 (hs : FHs) (u : Nat) : FCtx := { f := x3e, u := u, nt := 7, hs := hs }
noncomputable abbrev x10a : Fs → Option (AV × Mem) := fxRes Try.prog [.tmp 2]
noncomputable def x10b : Code := nav (bodyOf x3e) []
theorem x1q3 (call : FCall) (hs : FHs) (u : Nat) :
  fxK Try.prog pol NN call x10b (AV × Mem) (x1q2 hs u) x10a eNil x10a = (fun s => xfx call hs u (s.sl 0) s.m s.fc) := by
  kernel_rfl
theorem x1q4 (call : FCall) (hs : FHs) (t0 : AV) (m : Mem) : fxBody Try.prog pol NN call hs x3e [t0] m = x8w call hs [t0] m := by
  rw [fxBody_at (fn := Try.f62) (body := x10b) (nt := 7) (rs := [.tmp 2]) (by kernel_rfl) (by kernel_rfl) (by kernel_rfl) (by kernel_rfl) (by kernel_rfl) (by kernel_rfl)]
  exact (congrFun (x1q3 call hs m.next) _).trans (by kernel_rfl)
theorem x14k (call : FCall) (hs : FHs) (args : List AV) (m : Mem) (r : AV × Mem) (h : x8w call hs args m = some r) : fxBody Try.prog pol NN call hs x3e args m = some r := by
  unfold x8w at h
  split at h
  · rw [x1q4]; exact h
  · cases h

/- swath/unwrap.open -/
abbrev x1q5 (hs : FHs) (u : Nat) : FCtx := { f := x4a, u := u, nt := 14, hs := hs }
noncomputable abbrev x10c : Fs → Option (AV × Mem) := fxRes Try.prog [.cell 2 xc0, .tmp 3]
noncomputable def x10d : Code := nav (bodyOf x4a) []
theorem x1q6 (call : FCall) (hs : FHs) (u : Nat) :
  fxK Try.prog pol NN call x10d (AV × Mem) (x1q5 hs u) x10c eNil x10c = (fun s => xfy call hs u (s.sl 0) s.m s.fc) := by
  kernel_rfl
theorem x1q7 (call : FCall) (hs : FHs) (t0 : AV) (m : Mem) : fxBody Try.prog pol NN call hs x4a [t0] m = x8x call hs [t0] m := by
  rw [fxBody_at (fn := Try.f63) (body := x10d) (nt := 14) (rs := [.cell 2 xc0, .tmp 3]) (by kernel_rfl) (by kernel_rfl) (by kernel_rfl) (by kernel_rfl) (by kernel_rfl) (by kernel_rfl)]
  exact (congrFun (x1q6 call hs m.next) _).trans (by kernel_rfl)
theorem x14l (call : FCall) (hs : FHs) (args : List AV) (m : Mem) (r : AV × Mem) (h : x8x call hs args m = some r) : fxBody Try.prog pol NN call hs x4a args m = some r := by
  unfold x8x at h
  split at h
  · rw [x1q7]; exact h
  · cases h

/- (swath/unwrap.net).solve -/
abbrev x1g (hs : FHs) (u : Nat) : FCtx := { f := xa, u := u, nt := 64, hs := hs }
noncomputable abbrev xu : Fs → Option (AV × Mem) := fxRes Try.prog [.tmp 2]
noncomputable def xow : Code := nav (bodyOf xa) []
noncomputable def x1q8 : Code := nav (bodyOf xa) [false]
noncomputable def x10e : Code := nav (bodyOf xa) [true]
noncomputable def x1q9 : Code := nav (bodyOf xa) [true, false]
noncomputable def xox : Code := nav (bodyOf xa) [true, true]
noncomputable def xoy : Code := nav (bodyOf xa) [true, true, false]
noncomputable def xoz : Code := nav (bodyOf xa) [true, true, true]
noncomputable def x1qa : Code := nav (bodyOf xa) [true, true, true, false]
noncomputable def x10f : Code := nav (bodyOf xa) [true, true, true, true]
noncomputable def x1qb : Code := nav (bodyOf xa) [true, true, true, true, false]
noncomputable def xp0 : Code := nav (bodyOf xa) [true, true, true, true, true]
noncomputable def xp1 : Code := nav (bodyOf xa) [true, true, true, true, true, false]
noncomputable def x10g : Code := nav (bodyOf xa) [true, true, true, true, true, true]
noncomputable def x1qc : Code := nav (bodyOf xa) [true, true, true, true, true, false, false]
noncomputable def xp2 : Code := nav (bodyOf xa) [true, true, true, true, true, false, true]
noncomputable def xp3 : Code := nav (bodyOf xa) [true, true, true, true, true, false, true, false]
noncomputable def xf5 : Code := nav (bodyOf xa) [true, true, true, true, true, false, true, false, false]
noncomputable def x1qd : Code := nav (bodyOf xa) [true, true, true, true, true, false, true, false, false, false]
noncomputable def x10h : Code := nav (bodyOf xa) [true, true, true, true, true, false, true, false, false, true]
noncomputable def x1qe : Code := nav (bodyOf xa) [true, true, true, true, true, false, true, false, false, true, false]
noncomputable def xp4 : Code := nav (bodyOf xa) [true, true, true, true, true, false, true, false, false, true, true]
noncomputable def xp5 : Code := nav (bodyOf xa) [true, true, true, true, true, false, true, false, false, true, true, false]
noncomputable def x10i : Code := nav (bodyOf xa) [true, true, true, true, true, false, true, false, false, true, true, true]
noncomputable def xp6 : Code := nav (bodyOf xa) [true, true, true, true, true, false, true, false, false, true, true, false, false]
noncomputable def x1qf : Code := nav (bodyOf xa) [true, true, true, true, true, false, true, false, false, true, true, false, false, false]
noncomputable def xp7 : Code := nav (bodyOf xa) [true, true, true, true, true, false, true, false, false, true, true, false, false, true]
noncomputable def x10j : Code := nav (bodyOf xa) [true, true, true, true, true, false, true, false, false, true, true, false, false, true, false]
noncomputable def x10k : Code := nav (bodyOf xa) [true, true, true, true, true, false, true, false, false, true, true, false, false, true, true]
noncomputable def xp8 : Code := nav (bodyOf xa) [true, true, false, false]
noncomputable def xp9 : Code := nav (bodyOf xa) [true, true, false, false, false]
theorem x1qg (call : FCall) (hs : FHs) (u : Nat) :
  fxK Try.prog pol NN call x10g (AV × Mem) (x1g hs u) xu eNil xu = (fun s => x2c call hs u (s.sl 3) s.m s.fc) := by
  kernel_rfl
theorem x1qh (call : FCall) (hs : FHs) (u : Nat) (rec0 : AV → AV → AV → AV → AV → Mem → Nat → Option (AV × Mem)) :
  fxK Try.prog pol NN call x10i (AV × Mem) (x1g hs u) (fun s => rec0 (s.sl 3) (s.sl 6) (s.sl 26) (s.sl 27) (s.sl 28) s.m s.fc) (setE 2 (fun s => x2c call hs u (s.sl 3) s.m s.fc) eNil) xu = (fun s => x4i call hs u rec0 (s.sl 3) (s.sl 6) (s.sl 26) (s.sl 27) (s.sl 28) s.m s.fc) := by
  kernel_rfl
theorem x1qi (call : FCall) (hs : FHs) (u : Nat) (rec0 : AV → AV → AV → AV → AV → Mem → Nat → Option (AV × Mem)) :
  fxK Try.prog pol NN call x10k (AV × Mem) (x1g hs u) (fun s => x4i call hs u rec0 (s.sl 3) (s.sl 6) (s.sl 26) (s.sl 27) (s.sl 28) s.m s.fc) (setE 3 (fun s => x4i call hs u rec0 (s.sl 3) (s.sl 6) (s.sl 26) (s.sl 27) (s.sl 28) s.m s.fc) (setE 2 (fun s => x2c call hs u (s.sl 3) s.m s.fc) eNil)) xu = (fun s => xdb call hs u rec0 (s.sl 3) (s.sl 6) (s.sl 7) (s.sl 8) (s.sl 26) (s.sl 27) (s.sl 28) s.m s.fc) := by
  kernel_rfl
theorem x1qj (call : FCall) (hs : FHs) (u : Nat) (rec0 : AV → AV → AV → AV → AV → Mem → Nat → Option (AV × Mem)) :
  fxK Try.prog pol NN call x10j (AV × Mem) (x1g hs u) (fun s => xdb call hs u rec0 (s.sl 3) (s.sl 6) (s.sl 7) (s.sl 8) (s.sl 26) (s.sl 27) (s.sl 28) s.m s.fc) (setE 3 (fun s => x4i call hs u rec0 (s.sl 3) (s.sl 6) (s.sl 26) (s.sl 27) (s.sl 28) s.m s.fc) (setE 2 (fun s => x2c call hs u (s.sl 3) s.m s.fc) eNil)) xu = (fun s => xg0 call hs u rec0 (s.sl 3) (s.sl 6) (s.sl 7) (s.sl 8) (s.sl 26) (s.sl 27) (s.sl 28) s.m s.fc) := by
  kernel_rfl
theorem x1qk (call : FCall) (hs : FHs) (u : Nat) (rec0 : AV → AV → AV → AV → AV → Mem → Nat → Option (AV × Mem)) :
  fxK Try.prog pol NN call xp7 (AV × Mem) (x1g hs u) (fun s => x4i call hs u rec0 (s.sl 3) (s.sl 6) (s.sl 26) (s.sl 27) (s.sl 28) s.m s.fc) (setE 3 (fun s => x4i call hs u rec0 (s.sl 3) (s.sl 6) (s.sl 26) (s.sl 27) (s.sl 28) s.m s.fc) (setE 2 (fun s => x2c call hs u (s.sl 3) s.m s.fc) eNil)) xu = (fun s => xg0 call hs u rec0 (s.sl 3) (s.sl 6) (s.sl 7) (s.sl 8) (s.sl 26) (s.sl 27) (s.sl 28) s.m s.fc) := by
  rw [show xp7 = .seq x10j x10k from by kernel_rfl, seq_r, x1qi call hs u rec0, x1qj call hs u rec0]
theorem x1ql (call : FCall) (hs : FHs) (u : Nat) (rec0 : AV → AV → AV → AV → AV → Mem → Nat → Option (AV × Mem)) :
  fxK Try.prog pol NN call xp6 (AV × Mem) (x1g hs u) (fun s => x4i call hs u rec0 (s.sl 3) (s.sl 6) (s.sl 26) (s.sl 27) (s.sl 28) s.m s.fc) (setE 3 (fun s => x4i call hs u rec0 (s.sl 3) (s.sl 6) (s.sl 26) (s.sl 27) (s.sl 28) s.m s.fc) (setE 2 (fun s => x2c call hs u (s.sl 3) s.m s.fc) eNil)) xu = (fun s => xdc call hs u rec0 (s.sl 3) (s.sl 6) (s.sl 26) (s.sl 27) (s.sl 28) s.m s.fc) := by
  rw [show xp6 = .seq x1qf xp7 from by kernel_rfl, seq_r]; rw [x1qk call hs u rec0]; kernel_rfl
theorem x1qm (call : FCall) (hs : FHs) (u : Nat) (rec0 : AV → AV → AV → AV → AV → Mem → Nat → Option (AV × Mem)) :
  fxK Try.prog pol NN call xp5 (AV × Mem) (x1g hs u) (fun s => x4i call hs u rec0 (s.sl 3) (s.sl 6) (s.sl 26) (s.sl 27) (s.sl 28) s.m s.fc) (setE 2 (fun s => x2c call hs u (s.sl 3) s.m s.fc) eNil) xu = (fun s => xdc call hs u rec0 (s.sl 3) (s.sl 6) (s.sl 26) (s.sl 27) (s.sl 28) s.m s.fc) := by
  rw [show xp5 = .block 3 xp6 from by kernel_rfl, block_r, x1ql call hs u rec0]
theorem x1qn (call : FCall) (hs : FHs) (u : Nat) (rec0 : AV → AV → AV → AV → AV → Mem → Nat → Option (AV × Mem)) :
  fxK Try.prog pol NN call xp4 (AV × Mem) (x1g hs u) (fun s => rec0 (s.sl 3) (s.sl 6) (s.sl 26) (s.sl 27) (s.sl 28) s.m s.fc) (setE 2 (fun s => x2c call hs u (s.sl 3) s.m s.fc) eNil) xu = (fun s => xdc call hs u rec0 (s.sl 3) (s.sl 6) (s.sl 26) (s.sl 27) (s.sl 28) s.m s.fc) := by
  rw [show xp4 = .seq xp5 x10i from by kernel_rfl, seq_r, x1qh call hs u rec0, x1qm call hs u rec0]
theorem x1qo (call : FCall) (hs : FHs) (u : Nat) (rec0 : AV → AV → AV → AV → AV → Mem → Nat → Option (AV × Mem)) :
  fxK Try.prog pol NN call xf5 (AV × Mem) (x1g hs u) (fun s => rec0 (s.sl 3) (s.sl 6) (s.sl 26) (s.sl 27) (s.sl 28) s.m s.fc) (setE 2 (fun s => x2c call hs u (s.sl 3) s.m s.fc) eNil) xu = (fun s => xqt call hs u rec0 (s.sl 3) (s.sl 6) (s.sl 26) (s.sl 27) (s.sl 28) s.m s.fc) := by
  rw [show xf5 = .seq x1qd x10h from by kernel_rfl, seq_r]; rw [show x10h = .seq x1qe xp4 from by kernel_rfl, seq_r]; rw [x1qn call hs u rec0]; kernel_rfl
theorem x10l (call : FCall) (hs : FHs) (u : Nat) : ∀ n : Nat,
  iter (fun rec => fxK Try.prog pol NN call xf5 (AV × Mem) (x1g hs u) rec (setE 2 (fun s => x2c call hs u (s.sl 3) s.m s.fc) eNil) xu) n = (fun s => x9z call hs u n (s.sl 3) (s.sl 6) (s.sl 26) (s.sl 27) (s.sl 28) s.m s.fc)
  | 0 => rfl
  | n + 1 => by rw [iter_succ, x10l call hs u n, x1qo call hs u (x9z call hs u n)]; kernel_rfl
theorem x1qp (call : FCall) (hs : FHs) (u : Nat) :
  fxK Try.prog pol NN call xp3 (AV × Mem) (x1g hs u) (fun s => x2c call hs u (s.sl 3) s.m s.fc) (setE 2 (fun s => x2c call hs u (s.sl 3) s.m s.fc) eNil) xu = (fun s => x9z call hs u NN (s.sl 3) (s.sl 6) (s.sl 26) (s.sl 27) (s.sl 28) s.m s.fc) := by
  rw [show xp3 = .loop xf5 from by kernel_rfl, loop_r, x10l call hs u NN]
theorem x1qq (call : FCall) (hs : FHs) (u : Nat) :
  fxK Try.prog pol NN call xp2 (AV × Mem) (x1g hs u) (fun s => x2c call hs u (s.sl 3) s.m s.fc) eNil xu = (fun s => x9z call hs u NN (s.sl 3) (s.sl 6) (s.sl 26) (s.sl 27) (s.sl 28) s.m s.fc) := by
  rw [show xp2 = .block 2 xp3 from by kernel_rfl, block_r, x1qp call hs u]
theorem x1qr (call : FCall) (hs : FHs) (u : Nat) :
  fxK Try.prog pol NN call xp1 (AV × Mem) (x1g hs u) (fun s => x2c call hs u (s.sl 3) s.m s.fc) eNil xu = (fun s => xg1 call hs u (s.sl 3) (s.sl 5) (s.sl 6) s.m s.fc) := by
  rw [show xp1 = .seq x1qc xp2 from by kernel_rfl, seq_r]; rw [x1qq call hs u]; kernel_rfl
theorem x1qs (call : FCall) (hs : FHs) (u : Nat) :
  fxK Try.prog pol NN call xp0 (AV × Mem) (x1g hs u) xu eNil xu = (fun s => xg1 call hs u (s.sl 3) (s.sl 5) (s.sl 6) s.m s.fc) := by
  rw [show xp0 = .seq xp1 x10g from by kernel_rfl, seq_r, x1qg call hs u, x1qr call hs u]
theorem x1qt (call : FCall) (hs : FHs) (u : Nat) :
  fxK Try.prog pol NN call xoz (AV × Mem) (x1g hs u) xu eNil xu = (fun s => x7r call hs u (s.sl 1) (s.sl 3) s.m s.fc) := by
  rw [show xoz = .seq x1qa x10f from by kernel_rfl, seq_r]; rw [show x10f = .seq x1qb xp0 from by kernel_rfl, seq_r]; rw [x1qs call hs u]; kernel_rfl
theorem x1qu (call : FCall) (hs : FHs) (u : Nat) (rec1 : AV → AV → Mem → Nat → Option (AV × Mem)) :
  fxK Try.prog pol NN call xp9 (AV × Mem) (x1g hs u) (fun s => rec1 (s.sl 1) (s.sl 3) s.m s.fc) (setE 0 (fun s => x7r call hs u (s.sl 1) (s.sl 3) s.m s.fc) eNil) xu = (fun s => xqu call hs u rec1 (s.sl 1) (s.sl 3) s.m s.fc) := by
  kernel_rfl
theorem x10m (call : FCall) (hs : FHs) (u : Nat) : ∀ n : Nat,
  iter (fun rec => fxK Try.prog pol NN call xp9 (AV × Mem) (x1g hs u) rec (setE 0 (fun s => x7r call hs u (s.sl 1) (s.sl 3) s.m s.fc) eNil) xu) n = (fun s => x7s call hs u n (s.sl 1) (s.sl 3) s.m s.fc)
  | 0 => rfl
  | n + 1 => by rw [iter_succ, x10m call hs u n, x1qu call hs u (x7s call hs u n)]; kernel_rfl
theorem x1qv (call : FCall) (hs : FHs) (u : Nat) :
  fxK Try.prog pol NN call xp8 (AV × Mem) (x1g hs u) (fun s => x7r call hs u (s.sl 1) (s.sl 3) s.m s.fc) (setE 0 (fun s => x7r call hs u (s.sl 1) (s.sl 3) s.m s.fc) eNil) xu = (fun s => x7s call hs u NN (s.sl 1) (s.sl 3) s.m s.fc) := by
  rw [show xp8 = .loop xp9 from by kernel_rfl, loop_r, x10m call hs u NN]
theorem x1qw (call : FCall) (hs : FHs) (u : Nat) :
  fxK Try.prog pol NN call xoy (AV × Mem) (x1g hs u) (fun s => x7r call hs u (s.sl 1) (s.sl 3) s.m s.fc) eNil xu = (fun s => x7s call hs u NN (s.sl 1) (s.sl 3) s.m s.fc) := by
  rw [show xoy = .block 0 xp8 from by kernel_rfl, block_r, x1qv call hs u]
theorem x1qx (call : FCall) (hs : FHs) (u : Nat) :
  fxK Try.prog pol NN call xox (AV × Mem) (x1g hs u) xu eNil xu = (fun s => x7s call hs u NN (s.sl 1) (s.sl 3) s.m s.fc) := by
  rw [show xox = .seq xoy xoz from by kernel_rfl, seq_r, x1qt call hs u, x1qw call hs u]
theorem x1qy (call : FCall) (hs : FHs) (u : Nat) :
  fxK Try.prog pol NN call xow (AV × Mem) (x1g hs u) xu eNil xu = (fun s => xqv call hs u (s.sl 0) s.m s.fc) := by
  rw [show xow = .seq x1q8 x10e from by kernel_rfl, seq_r]; rw [show x10e = .seq x1q9 xox from by kernel_rfl, seq_r]; rw [x1qx call hs u]; kernel_rfl
theorem x1qz (call : FCall) (hs : FHs) (t0 : AV) (m : Mem) : fxBody Try.prog pol NN call hs xa [t0] m = xb3 call hs [t0] m := by
  rw [fxBody_at (fn := Try.f64) (body := xow) (nt := 64) (rs := [.tmp 2]) (by kernel_rfl) (by kernel_rfl) (by kernel_rfl) (by kernel_rfl) (by kernel_rfl) (by kernel_rfl)]
  exact (congrFun (x1qy call hs m.next) _).trans (by kernel_rfl)
theorem x14m (call : FCall) (hs : FHs) (args : List AV) (m : Mem) (r : AV × Mem) (h : xb3 call hs args m = some r) : fxBody Try.prog pol NN call hs xa args m = some r := by
  unfold xb3 at h
  split at h
  · rw [x1qz]; exact h
  · cases h

/- (swath/unwrap.net).cost -/
abbrev x6z (hs : FHs) (u : Nat) : FCtx := { f := x19, u := u, nt := 27, hs := hs }
noncomputable abbrev x46 : Fs → Option (AV × Mem) := fxRes Try.prog [.tmp 4]
noncomputable def xpa : Code := nav (bodyOf x19) []
noncomputable def x1r0 : Code := nav (bodyOf x19) [false]
noncomputable def x10n : Code := nav (bodyOf x19) [true]
noncomputable def x1r1 : Code := nav (bodyOf x19) [true, false]
noncomputable def xpb : Code := nav (bodyOf x19) [true, true]
noncomputable def xpc : Code := nav (bodyOf x19) [true, true, false]
noncomputable def x10o : Code := nav (bodyOf x19) [true, true, true]
noncomputable def x1r2 : Code := nav (bodyOf x19) [true, true, false, false]
noncomputable def xpd : Code := nav (bodyOf x19) [true, true, false, true]
noncomputable def xpe : Code := nav (bodyOf x19) [true, true, false, true, false]
noncomputable def xpf : Code := nav (bodyOf x19) [true, true, false, true, false, false]
theorem x1r3 (call : FCall) (hs : FHs) (u : Nat) :
  fxK Try.prog pol NN call x10o (AV × Mem) (x6z hs u) x46 eNil x46 = (fun s => x5p call hs u (s.sl 5) s.m s.fc) := by
  kernel_rfl
theorem x1r4 (call : FCall) (hs : FHs) (u : Nat) (rec0 : AV → AV → AV → AV → AV → Mem → Nat → Option (AV × Mem)) :
  fxK Try.prog pol NN call xpf (AV × Mem) (x6z hs u) (fun s => rec0 (s.sl 1) (s.sl 5) (s.sl 10) (s.sl 11) (s.sl 12) s.m s.fc) (setE 0 (fun s => x5p call hs u (s.sl 5) s.m s.fc) eNil) x46 = (fun s => xdd call hs u rec0 (s.sl 1) (s.sl 5) (s.sl 10) (s.sl 11) (s.sl 12) s.m s.fc) := by
  kernel_rfl
theorem x10p (call : FCall) (hs : FHs) (u : Nat) : ∀ n : Nat,
  iter (fun rec => fxK Try.prog pol NN call xpf (AV × Mem) (x6z hs u) rec (setE 0 (fun s => x5p call hs u (s.sl 5) s.m s.fc) eNil) x46) n = (fun s => x5q call hs u n (s.sl 1) (s.sl 5) (s.sl 10) (s.sl 11) (s.sl 12) s.m s.fc)
  | 0 => rfl
  | n + 1 => by rw [iter_succ, x10p call hs u n, x1r4 call hs u (x5q call hs u n)]; kernel_rfl
theorem x1r5 (call : FCall) (hs : FHs) (u : Nat) :
  fxK Try.prog pol NN call xpe (AV × Mem) (x6z hs u) (fun s => x5p call hs u (s.sl 5) s.m s.fc) (setE 0 (fun s => x5p call hs u (s.sl 5) s.m s.fc) eNil) x46 = (fun s => x5q call hs u NN (s.sl 1) (s.sl 5) (s.sl 10) (s.sl 11) (s.sl 12) s.m s.fc) := by
  rw [show xpe = .loop xpf from by kernel_rfl, loop_r, x10p call hs u NN]
theorem x1r6 (call : FCall) (hs : FHs) (u : Nat) :
  fxK Try.prog pol NN call xpd (AV × Mem) (x6z hs u) (fun s => x5p call hs u (s.sl 5) s.m s.fc) eNil x46 = (fun s => x5q call hs u NN (s.sl 1) (s.sl 5) (s.sl 10) (s.sl 11) (s.sl 12) s.m s.fc) := by
  rw [show xpd = .block 0 xpe from by kernel_rfl, block_r, x1r5 call hs u]
theorem x1r7 (call : FCall) (hs : FHs) (u : Nat) :
  fxK Try.prog pol NN call xpc (AV × Mem) (x6z hs u) (fun s => x5p call hs u (s.sl 5) s.m s.fc) eNil x46 = (fun s => xde call hs u (s.sl 1) (s.sl 2) (s.sl 5) s.m s.fc) := by
  rw [show xpc = .seq x1r2 xpd from by kernel_rfl, seq_r]; rw [x1r6 call hs u]; kernel_rfl
theorem x1r8 (call : FCall) (hs : FHs) (u : Nat) :
  fxK Try.prog pol NN call xpb (AV × Mem) (x6z hs u) x46 eNil x46 = (fun s => xde call hs u (s.sl 1) (s.sl 2) (s.sl 5) s.m s.fc) := by
  rw [show xpb = .seq xpc x10o from by kernel_rfl, seq_r, x1r3 call hs u, x1r7 call hs u]
theorem x1r9 (call : FCall) (hs : FHs) (u : Nat) :
  fxK Try.prog pol NN call xpa (AV × Mem) (x6z hs u) x46 eNil x46 = (fun s => xg2 call hs u (s.sl 0) (s.sl 1) s.m s.fc) := by
  rw [show xpa = .seq x1r0 x10n from by kernel_rfl, seq_r]; rw [show x10n = .seq x1r1 xpb from by kernel_rfl, seq_r]; rw [x1r8 call hs u]; kernel_rfl
theorem x1ra (call : FCall) (hs : FHs) (t0 t1 : AV) (m : Mem) : fxBody Try.prog pol NN call hs x19 [t0, t1] m = x8y call hs [t0, t1] m := by
  rw [fxBody_at (fn := Try.f65) (body := xpa) (nt := 27) (rs := [.tmp 4]) (by kernel_rfl) (by kernel_rfl) (by kernel_rfl) (by kernel_rfl) (by kernel_rfl) (by kernel_rfl)]
  exact (congrFun (x1r9 call hs m.next) _).trans (by kernel_rfl)
theorem x14n (call : FCall) (hs : FHs) (args : List AV) (m : Mem) (r : AV × Mem) (h : x8y call hs args m = some r) : fxBody Try.prog pol NN call hs x19 args m = some r := by
  unfold x8y at h
  split at h
  · rw [x1ra]; exact h
  · cases h

/- swath/swathref05.CheckNet -/
abbrev x70 (hs : FHs) (u : Nat) : FCtx := { f := x1a, u := u, nt := 60, hs := hs }
noncomputable abbrev x47 : Fs → Option (AV × Mem) := fxRes Try.prog [.tmp 2, .tmp 3]
noncomputable def xpg : Code := nav (bodyOf x1a) []
noncomputable def x1rb : Code := nav (bodyOf x1a) [false]
noncomputable def x10q : Code := nav (bodyOf x1a) [true]
noncomputable def x1rc : Code := nav (bodyOf x1a) [true, false]
noncomputable def x10r : Code := nav (bodyOf x1a) [true, true]
noncomputable def x1rd : Code := nav (bodyOf x1a) [true, true, false]
noncomputable def xph : Code := nav (bodyOf x1a) [true, true, true]
noncomputable def xpi : Code := nav (bodyOf x1a) [true, true, true, false]
noncomputable def x10s : Code := nav (bodyOf x1a) [true, true, true, true]
noncomputable def x1re : Code := nav (bodyOf x1a) [true, true, true, false, false]
noncomputable def xpj : Code := nav (bodyOf x1a) [true, true, true, false, true]
noncomputable def xpk : Code := nav (bodyOf x1a) [true, true, true, false, true, false]
noncomputable def xpl : Code := nav (bodyOf x1a) [true, true, true, false, true, false, false]
theorem x1rf (call : FCall) (hs : FHs) (u : Nat) :
  fxK Try.prog pol NN call x10s (AV × Mem) (x70 hs u) x47 eNil x47 = (fun s => x5r call hs u s.m s.fc) := by
  kernel_rfl
theorem x1rg (call : FCall) (hs : FHs) (u : Nat) (rec0 : AV → AV → Mem → Nat → Option (AV × Mem)) :
  fxK Try.prog pol NN call xpl (AV × Mem) (x70 hs u) (fun s => rec0 (s.sl 1) (s.sl 4) s.m s.fc) (setE 0 (fun s => x5r call hs u s.m s.fc) eNil) x47 = (fun s => xdf call hs u rec0 (s.sl 1) (s.sl 4) s.m s.fc) := by
  kernel_rfl
theorem x10t (call : FCall) (hs : FHs) (u : Nat) : ∀ n : Nat,
  iter (fun rec => fxK Try.prog pol NN call xpl (AV × Mem) (x70 hs u) rec (setE 0 (fun s => x5r call hs u s.m s.fc) eNil) x47) n = (fun s => x5s call hs u n (s.sl 1) (s.sl 4) s.m s.fc)
  | 0 => rfl
  | n + 1 => by rw [iter_succ, x10t call hs u n, x1rg call hs u (x5s call hs u n)]; kernel_rfl
theorem x1rh (call : FCall) (hs : FHs) (u : Nat) :
  fxK Try.prog pol NN call xpk (AV × Mem) (x70 hs u) (fun s => x5r call hs u s.m s.fc) (setE 0 (fun s => x5r call hs u s.m s.fc) eNil) x47 = (fun s => x5s call hs u NN (s.sl 1) (s.sl 4) s.m s.fc) := by
  rw [show xpk = .loop xpl from by kernel_rfl, loop_r, x10t call hs u NN]
theorem x1ri (call : FCall) (hs : FHs) (u : Nat) :
  fxK Try.prog pol NN call xpj (AV × Mem) (x70 hs u) (fun s => x5r call hs u s.m s.fc) eNil x47 = (fun s => x5s call hs u NN (s.sl 1) (s.sl 4) s.m s.fc) := by
  rw [show xpj = .block 0 xpk from by kernel_rfl, block_r, x1rh call hs u]
theorem x1rj (call : FCall) (hs : FHs) (u : Nat) :
  fxK Try.prog pol NN call xpi (AV × Mem) (x70 hs u) (fun s => x5r call hs u s.m s.fc) eNil x47 = (fun s => xdg call hs u (s.sl 1) s.m s.fc) := by
  rw [show xpi = .seq x1re xpj from by kernel_rfl, seq_r]; rw [x1ri call hs u]; kernel_rfl
theorem x1rk (call : FCall) (hs : FHs) (u : Nat) :
  fxK Try.prog pol NN call xph (AV × Mem) (x70 hs u) x47 eNil x47 = (fun s => xdg call hs u (s.sl 1) s.m s.fc) := by
  rw [show xph = .seq xpi x10s from by kernel_rfl, seq_r, x1rf call hs u, x1rj call hs u]
theorem x1rl (call : FCall) (hs : FHs) (u : Nat) :
  fxK Try.prog pol NN call xpg (AV × Mem) (x70 hs u) x47 eNil x47 = (fun s => xg3 call hs u (s.sl 0) s.m s.fc) := by
  rw [show xpg = .seq x1rb x10q from by kernel_rfl, seq_r]; rw [show x10q = .seq x1rc x10r from by kernel_rfl, seq_r]; rw [show x10r = .seq x1rd xph from by kernel_rfl, seq_r]; rw [x1rk call hs u]; kernel_rfl
theorem x1rm (call : FCall) (hs : FHs) (t0 : AV) (m : Mem) : fxBody Try.prog pol NN call hs x1a [t0] m = x8z call hs [t0] m := by
  rw [fxBody_at (fn := Try.f66) (body := xpg) (nt := 60) (rs := [.tmp 2, .tmp 3]) (by kernel_rfl) (by kernel_rfl) (by kernel_rfl) (by kernel_rfl) (by kernel_rfl) (by kernel_rfl)]
  exact (congrFun (x1rl call hs m.next) _).trans (by kernel_rfl)
theorem x14o (call : FCall) (hs : FHs) (args : List AV) (m : Mem) (r : AV × Mem) (h : x8z call hs args m = some r) : fxBody Try.prog pol NN call hs x1a args m = some r := by
  unfold x8z at h
  split at h
  · rw [x1rm]; exact h
  · cases h

/- swath/unwrap.netOf -/
abbrev x60 (hs : FHs) (u : Nat) : FCtx := { f := xr, u := u, nt := 71, hs := hs }
noncomputable abbrev x61 : Fs → Option (AV × Mem) := fxRes Try.prog [.cell 2 x3m]
noncomputable def xpm : Code := nav (bodyOf xr) []
noncomputable def x1rn : Code := nav (bodyOf xr) [false]
noncomputable def x10u : Code := nav (bodyOf xr) [true]
noncomputable def x1ro : Code := nav (bodyOf xr) [true, false]
noncomputable def x10v : Code := nav (bodyOf xr) [true, true]
noncomputable def x1rp : Code := nav (bodyOf xr) [true, true, false]
noncomputable def x10w : Code := nav (bodyOf xr) [true, true, true]
noncomputable def x1rq : Code := nav (bodyOf xr) [true, true, true, false]
noncomputable def xpn : Code := nav (bodyOf xr) [true, true, true, true]
noncomputable def xpo : Code := nav (bodyOf xr) [true, true, true, true, false]
noncomputable def x10x : Code := nav (bodyOf xr) [true, true, true, true, true]
noncomputable def x1rr : Code := nav (bodyOf xr) [true, true, true, true, false, false]
noncomputable def xpp : Code := nav (bodyOf xr) [true, true, true, true, false, true]
noncomputable def xpq : Code := nav (bodyOf xr) [true, true, true, true, false, true, false]
noncomputable def xpr : Code := nav (bodyOf xr) [true, true, true, true, false, true, false, false]
noncomputable def x10y : Code := nav (bodyOf xr) [true, true, true, true, false, true, false, true]
theorem x1rs (call : FCall) (hs : FHs) (u : Nat) :
  fxK Try.prog pol NN call x10x (AV × Mem) (x60 hs u) x61 eNil x61 = (fun s => x7t call hs u (s.sl 2) (s.sl 4) s.m s.fc) := by
  kernel_rfl
theorem x1rt (call : FCall) (hs : FHs) (u : Nat) :
  fxK Try.prog pol NN call x10y Mem (x60 hs u) (fun s => some s.m) eNil fNil = (fun s => x7u call hs u (s.sl 3) (s.sl 4) (s.sl 5) (s.sl 6) (s.sl 7) s.m s.fc) := by
  kernel_rfl
theorem x1ru (call : FCall) (hs : FHs) (u : Nat) :
  fxK Try.prog pol NN call xpr Mem (x60 hs u) (fun s => x7u call hs u (s.sl 3) (s.sl 4) (s.sl 5) (s.sl 6) (s.sl 7) s.m s.fc) eNil fNil = (fun s => x7v call hs u (s.sl 3) (s.sl 4) (s.sl 5) (s.sl 27) (s.sl 28) s.m s.fc) := by
  kernel_rfl
theorem x1rv (call : FCall) (hs : FHs) (u : Nat) :
  fxK Try.prog pol NN call xpq (AV × Mem) (x60 hs u) (fun s => x7t call hs u (s.sl 2) (s.sl 4) s.m s.fc) (setE 0 (fun s => x7t call hs u (s.sl 2) (s.sl 4) s.m s.fc) eNil) x61 = (fun s => xdh call hs u (s.sl 2) (s.sl 3) (s.sl 4) (s.sl 5) (s.sl 26) s.m s.fc) := by
  rw [show xpq = .rangeFunc (.tmp 26) #[27, 28] xpr x10y from by kernel_rfl, rng_r (H := fun u s => x7v call hs u (s.sl 3) (s.sl 4) (s.sl 5) (s.sl 27) (s.sl 28) s.m s.fc) (by intro u; exact (congrArg (fun Y => fxK Try.prog pol NN call xpr Mem (x60 hs u) Y eNil fNil) (x1rt call hs u)).trans (x1ru call hs u))]; kernel_rfl
theorem x1rw (call : FCall) (hs : FHs) (u : Nat) :
  fxK Try.prog pol NN call xpp (AV × Mem) (x60 hs u) (fun s => x7t call hs u (s.sl 2) (s.sl 4) s.m s.fc) eNil x61 = (fun s => xdh call hs u (s.sl 2) (s.sl 3) (s.sl 4) (s.sl 5) (s.sl 26) s.m s.fc) := by
  rw [show xpp = .block 0 xpq from by kernel_rfl, block_r, x1rv call hs u]
theorem x1rx (call : FCall) (hs : FHs) (u : Nat) :
  fxK Try.prog pol NN call xpo (AV × Mem) (x60 hs u) (fun s => x7t call hs u (s.sl 2) (s.sl 4) s.m s.fc) eNil x61 = (fun s => xdi call hs u (s.sl 2) (s.sl 3) (s.sl 4) (s.sl 5) s.m s.fc) := by
  rw [show xpo = .seq x1rr xpp from by kernel_rfl, seq_r]; rw [x1rw call hs u]; kernel_rfl
theorem x1ry (call : FCall) (hs : FHs) (u : Nat) :
  fxK Try.prog pol NN call xpn (AV × Mem) (x60 hs u) x61 eNil x61 = (fun s => xdi call hs u (s.sl 2) (s.sl 3) (s.sl 4) (s.sl 5) s.m s.fc) := by
  rw [show xpn = .seq xpo x10x from by kernel_rfl, seq_r, x1rs call hs u, x1rx call hs u]
theorem x1rz (call : FCall) (hs : FHs) (u : Nat) :
  fxK Try.prog pol NN call xpm (AV × Mem) (x60 hs u) x61 eNil x61 = (fun s => xg4 call hs u (s.sl 0) s.m s.fc) := by
  rw [show xpm = .seq x1rn x10u from by kernel_rfl, seq_r]; rw [show x10u = .seq x1ro x10v from by kernel_rfl, seq_r]; rw [show x10v = .seq x1rp x10w from by kernel_rfl, seq_r]; rw [show x10w = .seq x1rq xpn from by kernel_rfl, seq_r]; rw [x1ry call hs u]; kernel_rfl
theorem x1s0 (call : FCall) (hs : FHs) (t0 : AV) (m : Mem) : fxBody Try.prog pol NN call hs xr [t0] m = x90 call hs [t0] m := by
  rw [fxBody_at (fn := Try.f69) (body := xpm) (nt := 71) (rs := [.cell 2 x3m]) (by kernel_rfl) (by kernel_rfl) (by kernel_rfl) (by kernel_rfl) (by kernel_rfl) (by kernel_rfl)]
  exact (congrFun (x1rz call hs m.next) _).trans (by kernel_rfl)
theorem x14p (call : FCall) (hs : FHs) (args : List AV) (m : Mem) (r : AV × Mem) (h : x90 call hs args m = some r) : fxBody Try.prog pol NN call hs xr args m = some r := by
  unfold x90 at h
  split at h
  · rw [x1s0]; exact h
  · cases h

/- swath/swathref05.sizeErr -/
abbrev x1s1 (hs : FHs) (u : Nat) : FCtx := { f := x4q, u := u, nt := 20, hs := hs }
noncomputable abbrev x10z : Fs → Option (AV × Mem) := fxRes Try.prog [.tmp 6]
noncomputable def x110 : Code := nav (bodyOf x4q) []
theorem x1s2 (call : FCall) (hs : FHs) (u : Nat) :
  fxK Try.prog pol NN call x110 (AV × Mem) (x1s1 hs u) x10z eNil x10z = (fun s => xg5 call hs u (s.sl 0) (s.sl 1) (s.sl 2) s.m s.fc) := by
  kernel_rfl
theorem x1s3 (call : FCall) (hs : FHs) (t0 t1 t2 : AV) (m : Mem) : fxBody Try.prog pol NN call hs x4q [t0, t1, t2] m = x91 call hs [t0, t1, t2] m := by
  rw [fxBody_at (fn := Try.f70) (body := x110) (nt := 20) (rs := [.tmp 6]) (by kernel_rfl) (by kernel_rfl) (by kernel_rfl) (by kernel_rfl) (by kernel_rfl) (by kernel_rfl)]
  exact (congrFun (x1s2 call hs m.next) _).trans (by kernel_rfl)
theorem x14q (call : FCall) (hs : FHs) (args : List AV) (m : Mem) (r : AV × Mem) (h : x91 call hs args m = some r) : fxBody Try.prog pol NN call hs x4q args m = some r := by
  unfold x91 at h
  split at h
  · rw [x1s3]; exact h
  · cases h

/- swath/swathref05.wrappedErr -/
abbrev x71 (hs : FHs) (u : Nat) : FCtx := { f := x22, u := u, nt := 23, hs := hs }
noncomputable abbrev x48 : Fs → Option (AV × Mem) := fxRes Try.prog [.tmp 2]
noncomputable def xps : Code := nav (bodyOf x22) []
noncomputable def x1s4 : Code := nav (bodyOf x22) [false]
noncomputable def xpt : Code := nav (bodyOf x22) [true]
noncomputable def xpu : Code := nav (bodyOf x22) [true, false]
noncomputable def x111 : Code := nav (bodyOf x22) [true, true]
noncomputable def x1s5 : Code := nav (bodyOf x22) [true, false, false]
noncomputable def xpv : Code := nav (bodyOf x22) [true, false, true]
noncomputable def xpw : Code := nav (bodyOf x22) [true, false, true, false]
noncomputable def xpx : Code := nav (bodyOf x22) [true, false, true, false, false]
theorem x1s6 (call : FCall) (hs : FHs) (u : Nat) :
  fxK Try.prog pol NN call x111 (AV × Mem) (x71 hs u) x48 eNil x48 = (fun s => x5t call hs u s.m s.fc) := by
  kernel_rfl
theorem x1s7 (call : FCall) (hs : FHs) (u : Nat) (rec0 : AV → AV → Mem → Nat → Option (AV × Mem)) :
  fxK Try.prog pol NN call xpx (AV × Mem) (x71 hs u) (fun s => rec0 (s.sl 0) (s.sl 3) s.m s.fc) (setE 0 (fun s => x5t call hs u s.m s.fc) eNil) x48 = (fun s => xdj call hs u rec0 (s.sl 0) (s.sl 3) s.m s.fc) := by
  kernel_rfl
theorem x112 (call : FCall) (hs : FHs) (u : Nat) : ∀ n : Nat,
  iter (fun rec => fxK Try.prog pol NN call xpx (AV × Mem) (x71 hs u) rec (setE 0 (fun s => x5t call hs u s.m s.fc) eNil) x48) n = (fun s => x5u call hs u n (s.sl 0) (s.sl 3) s.m s.fc)
  | 0 => rfl
  | n + 1 => by rw [iter_succ, x112 call hs u n, x1s7 call hs u (x5u call hs u n)]; kernel_rfl
theorem x1s8 (call : FCall) (hs : FHs) (u : Nat) :
  fxK Try.prog pol NN call xpw (AV × Mem) (x71 hs u) (fun s => x5t call hs u s.m s.fc) (setE 0 (fun s => x5t call hs u s.m s.fc) eNil) x48 = (fun s => x5u call hs u NN (s.sl 0) (s.sl 3) s.m s.fc) := by
  rw [show xpw = .loop xpx from by kernel_rfl, loop_r, x112 call hs u NN]
theorem x1s9 (call : FCall) (hs : FHs) (u : Nat) :
  fxK Try.prog pol NN call xpv (AV × Mem) (x71 hs u) (fun s => x5t call hs u s.m s.fc) eNil x48 = (fun s => x5u call hs u NN (s.sl 0) (s.sl 3) s.m s.fc) := by
  rw [show xpv = .block 0 xpw from by kernel_rfl, block_r, x1s8 call hs u]
theorem x1sa (call : FCall) (hs : FHs) (u : Nat) :
  fxK Try.prog pol NN call xpu (AV × Mem) (x71 hs u) (fun s => x5t call hs u s.m s.fc) eNil x48 = (fun s => xdk call hs u (s.sl 0) s.m s.fc) := by
  rw [show xpu = .seq x1s5 xpv from by kernel_rfl, seq_r]; rw [x1s9 call hs u]; kernel_rfl
theorem x1sb (call : FCall) (hs : FHs) (u : Nat) :
  fxK Try.prog pol NN call xpt (AV × Mem) (x71 hs u) x48 eNil x48 = (fun s => xdk call hs u (s.sl 0) s.m s.fc) := by
  rw [show xpt = .seq xpu x111 from by kernel_rfl, seq_r, x1s6 call hs u, x1sa call hs u]
theorem x1sc (call : FCall) (hs : FHs) (u : Nat) :
  fxK Try.prog pol NN call xps (AV × Mem) (x71 hs u) x48 eNil x48 = (fun s => xg6 call hs u (s.sl 0) s.m s.fc) := by
  rw [show xps = .seq x1s4 xpt from by kernel_rfl, seq_r]; rw [x1sb call hs u]; kernel_rfl
theorem x1sd (call : FCall) (hs : FHs) (t0 : AV) (m : Mem) : fxBody Try.prog pol NN call hs x22 [t0] m = x92 call hs [t0] m := by
  rw [fxBody_at (fn := Try.f71) (body := xps) (nt := 23) (rs := [.tmp 2]) (by kernel_rfl) (by kernel_rfl) (by kernel_rfl) (by kernel_rfl) (by kernel_rfl) (by kernel_rfl)]
  exact (congrFun (x1sc call hs m.next) _).trans (by kernel_rfl)
theorem x14r (call : FCall) (hs : FHs) (args : List AV) (m : Mem) (r : AV × Mem) (h : x92 call hs args m = some r) : fxBody Try.prog pol NN call hs x22 args m = some r := by
  unfold x92 at h
  split at h
  · rw [x1sd]; exact h
  · cases h

/- swath/unwrap.sizeErr -/
abbrev x1se (hs : FHs) (u : Nat) : FCtx := { f := x4r, u := u, nt := 22, hs := hs }
noncomputable abbrev x113 : Fs → Option (AV × Mem) := fxRes Try.prog [.tmp 6]
noncomputable def x114 : Code := nav (bodyOf x4r) []
theorem x1sf (call : FCall) (hs : FHs) (u : Nat) :
  fxK Try.prog pol NN call x114 (AV × Mem) (x1se hs u) x113 eNil x113 = (fun s => xg7 call hs u (s.sl 0) (s.sl 1) (s.sl 2) s.m s.fc) := by
  kernel_rfl
theorem x1sg (call : FCall) (hs : FHs) (t0 t1 t2 : AV) (m : Mem) : fxBody Try.prog pol NN call hs x4r [t0, t1, t2] m = x93 call hs [t0, t1, t2] m := by
  rw [fxBody_at (fn := Try.f72) (body := x114) (nt := 22) (rs := [.tmp 6]) (by kernel_rfl) (by kernel_rfl) (by kernel_rfl) (by kernel_rfl) (by kernel_rfl) (by kernel_rfl)]
  exact (congrFun (x1sf call hs m.next) _).trans (by kernel_rfl)
theorem x14s (call : FCall) (hs : FHs) (args : List AV) (m : Mem) (r : AV × Mem) (h : x93 call hs args m = some r) : fxBody Try.prog pol NN call hs x4r args m = some r := by
  unfold x93 at h
  split at h
  · rw [x1sg]; exact h
  · cases h

/- swath/unwrap.phasesErr -/
abbrev x1sh (hs : FHs) (u : Nat) : FCtx := { f := x4s, u := u, nt := 9, hs := hs }
noncomputable abbrev x115 : Fs → Option (AV × Mem) := fxRes Try.prog [.tmp 4]
noncomputable def x116 : Code := nav (bodyOf x4s) []
theorem x1si (call : FCall) (hs : FHs) (u : Nat) :
  fxK Try.prog pol NN call x116 (AV × Mem) (x1sh hs u) x115 eNil x115 = (fun s => xg8 call hs u (s.sl 0) (s.sl 1) s.m s.fc) := by
  kernel_rfl
theorem x1sj (call : FCall) (hs : FHs) (t0 t1 : AV) (m : Mem) : fxBody Try.prog pol NN call hs x4s [t0, t1] m = x94 call hs [t0, t1] m := by
  rw [fxBody_at (fn := Try.f73) (body := x116) (nt := 9) (rs := [.tmp 4]) (by kernel_rfl) (by kernel_rfl) (by kernel_rfl) (by kernel_rfl) (by kernel_rfl) (by kernel_rfl)]
  exact (congrFun (x1si call hs m.next) _).trans (by kernel_rfl)
theorem x14t (call : FCall) (hs : FHs) (args : List AV) (m : Mem) (r : AV × Mem) (h : x94 call hs args m = some r) : fxBody Try.prog pol NN call hs x4s args m = some r := by
  unfold x94 at h
  split at h
  · rw [x1sj]; exact h
  · cases h

/- swath/unwrap.isWrapped -/
abbrev x1sk (hs : FHs) (u : Nat) : FCtx := { f := x4b, u := u, nt := 7, hs := hs }
noncomputable abbrev x117 : Fs → Option (AV × Mem) := fxRes Try.prog [.tmp 2]
noncomputable def x118 : Code := nav (bodyOf x4b) []
theorem x1sl (call : FCall) (hs : FHs) (u : Nat) :
  fxK Try.prog pol NN call x118 (AV × Mem) (x1sk hs u) x117 eNil x117 = (fun s => xg9 call hs u (s.sl 0) s.m s.fc) := by
  kernel_rfl
theorem x1sm (call : FCall) (hs : FHs) (t0 : AV) (m : Mem) : fxBody Try.prog pol NN call hs x4b [t0] m = x95 call hs [t0] m := by
  rw [fxBody_at (fn := Try.f74) (body := x118) (nt := 7) (rs := [.tmp 2]) (by kernel_rfl) (by kernel_rfl) (by kernel_rfl) (by kernel_rfl) (by kernel_rfl) (by kernel_rfl)]
  exact (congrFun (x1sl call hs m.next) _).trans (by kernel_rfl)
theorem x14u (call : FCall) (hs : FHs) (args : List AV) (m : Mem) (r : AV × Mem) (h : x95 call hs args m = some r) : fxBody Try.prog pol NN call hs x4b args m = some r := by
  unfold x95 at h
  split at h
  · rw [x1sm]; exact h
  · cases h

/- slices.Concat[[]int,int] -/
abbrev x1z (hs : FHs) (u : Nat) : FCtx := { f := xi, u := u, nt := 36, hs := hs }
noncomputable abbrev x14 : Fs → Option (AV × Mem) := fxRes Try.prog [.tmp 2]
noncomputable def xpy : Code := nav (bodyOf xi) []
noncomputable def x1sn : Code := nav (bodyOf xi) [false]
noncomputable def x119 : Code := nav (bodyOf xi) [true]
noncomputable def x1so : Code := nav (bodyOf xi) [true, false]
noncomputable def xpz : Code := nav (bodyOf xi) [true, true]
noncomputable def xq0 : Code := nav (bodyOf xi) [true, true, false]
noncomputable def xq1 : Code := nav (bodyOf xi) [true, true, true]
noncomputable def x1sp : Code := nav (bodyOf xi) [true, true, true, false]
noncomputable def xq2 : Code := nav (bodyOf xi) [true, true, true, true]
noncomputable def xq3 : Code := nav (bodyOf xi) [true, true, true, true, false]
noncomputable def x11a : Code := nav (bodyOf xi) [true, true, true, true, true]
noncomputable def x1sq : Code := nav (bodyOf xi) [true, true, true, true, false, false]
noncomputable def xq4 : Code := nav (bodyOf xi) [true, true, true, true, false, true]
noncomputable def xq5 : Code := nav (bodyOf xi) [true, true, true, true, false, true, false]
noncomputable def xq6 : Code := nav (bodyOf xi) [true, true, true, true, false, true, false, false]
noncomputable def x1sr : Code := nav (bodyOf xi) [true, true, false, false]
noncomputable def xq7 : Code := nav (bodyOf xi) [true, true, false, true]
noncomputable def xq8 : Code := nav (bodyOf xi) [true, true, false, true, false]
noncomputable def xf6 : Code := nav (bodyOf xi) [true, true, false, true, false, false]
noncomputable def x1ss : Code := nav (bodyOf xi) [true, true, false, true, false, false, false]
noncomputable def x11b : Code := nav (bodyOf xi) [true, true, false, true, false, false, true]
noncomputable def x1st : Code := nav (bodyOf xi) [true, true, false, true, false, false, true, false]
noncomputable def xq9 : Code := nav (bodyOf xi) [true, true, false, true, false, false, true, true]
noncomputable def x11c : Code := nav (bodyOf xi) [true, true, false, true, false, false, true, true, false]
noncomputable def x11d : Code := nav (bodyOf xi) [true, true, false, true, false, false, true, true, true]
theorem x1su (call : FCall) (hs : FHs) (u : Nat) :
  fxK Try.prog pol NN call x11a (AV × Mem) (x1z hs u) x14 eNil x14 = (fun s => x4j call hs u (s.sl 6) s.m s.fc) := by
  kernel_rfl
theorem x1sv (call : FCall) (hs : FHs) (u : Nat) (rec0 : AV → AV → AV → AV → Mem → Nat → Option (AV × Mem)) :
  fxK Try.prog pol NN call xq6 (AV × Mem) (x1z hs u) (fun s => rec0 (s.sl 6) (s.sl 25) (s.sl 26) (s.sl 27) s.m s.fc) (setE 2 (fun s => x4j call hs u (s.sl 6) s.m s.fc) eNil) x14 = (fun s => xdl call hs u rec0 (s.sl 6) (s.sl 25) (s.sl 26) (s.sl 27) s.m s.fc) := by
  kernel_rfl
theorem x11e (call : FCall) (hs : FHs) (u : Nat) : ∀ n : Nat,
  iter (fun rec => fxK Try.prog pol NN call xq6 (AV × Mem) (x1z hs u) rec (setE 2 (fun s => x4j call hs u (s.sl 6) s.m s.fc) eNil) x14) n = (fun s => x6i call hs u n (s.sl 6) (s.sl 25) (s.sl 26) (s.sl 27) s.m s.fc)
  | 0 => rfl
  | n + 1 => by rw [iter_succ, x11e call hs u n, x1sv call hs u (x6i call hs u n)]; kernel_rfl
theorem x1sw (call : FCall) (hs : FHs) (u : Nat) :
  fxK Try.prog pol NN call xq5 (AV × Mem) (x1z hs u) (fun s => x4j call hs u (s.sl 6) s.m s.fc) (setE 2 (fun s => x4j call hs u (s.sl 6) s.m s.fc) eNil) x14 = (fun s => x6i call hs u NN (s.sl 6) (s.sl 25) (s.sl 26) (s.sl 27) s.m s.fc) := by
  rw [show xq5 = .loop xq6 from by kernel_rfl, loop_r, x11e call hs u NN]
theorem x1sx (call : FCall) (hs : FHs) (u : Nat) :
  fxK Try.prog pol NN call xq4 (AV × Mem) (x1z hs u) (fun s => x4j call hs u (s.sl 6) s.m s.fc) eNil x14 = (fun s => x6i call hs u NN (s.sl 6) (s.sl 25) (s.sl 26) (s.sl 27) s.m s.fc) := by
  rw [show xq4 = .block 2 xq5 from by kernel_rfl, block_r, x1sw call hs u]
theorem x1sy (call : FCall) (hs : FHs) (u : Nat) :
  fxK Try.prog pol NN call xq3 (AV × Mem) (x1z hs u) (fun s => x4j call hs u (s.sl 6) s.m s.fc) eNil x14 = (fun s => xbq call hs u (s.sl 0) (s.sl 6) s.m s.fc) := by
  rw [show xq3 = .seq x1sq xq4 from by kernel_rfl, seq_r]; rw [x1sx call hs u]; kernel_rfl
theorem x1sz (call : FCall) (hs : FHs) (u : Nat) :
  fxK Try.prog pol NN call xq2 (AV × Mem) (x1z hs u) x14 eNil x14 = (fun s => xbq call hs u (s.sl 0) (s.sl 6) s.m s.fc) := by
  rw [show xq2 = .seq xq3 x11a from by kernel_rfl, seq_r, x1su call hs u, x1sy call hs u]
theorem x1t0 (call : FCall) (hs : FHs) (u : Nat) :
  fxK Try.prog pol NN call xq1 (AV × Mem) (x1z hs u) x14 eNil x14 = (fun s => x2w call hs u (s.sl 0) (s.sl 3) s.m s.fc) := by
  rw [show xq1 = .seq x1sp xq2 from by kernel_rfl, seq_r]; rw [x1sz call hs u]; kernel_rfl
theorem x1t1 (call : FCall) (hs : FHs) (u : Nat) (rec1 : AV → AV → AV → AV → AV → Mem → Nat → Option (AV × Mem)) :
  fxK Try.prog pol NN call x11d (AV × Mem) (x1z hs u) (fun s => rec1 (s.sl 0) (s.sl 3) (s.sl 9) (s.sl 10) (s.sl 11) s.m s.fc) (setE 0 (fun s => x2w call hs u (s.sl 0) (s.sl 3) s.m s.fc) eNil) x14 = (fun s => xdm call hs u rec1 (s.sl 0) (s.sl 3) (s.sl 9) (s.sl 10) (s.sl 11) s.m s.fc) := by
  kernel_rfl
theorem x1t2 (call : FCall) (hs : FHs) (u : Nat) (rec1 : AV → AV → AV → AV → AV → Mem → Nat → Option (AV × Mem)) :
  fxK Try.prog pol NN call x11c (AV × Mem) (x1z hs u) (fun s => xdm call hs u rec1 (s.sl 0) (s.sl 3) (s.sl 9) (s.sl 10) (s.sl 11) s.m s.fc) (setE 0 (fun s => x2w call hs u (s.sl 0) (s.sl 3) s.m s.fc) eNil) x14 = (fun s => xdn call hs u rec1 (s.sl 0) (s.sl 3) (s.sl 9) (s.sl 10) (s.sl 11) s.m s.fc) := by
  kernel_rfl
theorem x1t3 (call : FCall) (hs : FHs) (u : Nat) (rec1 : AV → AV → AV → AV → AV → Mem → Nat → Option (AV × Mem)) :
  fxK Try.prog pol NN call xq9 (AV × Mem) (x1z hs u) (fun s => rec1 (s.sl 0) (s.sl 3) (s.sl 9) (s.sl 10) (s.sl 11) s.m s.fc) (setE 0 (fun s => x2w call hs u (s.sl 0) (s.sl 3) s.m s.fc) eNil) x14 = (fun s => xdn call hs u rec1 (s.sl 0) (s.sl 3) (s.sl 9) (s.sl 10) (s.sl 11) s.m s.fc) := by
  rw [show xq9 = .seq x11c x11d from by kernel_rfl, seq_r, x1t1 call hs u rec1, x1t2 call hs u rec1]
theorem x1t4 (call : FCall) (hs : FHs) (u : Nat) (rec1 : AV → AV → AV → AV → AV → Mem → Nat → Option (AV × Mem)) :
  fxK Try.prog pol NN call xf6 (AV × Mem) (x1z hs u) (fun s => rec1 (s.sl 0) (s.sl 3) (s.sl 9) (s.sl 10) (s.sl 11) s.m s.fc) (setE 0 (fun s => x2w call hs u (s.sl 0) (s.sl 3) s.m s.fc) eNil) x14 = (fun s => xga call hs u rec1 (s.sl 0) (s.sl 3) (s.sl 9) (s.sl 10) (s.sl 11) s.m s.fc) := by
  rw [show xf6 = .seq x1ss x11b from by kernel_rfl, seq_r]; rw [show x11b = .seq x1st xq9 from by kernel_rfl, seq_r]; rw [x1t3 call hs u rec1]; kernel_rfl
theorem x11f (call : FCall) (hs : FHs) (u : Nat) : ∀ n : Nat,
  iter (fun rec => fxK Try.prog pol NN call xf6 (AV × Mem) (x1z hs u) rec (setE 0 (fun s => x2w call hs u (s.sl 0) (s.sl 3) s.m s.fc) eNil) x14) n = (fun s => x7w call hs u n (s.sl 0) (s.sl 3) (s.sl 9) (s.sl 10) (s.sl 11) s.m s.fc)
  | 0 => rfl
  | n + 1 => by rw [iter_succ, x11f call hs u n, x1t4 call hs u (x7w call hs u n)]; kernel_rfl
theorem x1t5 (call : FCall) (hs : FHs) (u : Nat) :
  fxK Try.prog pol NN call xq8 (AV × Mem) (x1z hs u) (fun s => x2w call hs u (s.sl 0) (s.sl 3) s.m s.fc) (setE 0 (fun s => x2w call hs u (s.sl 0) (s.sl 3) s.m s.fc) eNil) x14 = (fun s => x7w call hs u NN (s.sl 0) (s.sl 3) (s.sl 9) (s.sl 10) (s.sl 11) s.m s.fc) := by
  rw [show xq8 = .loop xf6 from by kernel_rfl, loop_r, x11f call hs u NN]
theorem x1t6 (call : FCall) (hs : FHs) (u : Nat) :
  fxK Try.prog pol NN call xq7 (AV × Mem) (x1z hs u) (fun s => x2w call hs u (s.sl 0) (s.sl 3) s.m s.fc) eNil x14 = (fun s => x7w call hs u NN (s.sl 0) (s.sl 3) (s.sl 9) (s.sl 10) (s.sl 11) s.m s.fc) := by
  rw [show xq7 = .block 0 xq8 from by kernel_rfl, block_r, x1t5 call hs u]
theorem x1t7 (call : FCall) (hs : FHs) (u : Nat) :
  fxK Try.prog pol NN call xq0 (AV × Mem) (x1z hs u) (fun s => x2w call hs u (s.sl 0) (s.sl 3) s.m s.fc) eNil x14 = (fun s => xdo call hs u (s.sl 0) (s.sl 3) s.m s.fc) := by
  rw [show xq0 = .seq x1sr xq7 from by kernel_rfl, seq_r]; rw [x1t6 call hs u]; kernel_rfl
theorem x1t8 (call : FCall) (hs : FHs) (u : Nat) :
  fxK Try.prog pol NN call xpz (AV × Mem) (x1z hs u) x14 eNil x14 = (fun s => xdo call hs u (s.sl 0) (s.sl 3) s.m s.fc) := by
  rw [show xpz = .seq xq0 xq1 from by kernel_rfl, seq_r, x1t0 call hs u, x1t7 call hs u]
theorem x1t9 (call : FCall) (hs : FHs) (u : Nat) :
  fxK Try.prog pol NN call xpy (AV × Mem) (x1z hs u) x14 eNil x14 = (fun s => xgb call hs u (s.sl 0) s.m s.fc) := by
  rw [show xpy = .seq x1sn x119 from by kernel_rfl, seq_r]; rw [show x119 = .seq x1so xpz from by kernel_rfl, seq_r]; rw [x1t8 call hs u]; kernel_rfl
theorem x1ta (call : FCall) (hs : FHs) (t0 : AV) (m : Mem) : fxBody Try.prog pol NN call hs xi [t0] m = x96 call hs [t0] m := by
  rw [fxBody_at (fn := Try.f75) (body := xpy) (nt := 36) (rs := [.tmp 2]) (by kernel_rfl) (by kernel_rfl) (by kernel_rfl) (by kernel_rfl) (by kernel_rfl) (by kernel_rfl)]
  exact (congrFun (x1t9 call hs m.next) _).trans (by kernel_rfl)
theorem x14v (call : FCall) (hs : FHs) (args : List AV) (m : Mem) (r : AV × Mem) (h : x96 call hs args m = some r) : fxBody Try.prog pol NN call hs xi args m = some r := by
  unfold x96 at h
  split at h
  · rw [x1ta]; exact h
  · cases h

/- swath/unwrap.isWeight -/
abbrev x1tb (hs : FHs) (u : Nat) : FCtx := { f := x4t, u := u, nt := 5, hs := hs }
noncomputable abbrev x11g : Fs → Option (AV × Mem) := fxRes Try.prog [.tmp 2]
noncomputable def x11h : Code := nav (bodyOf x4t) []
theorem x1tc (call : FCall) (hs : FHs) (u : Nat) :
  fxK Try.prog pol NN call x11h (AV × Mem) (x1tb hs u) x11g eNil x11g = (fun s => xgc call hs u (s.sl 0) s.m s.fc) := by
  kernel_rfl
theorem x1td (call : FCall) (hs : FHs) (t0 : AV) (m : Mem) : fxBody Try.prog pol NN call hs x4t [t0] m = x97 call hs [t0] m := by
  rw [fxBody_at (fn := Try.f76) (body := x11h) (nt := 5) (rs := [.tmp 2]) (by kernel_rfl) (by kernel_rfl) (by kernel_rfl) (by kernel_rfl) (by kernel_rfl) (by kernel_rfl)]
  exact (congrFun (x1tc call hs m.next) _).trans (by kernel_rfl)
theorem x14w (call : FCall) (hs : FHs) (args : List AV) (m : Mem) (r : AV × Mem) (h : x97 call hs args m = some r) : fxBody Try.prog pol NN call hs x4t args m = some r := by
  unfold x97 at h
  split at h
  · rw [x1td]; exact h
  · cases h

/- swath/swathref05.edge -/
abbrev x1te (hs : FHs) (u : Nat) : FCtx := { f := x4u, u := u, nt := 42, hs := hs }
noncomputable abbrev x11i : Fs → Option (AV × Mem) := fxRes Try.prog [.cell 8 x9s, .tmp 9]
noncomputable def x11j : Code := nav (bodyOf x4u) []
theorem x1tf (call : FCall) (hs : FHs) (u : Nat) :
  fxK Try.prog pol NN call x11j (AV × Mem) (x1te hs u) x11i eNil x11i = (fun s => xgd call hs u (s.sl 0) (s.sl 1) (s.sl 2) (s.sl 3) s.m s.fc) := by
  kernel_rfl
theorem x1tg (call : FCall) (hs : FHs) (t0 t1 t2 t3 : AV) (m : Mem) : fxBody Try.prog pol NN call hs x4u [t0, t1, t2, t3] m = x98 call hs [t0, t1, t2, t3] m := by
  rw [fxBody_at (fn := Try.f77) (body := x11j) (nt := 42) (rs := [.cell 8 x9s, .tmp 9]) (by kernel_rfl) (by kernel_rfl) (by kernel_rfl) (by kernel_rfl) (by kernel_rfl) (by kernel_rfl)]
  exact (congrFun (x1tf call hs m.next) _).trans (by kernel_rfl)
theorem x14x (call : FCall) (hs : FHs) (args : List AV) (m : Mem) (r : AV × Mem) (h : x98 call hs args m = some r) : fxBody Try.prog pol NN call hs x4u args m = some r := by
  unfold x98 at h
  split at h
  · rw [x1tg]; exact h
  · cases h

/- swath/unwrap.within -/
abbrev x1th (hs : FHs) (u : Nat) : FCtx := { f := x1l, u := u, nt := 15, hs := hs }
noncomputable abbrev x11k : Fs → Option (AV × Mem) := fxRes Try.prog [.tmp 6]
noncomputable def x11l : Code := nav (bodyOf x1l) []
theorem x1ti (call : FCall) (hs : FHs) (u : Nat) :
  fxK Try.prog pol NN call x11l (AV × Mem) (x1th hs u) x11k eNil x11k = (fun s => xge call hs u (s.sl 0) (s.sl 1) (s.sl 2) s.m s.fc) := by
  kernel_rfl
theorem x1tj (call : FCall) (hs : FHs) (t0 t1 t2 : AV) (m : Mem) : fxBody Try.prog pol NN call hs x1l [t0, t1, t2] m = x86 call hs [t0, t1, t2] m := by
  rw [fxBody_at (fn := Try.f78) (body := x11l) (nt := 15) (rs := [.tmp 6]) (by kernel_rfl) (by kernel_rfl) (by kernel_rfl) (by kernel_rfl) (by kernel_rfl) (by kernel_rfl)]
  exact (congrFun (x1ti call hs m.next) _).trans (by kernel_rfl)
theorem x138 (call : FCall) (hs : FHs) (args : List AV) (m : Mem) (r : AV × Mem) (h : x86 call hs args m = some r) : fxBody Try.prog pol NN call hs x1l args m = some r := by
  unfold x86 at h
  split at h
  · rw [x1tj]; exact h
  · cases h

end Go.Ix
