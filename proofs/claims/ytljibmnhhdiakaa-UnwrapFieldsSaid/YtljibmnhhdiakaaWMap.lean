/- Maps of phases: their errors, wrapped phases, and the phases along a path. -/
import Derived.Test.YtljibmnhhdiakaaWBase2
import Derived.Test.YtljibmnhhdiakaaWCopy
set_option linter.unusedSimpArgs false
namespace Go.Ix
open Go.Proofs

abbrev void : Int := 1000000000000
/-- The error of a map's size. -/
def sizeM (r c n : Int) : Int := bif !(wi r 1 64) || !(wi c 1 64) then 2 else bif !decide (n = r * c) then 10 else 0
theorem mul64 {r c : Int} (h1 : wi r 1 64 = true) (h2 : wi c 1 64 = true) : 1 ≤ r * c ∧ r * c ≤ 4096 := by
  have a := wi_t h1
  have b := wi_t h2
  have := Int.mul_le_mul a.2 b.2 (by omega) (by omega)
  have := Int.mul_le_mul a.1 b.1 (by omega) (by omega)
  omega
theorem w_sizeErr (d : Nat) (r c n : Int) (m : Mem) : sCall0 (callE (d + 2)) x4r [I r, I c, I n] m = some (I (sizeM r c n), m) := by
  refine Ans.call0 ?_ rfl rfl
  unfold Ans
  rw [x12e]
  unfold x93 xg7
  simp [mem0, w_within]
  cases c1 : wi r 1 64
  · simp [sizeM, c1]
  simp [w_within]
  cases c2 : wi c 1 64
  · simp [sizeM, c1, c2]
  have := mul64 c1 c2
  simp (disch := omega) [sizeM, c1, c2]
  by_cases c3 : n = r * c <;> simp [c3]
theorem w_rSizeErr (d : Nat) (r c n : Int) (m : Mem) : sCall0 (callE (d + 2)) x4q [I r, I c, I n] m = some (I (sizeM r c n), m) := by
  refine Ans.call0 ?_ rfl rfl
  unfold Ans
  rw [x12c]
  unfold x91 xg5
  simp [mem0, w_Within]
  cases c1 : wi r 1 64
  · simp [sizeM, c1]
  simp [w_Within]
  cases c2 : wi c 1 64
  · simp [sizeM, c1, c2]
  have := mul64 c1 c2
  simp (disch := omega) [sizeM, c1, c2]
  by_cases c3 : n = r * c <;> simp [c3]

/-- A phase, wrapped. -/
def wrapM (x : Int) : Int := (x + 2048) % 4096 - 2048
theorem wrapM_in (x : Int) : -2048 ≤ wrapM x ∧ wrapM x ≤ 2047 := by unfold wrapM; omega
theorem w_Mod (d : Nat) {x y : Int} (h1 : 0 < y) (h2 : y ≤ 1000000000000) (m : Mem) : sCall0 (callE (d + 1)) x28 [I x, I y] m = some (I (x % y), m) := by
  refine Ans.call0 ?_ rfl rfl
  unfold Ans
  rw [x12v]
  unfold x9g xgu xdy
  have h3 : x.tmod y = if 0 ≤ x ∨ y ∣ x then x % y else x % y - y := by
    have := Int.tmod_eq_emod (a := x) (b := y)
    rw [this]
    split <;> omega
  have h4 := Int.emod_nonneg x (show y ≠ 0 by omega)
  have h5 := Int.emod_lt_of_pos x h1
  simp [mem0, sRem_I (show y ≠ 0 by omega)]
  rw [h3]
  split
  · rename_i h
    simp [xa4, show ¬ (x % y < 0) by omega]
  · rename_i h
    have : x % y - y < 0 := by omega
    simp (disch := omega) [xa4, this]
theorem w_Wrapped (d : Nat) {x : Int} (h1 : -1000000000000000 ≤ x) (h2 : x ≤ 1000000000000000) (m : Mem) : sCall0 (callE (d + 2)) x4z [I x] m = some (I (wrapM x), m) := by
  refine Ans.call0 ?_ rfl rfl
  unfold Ans
  rw [x132]
  unfold x9m xh6
  simp (disch := omega) [mem0, w_Mod d (show (0 : Int) < 4096 by omega) (by omega), wrapM]
theorem w_wrapped (d : Nat) (x : Int) (m : Mem) : sCall0 (callE (d + 1)) x24 [I x] m = some (I (wrapM x), m) := by
  refine Ans.call0 ?_ rfl rfl
  unfold Ans
  rw [x12p]
  unfold x87 xgo xds
  have h3 : x.tmod 4096 = if 0 ≤ x ∨ (4096 : Int) ∣ x then x % 4096 else x % 4096 - 4096 := by
    have := Int.tmod_eq_emod (a := x) (b := 4096)
    rw [this]
    split <;> omega
  have h6 : (x.tmod 4096 + 4096).tmod 4096 = x % 4096 := by
    rw [Int.tmod_eq_emod_of_nonneg (by rw [h3]; split <;> omega), h3]
    split <;> omega
  have h7 : -4096 ≤ x.tmod 4096 ∧ x.tmod 4096 ≤ 4096 := by rw [h3]; split <;> omega
  simp (disch := omega) [mem0, sRem_I, h6]
  by_cases c : 2048 ≤ x % 4096
  · simp (disch := omega) [c, xa3]
    unfold wrapM; omega
  · simp [c, xa3]
    unfold wrapM; omega
theorem w_isVoid (d : Nat) (x : Int) (m : Mem) : sCall0 (callE (d + 1)) x27 [I x] m = some (B (decide (x = void)), m) := by
  refine Ans.call0 ?_ rfl rfl
  unfold Ans
  rw [x12m]
  unfold x88 xgl
  simp [mem0]
/-- Whether a phase is wrapped. -/
def isW (x : Int) : Bool := wi x (-2048) 2047
theorem isW_wrap (x : Int) : decide (x = wrapM x) = isW x := by
  unfold isW wi wrapM
  by_cases h : -2048 ≤ x ∧ x ≤ 2047
  · rw [decide_eq_true h, decide_eq_true (by omega)]
  · rw [decide_eq_false h, decide_eq_false (by omega)]
theorem w_IsWrapped (d : Nat) (x : Int) (m : Mem) : sCall0 (callE (d + 2)) x6g [I x] m = some (B (isW x), m) := by
  refine Ans.call0 ?_ rfl rfl
  unfold Ans
  rw [x130]
  unfold x9k xh4
  simp [mem0, w_Within, isW]
/-- A function value that tells a property of one number, whatever memory is. -/
def Tell1 (call : FCall) (f : AV) (p : Int → Bool) : Prop := ∀ (hs : FHs) (x : Int) (m : Mem), ∃ n, fxInv call hs 2 f [I x] m = some (B (p x), ⟨m.hp, n⟩)
theorem tell_isWrapped (d : Nat) : Tell1 (callE (d + 2)) (.clo x4b []) isW := by
  intro hs x m
  refine ⟨m.next + 1, ?_⟩
  show callE (d + 2) hs x4b [I x] m = _
  rw [x12g]
  unfold x95 xg9
  simp [w_wrapped, isW_wrap]
/-- Whether a phase that is not void is wrong. -/
def badP (p : Int → Bool) (x : Int) : Bool := !decide (x = void) && !(p x)
def phasesM (p : Int → Bool) (l : List Int) : Int := bif l.any (badP p) then 2 else 0
def mapM1 (p : Int → Bool) (r c : Int) (l : List Int) : Int := bif decide (sizeM r c l.length = 0) then phasesM p l else sizeM r c l.length

theorem tells_phasesErr (d : Nat) {f : AV} {p : Int → Bool} (hf : Tell1 (callE (d + 1)) f p) (id : Id) : TellsAt (callE (d + 2)) (.clo x4y [.ptr id 0 0]) id (.row [f] 0 false) (badP p) := by
  intro hs x m hg
  obtain ⟨n, h⟩ := hf hs x ⟨m.hp, m.next + 1⟩
  have hg2 : (⟨m.hp, m.next + 1⟩ : Mem).get id = some (.row [f] 0 false) := hg
  have key : ∃ n, callE (d + 2) hs x4y [I x, .ptr id 0 0] m = some (B (badP p x), ⟨m.hp, n⟩) := by
    rw [x131]
    unfold x9l xh5
    simp only [w_isVoid, bind_s, sNot_B]
    by_cases c : x = void
    · exact ⟨m.next + 1, by simp [c, badP]⟩
    · refine ⟨n, ?_⟩
      simp [c, badP, hg2, h]
  exact key
theorem w_phasesErr (d : Nat) {f a : AV} {p : Int → Bool} {r c : Int} {l : List Int} (hf : Tell1 (callE (d + 1)) f p) (h1 : f.cells = [f]) (h2 : f.one = true) (h3 : still f = true) (ha : Ints a l) (hl : l.length < 1000000) (m : Mem) :
    sCall0 (callE (d + 5)) x4s [.agg [I r, I c, a], f] m = some (I (phasesM p l), m) := by
  refine Ans.call0 ?_ (by simp [ha.still1, h3]) rfl
  unfold Ans
  rw [x12f]
  unfold x94 xg8
  obtain ⟨n, h⟩ := w_ContainsFuncAt (d + 2) [] ha hl (tells_phasesErr d hf (0, 1, 3)) (((⟨[], 1⟩ : Mem).new (0, 0, 2) (.row [I r, I c, a] 0 false)).new (0, 1, 3) (.row [f] 0 false)) (by simp)
  simp [mem0, ha.one, h1, h2, h]
  unfold phasesM
  cases l.any (badP p) <;> simp
theorem w_mapErr (d : Nat) {f a : AV} {p : Int → Bool} {r c : Int} {l : List Int} (hf : Tell1 (callE (d + 1)) f p) (h1 : f.cells = [f]) (h2 : f.one = true) (h3 : still f = true) (ha : Ints a l) (hl : l.length < 1000000) (m : Mem) :
    sCall0 (callE (d + 6)) x6b [.agg [I r, I c, a], f] m = some (I (mapM1 p r c l), m) := by
  refine Ans.call0 ?_ (by simp [ha.still1, h3]) rfl
  unfold Ans
  rw [x12n]
  unfold x9a xgm
  simp [mem0, ha.one, ha.len u_ints, w_sizeErr]
  by_cases e : sizeM r c l.length = 0
  · simp [e, mapM1, w_phasesErr d hf h1 h2 h3 ha hl]
  · simp [e, mapM1]

theorem phasesM_cons (p : Int → Bool) (x : Int) (r : List Int) : phasesM p (x :: r) = bif badP p x then 2 else phasesM p r := by
  unfold phasesM
  rw [List.any_cons]
  cases badP p x <;> rfl
theorem l_wrappedErr (d : Nat) (hs : FHs) {a : AV} {l : List Int} (h : Ints a l) (hb : l.length ≤ 1000000) : ∀ (suf : List Int) (k j : Nat) (m : Mem) (fc : Nat), l.drop k = suf → suf.length < j →
    ∃ m', x5u (callE (d + 2)) hs 0 j a (I k) m fc = some (I (phasesM isW suf), m') := by
  intro suf
  induction suf with
  | nil =>
    intro k j m fc hd hj
    obtain ⟨j, rfl⟩ : ∃ i, j = i + 1 := ⟨j - 1, by simp at hj; omega⟩
    have hk : ¬ ((k : Int) < (l.length : Int)) := by have := List.drop_eq_nil_iff.mp hd; omega
    simp only [x5u]
    unfold xdj
    simp [h.len u_ints, hk, x5t, phasesM]
  | cons x r ih =>
    intro k j m fc hd hj
    obtain ⟨j, rfl⟩ : ∃ i, j = i + 1 := ⟨j - 1, by simp at hj; omega⟩
    obtain ⟨hk, hke, hd⟩ := drop_cons hd
    have hk' : (k : Int) < (l.length : Int) := by omega
    have ix := h.ix intE_len hk
    have e1 : at0 l k = x := by rw [at0_lt hk, hke]
    have ih' := fun m fc => ih (k + 1) j m fc hd (by simp at hj; omega)
    simp only [x5u, phasesM_cons]
    unfold xdj
    simp (disch := omega) [h.len u_ints, hk', ix, ld_int, e1]
    by_cases c1 : x = void
    · simp (disch := omega) [c1, badP]
      exact ih' _ _
    cases c : isW x
    · simp (disch := omega) [c1, c, w_IsWrapped, badP, ix, ld_int, e1]
    · simp (disch := omega) [c1, c, w_IsWrapped, badP, ix, ld_int, e1]
      exact ih' _ _
theorem w_wrappedErr (d : Nat) {a : AV} {l : List Int} (h : Ints a l) (hl : l.length ≤ 1000000) (m : Mem) : sCall0 (callE (d + 3)) x22 [a] m = some (I (phasesM isW l), m) := by
  refine Ans.call0 ?_ (by simp [h.still]) rfl
  unfold Ans
  rw [x12d]
  unfold x92 xg6 xdk
  simp [mem0]
  exact l_wrappedErr d [] h hl l 0 NN _ _ rfl (by rw [NN_eq]; omega)
theorem w_WrappedErr (d : Nat) {a : AV} {r c : Int} {l : List Int} (h : Ints a l) (hl : l.length ≤ 1000000) (m : Mem) : sCall0 (callE (d + 4)) x68 [.agg [I r, I c, a]] m = some (I (mapM1 isW r c l), m) := by
  refine Ans.call0 ?_ (by simp [h.still1]) rfl
  unfold Ans
  rw [x121]
  unfold x8q xfq
  simp [mem0, h.one, h.len u_ints, w_rSizeErr]
  by_cases e : sizeM r c l.length = 0
  · simp [e, mapM1, w_wrappedErr d h hl]
  · simp [e, mapM1]

theorem z_map : x2h = [I 0, I 0, nilS] := by kernel_rfl
theorem w_CopyMap (d : Nat) {a : AV} {r c : Int} {l : List Int} (h : Ints a l) (hl : l.length ≤ 1000000) (m : Mem) : ∃ a', Ints a' l ∧ sCall0 (callE (d + 2)) x3d [.agg [I r, I c, a]] m = some (.agg [I r, I c, a'], m) := by
  obtain ⟨a', ha', hc⟩ := w_CopyInts d h hl (((⟨[], 1⟩ : Mem).new (0, 0, 1) (.row [I r, I c, a] 0 false)).new (0, 1, 2) (.row [I 0, I 0, nilS] 0 false))
  refine ⟨a', ha', Ans.call0 ?_ (by simp [h.still1]) (by simp [ha'.still1])⟩
  unfold Ans
  rw [x120]
  unfold x8p xfp
  simp [mem0, h.one, z_map, hc, sBuild, sFill, sLdP, h.clean, ha'.cells, ha'.one]

end Go.Ix
