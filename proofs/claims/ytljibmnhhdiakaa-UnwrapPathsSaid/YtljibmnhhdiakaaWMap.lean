import Derived.Test.YtljibmnhhdiakaaWBase2
import Derived.Test.YtljibmnhhdiakaaWCopy
set_option linter.unusedSimpArgs false
namespace Go.Ix
open Go.Proofs
abbrev void : Int := 1000000000000
def x1g4 (r c n : Int) : Int := bif !(wi r 1 64) || !(wi c 1 64) then 2 else bif !decide (n = r * c) then 10 else 0
theorem x1ja {r c : Int} (h1 : wi r 1 64 = true) (h2 : wi c 1 64 = true) : 1 ≤ r * c ∧ r * c ≤ 4096 := by
  have a := wi_t h1
  have b := wi_t h2
  have := Int.mul_le_mul a.2 b.2 (by omega) (by omega)
  have := Int.mul_le_mul a.1 b.1 (by omega) (by omega)
  omega
theorem x1qx (d : Nat) (r c n : Int) (m : Mem) : x1e8 (x1e6 (d + 2)) x37 [I r, I c, I n] m = some (I (x1g4 r c n), m) := by
  refine Ans.call0 ?_ rfl rfl
  unfold Ans
  rw [xs2]
  unfold x74 xe8
  simp [mem0, x1lz]
  cases c1 : wi r 1 64
  · simp [x1g4, c1]
  simp [x1lz]
  cases c2 : wi c 1 64
  · simp [x1g4, c1, c2]
  have := x1ja c1 c2
  simp (disch := omega) [x1g4, c1, c2]
  by_cases c3 : n = r * c <;> simp [c3]
theorem x1sy (d : Nat) (r c n : Int) (m : Mem) : x1e8 (x1e6 (d + 2)) x35 [I r, I c, I n] m = some (I (x1g4 r c n), m) := by
  refine Ans.call0 ?_ rfl rfl
  unfold Ans
  rw [xs0]
  unfold x72 xe6
  simp [mem0, x1l4]
  cases c1 : wi r 1 64
  · simp [x1g4, c1]
  simp [x1l4]
  cases c2 : wi c 1 64
  · simp [x1g4, c1, c2]
  have := x1ja c1 c2
  simp (disch := omega) [x1g4, c1, c2]
  by_cases c3 : n = r * c <;> simp [c3]
def x1fu (x : Int) : Int := (x + 2048) % 4096 - 2048
theorem x1iu (x : Int) : -2048 ≤ x1fu x ∧ x1fu x ≤ 2047 := by unfold x1fu; omega
theorem x1ma (d : Nat) (x : Int) (m : Mem) : x1e8 (x1e6 (d + 1)) x21 [I x] m = some (I (x1fu x), m) := by
  refine Ans.call0 ?_ rfl rfl
  unfold Ans
  rw [xse]
  unfold x6d xeo xab
  have h3 : x.tmod 4096 = if 0 ≤ x ∨ (4096 : Int) ∣ x then x % 4096 else x % 4096 - 4096 := by
    have := Int.tmod_eq_emod (a := x) (b := 4096)
    rw [this]
    split <;> omega
  have h6 : (x.tmod 4096 + 4096).tmod 4096 = x % 4096 := by
    rw [Int.tmod_eq_emod_of_nonneg (by rw [h3]; split <;> omega), h3]
    split <;> omega
  have h7 : -4096 ≤ x.tmod 4096 ∧ x.tmod 4096 ≤ 4096 := by rw [h3]; split <;> omega
  simp (disch := omega) [mem0, x1l0, h6]
  by_cases c : 2048 ≤ x % 4096
  · simp (disch := omega) [c, x5o]
    unfold x1fu; omega
  · simp [c, x5o]
    unfold x1fu; omega
theorem x1jb (d : Nat) (x : Int) (m : Mem) : x1e8 (x1e6 (d + 1)) xt [I x] m = some (B (decide (x = void)), m) := by
  refine Ans.call0 ?_ rfl rfl
  unfold Ans
  rw [xsb]
  unfold x6e xek
  simp [mem0]
def isW (x : Int) : Bool := wi x (-2048) 2047
theorem isW_wrap (x : Int) : decide (x = x1fu x) = isW x := by
  unfold isW wi x1fu
  by_cases h : -2048 ≤ x ∧ x ≤ 2047
  · rw [decide_eq_true h, decide_eq_true (by omega)]
  · rw [decide_eq_false h, decide_eq_false (by omega)]
theorem x1qy (d : Nat) (x : Int) (m : Mem) : x1e8 (x1e6 (d + 2)) x48 [I x] m = some (B (isW x), m) := by
  refine Ans.call0 ?_ rfl rfl
  unfold Ans
  rw [xsl]
  unfold x7o xez
  simp [mem0, x1l4, isW]
def Tell1 (call : x1e5) (f : AV) (p : Int → Bool) : Prop := ∀ (hs : FHs) (x : Int) (m : Mem), ∃ n, x1fj call hs 2 f [I x] m = some (B (p x), ⟨m.hp, n⟩)
theorem x1qz (d : Nat) : Tell1 (x1e6 (d + 2)) (.clo x28 []) isW := by
  intro hs x m
  refine ⟨m.next + 1, ?_⟩
  show x1e6 (d + 2) hs x28 [I x] m = _
  rw [xs4]
  unfold x76 xea
  simp [x1ma, isW_wrap]
def badP (p : Int → Bool) (x : Int) : Bool := !decide (x = void) && !(p x)
def x1fr (p : Int → Bool) (l : List Int) : Int := bif l.any (badP p) then 2 else 0
def x1gd (p : Int → Bool) (r c : Int) (l : List Int) : Int := bif decide (x1g4 r c l.length = 0) then x1fr p l else x1g4 r c l.length
theorem x1sz (d : Nat) {f : AV} {p : Int → Bool} (hf : Tell1 (x1e6 (d + 1)) f p) (id : Id) : x1ns (x1e6 (d + 2)) (.clo x3e [.ptr id 0 0]) id (.row [f] 0 false) (badP p) := by
  intro hs x m hg
  obtain ⟨n, h⟩ := hf hs x ⟨m.hp, m.next + 1⟩
  have hg2 : (⟨m.hp, m.next + 1⟩ : Mem).get id = some (.row [f] 0 false) := hg
  have key : ∃ n, x1e6 (d + 2) hs x3e [I x, .ptr id 0 0] m = some (B (badP p x), ⟨m.hp, n⟩) := by
    rw [xsm]
    unfold x7p xf0
    simp only [x1jb, x1ea, sNot_B]
    by_cases c : x = void
    · exact ⟨m.next + 1, by simp [c, badP]⟩
    · refine ⟨n, ?_⟩
      simp [c, badP, hg2, h]
  exact key
theorem x1r0 (d : Nat) {f a : AV} {p : Int → Bool} {r c : Int} {l : List Int} (hf : Tell1 (x1e6 (d + 1)) f p) (h1 : f.cells = [f]) (h2 : f.one = true) (h3 : still f = true) (ha : Ints a l) (hl : l.length < 1000000) (m : Mem) :
    x1e8 (x1e6 (d + 5)) x38 [.agg [I r, I c, a], f] m = some (I (x1fr p l), m) := by
  refine Ans.call0 ?_ (by simp [ha.still1, h3]) rfl
  unfold Ans
  rw [xs3]
  unfold x75 xe9
  obtain ⟨n, h⟩ := x1sj (d + 2) [] ha hl (x1sz d hf (0, 1, 3)) (((⟨[], 1⟩ : Mem).new (0, 0, 2) (.row [I r, I c, a] 0 false)).new (0, 1, 3) (.row [f] 0 false)) (by simp)
  simp [mem0, ha.one, h1, h2, h]
  unfold x1fr
  cases l.any (badP p) <;> simp
theorem w_mapErr (d : Nat) {f a : AV} {p : Int → Bool} {r c : Int} {l : List Int} (hf : Tell1 (x1e6 (d + 1)) f p) (h1 : f.cells = [f]) (h2 : f.one = true) (h3 : still f = true) (ha : Ints a l) (hl : l.length < 1000000) (m : Mem) :
    x1e8 (x1e6 (d + 6)) x45 [.agg [I r, I c, a], f] m = some (I (x1gd p r c l), m) := by
  refine Ans.call0 ?_ (by simp [ha.still1, h3]) rfl
  unfold Ans
  rw [xsc]
  unfold x7d xem
  simp [mem0, ha.one, ha.len x1ej, x1qx]
  by_cases e : x1g4 r c l.length = 0
  · simp [e, x1gd, x1r0 d hf h1 h2 h3 ha hl]
  · simp [e, x1gd]
theorem x1t0 (p : Int → Bool) (x : Int) (r : List Int) : x1fr p (x :: r) = bif badP p x then 2 else x1fr p r := by
  unfold x1fr
  rw [List.any_cons]
  cases badP p x <;> rfl
theorem x1t1 (d : Nat) (hs : FHs) {a : AV} {l : List Int} (h : Ints a l) (hb : l.length ≤ 1000000) : ∀ (suf : List Int) (k j : Nat) (m : Mem) (fc : Nat), l.drop k = suf → suf.length < j →
    ∃ m', x2n (x1e6 (d + 2)) hs 0 j a (I k) m fc = some (I (x1fr isW suf), m') := by
  intro suf
  induction suf with
  | nil =>
    intro k j m fc hd hj
    obtain ⟨j, rfl⟩ : ∃ i, j = i + 1 := ⟨j - 1, by simp at hj; omega⟩
    have hk : ¬ ((k : Int) < (l.length : Int)) := by have := List.drop_eq_nil_iff.mp hd; omega
    simp only [x2n]
    unfold xa0
    simp [h.len x1ej, hk, x3r, x1fr]
  | cons x r ih =>
    intro k j m fc hd hj
    obtain ⟨j, rfl⟩ : ∃ i, j = i + 1 := ⟨j - 1, by simp at hj; omega⟩
    obtain ⟨hk, hke, hd⟩ := x1fp hd
    have hk' : (k : Int) < (l.length : Int) := by omega
    have ix := h.ix x1et hk
    have e1 : at0 l k = x := by rw [x1eu hk, hke]
    have ih' := fun m fc => ih (k + 1) j m fc hd (by simp at hj; omega)
    simp only [x2n, x1t0]
    unfold xa0
    simp (disch := omega) [h.len x1ej, hk', ix, x1f5, e1]
    by_cases c1 : x = void
    · simp (disch := omega) [c1, badP]
      exact ih' _ _
    cases c : isW x
    · simp (disch := omega) [c1, c, x1qy, badP, ix, x1f5, e1]
    · simp (disch := omega) [c1, c, x1qy, badP, ix, x1f5, e1]
      exact ih' _ _
theorem x1t2 (d : Nat) {a : AV} {l : List Int} (h : Ints a l) (hl : l.length ≤ 1000000) (m : Mem) : x1e8 (x1e6 (d + 3)) x36 [a] m = some (I (x1fr isW l), m) := by
  refine Ans.call0 ?_ (by simp [h.still]) rfl
  unfold Ans
  rw [xs1]
  unfold x73 xe7 xa1
  simp [mem0]
  exact x1t1 d [] h hl l 0 NN _ _ rfl (by rw [x1f2]; omega)
theorem x1kb : xl = [I 0, I 0, nilS] := by kernel_rfl
theorem x1r1 (d : Nat) {a : AV} {r c : Int} {l : List Int} (h : Ints a l) (hl : l.length ≤ 1000000) (m : Mem) : ∃ a', Ints a' l ∧ x1e8 (x1e6 (d + 2)) x27 [.agg [I r, I c, a]] m = some (.agg [I r, I c, a'], m) := by
  obtain ⟨a', ha', hc⟩ := x1m4 d h hl (((⟨[], 1⟩ : Mem).new (0, 0, 1) (.row [I r, I c, a] 0 false)).new (0, 1, 2) (.row [I 0, I 0, nilS] 0 false))
  refine ⟨a', ha', Ans.call0 ?_ (by simp [h.still1]) (by simp [ha'.still1])⟩
  unfold Ans
  rw [xrv]
  unfold x6t xdt
  simp [mem0, h.one, x1kb, hc, x1el, x1fs, sLdP, h.clean, ha'.cells, ha'.one]
end Go.Ix
