import Derived.Test.YtljibmnhhdiakaaWConcat
import Derived.Test.YtljibmnhhdiakaaWAlong
set_option linter.unusedSimpArgs false
set_option linter.unusedVariables false
namespace Go.Ix
open Go.Proofs
def x1hh (l : List Int) : Int := bif l.any (fun x => !(wi x 0 1000)) then 2 else 0
def x1fo (r c : Int) (ph ac dn : List Int) : Int :=
  bif !decide (x1g4 r c ph.length = 0) then x1g4 r c ph.length
  else bif decide (144 < (ph.length : Int)) then 8
  else bif !decide (x1fr isW ph = 0) then x1fr isW ph
  else bif !decide ((ac.length : Int) = r * (c - 1)) || !decide ((dn.length : Int) = (r - 1) * c) then 10
  else x1hh (ac ++ dn)
theorem x1of (x : Int) (r : List Int) : x1hh (x :: r) = bif !(wi x 0 1000) then 2 else x1hh r := by
  unfold x1hh
  rw [List.any_cons]
  cases wi x 0 1000 <;> rfl
theorem x1t4 (d : Nat) (hs : FHs) {a : AV} {l : List Int} (h : Ints a l) (hb : l.length ≤ 1000000) : ∀ (suf : List Int) (k j : Nat) (m : Mem) (fc : Nat), l.drop k = suf → suf.length < j →
    ∃ m', x2j (x1e6 (d + 2)) hs 0 j a (I l.length) (I k) m fc = some (I (x1hh suf), m') := by
  intro suf
  induction suf with
  | nil =>
    intro k j m fc hd hj
    obtain ⟨j, rfl⟩ : ∃ i, j = i + 1 := ⟨j - 1, by simp at hj; omega⟩
    have hk : ¬ ((k : Int) < (l.length : Int)) := by have := List.drop_eq_nil_iff.mp hd; omega
    simp only [x2j]
    unfold x9c
    simp [hk, x3n, x1hh]
  | cons x r ih =>
    intro k j m fc hd hj
    obtain ⟨j, rfl⟩ : ∃ i, j = i + 1 := ⟨j - 1, by simp at hj; omega⟩
    obtain ⟨hk, hke, hd⟩ := x1fp hd
    have hk' : (k : Int) < (l.length : Int) := by omega
    have ix := h.ix x1et hk
    have e1 : at0 l k = x := by rw [x1eu hk, hke]
    have ih' := fun m fc => ih (k + 1) j m fc hd (by simp at hj; omega)
    simp only [x2j, x1of]
    unfold x9c
    simp (disch := omega) [hk', ix, x1f5, e1, x1sh]
    cases c : wi x 0 1000
    · simp
    · simp (disch := omega)
      exact ih' _ _
theorem x1t5 (d : Nat) {r c : Int} {p a b : AV} {ph ac dn : List Int} (hp : Ints p ph) (ha : Ints a ac) (hb : Ints b dn) (hl : ph.length ≤ 300000) (h1 : ac.length ≤ 300000) (h2 : dn.length ≤ 300000) (m : Mem) :
    x1e8 (x1e6 (d + 9)) x1q [.agg [I r, I c, p, a, b]] m = some (I (x1fo r c ph ac dn), m) := by
  refine Ans.call0 ?_ (by simp [hp.still1, ha.still1, hb.still1]) rfl
  unfold Ans
  rw [xrs]
  unfold x6p xdm
  have wm := x1r0 (d + 3) (r := r) (c := c) (x1qz (d + 2)) rfl rfl rfl hp (show ph.length < 1000000 by omega)
  simp [mem0, hp.one, ha.one, hb.one, hp.len x1ej, x1qx, x1kb]
  by_cases c1 : x1g4 r c ph.length = 0
  rotate_left
  · simp [x1fo, c1]
  have hsz : x1gd (fun _ => true) r c ph = 0 := by
    unfold x1gd x1fr
    simp [c1]
    cases e : ph.any (badP fun _ => true)
    · rfl
    · exfalso
      rw [List.any_eq_true] at e
      obtain ⟨x, -, hx⟩ := e
      simp [badP] at hx
  obtain ⟨r0, r1, c0, c2, hlen, -⟩ := x1mb hsz
  have hrc := x1ja (wi_iff.mpr ⟨r0, r1⟩) (wi_iff.mpr ⟨c0, c2⟩)
  simp [c1]
  by_cases c3 : 144 < (ph.length : Int)
  · simp [x1fo, c1, c3]
  simp [c3, wm]
  by_cases c4 : x1fr isW ph = 0
  rotate_left
  · simp [x1fo, c1, c3, c4]
  have e1 : r * (c - 1) = r * c - r := by rw [Int.mul_sub]; omega
  have e2 : (r - 1) * c = r * c - c := by rw [Int.sub_mul]; omega
  simp (disch := omega) [c4, ha.len x1ej, hb.len x1ej]
  by_cases c5 : (ac.length : Int) = r * (c - 1)
  rotate_left
  · simp [x1fo, c1, c3, c4, c5]
  simp (disch := omega) [c5, ha.len x1ej, hb.len x1ej, x1fo, c1, c3, c4]
  by_cases c6 : (dn.length : Int) = (r - 1) * c
  rotate_left
  · simp [c6]
  simp [c6]
  unfold x9d
  obtain ⟨cc, hcc, hC⟩ := x1qc (d + 6) ha hb h1 h2 (((((⟨[], 1⟩ : Mem).new (0, 0, 1) (.row [I r, I c, p, a, b] 0 false)).new (0, 4, 3) (.row [I 0, I 0, nilS] 0 false)).set (0, 4, 3) (.row [I r, I c, p] 0 false)))
  obtain ⟨m', hm'⟩ := x1t4 (d + 6) [] hcc (by simp; omega) (ac ++ dn) 0 NN (((((⟨[], 1⟩ : Mem).new (0, 0, 1) (.row [I r, I c, p, a, b] 0 false)).new (0, 4, 3) (.row [I 0, I 0, nilS] 0 false)).set (0, 4, 3) (.row [I r, I c, p] 0 false))) 56 rfl (by rw [x1f2]; simp; omega)
  have hml : ∀ (id : Id) (m : Mem) (k : AV → Mem → Option (AV × Mem)), x1eo xv [(0, 1, a), (1, 1, b)] 2 1 id m k = k (.slit [a, b] 2 true) m := by
    intro id m k
    simp [x1eo, x1fs, x1eq, x1k9, ha.cells, hb.cells, ha.one, hb.one, ha.clean1, hb.clean1, List.range_succ, x1er]
  simp [hml, hC, hcc.len x1ej]
  refine ⟨m', ?_⟩
  simpa using hm'
theorem x1t6 (d : Nat) (hs : FHs) {r c : Int} {p a b : AV} {l : List Int} (h : Ints b l) (hb : l.length ≤ 1000000) : ∀ (suf : List Int) (k j : Nat) (m : Mem) (fc : Nat), l.drop k = suf → suf.length < j → m.get (0, 0, 1) = some (.row [I r, I c, p, a, b] 0 false) →
    ∃ m', x2g (x1e6 (d + 1)) hs 0 j (.ptr (0, 0, 1) 0 0) (I k) m fc = some (I (x1hh suf), m') := by
  intro suf
  induction suf with
  | nil =>
    intro k j m fc hd hj hg
    obtain ⟨j, rfl⟩ : ∃ i, j = i + 1 := ⟨j - 1, by simp at hj; omega⟩
    have hk : ¬ ((k : Int) < (l.length : Int)) := by have := List.drop_eq_nil_iff.mp hd; omega
    simp only [x2g]
    unfold x99
    simp [hg, h.len x1ej, hk, x3m, x1hh]
  | cons x r ih =>
    intro k j m fc hd hj hg
    obtain ⟨j, rfl⟩ : ∃ i, j = i + 1 := ⟨j - 1, by simp at hj; omega⟩
    obtain ⟨hk, hke, hd⟩ := x1fp hd
    have hk' : (k : Int) < (l.length : Int) := by omega
    have ix := h.ix x1et hk
    have e1 : at0 l k = x := by rw [x1eu hk, hke]
    have ih' := fun fc => ih (k + 1) j m fc hd (by simp at hj; omega) hg
    simp only [x2g, x1of]
    unfold x99
    simp (disch := omega) [hg, h.len x1ej, hk', ix, x1f5, e1, x1l4]
    cases c : wi x 0 1000
    · simp
    · simp (disch := omega)
      exact ih' _
theorem x1t7 (d : Nat) (hs : FHs) {r c : Int} {p a b : AV} {l k0 : List Int} (h : Ints a l) (h2 : Ints b k0) (hb : l.length ≤ 1000000) (hb2 : k0.length ≤ 1000000) : ∀ (suf : List Int) (k j : Nat) (m : Mem) (fc : Nat), l.drop k = suf → suf.length < j → m.get (0, 0, 1) = some (.row [I r, I c, p, a, b] 0 false) →
    ∃ m', x2i (x1e6 (d + 1)) hs 0 j (.ptr (0, 0, 1) 0 0) (I k) m fc = some (I (x1hh (suf ++ k0)), m') := by
  intro suf
  induction suf with
  | nil =>
    intro k j m fc hd hj hg
    obtain ⟨j, rfl⟩ : ∃ i, j = i + 1 := ⟨j - 1, by simp at hj; omega⟩
    have hk : ¬ ((k : Int) < (l.length : Int)) := by have := List.drop_eq_nil_iff.mp hd; omega
    obtain ⟨m', h'⟩ := x1t6 d hs h2 hb2 k0 0 NN m (fc + 5 + 1) rfl (by rw [x1f2]; omega) hg
    simp only [x2i]
    unfold x9a
    simp [hg, h.len x1ej, hk, x2h]
    exact ⟨m', h'⟩
  | cons x r ih =>
    intro k j m fc hd hj hg
    obtain ⟨j, rfl⟩ : ∃ i, j = i + 1 := ⟨j - 1, by simp at hj; omega⟩
    obtain ⟨hk, hke, hd⟩ := x1fp hd
    have hk' : (k : Int) < (l.length : Int) := by omega
    have ix := h.ix x1et hk
    have e1 : at0 l k = x := by rw [x1eu hk, hke]
    have ih' := fun fc => ih (k + 1) j m fc hd (by simp at hj; omega) hg
    simp only [x2i, List.cons_append, x1of]
    unfold x9a
    simp (disch := omega) [hg, h.len x1ej, hk', ix, x1f5, e1, x1l4]
    cases c : wi x 0 1000
    · simp
    · simp (disch := omega)
      exact ih' _
theorem x1r2 (d : Nat) {r c : Int} {p a b : AV} {ph ac dn : List Int} (hp : Ints p ph) (ha : Ints a ac) (hb : Ints b dn) (hl : ph.length ≤ 300000) (h1 : ac.length ≤ 300000) (h2 : dn.length ≤ 300000) (m : Mem) :
    x1e8 (x1e6 (d + 4)) x26 [.agg [I r, I c, p, a, b]] m = some (I (x1fo r c ph ac dn), m) := by
  refine Ans.call0 ?_ (by simp [hp.still1, ha.still1, hb.still1]) rfl
  unfold Ans
  rw [xrr]
  unfold x6o xdl
  have wm := x1t2 d hp (show ph.length ≤ 1000000 by omega)
  simp [mem0, hp.one, ha.one, hb.one, hp.len x1ej, x1sy, x1kb]
  by_cases c1 : x1g4 r c ph.length = 0
  rotate_left
  · simp [x1fo, c1]
  have hsz : x1gd (fun _ => true) r c ph = 0 := by
    unfold x1gd x1fr
    simp [c1]
    cases e : ph.any (badP fun _ => true)
    · rfl
    · exfalso
      rw [List.any_eq_true] at e
      obtain ⟨x, -, hx⟩ := e
      simp [badP] at hx
  obtain ⟨r0, r1, c0, c2, hlen, -⟩ := x1mb hsz
  have hrc := x1ja (wi_iff.mpr ⟨r0, r1⟩) (wi_iff.mpr ⟨c0, c2⟩)
  have c1' : x1g4 r c (r * c) = 0 := hlen ▸ c1
  simp (disch := omega) [c1]
  by_cases c3 : 144 < r * c
  · simp [x1fo, c1, c3, hlen, c1']
  simp [c3, wm]
  by_cases c4 : x1fr isW ph = 0
  rotate_left
  · simp [x1fo, c1, c3, c4, hlen, c1']
  have e1 : r * (c - 1) = r * c - r := by rw [Int.mul_sub]; omega
  have e2 : (r - 1) * c = r * c - c := by rw [Int.sub_mul]; omega
  simp (disch := omega) [c4, ha.len x1ej, hb.len x1ej]
  by_cases c5 : (ac.length : Int) = r * (c - 1)
  rotate_left
  · simp [x1fo, c1, c3, c4, c5, hlen, c1']
  simp (disch := omega) [c5, ha.len x1ej, hb.len x1ej, x1fo, c1, c3, c4, hlen, c1']
  by_cases c6 : (dn.length : Int) = (r - 1) * c
  rotate_left
  · simp [c6]
  simp [c6]
  unfold x9b
  obtain ⟨m', hm'⟩ := x1t7 (d + 2) [] (r := r) (c := c) (p := p) ha hb (by omega) (by omega) ac 0 NN (((((⟨[], 1⟩ : Mem).new (0, 0, 1) (.row [I r, I c, p, a, b] 0 false)).new (0, 4, 3) (.row [I 0, I 0, nilS] 0 false)).set (0, 4, 3) (.row [I r, I c, p] 0 false))) 52 rfl (by rw [x1f2]; omega) (by simp)
  exact ⟨m', hm'⟩
end Go.Ix
