import Derived.Test.YtljibmnhhdiakaaWNet
set_option linter.unusedSimpArgs false
namespace Go.Ix
open Go.Proofs
abbrev Ints (a : AV) (l : List Int) : Prop := Sl intE a l
def exI (t : List Int) (e : Edge) : Int := at0 t e.to.toNat - at0 t e.fr.toNat + e.jump
def x1k0 (t : List Int) : Int → List Edge → Int
  | s, [] => s
  | s, e :: r => x1k0 t (s + e.wt * ((exI t e).natAbs : Int)) r
def TurnsIn (t : List Int) : Prop := ∀ x ∈ t, -1000000 ≤ x ∧ x ≤ 1000000
theorem TurnsIn.get {t : List Int} (h : TurnsIn t) (k : Nat) : -1000000 ≤ at0 t k ∧ at0 t k ≤ 1000000 := by
  unfold at0
  rw [List.getD_eq_getElem?_getD]
  cases hk : t[k]? with
  | none => simp
  | some x => simpa using h x (List.mem_of_getElem? hk)
structure EdgeIn (n : Nat) (e : Edge) : Prop where
  f0 : 0 ≤ e.fr
  f1 : e.fr < n
  t0 : 0 ≤ e.to
  t1 : e.to < n
  j0 : -1000 ≤ e.jump
  j1 : e.jump ≤ 1000
  w0 : 0 ≤ e.wt
  w1 : e.wt ≤ 1000
theorem w_excess (d : Nat) {e : Edge} {a : AV} {t : List Int} (ha : Ints a t) (he : EdgeIn t.length e) (ht : TurnsIn t) (m : Mem) : x1if (x1id (d + 1)) x49 [.agg e.c, a] m = some (I (exI t e), m) := by
  have h1 := ht.get e.to.toNat
  have h2 := ht.get e.fr.toNat
  obtain ⟨f0, f1, t0, t1, j0, j1, w0, w1⟩ := he
  refine Ans.call0 ?_ (by simp [ha.still, Edge.c]) rfl
  unfold Ans
  rw [xun]
  unfold x6o xfp
  have i1 := ha.ixI x1jz t0 t1
  have i2 := ha.ixI x1jz f0 f1
  have l1 : e.to.toNat < t.length := by omega
  have l2 : e.fr.toNat < t.length := by omega
  simp (disch := omega) [Edge.c, i1, i2, mem0, x1jt, exI]
theorem w_Excess (d : Nat) {e : Edge} {a : AV} {t : List Int} (ha : Ints a t) (he : EdgeIn t.length e) (ht : TurnsIn t) (m : Mem) : x1if (x1id (d + 1)) x4k [.agg e.c, a] m = some (I (exI t e), m) := by
  have h1 := ht.get e.to.toNat
  have h2 := ht.get e.fr.toNat
  obtain ⟨f0, f1, t0, t1, j0, j1, w0, w1⟩ := he
  refine Ans.call0 ?_ (by simp [ha.still, Edge.c]) rfl
  unfold Ans
  rw [xuo]
  unfold x7t xfr
  have i1 := ha.ixI x1jz t0 t1
  have i2 := ha.ixI x1jz f0 f1
  have l1 : e.to.toNat < t.length := by omega
  have l2 : e.fr.toNat < t.length := by omega
  simp (disch := omega) [Edge.c, i1, i2, mem0, x1jt, exI]
theorem exI_in {t : List Int} {n : Nat} {e : Edge} (he : EdgeIn n e) (ht : TurnsIn t) : -2001000 ≤ exI t e ∧ exI t e ≤ 2001000 := by
  have h1 := ht.get e.to.toNat
  have h2 := ht.get e.fr.toNat
  obtain ⟨f0, f1, t0, t1, j0, j1, w0, w1⟩ := he
  unfold exI
  omega
theorem term_in {t : List Int} {n : Nat} {e : Edge} (he : EdgeIn n e) (ht : TurnsIn t) : 0 ≤ e.wt * ((exI t e).natAbs : Int) ∧ e.wt * ((exI t e).natAbs : Int) ≤ 2001000000 := by
  have h1 := exI_in he ht
  have h2 : ((exI t e).natAbs : Int) ≤ 2001000 := by omega
  refine ⟨Int.mul_nonneg he.w0 (by omega), ?_⟩
  have := Int.mul_le_mul he.w1 h2 (by omega) (by omega)
  omega
theorem l_cost (d : Nat) (hs : FHs) {ev a : AV} {l : List Edge} {t : List Int} (h : Sl Edge.c ev l) (hl : l.length ≤ 600) (ha : Ints a t) (he : ∀ e ∈ l, EdgeIn t.length e) (ht : TurnsIn t) : ∀ (suf : List Edge) (k j : Nat) (s : Int) (m : Mem) (fc : Nat), l.drop k = suf → suf.length < j →
    0 ≤ s → s ≤ k * 2001000000 → ∃ m', x2o (x1id (d + 1)) hs 0 j a (I s) ev (I l.length) (I k) m fc = some (I (x1k0 t s suf), m') := by
  intro suf
  induction suf with
  | nil =>
    intro k j s m fc hd hj s0 s1
    obtain ⟨j, rfl⟩ : ∃ i, j = i + 1 := ⟨j - 1, by simp at hj; omega⟩
    have hk : ¬ ((k : Int) < (l.length : Int)) := by have := List.drop_eq_nil_iff.mp hd; omega
    simp only [x2o]
    unfold xa8
    simp [hk, x3w, x1k0]
  | cons e r ih =>
    intro k j s m fc hd hj s0 s1
    obtain ⟨j, rfl⟩ : ∃ i, j = i + 1 := ⟨j - 1, by simp at hj; omega⟩
    obtain ⟨hk, hke, hd⟩ := x1k2 hd
    have hk' : (k : Int) < (l.length : Int) := by omega
    have ix := h.ix Edge.len hk
    have ld := x1m1 (m := m) Edge.len (by omega) hk
    rw [hke] at ld
    have hee := he e (hke ▸ List.getElem_mem hk)
    have hx := exI_in hee ht
    have htm := term_in hee ht
    have we := w_excess d ha hee ht
    simp only [Edge.c] at we
    obtain ⟨m', h'⟩ := ih (k + 1) j (s + e.wt * ((exI t e).natAbs : Int)) ((m.new (0, fc + 3, 7) (.row [I 0, I 0, I 0, I 0] 0 false)).set (0, fc + 3, 7) (.row e.c 0 false)) (fc + 17) hd (by simp at hj; omega) (by omega) (by omega)
    simp only [x2o]
    unfold xa8
    simp (disch := omega) [hk', ix, ld, x1l0, Edge.c, we, w_size, ha.clean, x1k0]
    exact ⟨m', h'⟩
theorem l_Cost (d : Nat) (hs : FHs) {n : Int} {ev a : AV} {l : List Edge} {t : List Int} (h : Sl Edge.c ev l) (hl : l.length ≤ 600) (ha : Ints a t) (he : ∀ e ∈ l, EdgeIn t.length e) (ht : TurnsIn t) : ∀ (suf : List Edge) (k j : Nat) (s : Int) (m : Mem) (fc : Nat), l.drop k = suf → suf.length < j →
    0 ≤ s → s ≤ k * 2001000000 → m.get (0, 0, 2) = some (.row [I n, ev] 0 false) → ∃ m', x2m (x1id (d + 1)) hs 0 j a (.ptr (0, 0, 2) 0 0) (I s) (I k) m fc = some (I (x1k0 t s suf), m') := by
  intro suf
  induction suf with
  | nil =>
    intro k j s m fc hd hj s0 s1 hg
    obtain ⟨j, rfl⟩ : ∃ i, j = i + 1 := ⟨j - 1, by simp at hj; omega⟩
    have hk : ¬ ((k : Int) < (l.length : Int)) := by have := List.drop_eq_nil_iff.mp hd; omega
    simp only [x2m]
    unfold xa1
    simp [hg, h.len x1jl, hk, x3t, x1k0]
  | cons e r ih =>
    intro k j s m fc hd hj s0 s1 hg
    obtain ⟨j, rfl⟩ : ∃ i, j = i + 1 := ⟨j - 1, by simp at hj; omega⟩
    obtain ⟨hk, hke, hd⟩ := x1k2 hd
    have hk' : (k : Int) < (l.length : Int) := by omega
    have ix := h.ix Edge.len hk
    have ld := x1m1 (m := m) Edge.len (by omega) hk
    rw [x1k8 hk, hke, List.flatMap_cons] at ix ld
    have hee := he e (hke ▸ List.getElem_mem hk)
    have hx := exI_in hee ht
    have htm := term_in hee ht
    have we := w_Excess d ha hee ht
    simp only [Edge.c, List.cons_append] at we ix ld
    obtain ⟨m', h'⟩ := ih (k + 1) j (s + e.wt * ((exI t e).natAbs : Int)) m (fc + 26) hd (by simp at hj; omega) (by omega) (by omega) hg
    simp only [x2m]
    unfold xa1
    simp (disch := omega) [hg, h.len x1jl, hk', ix, ld, we, w_Size, ha.clean, x1k0]
    exact ⟨m', h'⟩
theorem w_Cost (d : Nat) {n : Int} {ev a : AV} {l : List Edge} {t : List Int} (h : Sl Edge.c ev l) (hl : l.length ≤ 600) (ha : Ints a t) (he : ∀ e ∈ l, EdgeIn t.length e) (ht : TurnsIn t) (m : Mem) : x1if (x1id (d + 2)) x4g [.agg [I n, ev], a] m = some (I (x1k0 t 0 l), m) := by
  obtain ⟨m', h'⟩ := l_Cost d [] (n := n) h hl ha he ht l 0 NN 0 ((⟨[], 1⟩ : Mem).new (0, 0, 2) (.row [I n, ev] 0 false)) 4 rfl (by rw [x1iv]; omega) (by omega) (by omega) (by simp)
  refine call0 (m' := m') (by simp [h.still1, ha.still]) ?_ rfl
  rw [xub]
  unfold x7a xew xa2
  simp [mem0, h.one]
  exact h'
def x1l1 (p : Int → Bool) : Int → List Int → Int
  | _, [] => -1
  | k, x :: r => bif p x then k else x1l1 p (k + 1) r
def x1pg (n : Int) (l : List Edge) (t : List Int) : Int × Int :=
  bif !decide ((t.length : Int) = n) then (0, 10) else bif t.any (fun x => !(wi x (-1000000) 1000000)) then (0, 2) else (x1k0 t 0 l, 0)
theorem x1wu {t : List Int} (h : t.any (fun x => !(wi x (-1000000) 1000000)) = false) : TurnsIn t := by
  intro x hx
  rw [List.any_eq_false] at h
  exact wi_t (by simpa using h x hx)
theorem edgeIn_of {n : Int} {l : List Edge} (h : Right n l) {t : List Int} (ht : (t.length : Int) = n) : ∀ e ∈ l, EdgeIn t.length e := by
  intro e he
  obtain ⟨⟨a, b⟩, ⟨c, d⟩, _, ⟨f, g⟩, ⟨i, j⟩⟩ := h.ed e he
  exact ⟨a, by omega, c, by omega, f, g, i, j⟩
theorem x1wv (d : Nat) (hs : FHs) {n : Int} {ev a : AV} {l : List Edge} {t : List Int} (h : Sl Edge.c ev l) (hr : Right n l) (ha : Ints a t) (hn : (t.length : Int) = n) : ∀ (suf : List Int) (k j : Nat) (m : Mem) (fc : Nat), t.drop k = suf → suf.length < j → ((t.take k).any (fun x => !(wi x (-1000000) 1000000)) = false) →
    m.get (0, 0, 2) = some (.row [I n, ev] 0 false) →
    ∃ m', x2g (x1id (d + 2)) hs 0 j a (.ptr (0, 0, 2) 0 0) (I k) m fc = some (.tup (bif t.any (fun x => !(wi x (-1000000) 1000000)) then [I 0, I 2] else [I (x1k0 t 0 l), I 0]), m') := by
  intro suf
  have hn2 := hr.hi
  induction suf with
  | nil =>
    intro k j m fc hd hj hp hg
    obtain ⟨j, rfl⟩ : ∃ i, j = i + 1 := ⟨j - 1, by simp at hj; omega⟩
    have hk0 := List.drop_eq_nil_iff.mp hd
    have hk : ¬ ((k : Int) < (t.length : Int)) := by omega
    rw [List.take_of_length_le hk0] at hp
    simp only [x2g]
    unfold x9m
    simp [hk, ha.len x1ju, x3n, hg, w_Cost d h hr.len ha (edgeIn_of hr hn) (x1wu hp), hp]
  | cons x r ih =>
    intro k j m fc hd hj hp hg
    obtain ⟨j, rfl⟩ : ∃ i, j = i + 1 := ⟨j - 1, by simp at hj; omega⟩
    obtain ⟨hk, hke, hd⟩ := x1k2 hd
    have hk' : (k : Int) < (t.length : Int) := by omega
    have ix := ha.ix x1jz hk
    have e1 : at0 t k = x := by rw [x1j8 hk, hke]
    simp only [x2g]
    unfold x9m
    simp (disch := omega) [hk', ix, x1jt, e1, ha.len x1ju, x1mr]
    cases c : wi x (-1000000) 1000000
    · have : t.any (fun x => !(wi x (-1000000) 1000000)) = true := by
        rw [List.any_eq_true]
        exact ⟨x, hke ▸ List.getElem_mem hk, by simp [c]⟩
      simp [this]
    · simp (disch := omega)
      refine ih (k + 1) j m _ hd (by simp at hj; omega) ?_ hg
      rw [List.take_succ_eq_append_getElem hk, List.any_append, hp, hke]
      simp [c]
theorem x1ww (d : Nat) {n : Int} {ev a : AV} {l : List Edge} {t : List Int} (h : Sl Edge.c ev l) (ha : Ints a t) (hr : Right n l) (m : Mem) :
    x1if (x1id (d + 3)) x37 [.agg [I n, ev], a] m = some (.tup [I (x1pg n l t).1, I (x1pg n l t).2], m) := by
  refine Ans.call0_tup ?_ (by simp [h.still1, ha.still]) rfl
  unfold Ans
  rw [xu3]
  unfold x6w xed
  simp [mem0, h.one, ha.len x1ju, x1pg]
  by_cases c2 : (t.length : Int) = n
  rotate_left
  · simp [c2]
  have hn2 := hr.hi
  obtain ⟨m', h'⟩ := x1wv d [] h hr ha c2 t 0 NN ((⟨[], 1⟩ : Mem).new (0, 0, 2) (.row [I n, ev] 0 false)) 9 rfl (by rw [x1iv]; omega) rfl (by simp)
  simp [c2, x9n]
  refine ⟨m', h'.trans ?_⟩
  cases t.any (fun x => !(wi x (-1000000) 1000000)) <;> rfl
end Go.Ix
