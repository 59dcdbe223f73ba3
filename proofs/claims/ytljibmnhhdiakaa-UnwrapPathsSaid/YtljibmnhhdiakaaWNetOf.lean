import Derived.Test.YtljibmnhhdiakaaWTask
import Derived.Test.YtljibmnhhdiakaaWEq
set_option linter.unusedSimpArgs false
set_option linter.unusedVariables false
namespace Go.Ix
open Go.Proofs
theorem z_task : x56 = [I 0, I 0, nilS, nilS, nilS] := by kernel_rfl
theorem x1t8 (d : Nat) {r c : Int} {p a b : AV} {ph ac dn : List Int} (hp : Ints p ph) (ha : Ints a ac) (hb : Ints b dn) (hl : ph.length ≤ 300000) (h1 : ac.length ≤ 300000) (h2 : dn.length ≤ 300000) (m : Mem) :
    ∃ p' a' b', Ints p' ph ∧ Ints a' ac ∧ Ints b' dn ∧ x1e8 (x1e6 (d + 3)) x25 [.agg [I r, I c, p, a, b]] m = some (.agg [I r, I c, p', a', b'], m) := by
  obtain ⟨p', hp', hcp⟩ := x1r1 d (r := r) (c := c) hp (by omega) (((⟨[], 1⟩ : Mem).new (0, 0, 1) (.row [I r, I c, p, a, b] 0 false)).new (0, 1, 2) (.row [I 0, I 0, nilS, nilS, nilS] 0 false))
  obtain ⟨a', ha', hca⟩ := x1m4 (d + 1) ha (by omega) (((⟨[], 1⟩ : Mem).new (0, 0, 1) (.row [I r, I c, p, a, b] 0 false)).new (0, 1, 2) (.row [I 0, I 0, nilS, nilS, nilS] 0 false))
  obtain ⟨b', hb', hcb⟩ := x1m4 (d + 1) hb (by omega) (((⟨[], 1⟩ : Mem).new (0, 0, 1) (.row [I r, I c, p, a, b] 0 false)).new (0, 1, 2) (.row [I 0, I 0, nilS, nilS, nilS] 0 false))
  refine ⟨p', a', b', hp', ha', hb', Ans.call0 ?_ (by simp [hp.still1, ha.still1, hb.still1]) (by simp [hp'.still1, ha'.still1, hb'.still1])⟩
  unfold Ans
  rw [xrq]
  unfold x6n xdk
  simp [mem0, hp.one, ha.one, hb.one, z_task, hcp, hca, hcb, x1el, x1fs, sLdP, hp.clean1, ha.clean, hb.clean, hp'.cells, hp'.one, ha'.cells, ha'.one, hb'.cells, hb'.one, cAp, tR]
  simp [Nat.blt]
def x1gn (r c : Int) (ph ac dn : List Int) : Bool :=
  bif decide (164 < (ph.length : Int)) || decide (300 < (ac.length : Int)) || decide (300 < (dn.length : Int)) then false
  else bif !decide (x1fo r c ph ac dn = 0) then true
  else bif decide (12 < (ph.length : Int)) then false else !((ac ++ dn).any fun x => decide (20 < x))
theorem l_small0 (d : Nat) (hs : FHs) {r c : Int} {p a b : AV} {l : List Int} (h : Ints b l) (hb : l.length ≤ 1000000) : ∀ (suf : List Int) (k j : Nat) (m : Mem) (fc : Nat), l.drop k = suf → suf.length < j → m.get (0, 0, 1) = some (.row [I r, I c, p, a, b] 0 false) →
    ∃ m', x2d (x1e6 (d + 1)) hs 0 j (.ptr (0, 0, 1) 0 0) (I k) m fc = some (B (!(suf.any fun x => decide (20 < x))), m') := by
  intro suf
  induction suf with
  | nil =>
    intro k j m fc hd hj hg
    obtain ⟨j, rfl⟩ : ∃ i, j = i + 1 := ⟨j - 1, by simp at hj; omega⟩
    have hk : ¬ ((k : Int) < (l.length : Int)) := by have := List.drop_eq_nil_iff.mp hd; omega
    simp only [x2d]
    unfold x96
    simp [hg, h.len x1ej, hk, x3l]
  | cons x r ih =>
    intro k j m fc hd hj hg
    obtain ⟨j, rfl⟩ : ∃ i, j = i + 1 := ⟨j - 1, by simp at hj; omega⟩
    obtain ⟨hk, hke, hd⟩ := x1fp hd
    have hk' : (k : Int) < (l.length : Int) := by omega
    have ix := h.ix x1et hk
    have e1 : at0 l k = x := by rw [x1eu hk, hke]
    have ih' := fun fc => ih (k + 1) j m fc hd (by simp at hj; omega) hg
    simp only [x2d, List.any_cons]
    unfold x96
    by_cases c : 20 < x
    · simp (disch := omega) [hg, h.len x1ej, hk', ix, x1f5, e1, c]
    · simp (disch := omega) [hg, h.len x1ej, hk', ix, x1f5, e1, c]
      exact ih' _
theorem l_small1 (d : Nat) (hs : FHs) {r c : Int} {p a b : AV} {l k0 : List Int} (h : Ints a l) (h2 : Ints b k0) (hb : l.length ≤ 1000000) (hb2 : k0.length ≤ 1000000) : ∀ (suf : List Int) (k j : Nat) (m : Mem) (fc : Nat), l.drop k = suf → suf.length < j → m.get (0, 0, 1) = some (.row [I r, I c, p, a, b] 0 false) →
    ∃ m', x2f (x1e6 (d + 1)) hs 0 j (.ptr (0, 0, 1) 0 0) (I k) m fc = some (B (!((suf ++ k0).any fun x => decide (20 < x))), m') := by
  intro suf
  induction suf with
  | nil =>
    intro k j m fc hd hj hg
    obtain ⟨j, rfl⟩ : ∃ i, j = i + 1 := ⟨j - 1, by simp at hj; omega⟩
    have hk : ¬ ((k : Int) < (l.length : Int)) := by have := List.drop_eq_nil_iff.mp hd; omega
    obtain ⟨m', h'⟩ := l_small0 d hs h2 hb2 k0 0 NN m (fc + 5 + 1) rfl (by rw [x1f2]; omega) hg
    simp only [x2f]
    unfold x97
    simp [hg, h.len x1ej, hk, x2e]
    exact ⟨m', h'⟩
  | cons x r ih =>
    intro k j m fc hd hj hg
    obtain ⟨j, rfl⟩ : ∃ i, j = i + 1 := ⟨j - 1, by simp at hj; omega⟩
    obtain ⟨hk, hke, hd⟩ := x1fp hd
    have hk' : (k : Int) < (l.length : Int) := by omega
    have ix := h.ix x1et hk
    have e1 : at0 l k = x := by rw [x1eu hk, hke]
    have ih' := fun fc => ih (k + 1) j m fc hd (by simp at hj; omega) hg
    simp only [x2f, List.cons_append, List.any_cons]
    unfold x97
    by_cases c : 20 < x
    · simp (disch := omega) [hg, h.len x1ej, hk', ix, x1f5, e1, c]
    · simp (disch := omega) [hg, h.len x1ej, hk', ix, x1f5, e1, c]
      obtain ⟨m', h'⟩ := ih' (fc + 14)
      exact ⟨m', by simpa [List.any_append] using h'⟩
theorem w_small (d : Nat) {r c : Int} {p a b : AV} {ph ac dn : List Int} (hp : Ints p ph) (ha : Ints a ac) (hb : Ints b dn) (m : Mem) :
    x1e8 (x1e6 (d + 5)) x30 [.agg [I r, I c, p, a, b]] m = some (B (x1gn r c ph ac dn), m) := by
  refine Ans.call0 ?_ (by simp [hp.still1, ha.still1, hb.still1]) rfl
  unfold Ans
  rw [xrp]
  unfold x6l xdj
  simp [mem0, hp.one, ha.one, hb.one, hp.len x1ej]
  by_cases c1 : 164 < (ph.length : Int)
  · simp [c1, x1gn]
  simp [c1, ha.len x1ej]
  by_cases c2 : 300 < (ac.length : Int)
  · simp [c2, x1gn]
  simp [c2, hb.len x1ej]
  by_cases c3 : 300 < (dn.length : Int)
  · simp [c3, x1gn]
  simp [c3, x1r2 d (r := r) (c := c) hp ha hb (by omega) (by omega) (by omega)]
  by_cases c4 : x1fo r c ph ac dn = 0
  rotate_left
  · simp [c1, c2, c3, c4, x1gn]
  simp [c4, hp.len x1ej]
  by_cases c5 : 12 < (ph.length : Int)
  · simp [c1, c2, c3, c4, c5, x1gn]
  obtain ⟨m', h'⟩ := l_small1 (d + 3) [] (r := r) (c := c) (p := p) ha hb (by omega) (by omega) ac 0 NN ((⟨[], 1⟩ : Mem).new (0, 0, 1) (.row [I r, I c, p, a, b] 0 false)) 28 rfl (by rw [x1f2]; omega) (by simp)
  have e : x1gn r c ph ac dn = !((ac ++ dn).any fun x => decide (20 < x)) := by simp [c1, c2, c3, c4, c5, x1gn]
  rw [e]
  simp [c5, x98]
  exact ⟨m', by simpa [List.any_append] using h'⟩
end Go.Ix
