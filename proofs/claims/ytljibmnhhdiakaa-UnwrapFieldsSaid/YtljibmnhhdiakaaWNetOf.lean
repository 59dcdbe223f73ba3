/- The net of a task, made twice; when nets are the same; copies of tasks. -/
import Derived.Test.YtljibmnhhdiakaaWTask
import Derived.Test.YtljibmnhhdiakaaWEq
set_option linter.unusedSimpArgs false
set_option linter.unusedVariables false
namespace Go.Ix
open Go.Proofs

theorem z_task : x9r = [I 0, I 0, nilS, nilS, nilS] := by kernel_rfl
theorem w_CopyTask (d : Nat) {r c : Int} {p a b : AV} {ph ac dn : List Int} (hp : Ints p ph) (ha : Ints a ac) (hb : Ints b dn) (hl : ph.length ≤ 300000) (h1 : ac.length ≤ 300000) (h2 : dn.length ≤ 300000) (m : Mem) :
    ∃ p' a' b', Ints p' ph ∧ Ints a' ac ∧ Ints b' dn ∧ sCall0 (callE (d + 3)) x3b [.agg [I r, I c, p, a, b]] m = some (.agg [I r, I c, p', a', b'], m) := by
  obtain ⟨p', hp', hcp⟩ := w_CopyMap d (r := r) (c := c) hp (by omega) (((⟨[], 1⟩ : Mem).new (0, 0, 1) (.row [I r, I c, p, a, b] 0 false)).new (0, 1, 2) (.row [I 0, I 0, nilS, nilS, nilS] 0 false))
  obtain ⟨a', ha', hca⟩ := w_CopyInts (d + 1) ha (by omega) (((⟨[], 1⟩ : Mem).new (0, 0, 1) (.row [I r, I c, p, a, b] 0 false)).new (0, 1, 2) (.row [I 0, I 0, nilS, nilS, nilS] 0 false))
  obtain ⟨b', hb', hcb⟩ := w_CopyInts (d + 1) hb (by omega) (((⟨[], 1⟩ : Mem).new (0, 0, 1) (.row [I r, I c, p, a, b] 0 false)).new (0, 1, 2) (.row [I 0, I 0, nilS, nilS, nilS] 0 false))
  refine ⟨p', a', b', hp', ha', hb', Ans.call0 ?_ (by simp [hp.still1, ha.still1, hb.still1]) (by simp [hp'.still1, ha'.still1, hb'.still1])⟩
  unfold Ans
  rw [x11t]
  unfold x8i xfg
  simp [mem0, hp.one, ha.one, hb.one, z_task, hcp, hca, hcb, sBuild, sFill, sLdP, hp.clean1, ha.clean, hb.clean, hp'.cells, hp'.one, ha'.cells, ha'.one, hb'.cells, hb'.one, cAp, tR]
  simp [Nat.blt]

theorem l_SameNet (d : Nat) (hs : FHs) {n : Int} {a b : AV} {l k : List Edge} (ha : Sl Edge.c a l) (hb : Sl Edge.c b k) (he : l.length = k.length) (hl : l.length ≤ 1000000) : ∀ (suf suk : List Edge) (i j : Nat) (m : Mem) (fc : Nat), l.drop i = suf → k.drop i = suk → suf.length < j →
    m.get (0, 0, 2) = some (.row [I n, a] 0 false) → m.get (0, 1, 3) = some (.row [I n, b] 0 false) →
    ∃ m' r, x5d (callE d) hs 0 j (.ptr (0, 0, 2) 0 0) (.ptr (0, 1, 3) 0 0) (I i) m fc = some (B r, m') ∧ (r = true ↔ suf = suk) := by
  intro suf
  induction suf with
  | nil =>
    intro suk i j m fc hd hk hj g1 g2
    obtain ⟨j, rfl⟩ : ∃ i, j = i + 1 := ⟨j - 1, by simp at hj; omega⟩
    have hd0 := List.drop_eq_nil_iff.mp hd
    have hsk : suk = [] := by rw [← hk]; exact List.drop_eq_nil_iff.mpr (by omega)
    have hi : ¬ ((i : Int) < (l.length : Int)) := by omega
    refine ⟨m, true, ?_, by simp [hsk]⟩
    simp only [x5d]
    unfold xci
    simp [g1, ha.len u_edges, hi, x5c]
  | cons x r ih =>
    intro suk i j m fc hd hk hj g1 g2
    obtain ⟨j, rfl⟩ : ∃ i, j = i + 1 := ⟨j - 1, by simp at hj; omega⟩
    obtain ⟨hi, hie, hd⟩ := drop_cons hd
    have hi2 : i < k.length := by omega
    have hk2 : suk = k[i] :: k.drop (i + 1) := by rw [← hk, drop_get hi2]
    have hi' : (i : Int) < (l.length : Int) := by omega
    have ix := ha.ix Edge.len hi
    have ix2 := hb.ix Edge.len hi2
    have ld := ld_flat (m := m) Edge.len (by omega) hi
    have ld2 := ld_flat (m := m) Edge.len (by omega) hi2
    rw [hie] at ld
    simp only [x5d]
    unfold xci
    cases c : x.same k[i]
    · refine ⟨m, false, ?_, ?_⟩
      · simp [g1, g2, ha.len u_edges, hi', ix, ix2, ld, ld2, eq_edge, c]
      · rw [hk2]
        constructor
        · intro h; cases h
        · intro h
          injection h with h1 h2
          rw [Edge.same_iff.mpr h1] at c; cases c
    · obtain ⟨m', r', h1, h2⟩ := ih _ (i + 1) j m (fc + 19) hd rfl (by simp at hj; omega) g1 g2
      refine ⟨m', r', ?_, ?_⟩
      · simp (disch := omega) [g1, g2, ha.len u_edges, hi', ix, ix2, ld, ld2, eq_edge, c]
        exact h1
      · rw [h2, hk2, Edge.same_iff.mp c, List.cons_inj_right]
theorem w_SameNet (d : Nat) {n n' : Int} {a b : AV} {l k : List Edge} (ha : Sl Edge.c a l) (hb : Sl Edge.c b k) (hl : l.length ≤ 1000000) (m : Mem) :
    ∃ r, sCall0 (callE (d + 1)) x1n [.agg [I n, a], .agg [I n', b]] m = some (B r, m) ∧ (r = true ↔ n = n' ∧ l = k) := by
  by_cases hn : n = n'
  rotate_left
  · refine ⟨false, Ans.call0 ?_ (by simp [ha.still1, hb.still1]) rfl, by simp [hn]⟩
    unfold Ans
    rw [xf7]
    unfold x65 xbg
    simp [mem0, ha.one, hb.one, hn]
  subst hn
  by_cases he : l.length = k.length
  rotate_left
  · have he2 : ¬ ((l.length : Int) = (k.length : Int)) := by omega
    refine ⟨false, Ans.call0 ?_ (by simp [ha.still1, hb.still1]) rfl, ?_⟩
    · unfold Ans
      rw [xf7]
      unfold x65 xbg
      simp [mem0, ha.one, hb.one, ha.len u_edges, hb.len u_edges, he2]
    · constructor
      · intro h; cases h
      · intro h; exact absurd (by rw [h.2]) he
  obtain ⟨m', r, h1, h2⟩ := l_SameNet d [] (n := n) ha hb he hl l k 0 NN (((⟨[], 1⟩ : Mem).new (0, 0, 2) (.row [I n, a] 0 false)).new (0, 1, 3) (.row [I n, b] 0 false)) 18 rfl rfl (by rw [NN_eq]; omega) (by simp) (by simp)
  refine ⟨r, Ans.call0 ?_ (by simp [ha.still1, hb.still1]) rfl, by simp [h2]⟩
  unfold Ans
  rw [xf7]
  unfold x65 xbg xcj
  simp [mem0, ha.one, hb.one, ha.len u_edges, hb.len u_edges, he]
  exact ⟨m', h1⟩

/-- Whether a task is small. -/
def smallM (r c : Int) (ph ac dn : List Int) : Bool :=
  bif decide (164 < (ph.length : Int)) || decide (300 < (ac.length : Int)) || decide (300 < (dn.length : Int)) then false
  else bif !decide (taskM r c ph ac dn = 0) then true
  else bif decide (12 < (ph.length : Int)) then false else !((ac ++ dn).any fun x => decide (20 < x))
theorem l_small0 (d : Nat) (hs : FHs) {r c : Int} {p a b : AV} {l : List Int} (h : Ints b l) (hb : l.length ≤ 1000000) : ∀ (suf : List Int) (k j : Nat) (m : Mem) (fc : Nat), l.drop k = suf → suf.length < j → m.get (0, 0, 1) = some (.row [I r, I c, p, a, b] 0 false) →
    ∃ m', x55 (callE (d + 1)) hs 0 j (.ptr (0, 0, 1) 0 0) (I k) m fc = some (B (!(suf.any fun x => decide (20 < x))), m') := by
  intro suf
  induction suf with
  | nil =>
    intro k j m fc hd hj hg
    obtain ⟨j, rfl⟩ : ∃ i, j = i + 1 := ⟨j - 1, by simp at hj; omega⟩
    have hk : ¬ ((k : Int) < (l.length : Int)) := by have := List.drop_eq_nil_iff.mp hd; omega
    simp only [x55]
    unfold xc9
    simp [hg, h.len u_ints, hk, x54]
  | cons x r ih =>
    intro k j m fc hd hj hg
    obtain ⟨j, rfl⟩ : ∃ i, j = i + 1 := ⟨j - 1, by simp at hj; omega⟩
    obtain ⟨hk, hke, hd⟩ := drop_cons hd
    have hk' : (k : Int) < (l.length : Int) := by omega
    have ix := h.ix intE_len hk
    have e1 : at0 l k = x := by rw [at0_lt hk, hke]
    have ih' := fun fc => ih (k + 1) j m fc hd (by simp at hj; omega) hg
    simp only [x55, List.any_cons]
    unfold xc9
    by_cases c : 20 < x
    · simp (disch := omega) [hg, h.len u_ints, hk', ix, ld_int, e1, c]
    · simp (disch := omega) [hg, h.len u_ints, hk', ix, ld_int, e1, c]
      exact ih' _
theorem l_small1 (d : Nat) (hs : FHs) {r c : Int} {p a b : AV} {l k0 : List Int} (h : Ints a l) (h2 : Ints b k0) (hb : l.length ≤ 1000000) (hb2 : k0.length ≤ 1000000) : ∀ (suf : List Int) (k j : Nat) (m : Mem) (fc : Nat), l.drop k = suf → suf.length < j → m.get (0, 0, 1) = some (.row [I r, I c, p, a, b] 0 false) →
    ∃ m', x56 (callE (d + 1)) hs 0 j (.ptr (0, 0, 1) 0 0) (I k) m fc = some (B (!((suf ++ k0).any fun x => decide (20 < x))), m') := by
  intro suf
  induction suf with
  | nil =>
    intro k j m fc hd hj hg
    obtain ⟨j, rfl⟩ : ∃ i, j = i + 1 := ⟨j - 1, by simp at hj; omega⟩
    have hk : ¬ ((k : Int) < (l.length : Int)) := by have := List.drop_eq_nil_iff.mp hd; omega
    obtain ⟨m', h'⟩ := l_small0 d hs h2 hb2 k0 0 NN m (fc + 5 + 1) rfl (by rw [NN_eq]; omega) hg
    simp only [x56]
    unfold xca
    simp [hg, h.len u_ints, hk, x4e]
    exact ⟨m', h'⟩
  | cons x r ih =>
    intro k j m fc hd hj hg
    obtain ⟨j, rfl⟩ : ∃ i, j = i + 1 := ⟨j - 1, by simp at hj; omega⟩
    obtain ⟨hk, hke, hd⟩ := drop_cons hd
    have hk' : (k : Int) < (l.length : Int) := by omega
    have ix := h.ix intE_len hk
    have e1 : at0 l k = x := by rw [at0_lt hk, hke]
    have ih' := fun fc => ih (k + 1) j m fc hd (by simp at hj; omega) hg
    simp only [x56, List.cons_append, List.any_cons]
    unfold xca
    by_cases c : 20 < x
    · simp (disch := omega) [hg, h.len u_ints, hk', ix, ld_int, e1, c]
    · simp (disch := omega) [hg, h.len u_ints, hk', ix, ld_int, e1, c]
      obtain ⟨m', h'⟩ := ih' (fc + 14)
      exact ⟨m', by simpa [List.any_append] using h'⟩
theorem w_small (d : Nat) {r c : Int} {p a b : AV} {ph ac dn : List Int} (hp : Ints p ph) (ha : Ints a ac) (hb : Ints b dn) (m : Mem) :
    sCall0 (callE (d + 5)) xl [.agg [I r, I c, p, a, b]] m = some (B (smallM r c ph ac dn), m) := by
  refine Ans.call0 ?_ (by simp [hp.still1, ha.still1, hb.still1]) rfl
  unfold Ans
  rw [x11s]
  unfold x8h xff
  simp [mem0, hp.one, ha.one, hb.one, hp.len u_ints]
  by_cases c1 : 164 < (ph.length : Int)
  · simp [c1, smallM]
  simp [c1, ha.len u_ints]
  by_cases c2 : 300 < (ac.length : Int)
  · simp [c2, smallM]
  simp [c2, hb.len u_ints]
  by_cases c3 : 300 < (dn.length : Int)
  · simp [c3, smallM]
  simp [c3, w_rCheckTask d (r := r) (c := c) hp ha hb (by omega) (by omega) (by omega)]
  by_cases c4 : taskM r c ph ac dn = 0
  rotate_left
  · simp [c1, c2, c3, c4, smallM]
  simp [c4, hp.len u_ints]
  by_cases c5 : 12 < (ph.length : Int)
  · simp [c1, c2, c3, c4, c5, smallM]
  obtain ⟨m', h'⟩ := l_small1 (d + 3) [] (r := r) (c := c) (p := p) ha hb (by omega) (by omega) ac 0 NN ((⟨[], 1⟩ : Mem).new (0, 0, 1) (.row [I r, I c, p, a, b] 0 false)) 28 rfl (by rw [NN_eq]; omega) (by simp)
  have e : smallM r c ph ac dn = !((ac ++ dn).any fun x => decide (20 < x)) := by simp [c1, c2, c3, c4, c5, smallM]
  rw [e]
  simp [c5, xcb]
  exact ⟨m', by simpa [List.any_append] using h'⟩

end Go.Ix
