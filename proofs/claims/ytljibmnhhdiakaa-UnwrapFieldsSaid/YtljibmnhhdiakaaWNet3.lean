/- The net of a task: the reference. -/
import Derived.Test.YtljibmnhhdiakaaWNet2
set_option linter.unusedSimpArgs false
set_option linter.unusedVariables false
namespace Go.Ix
open Go.Proofs

structure RefInv (r c n : Int) (p a b : AV) (m : Mem) (l : List Edge) : Prop where
  task : m.get (0, 0, 1) = some (.row [I r, I c, p, a, b] 0 false)
  res : m.get (0, 1, 2) = some (.row [I 0, nilS] 0 false)
  map : m.get (0, 4, 3) = some (.row [I r, I c, p] 0 false)
  nxt : 1 ≤ m.next
  net : ∃ ev, m.get (0, 12, 4) = some (.row [I n, ev] 0 false) ∧ Gk 4 Edge.c okE m ev l
theorem at0_left {l k : List Int} {i : Nat} (h : i < l.length) : at0 (l ++ k) i = at0 l i := by
  unfold at0
  simp only [List.getD_eq_getElem?_getD]
  rw [List.getElem?_append_left h]
theorem at0_right {l k : List Int} {i : Nat} : at0 (l ++ k) (l.length + i) = at0 k i := by
  unfold at0
  simp only [List.getD_eq_getElem?_getD]
  rw [List.getElem?_append_right (by omega), show l.length + i - l.length = i by omega]

theorem mkLit_4' {id : Id} {a b c d : Int} {m : Mem} {R : Type} (k : AV → Mem → Option R) : sMkLit [I 0, I 0, I 0, I 0] [(0, 4, .agg [I a, I b, I c, I d])] 1 4 id m k = k (.slit [I a, I b, I c, I d] 1 true) m := by
  simp [sMkLit, sFill, zeros, List.range_succ, splice]

theorem l_rNet3 (d : Nat) (hs : FHs) {r c n : Int} {p a b : AV} {ph ac dn : List Int} (hp : Ints p ph) (ha : Ints a ac) (hb : Ints b dn) (hph : PhIn ph) (r1 : r ≤ 64) (c0 : 1 ≤ c) (c1 : c ≤ 64) (hlen : (ph.length : Int) = r * c) (hac : (ac.length : Int) = r * (c - 1)) (q : Int) (q0 : 0 ≤ q) (q1 : q < r)
    (rec2 : AV → AV → AV → AV → AV → Mem → Nat → Option (AV × Mem)) :
    ∀ (s : Nat) (k : Int) (j : Nat) (l : List Edge) (m : Mem) (fc : Nat), 0 ≤ k → k + s = c - 1 → s < j → l.length + s ≤ 20000 → RefInv r c n p a b m l →
    ∃ m' fc', x2j (callE (d + 3)) hs 0 rec2 j (.ptr (0, 0, 1) 0 0) (.ptr (0, 1, 2) 0 0) (.ptr (0, 4, 3) 0 0) (.ptr (0, 12, 4) 0 0) (I q) (I k) m fc = rec2 (.ptr (0, 0, 1) 0 0) (.ptr (0, 1, 2) 0 0) (.ptr (0, 4, 3) 0 0) (.ptr (0, 12, 4) 0 0) (I (q + 1)) m' fc' ∧
      RefInv r c n p a b m' (l ++ netM ph (ac ++ dn) (q * (c - 1) + k).toNat (rowL 1 (q * c) s k)) := by
  have hqc0 : 0 ≤ q * c := Int.mul_nonneg q0 (by omega)
  have hqc : (q + 1) * c ≤ r * c := Int.mul_le_mul_of_nonneg_right (by omega) (by omega)
  have hrc : r * c ≤ 64 * 64 := Int.mul_le_mul r1 c1 (by omega) (by omega)
  rw [Int.add_mul] at hqc
  have e2 : q * (c - 1) = q * c - q := by rw [Int.mul_sub]; omega
  have e3 : r * (c - 1) = r * c - r := by rw [Int.mul_sub]; omega
  have hq2 : 0 ≤ q * (c - 1) := Int.mul_nonneg q0 (by omega)
  have hq3 : (q + 1) * (c - 1) ≤ r * (c - 1) := Int.mul_le_mul_of_nonneg_right (by omega) (by omega)
  rw [Int.add_mul] at hq3
  intro s
  induction s with
  | zero =>
    intro k j l m fc k0 hk hj hl hI
    obtain ⟨j, rfl⟩ : ∃ i, j = i + 1 := ⟨j - 1, by omega⟩
    refine ⟨m, fc + 5 + 3, ?_, by simpa [rowL, netM] using hI⟩
    simp only [x2j]
    unfold xbl
    simp (disch := omega) [hI.map, show ¬ (k + 1 < c) by omega, x1d]
  | succ s ih =>
    intro k j l m fc k0 hk hj hl hI
    obtain ⟨j, rfl⟩ : ∃ i, j = i + 1 := ⟨j - 1, by omega⟩
    obtain ⟨h1, h2, h3, hn, ev, h4, hG⟩ := hI
    have we := fun m => w_edge d (r := r) (c := c) (w := at0 ac (q * (c - 1) + k).toNat) hp hph (x := (q * c + k, q * c + k + 1)) (by simp only; omega) m
    simp only at we
    have ix := ha.ixI intE_len (k := q * (c - 1) + k) (by omega) (by omega)
    have la : (q * (c - 1) + k).toNat < ac.length := by omega
    have hkc : k + 1 < c := by omega
    have hidx : (q * (c - 1) + k).toNat + 1 = (q * (c - 1) + (k + 1)).toNat := by omega
    have hmk : mkE ph (ac ++ dn) (q * (c - 1) + k).toNat (q * c + k, q * c + k + 1) = ⟨q * c + k, q * c + k + 1, jumpM (at0 ph (q * c + k).toNat) (at0 ph (q * c + k + 1).toNat), at0 ac (q * (c - 1) + k).toNat⟩ := by
      unfold mkE
      rw [at0_left la]
    have hrow : netM ph (ac ++ dn) (q * (c - 1) + k).toNat (rowL 1 (q * c) (s + 1) k) = (if voidE ph (q * c + k, q * c + k + 1) = true then [] else [mkE ph (ac ++ dn) (q * (c - 1) + k).toNat (q * c + k, q * c + k + 1)]) ++ netM ph (ac ++ dn) (q * (c - 1) + (k + 1)).toNat (rowL 1 (q * c) s (k + 1)) := by
      rw [rowL, netM, hidx]
      cases voidE ph (q * c + k, q * c + k + 1) <;> rfl
    rw [hrow]
    have hnb : Nat.ble 1 m.next = true := Nat.ble_eq_true_of_le hn
    cases hv : voidE ph (q * c + k, q * c + k + 1)
    · simp only [Bool.false_eq_true, if_false]
      simp only [hv, cond_false] at we
      obtain ⟨M, hM⟩ : ∃ M, M = (m.new (0, fc + 5 + 29, 7) (.row [I 0, I 0, I 0, I 0] 0 false)).set (0, fc + 5 + 29, 7) (.row [I (q * c + k), I (q * c + k + 1), I (jumpM (at0 ph (q * c + k).toNat) (at0 ph (q * c + k + 1).toNat)), I (at0 ac (q * (c - 1) + k).toNat)] 0 false) := ⟨_, rfl⟩
      have hMg : ∀ i : Id, i ≠ (0, fc + 5 + 29, 7) → M.get i = m.get i := fun i hi => by rw [hM, Mem.get_set, if_neg hi, Mem.get_new, if_neg hi]
      have g7 : M.get (0, fc + 5 + 29, 7) = some (.row [I (q * c + k), I (q * c + k + 1), I (jumpM (at0 ph (q * c + k).toNat) (at0 ph (q * c + k + 1).toNat)), I (at0 ac (q * (c - 1) + k).toNat)] 0 false) := by rw [hM]; simp
      have g4 : M.get (0, 12, 4) = some (.row [I n, ev] 0 false) := by rw [hMg _ (by simp)]; exact h4
      have hGM : Gk 4 Edge.c okE M ev l := hG.frame fun id hid => hMg id (by rintro rfl; rcases hid with h | h <;> simp at h)
      obtain ⟨a', m2, A, hG2, u1, u2, n2, f2⟩ := hGM.app Edge.len (by omega) (bytes := 32) (id0 := (0, fc + 5 + 37, 68)) (Or.inl rfl) (by unfold roomy; omega) (mkE ph (ac ++ dn) (q * (c - 1) + k).toNat (q * c + k, q * c + k + 1))
      have g4' : m2.get (0, 12, 4) = some (.row [I n, ev] 0 false) := by rw [f2 _ (by unfold okE; simp)]; exact g4
      have hI' : RefInv r c n p a b (m2.set (0, 12, 4) (.row [I n, a'] 0 false)) (l ++ [mkE ph (ac ++ dn) (q * (c - 1) + k).toNat (q * c + k, q * c + k + 1)]) := by
        refine ⟨?_, ?_, ?_, by simp only [Mem.next_set, n2, hM, Mem.next_new]; exact hn, a', by simp, hG2.frame fun id hid => by rw [Mem.get_set, if_neg (by rintro rfl; rcases hid with h | h <;> simp at h)]⟩
        · rw [Mem.get_set, if_neg (by simp), f2 _ (by unfold okE; simp), hMg _ (by simp)]; exact h1
        · rw [Mem.get_set, if_neg (by simp), f2 _ (by unfold okE; simp), hMg _ (by simp)]; exact h2
        · rw [Mem.get_set, if_neg (by simp), f2 _ (by unfold okE; simp), hMg _ (by simp)]; exact h3
      have hel : ∀ M : Mem, elems M.get 4 (.slit [I (q * c + k), I (q * c + k + 1), I (jumpM (at0 ph (q * c + k).toNat) (at0 ph (q * c + k + 1).toNat)), I (at0 ac (q * (c - 1) + k).toNat)] 1 true) = some ((mkE ph (ac ++ dn) (q * (c - 1) + k).toNat (q * c + k, q * c + k + 1)).c, 1) := fun _ => by rw [hmk]; rfl
      have step : x2j (callE (d + 3)) hs 0 rec2 (j + 1) (.ptr (0, 0, 1) 0 0) (.ptr (0, 1, 2) 0 0) (.ptr (0, 4, 3) 0 0) (.ptr (0, 12, 4) 0 0) (I q) (I k) m fc = x2j (callE (d + 3)) hs 0 rec2 j (.ptr (0, 0, 1) 0 0) (.ptr (0, 1, 2) 0 0) (.ptr (0, 4, 3) 0 0) (.ptr (0, 12, 4) 0 0) (I q) (I (k + 1)) (m2.set (0, 12, 4) (.row [I n, a'] 0 false)) (fc + 5 + 40 + 3) := by
        simp only [x2j]
        unfold xbl xbk
        simp (disch := omega) [h1, h3, hkc, ix, ld_int, we, hp.clean1, z_edge, apartIds, disj, tR, cAp, Nat.blt, hnb]
        simp only [List.getElem?_cons_zero, List.getElem?_cons_succ, bind_s]
        simp (disch := omega) [← hM, h4, g7, g4, mkLit_4', hel, A, g4', u1, u2, x9u]
      rw [step, ← List.append_assoc]
      exact ih (k + 1) j _ _ _ (by omega) (by omega) (by omega) (by simp; omega) hI'
    · simp only [if_true, List.nil_append]
      simp only [hv, cond_true] at we
      obtain ⟨M, hM⟩ : ∃ M, M = (m.new (0, fc + 5 + 29, 7) (.row [I 0, I 0, I 0, I 0] 0 false)).set (0, fc + 5 + 29, 7) (.row [I 0, I 0, I 0, I 0] 0 false) := ⟨_, rfl⟩
      have hMg : ∀ i : Id, i ≠ (0, fc + 5 + 29, 7) → M.get i = m.get i := fun i hi => by rw [hM, Mem.get_set, if_neg hi, Mem.get_new, if_neg hi]
      have hI' : RefInv r c n p a b M l := by
        refine ⟨?_, ?_, ?_, by simp only [hM, Mem.next_set, Mem.next_new]; exact hn, ev, ?_, hG.frame fun id hid => hMg id (by rintro rfl; rcases hid with h | h <;> simp at h)⟩ <;> rw [hMg _ (by simp)] <;> assumption
      have step : x2j (callE (d + 3)) hs 0 rec2 (j + 1) (.ptr (0, 0, 1) 0 0) (.ptr (0, 1, 2) 0 0) (.ptr (0, 4, 3) 0 0) (.ptr (0, 12, 4) 0 0) (I q) (I k) m fc = x2j (callE (d + 3)) hs 0 rec2 j (.ptr (0, 0, 1) 0 0) (.ptr (0, 1, 2) 0 0) (.ptr (0, 4, 3) 0 0) (.ptr (0, 12, 4) 0 0) (I q) (I (k + 1)) M (fc + 5 + 33 + 3) := by
        simp only [x2j]
        unfold xbl xbk
        simp (disch := omega) [h1, h3, hkc, ix, ld_int, we, hp.clean1, z_edge, apartIds, disj, tR, cAp, Nat.blt, hnb]
        simp only [List.getElem?_cons_zero, List.getElem?_cons_succ, bind_s]
        simp (disch := omega) [← hM, x9u]
      rw [step]
      exact ih (k + 1) j l M _ (by omega) (by omega) (by omega) (by omega) hI'

theorem l_rNet1 (d : Nat) (hs : FHs) {r c n : Int} {p a b : AV} {ph ac dn : List Int} (hp : Ints p ph) (ha : Ints a ac) (hb : Ints b dn) (hph : PhIn ph) (r1 : r ≤ 64) (c0 : 1 ≤ c) (c1 : c ≤ 64) (hlen : (ph.length : Int) = r * c) (hac : (ac.length : Int) = r * (c - 1)) (hdn : (dn.length : Int) = (r - 1) * c) (r0 : 1 ≤ r) (q : Int) (q0 : 0 ≤ q) (q1 : q < r - 1)
    (rec0 : AV → AV → AV → AV → AV → Mem → Nat → Option (AV × Mem)) :
    ∀ (s : Nat) (k : Int) (j : Nat) (l : List Edge) (m : Mem) (fc : Nat), 0 ≤ k → k + s = c → s < j → l.length + s ≤ 20000 → RefInv r c n p a b m l →
    ∃ m' fc', x2i (callE (d + 3)) hs 0 rec0 j (.ptr (0, 0, 1) 0 0) (.ptr (0, 1, 2) 0 0) (.ptr (0, 4, 3) 0 0) (.ptr (0, 12, 4) 0 0) (I q) (I k) m fc = rec0 (.ptr (0, 0, 1) 0 0) (.ptr (0, 1, 2) 0 0) (.ptr (0, 4, 3) 0 0) (.ptr (0, 12, 4) 0 0) (I (q + 1)) m' fc' ∧
      RefInv r c n p a b m' (l ++ netM ph (ac ++ dn) (r * (c - 1) + (q * c + k)).toNat (rowL c (q * c) s k)) := by
  have hqc0 : 0 ≤ q * c := Int.mul_nonneg q0 (by omega)
  have hqc : (q + 1) * c ≤ (r - 1) * c := Int.mul_le_mul_of_nonneg_right (by omega) (by omega)
  have hrc : r * c ≤ 64 * 64 := Int.mul_le_mul r1 c1 (by omega) (by omega)
  rw [Int.add_mul, Int.sub_mul] at hqc
  have e3 : r * (c - 1) = r * c - r := by rw [Int.mul_sub]; omega
  have e4 : (r - 1) * c = r * c - c := by rw [Int.sub_mul]; omega
  have e5 : 0 ≤ r * (c - 1) := Int.mul_nonneg (by omega) (by omega)
  intro s
  induction s with
  | zero =>
    intro k j l m fc k0 hk hj hl hI
    obtain ⟨j, rfl⟩ : ∃ i, j = i + 1 := ⟨j - 1, by omega⟩
    refine ⟨m, fc + 4 + 3, ?_, by simpa [rowL, netM] using hI⟩
    simp only [x2i]
    unfold xbi
    simp (disch := omega) [hI.map, show ¬ (k < c) by omega, x1c]
  | succ s ih =>
    intro k j l m fc k0 hk hj hl hI
    obtain ⟨j, rfl⟩ : ∃ i, j = i + 1 := ⟨j - 1, by omega⟩
    obtain ⟨h1, h2, h3, hn, ev, h4, hG⟩ := hI
    have we := fun m => w_edge d (r := r) (c := c) (w := at0 dn (q * c + k).toNat) hp hph (x := (q * c + k, q * c + k + c)) (by simp only; omega) m
    simp only at we
    have ix := hb.ixI intE_len (k := q * c + k) (by omega) (by omega)
    have la : (q * c + k).toNat < dn.length := by omega
    have hto : (q + 1) * c + k = q * c + k + c := by rw [Int.add_mul]; omega
    have hmul : -9223372036854775808 ≤ (q + 1) * c ∧ (q + 1) * c ≤ 9223372036854775807 := by rw [Int.add_mul]; omega
    have hkc : k < c := by omega
    have hidx : (r * (c - 1) + (q * c + k)).toNat + 1 = (r * (c - 1) + (q * c + (k + 1))).toNat := by omega
    have hix : (r * (c - 1) + (q * c + k)).toNat = ac.length + (q * c + k).toNat := by omega
    have hmk : mkE ph (ac ++ dn) (r * (c - 1) + (q * c + k)).toNat (q * c + k, q * c + k + c) = ⟨q * c + k, q * c + k + c, jumpM (at0 ph (q * c + k).toNat) (at0 ph (q * c + k + c).toNat), at0 dn (q * c + k).toNat⟩ := by
      unfold mkE
      rw [hix, at0_right]
    have hrow : netM ph (ac ++ dn) (r * (c - 1) + (q * c + k)).toNat (rowL c (q * c) (s + 1) k) = (if voidE ph (q * c + k, q * c + k + c) = true then [] else [mkE ph (ac ++ dn) (r * (c - 1) + (q * c + k)).toNat (q * c + k, q * c + k + c)]) ++ netM ph (ac ++ dn) (r * (c - 1) + (q * c + (k + 1))).toNat (rowL c (q * c) s (k + 1)) := by
      rw [rowL, netM, hidx]
      cases voidE ph (q * c + k, q * c + k + c) <;> rfl
    rw [hrow]
    have hnb : Nat.ble 1 m.next = true := Nat.ble_eq_true_of_le hn
    cases hv : voidE ph (q * c + k, q * c + k + c)
    · simp only [Bool.false_eq_true, if_false]
      simp only [hv, cond_false] at we
      obtain ⟨M, hM⟩ : ∃ M, M = (m.new (0, fc + 4 + 28, 11) (.row [I 0, I 0, I 0, I 0] 0 false)).set (0, fc + 4 + 28, 11) (.row [I (q * c + k), I (q * c + k + c), I (jumpM (at0 ph (q * c + k).toNat) (at0 ph (q * c + k + c).toNat)), I (at0 dn (q * c + k).toNat)] 0 false) := ⟨_, rfl⟩
      have hMg : ∀ i : Id, i ≠ (0, fc + 4 + 28, 11) → M.get i = m.get i := fun i hi => by rw [hM, Mem.get_set, if_neg hi, Mem.get_new, if_neg hi]
      have g7 : M.get (0, fc + 4 + 28, 11) = some (.row [I (q * c + k), I (q * c + k + c), I (jumpM (at0 ph (q * c + k).toNat) (at0 ph (q * c + k + c).toNat)), I (at0 dn (q * c + k).toNat)] 0 false) := by rw [hM]; simp
      have g4 : M.get (0, 12, 4) = some (.row [I n, ev] 0 false) := by rw [hMg _ (by simp)]; exact h4
      have hGM : Gk 4 Edge.c okE M ev l := hG.frame fun id hid => hMg id (by rintro rfl; rcases hid with h | h <;> simp at h)
      obtain ⟨a', m2, A, hG2, u1, u2, n2, f2⟩ := hGM.app Edge.len (by omega) (bytes := 32) (id0 := (0, fc + 4 + 36, 116)) (Or.inr rfl) (by unfold roomy; omega) (mkE ph (ac ++ dn) (r * (c - 1) + (q * c + k)).toNat (q * c + k, q * c + k + c))
      have g4' : m2.get (0, 12, 4) = some (.row [I n, ev] 0 false) := by rw [f2 _ (by unfold okE; simp)]; exact g4
      have hI' : RefInv r c n p a b (m2.set (0, 12, 4) (.row [I n, a'] 0 false)) (l ++ [mkE ph (ac ++ dn) (r * (c - 1) + (q * c + k)).toNat (q * c + k, q * c + k + c)]) := by
        refine ⟨?_, ?_, ?_, by simp only [Mem.next_set, n2, hM, Mem.next_new]; exact hn, a', by simp, hG2.frame fun id hid => by rw [Mem.get_set, if_neg (by rintro rfl; rcases hid with h | h <;> simp at h)]⟩
        · rw [Mem.get_set, if_neg (by simp), f2 _ (by unfold okE; simp), hMg _ (by simp)]; exact h1
        · rw [Mem.get_set, if_neg (by simp), f2 _ (by unfold okE; simp), hMg _ (by simp)]; exact h2
        · rw [Mem.get_set, if_neg (by simp), f2 _ (by unfold okE; simp), hMg _ (by simp)]; exact h3
      have hel : ∀ M : Mem, elems M.get 4 (.slit [I (q * c + k), I (q * c + k + c), I (jumpM (at0 ph (q * c + k).toNat) (at0 ph (q * c + k + c).toNat)), I (at0 dn (q * c + k).toNat)] 1 true) = some ((mkE ph (ac ++ dn) (r * (c - 1) + (q * c + k)).toNat (q * c + k, q * c + k + c)).c, 1) := fun _ => by rw [hmk]; rfl
      have step : x2i (callE (d + 3)) hs 0 rec0 (j + 1) (.ptr (0, 0, 1) 0 0) (.ptr (0, 1, 2) 0 0) (.ptr (0, 4, 3) 0 0) (.ptr (0, 12, 4) 0 0) (I q) (I k) m fc = x2i (callE (d + 3)) hs 0 rec0 j (.ptr (0, 0, 1) 0 0) (.ptr (0, 1, 2) 0 0) (.ptr (0, 4, 3) 0 0) (.ptr (0, 12, 4) 0 0) (I q) (I (k + 1)) (m2.set (0, 12, 4) (.row [I n, a'] 0 false)) (fc + 4 + 39 + 3) := by
        simp only [x2i]
        unfold xbi xbh
        simp (disch := omega) [h1, h3, hkc, hto, ix, ld_int, we, hp.clean1, z_edge, apartIds, disj, tR, cAp, Nat.blt, hnb]
        simp only [List.getElem?_cons_zero, List.getElem?_cons_succ, bind_s]
        simp (disch := omega) [← hM, h4, g7, g4, mkLit_4', hel, A, g4', u1, u2, x9t]
      rw [step, ← List.append_assoc]
      exact ih (k + 1) j _ _ _ (by omega) (by omega) (by omega) (by simp; omega) hI'
    · simp only [if_true, List.nil_append]
      simp only [hv, cond_true] at we
      obtain ⟨M, hM⟩ : ∃ M, M = (m.new (0, fc + 4 + 28, 11) (.row [I 0, I 0, I 0, I 0] 0 false)).set (0, fc + 4 + 28, 11) (.row [I 0, I 0, I 0, I 0] 0 false) := ⟨_, rfl⟩
      have hMg : ∀ i : Id, i ≠ (0, fc + 4 + 28, 11) → M.get i = m.get i := fun i hi => by rw [hM, Mem.get_set, if_neg hi, Mem.get_new, if_neg hi]
      have hI' : RefInv r c n p a b M l := by
        refine ⟨?_, ?_, ?_, by simp only [hM, Mem.next_set, Mem.next_new]; exact hn, ev, ?_, hG.frame fun id hid => hMg id (by rintro rfl; rcases hid with h | h <;> simp at h)⟩ <;> rw [hMg _ (by simp)] <;> assumption
      have step : x2i (callE (d + 3)) hs 0 rec0 (j + 1) (.ptr (0, 0, 1) 0 0) (.ptr (0, 1, 2) 0 0) (.ptr (0, 4, 3) 0 0) (.ptr (0, 12, 4) 0 0) (I q) (I k) m fc = x2i (callE (d + 3)) hs 0 rec0 j (.ptr (0, 0, 1) 0 0) (.ptr (0, 1, 2) 0 0) (.ptr (0, 4, 3) 0 0) (.ptr (0, 12, 4) 0 0) (I q) (I (k + 1)) M (fc + 4 + 32 + 3) := by
        simp only [x2i]
        unfold xbi xbh
        simp (disch := omega) [h1, h3, hkc, hto, ix, ld_int, we, hp.clean1, z_edge, apartIds, disj, tR, cAp, Nat.blt, hnb]
        simp only [List.getElem?_cons_zero, List.getElem?_cons_succ, bind_s]
        simp (disch := omega) [← hM, x9t]
      rw [step]
      exact ih (k + 1) j l M _ (by omega) (by omega) (by omega) (by omega) hI'

theorem l_rNet0 (d : Nat) (hs : FHs) {r c n : Int} {p a b : AV} {ph ac dn : List Int} (hp : Ints p ph) (ha : Ints a ac) (hb : Ints b dn) (hph : PhIn ph) (r0 : 1 ≤ r) (r1 : r ≤ 64) (c0 : 1 ≤ c) (c1 : c ≤ 64) (hlen : (ph.length : Int) = r * c) (hac : (ac.length : Int) = r * (c - 1)) (hdn : (dn.length : Int) = (r - 1) * c) :
    ∀ (s : Nat) (q : Int) (j : Nat) (l : List Edge) (m : Mem) (fc : Nat), 0 ≤ q → q + s = r - 1 → s < j → l.length + s * c.toNat ≤ 20000 → RefInv r c n p a b m l →
    ∃ m' fc', x4g (callE (d + 3)) hs 0 j (.ptr (0, 0, 1) 0 0) (.ptr (0, 1, 2) 0 0) (.ptr (0, 4, 3) 0 0) (.ptr (0, 12, 4) 0 0) (I q) m fc = x1b (callE (d + 3)) hs 0 (.ptr (0, 1, 2) 0 0) (.ptr (0, 12, 4) 0 0) m' fc' ∧
      RefInv r c n p a b m' (l ++ netM ph (ac ++ dn) (r * (c - 1) + q * c).toNat (rowsL c c c.toNat s q)) := by
  have e5 : 0 ≤ r * (c - 1) := Int.mul_nonneg (by omega) (by omega)
  intro s
  induction s with
  | zero =>
    intro q j l m fc q0 hq hj hl hI
    obtain ⟨j, rfl⟩ : ∃ i, j = i + 1 := ⟨j - 1, by omega⟩
    refine ⟨m, fc + 5, ?_, by simpa [rowsL, netM] using hI⟩
    simp only [x4g]
    unfold xck
    simp (disch := omega) [hI.map, show ¬ (q + 1 < r) by omega]
  | succ s ih =>
    intro q j l m fc q0 hq hj hl hI
    obtain ⟨j, rfl⟩ : ∃ i, j = i + 1 := ⟨j - 1, by omega⟩
    rw [Nat.succ_mul] at hl
    obtain ⟨m1, f1, h1, I1⟩ := l_rNet1 d hs (n := n) hp ha hb hph r1 c0 c1 hlen hac hdn r0 q q0 (by omega) (x4g (callE (d + 3)) hs 0 j) c.toNat 0 NN l m (fc + 5 + 1) (by omega) (by omega) (by rw [NN_eq]; omega) (by omega) hI
    have hqc0 : 0 ≤ q * c := Int.mul_nonneg q0 (by omega)
    have hl1 := netM_len ph (ac ++ dn) (rowL c (q * c) c.toNat 0) (r * (c - 1) + (q * c + 0)).toNat
    rw [rowL_len] at hl1
    obtain ⟨m2, f2, h2, I2⟩ := ih (q + 1) j _ m1 f1 (by omega) (by omega) (by omega) (by rw [List.length_append]; omega) I1
    refine ⟨m2, f2, ?_, ?_⟩
    · rw [← h2, ← h1]
      rw [x4g]
      unfold xck xbj
      simp (disch := omega) [hI.map, show q + 1 < r by omega]
    · rw [rowsL, netM_app, rowL_len, ← List.append_assoc]
      rw [Int.add_zero] at I2
      rw [show (r * (c - 1) + q * c).toNat + c.toNat = (r * (c - 1) + (q + 1) * c).toNat by rw [Int.add_mul]; omega]
      exact I2
theorem l_rNet2 (d : Nat) (hs : FHs) {r c n : Int} {p a b : AV} {ph ac dn : List Int} (hp : Ints p ph) (ha : Ints a ac) (hb : Ints b dn) (hph : PhIn ph) (r0 : 1 ≤ r) (r1 : r ≤ 64) (c0 : 1 ≤ c) (c1 : c ≤ 64) (hlen : (ph.length : Int) = r * c) (hac : (ac.length : Int) = r * (c - 1)) (hdn : (dn.length : Int) = (r - 1) * c) :
    ∀ (s : Nat) (q : Int) (j : Nat) (l : List Edge) (m : Mem) (fc : Nat), 0 ≤ q → q + s = r → s < j → l.length + s * (c.toNat - 1) ≤ 10000 → RefInv r c n p a b m l →
    ∃ m' fc', x4h (callE (d + 3)) hs 0 j (.ptr (0, 0, 1) 0 0) (.ptr (0, 1, 2) 0 0) (.ptr (0, 4, 3) 0 0) (.ptr (0, 12, 4) 0 0) (I q) m fc = x16 (callE (d + 3)) hs 0 (.ptr (0, 0, 1) 0 0) (.ptr (0, 1, 2) 0 0) (.ptr (0, 4, 3) 0 0) (.ptr (0, 12, 4) 0 0) m' fc' ∧
      RefInv r c n p a b m' (l ++ netM ph (ac ++ dn) (q * (c - 1)).toNat (rowsL c 1 (c.toNat - 1) s q)) := by
  intro s
  induction s with
  | zero =>
    intro q j l m fc q0 hq hj hl hI
    obtain ⟨j, rfl⟩ : ∃ i, j = i + 1 := ⟨j - 1, by omega⟩
    refine ⟨m, fc + 4, ?_, by simpa [rowsL, netM] using hI⟩
    simp only [x4h]
    unfold xcl
    simp (disch := omega) [hI.map, show ¬ (q < r) by omega]
  | succ s ih =>
    intro q j l m fc q0 hq hj hl hI
    obtain ⟨j, rfl⟩ : ∃ i, j = i + 1 := ⟨j - 1, by omega⟩
    rw [Nat.succ_mul] at hl
    obtain ⟨m1, f1, h1, I1⟩ := l_rNet3 d hs (n := n) hp ha hb hph r1 c0 c1 hlen hac q q0 (by omega) (x4h (callE (d + 3)) hs 0 j) (c.toNat - 1) 0 NN l m (fc + 4 + 1) (by omega) (by omega) (by rw [NN_eq]; omega) (by omega) hI
    have hqc0 : 0 ≤ q * (c - 1) := Int.mul_nonneg q0 (by omega)
    have hl1 := netM_len ph (ac ++ dn) (rowL 1 (q * c) (c.toNat - 1) 0) (q * (c - 1) + 0).toNat
    rw [rowL_len] at hl1
    obtain ⟨m2, f2, h2, I2⟩ := ih (q + 1) j _ m1 f1 (by omega) (by omega) (by omega) (by rw [List.length_append]; omega) I1
    refine ⟨m2, f2, ?_, ?_⟩
    · rw [← h2, ← h1]
      rw [x4h]
      unfold xcl xbm
      simp (disch := omega) [hI.map, show q < r by omega]
    · rw [rowsL, netM_app, rowL_len, ← List.append_assoc]
      rw [Int.add_zero] at I2
      rw [show (q * (c - 1)).toNat + (c.toNat - 1) = ((q + 1) * (c - 1)).toNat by rw [Int.add_mul]; omega]
      exact I2

theorem w_rNetOf (d : Nat) {r c : Int} {p a b : AV} {ph ac dn : List Int} (hp : Ints p ph) (ha : Ints a ac) (hb : Ints b dn) (hr : taskM r c ph ac dn = 0) (m : Mem) :
    ∃ ev, Sl Edge.c ev (netOfM r c ph ac dn) ∧ sCall0 (callE (d + 4)) x6 [.agg [I r, I c, p, a, b]] m = some (.agg [I ph.length, ev], m) := by
  obtain ⟨r0, r1, c0, c1, hlen, hph, hac, hdn, h144, -⟩ := task_right hr
  have hin := phIn_of hph
  have hrc : (r * c).toNat = r.toNat * c.toNat := Int.toNat_mul (by omega) (by omega)
  have hb1 : r.toNat * (c.toNat - 1) ≤ 144 := Nat.le_trans (Nat.mul_le_mul_left r.toNat (show c.toNat - 1 ≤ c.toNat by omega)) (by omega)
  have hb2 : (r.toNat - 1) * c.toNat ≤ 144 := Nat.le_trans (Nat.mul_le_mul_right c.toNat (show r.toNat - 1 ≤ r.toNat by omega)) (by omega)
  have I0 : RefInv r c ph.length p a b ((((((⟨[], 1⟩ : Mem).new (0, 0, 1) (.row [I r, I c, p, a, b] 0 false)).new (0, 1, 2) (.row [I 0, nilS] 0 false)).new (0, 4, 3) (.row [I 0, I 0, nilS] 0 false)).set (0, 4, 3) (.row [I r, I c, p] 0 false)).new (0, 12, 4) (.row [I 0, nilS] 0 false) |>.set (0, 12, 4) (.row [I ph.length, nilS] 0 false)) [] := by
    refine ⟨?_, ?_, ?_, by simp, nilS, ?_, .nil⟩ <;> simp
  obtain ⟨m1, f1, h1, I1⟩ := l_rNet2 d [] hp ha hb hin r0 r1 c0 c1 hlen hac hdn r.toNat 0 NN [] _ 15 (by omega) (by omega) (by rw [NN_eq]; omega) (by simp; omega) I0
  have hl1 := netM_len ph (ac ++ dn) (rowsL c 1 (c.toNat - 1) r.toNat 0) (0 * (c - 1)).toNat
  rw [rowsL_len] at hl1
  obtain ⟨m2, f2, h2, I2⟩ := l_rNet0 d [] hp ha hb hin r0 r1 c0 c1 hlen hac hdn (r.toNat - 1) 0 NN _ m1 (f1 + 1) (by omega) (by omega) (by rw [NN_eq]; omega) (by simp only [List.nil_append]; omega) I1
  have hE : [] ++ netM ph (ac ++ dn) (0 * (c - 1)).toNat (rowsL c 1 (c.toNat - 1) r.toNat 0) ++ netM ph (ac ++ dn) (r * (c - 1) + 0 * c).toNat (rowsL c c c.toNat (r.toNat - 1) 0) = netOfM r c ph ac dn := by
    unfold netOfM
    rw [sides_rows r0 c0, netM_app, rowsL_len, List.nil_append, Int.zero_mul, Int.zero_mul, Int.add_zero]
    congr 2
    have h' : (r * (c - 1)).toNat = r.toNat * (c.toNat - 1) := (Int.toNat_mul (by omega) (by omega)).trans (by congr 1; omega)
    rw [h']; simp
  rw [hE] at I2
  obtain ⟨-, hres, -, -, ev, hgn, hG⟩ := I2
  have hG2 : Gk 4 Edge.c okE (m2.set (0, 1, 2) (.row [I ph.length, ev] 0 false)) ev (netOfM r c ph ac dn) := hG.frame fun id hid => by rw [Mem.get_set, if_neg (by rintro rfl; rcases hid with h | h <;> simp at h)]
  obtain ⟨ev', hev, hfz⟩ := hG2.frz (k := 3) Edge.len Edge.still1
  refine ⟨ev', hev, call0_frz (by simp [hp.still1, ha.still1, hb.still1]) (m' := m2.set (0, 1, 2) (.row [I ph.length, ev] 0 false)) (r := .agg [I ph.length, ev]) ?_ ?_⟩
  · rw [x11w]
    unfold x8l xfj
    have hbn : sBuild [I 0, nilS] [(0, 1, I (r * c))] = some (.agg [I (r * c), nilS]) := by simp [sBuild, sFill]
    have hb3 := mul64 (wi_iff.mpr ⟨r0, r1⟩) (wi_iff.mpr ⟨c0, c1⟩)
    rw [hlen] at h1
    simp (disch := omega) [mem0, hp.one, ha.one, hb.one, z_map, z_net, hbn]
    unfold xcm
    rw [h1]
    unfold x16
    rw [h2]
    unfold x1b
    simp [hgn, hres, hG.one.1, hG.one.2, sLdP, hlen]
  · show ([I (ph.length : Int), ev].mapM (frz (m2.set (0, 1, 2) (.row [I ph.length, ev] 0 false)).get 5)).map AV.agg = _
    simp only [List.mapM_cons, List.mapM_nil, hfz]
    rfl

end Go.Ix
