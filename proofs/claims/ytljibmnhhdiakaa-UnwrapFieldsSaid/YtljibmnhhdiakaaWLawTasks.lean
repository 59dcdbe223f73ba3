/- The law UnwrapTasks. -/
import Derived.Test.YtljibmnhhdiakaaWNet3
import Derived.Test.YtljibmnhhdiakaaWAwake5
set_option linter.unusedSimpArgs false
set_option linter.unusedVariables false
namespace Go.Ix
open Go.Proofs

/-- The net of a task, or the error. -/
theorem w_pNetOf (d : Nat) {r c : Int} {p a b : AV} {ph ac dn : List Int} (hp : Ints p ph) (ha : Ints a ac) (hb : Ints b dn) (hl : ph.length ≤ 300000) (h1 : ac.length ≤ 300000) (h2 : dn.length ≤ 300000) (m : Mem) :
    ∃ ev, Sl Edge.c ev (bif decide (taskM r c ph ac dn = 0) then netOfM r c ph ac dn else []) ∧ sCall0 (callE (d + 10)) x64 [.agg [I r, I c, p, a, b]] m = some (.tup [.agg [I (bif decide (taskM r c ph ac dn = 0) then ph.length else 0), ev], I (taskM r c ph ac dn)], m) := by
  have hck := fun m => w_pCheckTask d (r := r) (c := c) hp ha hb hl h1 h2 m
  by_cases hr : taskM r c ph ac dn = 0
  · obtain ⟨ev, hev, hn⟩ := w_netOf (d + 5) hp ha hb hr (((⟨[], 1⟩ : Mem).new (0, 0, 1) (.row [I r, I c, p, a, b] 0 false)).new (0, 1, 2) (.row [I 0, nilS] 0 false))
    refine ⟨ev, by simpa [hr] using hev, Ans.call0_tup ?_ (by simp [hp.still1, ha.still1, hb.still1]) (by simp [hev.still1, hr])⟩
    unfold Ans
    rw [xqb]
    unfold x7a xcc
    simp [mem0, hp.one, ha.one, hb.one, z_net, hck, hr, hn, hev.one, sLdP]
  · refine ⟨nilS, by simp [hr]; exact Or.inl ⟨rfl, rfl⟩, Ans.call0_tup ?_ (by simp [hp.still1, ha.still1, hb.still1]) (by simp [hr])⟩
    unfold Ans
    rw [xqb]
    unfold x7a xcc
    have hb0 : sBuild [I 0, nilS] [] = some (.agg [I 0, nilS]) := rfl
    simp [mem0, hp.one, ha.one, hb.one, z_net, hck, hr, hb0, sLdP]

theorem small_len {r c : Int} {ph ac dn : List Int} (h : smallM r c ph ac dn = true) : ph.length ≤ 164 ∧ ac.length ≤ 300 ∧ dn.length ≤ 300 := by
  unfold smallM at h
  by_cases c1 : 164 < (ph.length : Int)
  · simp [c1] at h
  by_cases c2 : 300 < (ac.length : Int)
  · simp [c2] at h
  by_cases c3 : 300 < (dn.length : Int)
  · simp [c3] at h
  omega
theorem netOf_len {r c : Int} {ph ac dn : List Int} (h : taskM r c ph ac dn = 0) : (netOfM r c ph ac dn).length ≤ 1000 := by
  obtain ⟨r0, r1, c0, c1, hlen, hph, hac, hdn, h144, -⟩ := task_right h
  have h1 := netM_len ph (ac ++ dn) (sidesM r c) 0
  have h2 := sides_len r0 c0
  have e1 : r * (c - 1) = r * c - r := by rw [Int.mul_sub]; omega
  have e2 : (r - 1) * c = r * c - c := by rw [Int.sub_mul]; omega
  unfold netOfM
  omega

theorem law_UnwrapTasks {r c : Int} {p a b : AV} {ph ac dn : List Int} (hp : Ints p ph) (ha : Ints a ac) (hb : Ints b dn) : ∃ m', callE 31 [] x77 [.agg [I r, I c, p, a, b]] mem0 = some (B true, m') := by
  rw [x11m]
  unfold x8b xf9
  simp [mem0, hp.one, ha.one, hb.one, w_awake, w_small 25 hp ha hb]
  cases c1 : smallM r c ph ac dn
  · simp
  obtain ⟨l1, l2, l3⟩ := small_len c1
  obtain ⟨m0, hm0⟩ : ∃ m0 : Mem, m0 = (⟨[], 1⟩ : Mem).new (0, 0, 1) (.row [I r, I c, p, a, b] 0 false) := ⟨_, rfl⟩
  have g0 : m0.get (0, 0, 1) = some (.row [I r, I c, p, a, b] 0 false) := by rw [hm0]; simp
  obtain ⟨p', a', b', hp', ha', hb', hcp⟩ := w_CopyTask 27 (r := r) (c := c) hp ha hb (by omega) (by omega) (by omega) m0
  obtain ⟨ev, hev, hn⟩ := w_pNetOf 20 (r := r) (c := c) hp' ha' hb' (by omega) (by omega) (by omega) m0
  obtain ⟨m1, hm1⟩ : ∃ m1 : Mem, m1 = (m0.new (0, 13, 3) (.row [I 0, nilS] 0 false)).set (0, 13, 3) (.row [I (bif decide (taskM r c ph ac dn = 0) then ph.length else 0), ev] 0 false) := ⟨_, rfl⟩
  have g1 : m1.get (0, 0, 1) = some (.row [I r, I c, p, a, b] 0 false) := by rw [hm1, hm0]; simp
  have g3 : m1.get (0, 13, 3) = some (.row [I (bif decide (taskM r c ph ac dn = 0) then ph.length else 0), ev] 0 false) := by rw [hm1]; simp
  obtain ⟨p2, a2, b2, hp2, ha2, hb2, hcp2⟩ := w_CopyTask 27 (r := r) (c := c) hp ha hb (by omega) (by omega) (by omega) m1
  rw [← hm0]
  simp only [Bool.not_true, sCond_f]
  rw [hcp]
  simp only [bind_s]
  rw [hn]
  simp only [bind_s, sExt_tup, List.getElem?_cons_zero, List.getElem?_cons_succ]
  have hev1 := hev.one
  simp only [z_net]
  simp
  rw [hev1]
  simp only [cond_t]
  simp only [bind_s]
  simp [g0]
  rw [← hm1]
  simp [g1, w_rCheckTask 26 (r := r) (c := c) hp ha hb (by omega) (by omega) (by omega), hcp2, w_pCheckTask 21 (r := r) (c := c) hp2 ha2 hb2 (by omega) (by omega) (by omega)]
  by_cases hr : taskM r c ph ac dn = 0
  · obtain ⟨ev2, hev2, hn2⟩ := w_rNetOf 26 hp ha hb hr m1
    simp [hr] at hev g3
    obtain ⟨x, hx, hxe⟩ := w_SameNet 29 (n := ph.length) (n' := ph.length) hev hev2 (by have := netOf_len hr; omega) m1
    have hx1 : x = true := hxe.mpr ⟨rfl, rfl⟩
    subst hx1
    simp [hr, g1, g3, hn2, hx, hp.clean1, ha.clean1, hb.clean1]
  · simp [hr] at hev g3
    have hb0 : sBuild [I 0, nilS] [] = some (.agg [I 0, nilS]) := rfl
    obtain ⟨x, hx, hxe⟩ := w_SameNet 29 (n := 0) (n' := 0) (b := nilS) (k := []) hev (Or.inl ⟨rfl, rfl⟩) (by simp) m1
    have hx1 : x = true := hxe.mpr ⟨rfl, rfl⟩
    subst hx1
    simp [hr, g3, z_net, hb0, hx]

end Go.Ix
