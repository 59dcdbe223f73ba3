import Derived.Test.YtljibmnhhdiakaaMPaths
import Derived.Test.YtljibmnhhdiakaaWAlong
import Derived.Test.YtljibmnhhdiakaaWLawTasks
set_option linter.unusedSimpArgs false
set_option linter.unusedVariables false
namespace Go.Ix
open Go.Proofs
def x1mg (r c : Int) (ph ac dn : List Int) : Bool := x1gn r c ph ac dn && decide (x1fo r c ph ac dn = 0)
theorem w_Small (d : Nat) {r c : Int} {p a b : AV} {ph ac dn : List Int} (hp : Ints p ph) (ha : Ints a ac) (hb : Ints b dn) (m : Mem) :
    x1e8 (x1e6 (d + 6)) x43 [.agg [I r, I c, p, a, b]] m = some (B (x1mg r c ph ac dn), m) := by
  refine Ans.call0 ?_ (by simp [hp.still1, ha.still1, hb.still1]) rfl
  unfold Ans
  rw [xrw]
  unfold x6w xdw
  simp [mem0, hp.one, ha.one, hb.one, w_small d hp ha hb]
  unfold x1mg
  cases c1 : x1gn r c ph ac dn
  · simp
  · obtain ⟨l1, l2, l3⟩ := x1r8 c1
    simp [x1r2 (d + 1) (r := r) (c := c) hp ha hb (by omega) (by omega) (by omega)]
theorem l_Paths (d : Nat) {pa a : AV} {path out un : List Int} (hpa : Ints pa path) (ha : Ints a out) {r c : Int} (hlo : out.length = path.length) (hpl : path.length ≤ 30) (hul : un.length ≤ 100000)
    (hs : ∀ i, i + 1 < path.length → (0 ≤ at0 path i ∧ at0 path i < un.length) ∧ (0 ≤ at0 path (i + 1) ∧ at0 path (i + 1) < un.length) ∧ at0 un (at0 path (i + 1)).toNat - at0 un (at0 path i).toNat = at0 out (i + 1) - at0 out i ∧ -10000 ≤ at0 out (i + 1) - at0 out i ∧ at0 out (i + 1) - at0 out i ≤ 10000) {id : Id} {ur uc : Int} {us : AV} (hus : Ints us un) :
    ∀ (j k : Nat) (m : Mem) (fc : Nat), m.get id = some (.row [I ur, I uc, us] 0 false) → 1 ≤ k → path.length - k < j →
    ∃ m', x3i (x1e6 d) [] 0 j pa (.ptr id 0 0) a (I k) m fc = some (B true, m') := by
  intro j
  induction j with
  | zero => intro k m fc _ _ h; omega
  | succ j ih =>
    intro k m fc hm hk hj
    simp only [x3i]
    unfold xdc
    by_cases c : k < path.length
    rotate_left
    · have : ¬ ((k : Int) < (path.length : Int)) := by omega
      simp [hpa.len x1ej, this, x3h]
    have hc : (k : Int) < (path.length : Int) := by omega
    obtain ⟨i, hi⟩ : ∃ i, k = i + 1 := ⟨k - 1, by omega⟩
    have hsi := hs i (by omega)
    rw [← hi] at hsi
    obtain ⟨⟨a0, a1⟩, ⟨b0, b1⟩, e, e1, e2⟩ := hsi
    have ix1 := hpa.ix x1et c
    have ix0 := hpa.ix x1et (k := i) (by omega)
    have ox1 := ha.ix x1et (k := k) (by omega)
    have ox0 := ha.ix x1et (k := i) (by omega)
    have ux1 := hus.ixI x1et b0 b1
    have ux0 := hus.ixI x1et a0 a1
    have hki : (k : Int) - 1 = (i : Int) := by omega
    obtain ⟨m', hm'⟩ := ih (k + 1) m (fc + 36) hm (by omega) (by omega)
    have w1 : w64 (at0 un (at0 path k).toNat - at0 un (at0 path i).toNat) = at0 out k - at0 out i := by rw [x1f1 (by omega) (by omega)]; exact e
    have w2 : w64 (at0 out k - at0 out i) = at0 out k - at0 out i := x1f1 (by omega) (by omega)
    refine ⟨m', ?_⟩
    simp (disch := omega) [hpa.len x1ej, hc, hm, ix1, ix0, ox1, ox0, x1f5, ux1, ux0, hki, e, hus.one]
    simpa using hm'
theorem law_UnwrapPaths {r c : Int} {p a b pa : AV} {ph ac dn path : List Int} (hp : Ints p ph) (ha : Ints a ac) (hb : Ints b dn) (hpa : Ints pa path) : ∃ m', x1e6 31 [] x4s [.agg [I r, I c, p, a, b], pa] mem0 = some (B true, m') := by
  rw [xrn]
  unfold x6i xdd
  simp [mem0, hp.one, ha.one, hb.one, w_awake, w_Small 24 hp ha hb]
  cases c0 : x1mg r c ph ac dn
  · simp
  unfold x1mg at c0
  simp only [Bool.and_eq_true, decide_eq_true_eq] at c0
  obtain ⟨c1, c2⟩ := c0
  obtain ⟨l1, l2, l3⟩ := x1r8 c1
  obtain ⟨r0, r1, q0, q1, hlen, hph, hac, hdn, h144, hw⟩ := x1kd c2
  simp [hpa.len x1ej]
  by_cases c3 : 30 < (path.length : Int)
  · simp [c3]
  have hh1 := fun m => w_Has 29 (x := 0) ha (show ac.length ≤ 1000000 by omega) m
  have hh2 := fun m => w_Has 29 (x := 0) hb (show dn.length ≤ 1000000 by omega) m
  cases c4 : ac.any fun y => decide (y = 0)
  rotate_left
  · simp only [c4] at hh1
    simp [c3, hh1, ha.one, ha.clean]
  simp only [c4] at hh1
  cases c5 : dn.any fun y => decide (y = 0)
  rotate_left
  · simp only [c5] at hh2
    simp [c3, hh1, hh2, ha.one, hb.one, ha.clean, hb.clean]
  simp only [c5] at hh2
  simp [c3, hh1, hh2, ha.one, hb.one, ha.clean, hb.clean]
  obtain ⟨m0, hm0⟩ : ∃ m0 : Mem, m0 = (⟨[], 1⟩ : Mem).new (0, 0, 2) (.row [I r, I c, p, a, b] 0 false) := ⟨_, rfl⟩
  have g0 : m0.get (0, 0, 2) = some (.row [I r, I c, p, a, b] 0 false) := by rw [hm0]; simp
  rw [← hm0]
  obtain ⟨p', a', b', hp', ha', hb', hcp⟩ := x1t8 27 (r := r) (c := c) hp ha hb (by omega) (by omega) (by omega) m0
  obtain ⟨fl, tu, ex, hSo, hu⟩ := w_Unwrap 20 (r := r) (c := c) hp' ha' hb' (by omega) (by omega) (by omega) c2 c1 m0
  obtain ⟨T, hT⟩ : ∃ T, T = x1ft ph.length (x1g3 ph.length (x1g9 r c ph ac dn)) tu := ⟨_, rfl⟩
  obtain ⟨un, hun⟩ : ∃ un, un = unwM ph.length ph T := ⟨_, rfl⟩
  have hul : un.length = ph.length := by rw [hun]; exact x1if _ _ _
  have hTb := hSo.turns (by omega)
  rw [← hT] at hu hTb
  rw [← hun] at hu
  have hus : Ints (.slit (un.flatMap intE) ph.length false) un := by have := Sl.lit un false (enc := intE); rwa [hul] at this
  obtain ⟨us, hus'⟩ : ∃ us, us = AV.slit (un.flatMap intE) ph.length false := ⟨_, rfl⟩
  rw [← hus'] at hu hus
  obtain ⟨m1, hm1⟩ : ∃ m1 : Mem, m1 = (m0.new (0, 30, 5) (.row [I 0, I 0, nilS] 0 false)).set (0, 30, 5) (.row [I r, I c, us] 0 false) := ⟨_, rfl⟩
  have g1 : m1.get (0, 0, 2) = some (.row [I r, I c, p, a, b] 0 false) := by rw [hm1, hm0]; simp
  have g5 : m1.get (0, 30, 5) = some (.row [I r, I c, us] 0 false) := by rw [hm1]; simp
  obtain ⟨p2, hp2, hcm⟩ := x1r1 28 (r := r) (c := c) hp (by omega) m1
  obtain ⟨pa', hpa', hci⟩ := x1m4 29 hpa (by omega) m1
  obtain ⟨al, hal, hA⟩ := w_pAlong 20 (r := r) (c := c) hp2 hpa' (by omega) m1
  obtain ⟨K, hK⟩ : ∃ K, K = x1gw T 0 (x1g9 r c ph ac dn) := ⟨_, rfl⟩
  rw [← hK] at hu
  have hlu : (un.length : Int) = (ph.length : Int) := by rw [hul]
  simp [c2, hcp, hu, x1kb, hus.one, hus.clean]
  rw [← hm1]
  simp [g1, g5, hus.len x1ej, hp.len x1ej, hlu, hcm, hci, hA, hal.len x1ej, hpa.len x1ej, hp.one, hp.clean]
  by_cases k1 : K = 0
  rotate_left
  · simp [k1]
  by_cases k2 : (x1hx r c ph path).2 = 0
  rotate_left
  · simp [k1, k2]
  have hM1 : x1gd isW r c ph = 0 := by
    by_cases e : x1gd isW r c ph = 0
    · exact e
    · simp [x1hx, e] at k2
  have hAP : x1hx r c ph path = x1fd ph c [] 0 path := by
    unfold x1hx x1jc
    rw [decide_eq_true hM1, cond_true, decide_eq_false (by omega), cond_false]
  rw [hAP] at k2 hal ⊢
  obtain ⟨s1, s2⟩ := alongM_ok k2
  have hll : ((x1fd ph c [] 0 path).1.length : Int) = (path.length : Int) := by rw [s1]
  have hz : ∀ x ∈ ac ++ dn, x ≠ 0 := fun x hx e => by
    subst e
    rcases List.mem_append.mp hx with h | h
    · have := List.any_eq_false.mp c4 _ h; simp at this
    · have := List.any_eq_false.mp c5 _ h; simp at this
  have hcost : x1hv (at0 T) (x1g9 r c ph ac dn) = 0 := by rw [x1qw] at hK; omega
  have hin := x1kc hph
  obtain ⟨m', hm'⟩ := l_Paths 30 hpa hal (r := r) (c := c) (un := un) s1 (by omega) (by omega) (fun i hi => by
    obtain ⟨h1, h2⟩ := s2 i hi
    have h3 := unw_step (T := T) c2 hz hcost h1
    rw [← hun] at h3
    have h4 := x1iu (at0 ph (at0 path (i + 1)).toNat - at0 ph (at0 path i).toNat)
    have h5 := x1iu (at0 ph (at0 path i).toNat - at0 ph (at0 path (i + 1)).toNat)
    have ha0 := h1.a0
    have hb0 := h1.b0
    have h6 : -10000 ≤ x1fn ph (at0 path i) (at0 path (i + 1)) ∧ x1fn ph (at0 path i) (at0 path (i + 1)) ≤ 10000 := by unfold x1fn; split <;> omega
    exact ⟨by omega, by omega, by omega, by omega, by omega⟩) hus NN 1 m1 70 g5 (by omega) (by rw [x1f2]; omega)
  simp [k1, k2, hll]
  refine ⟨m', ?_⟩
  unfold x94
  exact hm'
end Go.Ix
