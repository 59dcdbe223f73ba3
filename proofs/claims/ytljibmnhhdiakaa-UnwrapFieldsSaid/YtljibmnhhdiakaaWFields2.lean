/- Fields of tasks: the calls. -/
import Derived.Test.YtljibmnhhdiakaaWFields
set_option linter.unusedSimpArgs false
set_option linter.unusedVariables false
namespace Go.Ix
open Go.Proofs

theorem w_turnsOf (d : Nat) {r c r' c' : Int} {p a b u : AV} {ph us : List Int} (hp : Ints p ph) (ha : still1 a = true ∧ a.one = true) (hb : still1 b = true ∧ b.one = true) (hu : Ints u us) (hph : PhIn ph) (hl : ph.length ≤ 100000) (m : Mem) :
    ∃ t, Ints t (fieldM r c ph r' c' us).1 ∧ sCall0 (callE (d + 3)) xo [.agg [I r, I c, p, a, b], .agg [I r', I c', u]] m = some (.tup [t, I (fieldM r c ph r' c' us).2], m) := by
  obtain ⟨ha1, ha2⟩ := ha
  obtain ⟨hb1, hb2⟩ := hb
  by_cases c1 : r' = r ∧ c' = c ∧ (us.length : Int) = ph.length
  · obtain ⟨rfl, rfl, hl2⟩ := c1
    have hm : ∃ m0 : Mem, m0 = (((((⟨[], 1⟩ : Mem).new (0, 0, 2) (.row [I r', I c', p, a, b] 0 false)).new (0, 1, 3) (.row [I r', I c', u] 0 false)).new (0, 6, 6) (.row [I 0, I 0, nilS] 0 false)).set (0, 6, 6) (.row [I r', I c', p] 0 false)).new (0, 32, 36) (.row ((List.replicate ph.length (0 : Int)).flatMap intE) 0 false) := ⟨_, rfl⟩
    obtain ⟨m0, hm⟩ := hm
    obtain ⟨x, m', h1, t, h2, h3⟩ := l_turnsOf d [] (r := r') (c := c') hp hu hph (by omega) (by omega) us ph 0 NN [] m0 38 rfl rfl (by rw [NN_eq]; omega) rfl (by omega) (by rw [hm]; simp) (by rw [hm]; simp) (by rw [hm, show us.length = ph.length by omega]; unfold OwnI; simp)
    have e : fieldM r' c' ph r' c' us = turnsM [] ph us := by simp [fieldM, hl2]
    rw [e]
    refine ⟨t, h2, call0_frz (by simp [hp.still1, hu.still1, ha1, hb1]) (m' := m') (r := .tup [x, I (turnsM [] ph us).2]) ?_ ?_⟩
    · rw [xqk]
      unfold x7m xeb xea
      rw [hl2] at h1
      rw [show us.length = ph.length by omega] at h1
      simp (disch := omega) [mem0, hp.one, hu.one, ha2, hb2, z_map, hp.len u_ints, hu.len u_ints, hl2, z_ints, mkSl_int]
      rw [← hm]
      exact h1
    · show ([x, I (turnsM [] ph us).2].mapM (frz m'.get 5)).map AV.tup = _
      simp only [List.mapM_cons, List.mapM_nil, h3]
      rfl
  · have e : fieldM r c ph r' c' us = ([], 10) := by
      unfold fieldM
      by_cases h1 : r' = r <;> by_cases h2 : c' = c <;> by_cases h3 : (us.length : Int) = ph.length <;> simp [h1, h2, h3] <;> exact absurd ⟨h1, h2, h3⟩ c1
    rw [e]
    refine ⟨nilS, Or.inl ⟨rfl, rfl⟩, Ans.call0_tup ?_ (by simp [hp.still1, hu.still1, ha1, hb1]) rfl⟩
    unfold Ans
    rw [xqk]
    unfold x7m xeb
    by_cases h1 : r' = r
    · by_cases h2 : c' = c
      · have h3 : ¬ ((us.length : Int) = ph.length) := fun h3 => c1 ⟨h1, h2, h3⟩
        simp [mem0, hp.one, hu.one, ha2, hb2, z_map, hp.len u_ints, hu.len u_ints, h1, h2, h3]
      · simp [mem0, hp.one, hu.one, ha2, hb2, z_map, hp.len u_ints, hu.len u_ints, h1, h2]
    · simp [mem0, hp.one, hu.one, ha2, hb2, z_map, hp.len u_ints, hu.len u_ints, h1]
theorem w_rTurnsOf (d : Nat) {r c r' c' : Int} {p a b u : AV} {ph us : List Int} (hp : Ints p ph) (ha : still1 a = true ∧ a.one = true) (hb : still1 b = true ∧ b.one = true) (hu : Ints u us) (hph : PhIn ph) (hl : ph.length ≤ 100000) (m : Mem) :
    ∃ t, Ints t (fieldM r c ph r' c' us).1 ∧ sCall0 (callE (d + 3)) xy [.agg [I r, I c, p, a, b], .agg [I r', I c', u]] m = some (.tup [t, I (fieldM r c ph r' c' us).2], m) := by
  obtain ⟨ha1, ha2⟩ := ha
  obtain ⟨hb1, hb2⟩ := hb
  by_cases c1 : r' = r ∧ c' = c ∧ (us.length : Int) = ph.length
  · obtain ⟨rfl, rfl, hl2⟩ := c1
    obtain ⟨x, m', h1, t, h2, h3⟩ := l_rTurnsOf d [] (r := r') (c := c') (r' := r') (c' := c') (a0 := a) (b0 := b) hp hu hph (by omega) (by omega) us ph 0 NN [] nilS (((⟨[], 1⟩ : Mem).new (0, 0, 2) (.row [I r', I c', p, a, b] 0 false)).new (0, 1, 3) (.row [I r', I c', u] 0 false)) 30 rfl rfl (by rw [NN_eq]; omega) rfl (by simp) (by simp) Gq.nil
    have e : fieldM r' c' ph r' c' us = turnsM [] ph us := by simp [fieldM, hl2]
    rw [e]
    refine ⟨t, h2, call0_frz (by simp [hp.still1, hu.still1, ha1, hb1]) (m' := m') (r := .tup [x, I (turnsM [] ph us).2]) ?_ ?_⟩
    · rw [xqe]
      unfold x7e xd2 xd1
      simp (disch := omega) [mem0, hp.one, hu.one, ha2, hb2, hp.len u_ints, hu.len u_ints, hl2]
      exact h1
    · show ([x, I (turnsM [] ph us).2].mapM (frz m'.get 5)).map AV.tup = _
      simp only [List.mapM_cons, List.mapM_nil, h3]
      rfl
  · have e : fieldM r c ph r' c' us = ([], 10) := by
      unfold fieldM
      by_cases h1 : r' = r <;> by_cases h2 : c' = c <;> by_cases h3 : (us.length : Int) = ph.length <;> simp [h1, h2, h3] <;> exact absurd ⟨h1, h2, h3⟩ c1
    rw [e]
    refine ⟨nilS, Or.inl ⟨rfl, rfl⟩, Ans.call0_tup ?_ (by simp [hp.still1, hu.still1, ha1, hb1]) rfl⟩
    unfold Ans
    rw [xqe]
    unfold x7e xd2
    by_cases h1 : r' = r
    · by_cases h2 : c' = c
      · have h3 : ¬ ((us.length : Int) = ph.length) := fun h3 => c1 ⟨h1, h2, h3⟩
        simp [mem0, hp.one, hu.one, ha2, hb2, hp.len u_ints, hu.len u_ints, h1, h2, h3]
      · simp [mem0, hp.one, hu.one, ha2, hb2, hp.len u_ints, hu.len u_ints, h1, h2]
    · simp [mem0, hp.one, hu.one, ha2, hb2, hp.len u_ints, hu.len u_ints, h1]

/-- Turns that were found are in range, as many as phases. -/
theorem turnsM_in {r : List Int × Int} : ∀ {ps us out : List Int}, turnsM out ps us = r → PhIn ps → TurnsIn out → us.length = ps.length → TurnsIn r.1 ∧ (r.2 = 0 → r.1.length = out.length + us.length)
  | [], us, out, h, _, ho, hl => by
    have : us = [] := List.length_eq_zero_iff.mp (by simpa using hl)
    subst this
    simp only [turnsM] at h
    subst h
    exact ⟨ho, fun _ => by simp⟩
  | p :: ps, [], out, _, _, _, hl => by simp at hl
  | p :: ps, u :: us, out, h, hp, ho, hl => by
    have hp1 : PhIn ps := fun k => by
      have := hp (k + 1)
      unfold at0 at this ⊢
      simpa using this
    have hp0 := hp 0
    have h0 : at0 (p :: ps) 0 = p := rfl
    rw [h0] at hp0
    simp only [turnsM] at h
    have nil : TurnsIn ([] : List Int) := fun x hx => by simp at hx
    by_cases c1 : p = void <;> by_cases c2 : u = void
    · simp [c1, c2] at h
      have := turnsM_in h hp1 (by intro x hx; rcases List.mem_append.mp hx with hx | hx; exact ho x hx; simp at hx; omega) (by simpa using hl)
      refine ⟨this.1, fun e => ?_⟩
      have := this.2 e
      simp at this ⊢; omega
    · simp [c1, c2] at h; subst h; exact ⟨nil, fun e => by cases e⟩
    · simp [c1, c2] at h; subst h; exact ⟨nil, fun e => by cases e⟩
    · cases c3 : isP u
      · simp [c1, c2, c3] at h; subst h; exact ⟨nil, fun e => by cases e⟩
      by_cases c4 : (u - p) % 4096 = 0
      · simp [c1, c2, c3, c4] at h
        have hx := wi_t c3
        have hq : -1000000 ≤ (u - p).tdiv 4096 ∧ (u - p).tdiv 4096 ≤ 1000000 := by
          rw [Int.tdiv_eq_ediv]; split <;> omega
        have := turnsM_in h hp1 (by intro x hx; rcases List.mem_append.mp hx with hx | hx; exact ho x hx; simp at hx; omega) (by simpa using hl)
        refine ⟨this.1, fun e => ?_⟩
        have := this.2 e
        simp at this ⊢; omega
      · simp [c1, c2, c3, c4] at h; subst h; exact ⟨nil, fun e => by cases e⟩
theorem fieldM_in {r c r' c' : Int} {ph us : List Int} (hp : PhIn ph) (h : (fieldM r c ph r' c' us).2 = 0) : TurnsIn (fieldM r c ph r' c' us).1 ∧ (fieldM r c ph r' c' us).1.length = ph.length := by
  by_cases c1 : r' = r ∧ c' = c ∧ (us.length : Int) = ph.length
  · obtain ⟨rfl, rfl, hl2⟩ := c1
    have e : fieldM r' c' ph r' c' us = turnsM [] ph us := by simp [fieldM, hl2]
    rw [e] at h ⊢
    have := turnsM_in (r := turnsM [] ph us) rfl hp (fun x hx => by simp at hx) (by omega)
    refine ⟨this.1, ?_⟩
    have := this.2 h
    simp at this; omega
  · exfalso
    have e : fieldM r c ph r' c' us = ([], 10) := by
      unfold fieldM
      by_cases h1 : r' = r <;> by_cases h2 : c' = c <;> by_cases h3 : (us.length : Int) = ph.length <;> simp [h1, h2, h3] <;> exact absurd ⟨h1, h2, h3⟩ c1
    rw [e] at h; cases h

theorem netM_mem {ph ws : List Int} {x : Edge} : ∀ {l : List (Int × Int)} {k : Nat}, x ∈ netM ph ws k l → ∃ i p, l[i]? = some p ∧ voidE ph p = false ∧ x = mkE ph ws (k + i) p
  | [], k, h => by simp [netM] at h
  | q :: r, k, h => by
    simp only [netM] at h
    cases hv : voidE ph q
    · rw [hv] at h
      rcases List.mem_cons.mp h with rfl | h
      · exact ⟨0, q, rfl, hv, rfl⟩
      · obtain ⟨i, p, h1, h2, h3⟩ := netM_mem h
        exact ⟨i + 1, p, h1, h2, by rw [h3]; congr 1; omega⟩
    · rw [hv] at h
      obtain ⟨i, p, h1, h2, h3⟩ := netM_mem h
      exact ⟨i + 1, p, h1, h2, by rw [h3]; congr 1; omega⟩
/-- The net of a right task is right. -/
theorem netOf_right {r c : Int} {ph ac dn : List Int} (h : taskM r c ph ac dn = 0) : Right ph.length (netOfM r c ph ac dn) := by
  obtain ⟨r0, r1, c0, c1, hlen, hph, hac, hdn, h144, hw⟩ := task_right h
  have hin := phIn_of hph
  have h1 := netM_len ph (ac ++ dn) (sidesM r c) 0
  have h2 := sides_len r0 c0
  have e1 : r * (c - 1) = r * c - r := by rw [Int.mul_sub]; omega
  have e2 : (r - 1) * c = r * c - c := by rw [Int.sub_mul]; omega
  refine ⟨by omega, by omega, by unfold netOfM; omega, fun e he => ?_⟩
  obtain ⟨i, p, h3, h4, rfl⟩ := netM_mem he
  obtain ⟨hi, hie⟩ := List.getElem?_eq_some_iff.mp h3
  have hs := sides_in r0 c0 (hie ▸ List.getElem_mem hi)
  simp only [voidE, Bool.or_eq_false_iff, decide_eq_false_iff_not] at h4
  have b1 := hin p.1.toNat
  have b2 := hin p.2.toNat
  have hj := jumpM_in (a := at0 ph p.1.toNat) (b := at0 ph p.2.toNat) (by omega) (by omega) (by omega) (by omega)
  have hwi : i < (ac ++ dn).length := by simp; omega
  have hwt : 0 ≤ at0 (ac ++ dn) (0 + i) ∧ at0 (ac ++ dn) (0 + i) ≤ 1000 := by
    rw [Nat.zero_add, at0_lt hwi]
    unfold wErrM at hw
    cases hany : (ac ++ dn).any (fun x => !(wi x 0 1000))
    · rw [List.any_eq_false] at hany
      have := hany _ (List.getElem_mem hwi)
      exact wi_t (by simpa using this)
    · rw [hany] at hw; cases hw
  exact ⟨⟨hs.1, by simp only [mkE]; omega⟩, ⟨hs.2.2.1, by simp only [mkE]; omega⟩, hs.2.2.2.2, ⟨by simp only [mkE]; omega, by simp only [mkE]; omega⟩, hwt⟩

end Go.Ix
