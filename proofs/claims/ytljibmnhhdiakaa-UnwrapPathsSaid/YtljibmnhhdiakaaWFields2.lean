import Derived.Test.YtljibmnhhdiakaaWFields
set_option linter.unusedSimpArgs false
set_option linter.unusedVariables false
namespace Go.Ix
open Go.Proofs
theorem x1lc {ph ws : List Int} {x : Edge} : ∀ {l : List (Int × Int)} {k : Nat}, x ∈ netM ph ws k l → ∃ i p, l[i]? = some p ∧ x1fy ph p = false ∧ x = mkE ph ws (k + i) p
  | [], k, h => by simp [netM] at h
  | q :: r, k, h => by
    simp only [netM] at h
    cases hv : x1fy ph q
    · rw [hv] at h
      rcases List.mem_cons.mp h with rfl | h
      · exact ⟨0, q, rfl, hv, rfl⟩
      · obtain ⟨i, p, h1, h2, h3⟩ := x1lc h
        exact ⟨i + 1, p, h1, h2, by rw [h3]; congr 1; omega⟩
    · rw [hv] at h
      obtain ⟨i, p, h1, h2, h3⟩ := x1lc h
      exact ⟨i + 1, p, h1, h2, by rw [h3]; congr 1; omega⟩
theorem x1r9 {r c : Int} {ph ac dn : List Int} (h : x1fo r c ph ac dn = 0) : Right ph.length (x1g9 r c ph ac dn) := by
  obtain ⟨r0, r1, c0, c1, hlen, hph, hac, hdn, h144, hw⟩ := x1kd h
  have hin := x1kc hph
  have h1 := x1me ph (ac ++ dn) (x1fx r c) 0
  have h2 := x1lb r0 c0
  have e1 : r * (c - 1) = r * c - r := by rw [Int.mul_sub]; omega
  have e2 : (r - 1) * c = r * c - c := by rw [Int.sub_mul]; omega
  refine ⟨by omega, by omega, by unfold x1g9; omega, fun e he => ?_⟩
  obtain ⟨i, p, h3, h4, rfl⟩ := x1lc he
  obtain ⟨hi, hie⟩ := List.getElem?_eq_some_iff.mp h3
  have hs := x1oj r0 c0 (hie ▸ List.getElem_mem hi)
  simp only [x1fy, Bool.or_eq_false_iff, decide_eq_false_iff_not] at h4
  have b1 := hin p.1.toNat
  have b2 := hin p.2.toNat
  have hj := x1ok (a := at0 ph p.1.toNat) (b := at0 ph p.2.toNat) (by omega) (by omega) (by omega) (by omega)
  have hwi : i < (ac ++ dn).length := by simp; omega
  have hwt : 0 ≤ at0 (ac ++ dn) (0 + i) ∧ at0 (ac ++ dn) (0 + i) ≤ 1000 := by
    rw [Nat.zero_add, x1eu hwi]
    unfold x1hh at hw
    cases hany : (ac ++ dn).any (fun x => !(wi x 0 1000))
    · rw [List.any_eq_false] at hany
      have := hany _ (List.getElem_mem hwi)
      exact wi_t (by simpa using this)
    · rw [hany] at hw; cases hw
  exact ⟨⟨hs.1, by simp only [mkE]; omega⟩, ⟨hs.2.2.1, by simp only [mkE]; omega⟩, hs.2.2.2.2, ⟨by simp only [mkE]; omega, by simp only [mkE]; omega⟩, hwt⟩
end Go.Ix
