import Derived.Test.YtljibmnhhdiakaaWUnwrap
import Derived.Test.YtljibmnhhdiakaaWFields2
set_option linter.unusedSimpArgs false
set_option linter.unusedVariables false
namespace Go.Ix
theorem few_sides (r c : Nat) (hr : 1 ≤ r) (hc : 1 ≤ c) (h : r * c ≤ 12) : 2 * (r * c) ≤ 17 + r + c := by
  have hr2 : r ≤ 12 := Nat.le_trans (Nat.le_mul_of_pos_right r hc) h
  have hc2 : c ≤ 12 := Nat.le_trans (Nat.le_mul_of_pos_left c hr) h
  have key : ∀ r : Fin 13, ∀ c : Fin 13, r.val * c.val ≤ 12 → 2 * (r.val * c.val) ≤ 17 + r.val + c.val := by decide
  exact key ⟨r, by omega⟩ ⟨c, by omega⟩ h
theorem x1tc {r c : Int} {ph ac dn : List Int} (h : x1fo r c ph ac dn = 0) (hs : x1gn r c ph ac dn = true) : Slim 1 ph.length (x1g9 r c ph ac dn) := by
  obtain ⟨r0, r1, c0, c1, hlen, hph, hac, hdn, h144, hw⟩ := x1kd h
  have hin := x1kc hph
  have hR := x1r9 h
  have h1 := x1me ph (ac ++ dn) (x1fx r c) 0
  have h2 := x1lb r0 c0
  have e1 : r * (c - 1) = r * c - r := by rw [Int.mul_sub]; omega
  have e2 : (r - 1) * c = r * c - c := by rw [Int.sub_mul]; omega
  have hsm : ph.length ≤ 12 ∧ (ac ++ dn).any (fun x => decide (20 < x)) = false := by
    unfold x1gn at hs
    by_cases d1 : 164 < (ph.length : Int)
    · simp [d1] at hs
    by_cases d2 : 300 < (ac.length : Int)
    · simp [d1, d2] at hs
    by_cases d3 : 300 < (dn.length : Int)
    · simp [d1, d2, d3] at hs
    by_cases d5 : 12 < (ph.length : Int)
    · simp [d1, d2, d3, h, d5] at hs
    · refine ⟨by omega, ?_⟩
      cases e : (ac ++ dn).any (fun x => decide (20 < x))
      · rfl
      · simp only [d1, d2, d3, h, d5, e] at hs
        simp at hs
  obtain ⟨hs1, hs2⟩ := hsm
  have hk := few_sides r.toNat c.toNat (by omega) (by omega) (by
    have : ((r.toNat * c.toNat : Nat) : Int) = r * c := by rw [Int.natCast_mul, Int.toNat_of_nonneg (by omega), Int.toNat_of_nonneg (by omega)]
    omega)
  have hk' : ((r.toNat * c.toNat : Nat) : Int) = r * c := by rw [Int.natCast_mul, Int.toNat_of_nonneg (by omega), Int.toNat_of_nonneg (by omega)]
  refine ⟨by omega, by omega, hs1, by unfold x1g9; omega, fun e he => ?_, fun e he => ?_⟩
  · have := inEdge hR e he
    rwa [Int.toNat_natCast] at this
  · obtain ⟨i, p, h3, h4, rfl⟩ := x1lc he
    obtain ⟨hi, hie⟩ := List.getElem?_eq_some_iff.mp h3
    have hsd := x1oj r0 c0 (hie ▸ List.getElem_mem hi)
    simp only [x1fy, Bool.or_eq_false_iff, decide_eq_false_iff_not] at h4
    have b1 := hin p.1.toNat
    have b2 := hin p.2.toNat
    have hj := x1ok (a := at0 ph p.1.toNat) (b := at0 ph p.2.toNat) (by omega) (by omega) (by omega) (by omega)
    refine ⟨by simp only [mkE]; omega, by simp only [mkE]; omega, ?_⟩
    simp only [mkE]
    by_cases hwi : 0 + i < (ac ++ dn).length
    · rw [x1eu hwi]
      have := List.any_eq_false.mp hs2 _ (List.getElem_mem hwi)
      simpa using this
    · unfold at0
      rw [List.getD_eq_getElem?_getD, List.getElem?_eq_none (by omega)]
      decide
end Go.Ix
