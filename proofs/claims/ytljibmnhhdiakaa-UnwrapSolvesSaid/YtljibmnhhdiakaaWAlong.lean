import Derived.Test.YtljibmnhhdiakaaWMap
import Derived.Test.YtljibmnhhdiakaaWAwake5
set_option linter.unusedSimpArgs false
namespace Go.Ix
open Go.Proofs
theorem at0_app {l : List Int} {x : Int} {k : Nat} : at0 (l ++ [x]) k = if k < l.length then at0 l k else if k = l.length then x else 0 := by
  unfold at0
  simp only [List.getD_eq_getElem?_getD]
  by_cases h : k < l.length
  · rw [if_pos h, List.getElem?_append_left h]
  · rw [if_neg h, List.getElem?_append_right (by omega)]
    by_cases h2 : k = l.length
    · rw [if_pos h2, h2]; simp
    · rw [if_neg h2, List.getElem?_eq_none (by simp; omega)]; rfl
def OutIn (k : Int) (out : List Int) : Prop := ∀ i, -(2048 * k) ≤ at0 out i ∧ at0 out i ≤ 2048 * k
theorem OutIn.app {k : Nat} {out : List Int} (h : OutIn k out) {x : Int} (h1 : -(2048 * ((k + 1 : Nat) : Int)) ≤ x) (h2 : x ≤ 2048 * ((k + 1 : Nat) : Int)) : OutIn ((k + 1 : Nat) : Int) (out ++ [x]) := by
  intro i
  rw [at0_app]
  have := h i
  split
  · omega
  · split <;> omega
end Go.Ix
