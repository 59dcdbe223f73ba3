import Derived.Test.YtljibmnhhdiakaaWNet3
import Derived.Test.YtljibmnhhdiakaaWAwake5
set_option linter.unusedSimpArgs false
set_option linter.unusedVariables false
namespace Go.Ix
open Go.Proofs
theorem x1r8 {r c : Int} {ph ac dn : List Int} (h : x1gn r c ph ac dn = true) : ph.length ≤ 164 ∧ ac.length ≤ 300 ∧ dn.length ≤ 300 := by
  unfold x1gn at h
  by_cases c1 : 164 < (ph.length : Int)
  · simp [c1] at h
  by_cases c2 : 300 < (ac.length : Int)
  · simp [c2] at h
  by_cases c3 : 300 < (dn.length : Int)
  · simp [c3] at h
  omega
end Go.Ix
