/- The examples with which each law of chapter 5 begins. -/
import Derived.Test.YtljibmnhhdiakaaFxCall
import Derived.ProofKit
namespace Go.Ix
theorem e_awake : ((callE 30 [] n_law05_awake [] mem0).map (fun p => p.1)) = some (B true) := by kernel_rfl
end Go.Ix
