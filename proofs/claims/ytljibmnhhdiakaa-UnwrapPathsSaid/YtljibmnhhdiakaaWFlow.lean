import Derived.Test.YtljibmnhhdiakaaWCopy
import Derived.Test.YtljibmnhhdiakaaWMut
set_option linter.unusedSimpArgs false
namespace Go.Ix
open Go.Proofs
theorem inEdge {n : Int} {l : List Edge} (hr : Right n l) : ∀ e ∈ l, EdgeIn n.toNat e ∧ e.fr ≠ e.to := by
  intro e he
  have := hr.lo
  obtain ⟨⟨a, b⟩, ⟨c, d⟩, hne, ⟨j0, j1⟩, w0, w1⟩ := hr.ed e he
  exact ⟨⟨a, by omega, c, by omega, j0, j1, w0, w1⟩, hne⟩
end Go.Ix
