import Derived.Test.YtljibmnhhdiakaaWFlow
import Derived.Test.YtljibmnhhdiakaaWLawTurns
set_option linter.unusedSimpArgs false
namespace Go.Ix
open Go.Proofs

theorem law_UnwrapFlows {n : Int} {ev a : AV} {l : List Edge} {t : List Int} (h : Sl Edge.c ev l) (ha : Ints a t) : ∃ m', callE 31 [] x10 [.agg [I n, ev], a] mem0 = some (B true, m') := by
  rw [xsh]
  unfold x6n xbv
  simp [mem0, h.one, w_awake, w_Few 26 h]
  cases c1 : few n l
  · simp
  simp [ha.len u_ints]
  by_cases c2 : 20 < (t.length : Int)
  · simp [c2]
  have hl : l.length ≤ 602 := by
    unfold few at c1
    by_cases c3 : (checkNet n l).2 = 0
    · have := (right_of c3).len; omega
    · simp [c3] at c1; omega
  obtain ⟨ev', hev, hcp⟩ := w_CopyNet 29 (n := n) h (by omega) ((⟨[], 1⟩ : Mem).new (0, 0, 2) (.row [I n, ev] 0 false))
  obtain ⟨a', ha', hca⟩ := w_CopyInts 29 ha (by omega) ((⟨[], 1⟩ : Mem).new (0, 0, 2) (.row [I n, ev] 0 false))
  simp [c2, hcp, hca, w_pCheckFlowOf 25 hev ha', w_Err 27 h]
  by_cases c3 : (checkNet n l).2 = 0
  rotate_left
  · simp [c3, flowOf, x8u, x7e]
  have hr := right_of c3
  simp [c3, flowOf, x8u, w_CheckFlowOf 28 h hr ha, x7e]

end Go.Ix
