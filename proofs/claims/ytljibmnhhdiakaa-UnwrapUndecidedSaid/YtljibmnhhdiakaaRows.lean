/-
  No cell of these rows narrows 'for every input' (looked for: loops, veiled, ifaces, maps, wideKeys, modest, calm, conditions, laid).
  DERIVED. THE GIVEN ROWS OF THIS SEAT. 12 by the template 'for every input the law returns true; each argument reads behind the call as it read before'; 0 by the template 'total and deterministic' (their statements: YtljibmnhhdiakaaTotals.lean).
  GIVEN WITH THE SEED: the statements are not yours to turn. If you find one false, say at which input.
  Laid BY PROGRAM, IN A SANDBOX (cutbox-rows.mjs): the forced cells as the released guide's own fill.sh prints them over the translation bc18e66e5ff53d48… (all of the seat's roots in one cut). By AI agents, Wed Nov 11 2026. No macro, syntax, notation, axiom, sorry.
-/
import Derived.Test.YtljibmnhhdiakaaChecked
import GoSem.Claim
import GoSem.ClaimJoined
import GoSem.ClaimMapViews
import Derived.JoinedTies
import Derived.KernelRfl
namespace Go.Proofs.Ytljibmnhhdiakaa
/- THE CELL 'sum', in the pinned program and in every row, IS THE sha256 OF THE DUMP (.gsa) THAT YtljibmnhhdiakaaProg.lean LOADS. Nothing in Lean hashes anything: it is a label: what it is worth is what the hold of that sum in a sandbox is worth. -/
noncomputable def Try.pinned : Pinned := { name := "ytljibmnhhdiakaa", sum := "bc18e66e5ff53d48a7911b08a3357b0b131e3148c4b65041536fc3eb3a7703aa", checked := Try.checked }
namespace Rows
def none {H : Type} : Left H := { results := [], args := [] }

/-- 'swathlaw05.UnwrapSolves': WHATEVER THE INPUT: true; the input reads as it did. -/
def unwrapSolvesSpec : ChangeSpec := { name := "unwrapSolves", fn := fun _ => fun
  | [d] => { results := [.lit (.bool true)], args := [d] }
  | _ => none }
def unwrapSolvesRow : OpenClaim := { program := "ytljibmnhhdiakaa", sum := "bc18e66e5ff53d48a7911b08a3357b0b131e3148c4b65041536fc3eb3a7703aa", func := "swath/swathlaw05.UnwrapSolves", spec := "unwrapSolves", unfollowed := true, recurses := true, apart := false }
def UnwrapSolvesSaid : Prop := unwrapSolvesRow.holds Try.pinned (OpenSpec.ofChange unwrapSolvesSpec)

/-- ITS FALSE NEIGHBOUR: 'it returns false'. Refute it at one input. -/
def unwrapSolvesWrong : ChangeSpec := { name := "unwrapSolves", fn := fun _ => fun
  | [d] => { results := [.lit (.bool false)], args := [d] }
  | _ => none }
def UnwrapSolvesWrongFalsely : Prop := unwrapSolvesRow.holds Try.pinned (OpenSpec.ofChange unwrapSolvesWrong)

/-- 'swathlaw05.UnwrapTasks': WHATEVER THE INPUT: true; the input reads as it did. -/
def unwrapTasksSpec : ChangeSpec := { name := "unwrapTasks", fn := fun _ => fun
  | [d] => { results := [.lit (.bool true)], args := [d] }
  | _ => none }
def unwrapTasksRow : OpenClaim := { program := "ytljibmnhhdiakaa", sum := "bc18e66e5ff53d48a7911b08a3357b0b131e3148c4b65041536fc3eb3a7703aa", func := "swath/swathlaw05.UnwrapTasks", spec := "unwrapTasks", unfollowed := true, recurses := true, apart := false }
def UnwrapTasksSaid : Prop := unwrapTasksRow.holds Try.pinned (OpenSpec.ofChange unwrapTasksSpec)

/-- ITS FALSE NEIGHBOUR: 'it returns false'. Refute it at one input. -/
def unwrapTasksWrong : ChangeSpec := { name := "unwrapTasks", fn := fun _ => fun
  | [d] => { results := [.lit (.bool false)], args := [d] }
  | _ => none }
def UnwrapTasksWrongFalsely : Prop := unwrapTasksRow.holds Try.pinned (OpenSpec.ofChange unwrapTasksWrong)

/-- 'swathlaw05.UnwrapBetween': WHATEVER THE INPUT: true; the input reads as it did. -/
def unwrapBetweenSpec : ChangeSpec := { name := "unwrapBetween", fn := fun _ => fun
  | [d1, d2, d3] => { results := [.lit (.bool true)], args := [d1, d2, d3] }
  | _ => none }
def unwrapBetweenRow : OpenClaim := { program := "ytljibmnhhdiakaa", sum := "bc18e66e5ff53d48a7911b08a3357b0b131e3148c4b65041536fc3eb3a7703aa", func := "swath/swathlaw05.UnwrapBetween", spec := "unwrapBetween", unfollowed := true, recurses := true, apart := false }
def UnwrapBetweenSaid : Prop := unwrapBetweenRow.holds Try.pinned (OpenSpec.ofChange unwrapBetweenSpec)

/-- ITS FALSE NEIGHBOUR: 'it returns false'. Refute it at one input. -/
def unwrapBetweenWrong : ChangeSpec := { name := "unwrapBetween", fn := fun _ => fun
  | [d1, d2, d3] => { results := [.lit (.bool false)], args := [d1, d2, d3] }
  | _ => none }
def UnwrapBetweenWrongFalsely : Prop := unwrapBetweenRow.holds Try.pinned (OpenSpec.ofChange unwrapBetweenWrong)

/-- 'swathlaw05.UnwrapTurns': WHATEVER THE INPUT: true; the input reads as it did. -/
def unwrapTurnsSpec : ChangeSpec := { name := "unwrapTurns", fn := fun _ => fun
  | [d1, d2, d3] => { results := [.lit (.bool true)], args := [d1, d2, d3] }
  | _ => none }
def unwrapTurnsRow : OpenClaim := { program := "ytljibmnhhdiakaa", sum := "bc18e66e5ff53d48a7911b08a3357b0b131e3148c4b65041536fc3eb3a7703aa", func := "swath/swathlaw05.UnwrapTurns", spec := "unwrapTurns", unfollowed := true, recurses := true, apart := false }
def UnwrapTurnsSaid : Prop := unwrapTurnsRow.holds Try.pinned (OpenSpec.ofChange unwrapTurnsSpec)

/-- ITS FALSE NEIGHBOUR: 'it returns false'. Refute it at one input. -/
def unwrapTurnsWrong : ChangeSpec := { name := "unwrapTurns", fn := fun _ => fun
  | [d1, d2, d3] => { results := [.lit (.bool false)], args := [d1, d2, d3] }
  | _ => none }
def UnwrapTurnsWrongFalsely : Prop := unwrapTurnsRow.holds Try.pinned (OpenSpec.ofChange unwrapTurnsWrong)

/-- 'swathlaw05.UnwrapWithin': WHATEVER THE INPUT: true; the input reads as it did. -/
def unwrapWithinSpec : ChangeSpec := { name := "unwrapWithin", fn := fun _ => fun
  | [d1, d2, d3] => { results := [.lit (.bool true)], args := [d1, d2, d3] }
  | _ => none }
def unwrapWithinRow : OpenClaim := { program := "ytljibmnhhdiakaa", sum := "bc18e66e5ff53d48a7911b08a3357b0b131e3148c4b65041536fc3eb3a7703aa", func := "swath/swathlaw05.UnwrapWithin", spec := "unwrapWithin", unfollowed := true, recurses := true, apart := false }
def UnwrapWithinSaid : Prop := unwrapWithinRow.holds Try.pinned (OpenSpec.ofChange unwrapWithinSpec)

/-- ITS FALSE NEIGHBOUR: 'it returns false'. Refute it at one input. -/
def unwrapWithinWrong : ChangeSpec := { name := "unwrapWithin", fn := fun _ => fun
  | [d1, d2, d3] => { results := [.lit (.bool false)], args := [d1, d2, d3] }
  | _ => none }
def UnwrapWithinWrongFalsely : Prop := unwrapWithinRow.holds Try.pinned (OpenSpec.ofChange unwrapWithinWrong)

/-- 'swathlaw05.UnwrapBest': WHATEVER THE INPUT: true; the input reads as it did. -/
def unwrapBestSpec : ChangeSpec := { name := "unwrapBest", fn := fun _ => fun
  | [d] => { results := [.lit (.bool true)], args := [d] }
  | _ => none }
def unwrapBestRow : OpenClaim := { program := "ytljibmnhhdiakaa", sum := "bc18e66e5ff53d48a7911b08a3357b0b131e3148c4b65041536fc3eb3a7703aa", func := "swath/swathlaw05.UnwrapBest", spec := "unwrapBest", unfollowed := true, recurses := true, apart := false }
def UnwrapBestSaid : Prop := unwrapBestRow.holds Try.pinned (OpenSpec.ofChange unwrapBestSpec)

/-- ITS FALSE NEIGHBOUR: 'it returns false'. Refute it at one input. -/
def unwrapBestWrong : ChangeSpec := { name := "unwrapBest", fn := fun _ => fun
  | [d] => { results := [.lit (.bool false)], args := [d] }
  | _ => none }
def UnwrapBestWrongFalsely : Prop := unwrapBestRow.holds Try.pinned (OpenSpec.ofChange unwrapBestWrong)

/-- 'swathlaw05.UnwrapFlows': WHATEVER THE INPUT: true; the input reads as it did. -/
def unwrapFlowsSpec : ChangeSpec := { name := "unwrapFlows", fn := fun _ => fun
  | [d1, d2] => { results := [.lit (.bool true)], args := [d1, d2] }
  | _ => none }
def unwrapFlowsRow : OpenClaim := { program := "ytljibmnhhdiakaa", sum := "bc18e66e5ff53d48a7911b08a3357b0b131e3148c4b65041536fc3eb3a7703aa", func := "swath/swathlaw05.UnwrapFlows", spec := "unwrapFlows", unfollowed := true, recurses := true, apart := false }
def UnwrapFlowsSaid : Prop := unwrapFlowsRow.holds Try.pinned (OpenSpec.ofChange unwrapFlowsSpec)

/-- ITS FALSE NEIGHBOUR: 'it returns false'. Refute it at one input. -/
def unwrapFlowsWrong : ChangeSpec := { name := "unwrapFlows", fn := fun _ => fun
  | [d1, d2] => { results := [.lit (.bool false)], args := [d1, d2] }
  | _ => none }
def UnwrapFlowsWrongFalsely : Prop := unwrapFlowsRow.holds Try.pinned (OpenSpec.ofChange unwrapFlowsWrong)

/-- 'swathlaw05.UnwrapNoLess': WHATEVER THE INPUT: true; the input reads as it did. -/
def unwrapNoLessSpec : ChangeSpec := { name := "unwrapNoLess", fn := fun _ => fun
  | [d1, d2, d3] => { results := [.lit (.bool true)], args := [d1, d2, d3] }
  | _ => none }
def unwrapNoLessRow : OpenClaim := { program := "ytljibmnhhdiakaa", sum := "bc18e66e5ff53d48a7911b08a3357b0b131e3148c4b65041536fc3eb3a7703aa", func := "swath/swathlaw05.UnwrapNoLess", spec := "unwrapNoLess", unfollowed := true, recurses := true, apart := false }
def UnwrapNoLessSaid : Prop := unwrapNoLessRow.holds Try.pinned (OpenSpec.ofChange unwrapNoLessSpec)

/-- ITS FALSE NEIGHBOUR: 'it returns false'. Refute it at one input. -/
def unwrapNoLessWrong : ChangeSpec := { name := "unwrapNoLess", fn := fun _ => fun
  | [d1, d2, d3] => { results := [.lit (.bool false)], args := [d1, d2, d3] }
  | _ => none }
def UnwrapNoLessWrongFalsely : Prop := unwrapNoLessRow.holds Try.pinned (OpenSpec.ofChange unwrapNoLessWrong)

/-- 'swathlaw05.UnwrapAlong': WHATEVER THE INPUT: true; the input reads as it did. -/
def unwrapAlongSpec : ChangeSpec := { name := "unwrapAlong", fn := fun _ => fun
  | [d1, d2] => { results := [.lit (.bool true)], args := [d1, d2] }
  | _ => none }
def unwrapAlongRow : OpenClaim := { program := "ytljibmnhhdiakaa", sum := "bc18e66e5ff53d48a7911b08a3357b0b131e3148c4b65041536fc3eb3a7703aa", func := "swath/swathlaw05.UnwrapAlong", spec := "unwrapAlong", unfollowed := true, recurses := true, apart := false }
def UnwrapAlongSaid : Prop := unwrapAlongRow.holds Try.pinned (OpenSpec.ofChange unwrapAlongSpec)

/-- ITS FALSE NEIGHBOUR: 'it returns false'. Refute it at one input. -/
def unwrapAlongWrong : ChangeSpec := { name := "unwrapAlong", fn := fun _ => fun
  | [d1, d2] => { results := [.lit (.bool false)], args := [d1, d2] }
  | _ => none }
def UnwrapAlongWrongFalsely : Prop := unwrapAlongRow.holds Try.pinned (OpenSpec.ofChange unwrapAlongWrong)

/-- 'swathlaw05.UnwrapPaths': WHATEVER THE INPUT: true; the input reads as it did. -/
def unwrapPathsSpec : ChangeSpec := { name := "unwrapPaths", fn := fun _ => fun
  | [d1, d2] => { results := [.lit (.bool true)], args := [d1, d2] }
  | _ => none }
def unwrapPathsRow : OpenClaim := { program := "ytljibmnhhdiakaa", sum := "bc18e66e5ff53d48a7911b08a3357b0b131e3148c4b65041536fc3eb3a7703aa", func := "swath/swathlaw05.UnwrapPaths", spec := "unwrapPaths", unfollowed := true, recurses := true, apart := false }
def UnwrapPathsSaid : Prop := unwrapPathsRow.holds Try.pinned (OpenSpec.ofChange unwrapPathsSpec)

/-- ITS FALSE NEIGHBOUR: 'it returns false'. Refute it at one input. -/
def unwrapPathsWrong : ChangeSpec := { name := "unwrapPaths", fn := fun _ => fun
  | [d1, d2] => { results := [.lit (.bool false)], args := [d1, d2] }
  | _ => none }
def UnwrapPathsWrongFalsely : Prop := unwrapPathsRow.holds Try.pinned (OpenSpec.ofChange unwrapPathsWrong)

/-- 'swathlaw05.UnwrapFields': WHATEVER THE INPUT: true; the input reads as it did. -/
def unwrapFieldsSpec : ChangeSpec := { name := "unwrapFields", fn := fun _ => fun
  | [d1, d2] => { results := [.lit (.bool true)], args := [d1, d2] }
  | _ => none }
def unwrapFieldsRow : OpenClaim := { program := "ytljibmnhhdiakaa", sum := "bc18e66e5ff53d48a7911b08a3357b0b131e3148c4b65041536fc3eb3a7703aa", func := "swath/swathlaw05.UnwrapFields", spec := "unwrapFields", unfollowed := true, recurses := true, apart := false }
def UnwrapFieldsSaid : Prop := unwrapFieldsRow.holds Try.pinned (OpenSpec.ofChange unwrapFieldsSpec)

/-- ITS FALSE NEIGHBOUR: 'it returns false'. Refute it at one input. -/
def unwrapFieldsWrong : ChangeSpec := { name := "unwrapFields", fn := fun _ => fun
  | [d1, d2] => { results := [.lit (.bool false)], args := [d1, d2] }
  | _ => none }
def UnwrapFieldsWrongFalsely : Prop := unwrapFieldsRow.holds Try.pinned (OpenSpec.ofChange unwrapFieldsWrong)

/-- 'swathlaw05.UnwrapUndecided': WHATEVER THE INPUT: true; the input reads as it did. -/
def unwrapUndecidedSpec : ChangeSpec := { name := "unwrapUndecided", fn := fun _ => fun
  | [d1, d2] => { results := [.lit (.bool true)], args := [d1, d2] }
  | _ => none }
def unwrapUndecidedRow : OpenClaim := { program := "ytljibmnhhdiakaa", sum := "bc18e66e5ff53d48a7911b08a3357b0b131e3148c4b65041536fc3eb3a7703aa", func := "swath/swathlaw05.UnwrapUndecided", spec := "unwrapUndecided", unfollowed := true, recurses := true, apart := false }
def UnwrapUndecidedSaid : Prop := unwrapUndecidedRow.holds Try.pinned (OpenSpec.ofChange unwrapUndecidedSpec)

/-- ITS FALSE NEIGHBOUR: 'it returns false'. Refute it at one input. -/
def unwrapUndecidedWrong : ChangeSpec := { name := "unwrapUndecided", fn := fun _ => fun
  | [d1, d2] => { results := [.lit (.bool false)], args := [d1, d2] }
  | _ => none }
def UnwrapUndecidedWrongFalsely : Prop := unwrapUndecidedRow.holds Try.pinned (OpenSpec.ofChange unwrapUndecidedWrong)

/- THE SECOND FORM. 'bulk': how many values and letters a reading holds, each counted each time it is reached (what is shared counts as often as it is met; a slice's spare places count too). A statement '..UptoSaid' is the law's where the arguments, and the package variables that the reading takes, are together of bulk at most 1048576: NARROWER than '..Said'. Prove '..Said' where nothing that the law and all that it calls make is longer than what came in: it says more and counts as full. Else prove '..UptoSaid'. A law counts once. -/
mutual
def uptoBulk {H : Type} : DataW H → Nat
  | .lit (.string bytes) => bytes.length + 1
  | .lit _ => 1
  | .nil => 1
  | .ptr d => uptoBulk d + 1
  | .slice elems spare => uptoBulkAll elems + uptoBulkAll spare + 1
  | .agg parts => uptoBulkAll parts + 1
  | .iface _ d => uptoBulk d + 1
  | .map entries => uptoBulkEntries entries + 1
  | .held _ => 1
def uptoBulkAll {H : Type} : List (DataW H) → Nat
  | [] => 0
  | d :: r => uptoBulk d + uptoBulkAll r
def uptoBulkEntries {H : Type} : List (Lit × DataW H) → Nat
  | [] => 0
  | x :: r => uptoBulkEntry x + uptoBulkEntries r
def uptoBulkEntry {H : Type} : Lit × DataW H → Nat
  | (.string bytes, d) => bytes.length + uptoBulk d + 1
  | (_, d) => uptoBulk d + 1
 end
def uptoSmall : (H : Type) → List (DataW H) → Bool := fun _ ds => decide (uptoBulkAll ds ≤ 1048576)
def OpenSpec.upto (s : _root_.Go.ChangeSpec) : _root_.Go.OpenSpec := { _root_.Go.OpenSpec.ofChange s with cond := some uptoSmall }

/-- 'swathlaw05.UnwrapSolves', WHERE WHAT IT READS IS OF BULK AT MOST 1048576: true; the input reads as it did. -/
def unwrapSolvesUptoRow : OpenClaim := { program := "ytljibmnhhdiakaa", sum := "bc18e66e5ff53d48a7911b08a3357b0b131e3148c4b65041536fc3eb3a7703aa", func := "swath/swathlaw05.UnwrapSolves", spec := "unwrapSolves", unfollowed := true, recurses := true, apart := false, narrowed := true }
def UnwrapSolvesUptoSaid : Prop := unwrapSolvesUptoRow.holds Try.pinned (OpenSpec.upto unwrapSolvesSpec)

/-- 'swathlaw05.UnwrapTasks', WHERE WHAT IT READS IS OF BULK AT MOST 1048576: true; the input reads as it did. -/
def unwrapTasksUptoRow : OpenClaim := { program := "ytljibmnhhdiakaa", sum := "bc18e66e5ff53d48a7911b08a3357b0b131e3148c4b65041536fc3eb3a7703aa", func := "swath/swathlaw05.UnwrapTasks", spec := "unwrapTasks", unfollowed := true, recurses := true, apart := false, narrowed := true }
def UnwrapTasksUptoSaid : Prop := unwrapTasksUptoRow.holds Try.pinned (OpenSpec.upto unwrapTasksSpec)

/-- 'swathlaw05.UnwrapBetween', WHERE WHAT IT READS IS OF BULK AT MOST 1048576: true; the input reads as it did. -/
def unwrapBetweenUptoRow : OpenClaim := { program := "ytljibmnhhdiakaa", sum := "bc18e66e5ff53d48a7911b08a3357b0b131e3148c4b65041536fc3eb3a7703aa", func := "swath/swathlaw05.UnwrapBetween", spec := "unwrapBetween", unfollowed := true, recurses := true, apart := false, narrowed := true }
def UnwrapBetweenUptoSaid : Prop := unwrapBetweenUptoRow.holds Try.pinned (OpenSpec.upto unwrapBetweenSpec)

/-- 'swathlaw05.UnwrapTurns', WHERE WHAT IT READS IS OF BULK AT MOST 1048576: true; the input reads as it did. -/
def unwrapTurnsUptoRow : OpenClaim := { program := "ytljibmnhhdiakaa", sum := "bc18e66e5ff53d48a7911b08a3357b0b131e3148c4b65041536fc3eb3a7703aa", func := "swath/swathlaw05.UnwrapTurns", spec := "unwrapTurns", unfollowed := true, recurses := true, apart := false, narrowed := true }
def UnwrapTurnsUptoSaid : Prop := unwrapTurnsUptoRow.holds Try.pinned (OpenSpec.upto unwrapTurnsSpec)

/-- 'swathlaw05.UnwrapWithin', WHERE WHAT IT READS IS OF BULK AT MOST 1048576: true; the input reads as it did. -/
def unwrapWithinUptoRow : OpenClaim := { program := "ytljibmnhhdiakaa", sum := "bc18e66e5ff53d48a7911b08a3357b0b131e3148c4b65041536fc3eb3a7703aa", func := "swath/swathlaw05.UnwrapWithin", spec := "unwrapWithin", unfollowed := true, recurses := true, apart := false, narrowed := true }
def UnwrapWithinUptoSaid : Prop := unwrapWithinUptoRow.holds Try.pinned (OpenSpec.upto unwrapWithinSpec)

/-- 'swathlaw05.UnwrapBest', WHERE WHAT IT READS IS OF BULK AT MOST 1048576: true; the input reads as it did. -/
def unwrapBestUptoRow : OpenClaim := { program := "ytljibmnhhdiakaa", sum := "bc18e66e5ff53d48a7911b08a3357b0b131e3148c4b65041536fc3eb3a7703aa", func := "swath/swathlaw05.UnwrapBest", spec := "unwrapBest", unfollowed := true, recurses := true, apart := false, narrowed := true }
def UnwrapBestUptoSaid : Prop := unwrapBestUptoRow.holds Try.pinned (OpenSpec.upto unwrapBestSpec)

/-- 'swathlaw05.UnwrapFlows', WHERE WHAT IT READS IS OF BULK AT MOST 1048576: true; the input reads as it did. -/
def unwrapFlowsUptoRow : OpenClaim := { program := "ytljibmnhhdiakaa", sum := "bc18e66e5ff53d48a7911b08a3357b0b131e3148c4b65041536fc3eb3a7703aa", func := "swath/swathlaw05.UnwrapFlows", spec := "unwrapFlows", unfollowed := true, recurses := true, apart := false, narrowed := true }
def UnwrapFlowsUptoSaid : Prop := unwrapFlowsUptoRow.holds Try.pinned (OpenSpec.upto unwrapFlowsSpec)

/-- 'swathlaw05.UnwrapNoLess', WHERE WHAT IT READS IS OF BULK AT MOST 1048576: true; the input reads as it did. -/
def unwrapNoLessUptoRow : OpenClaim := { program := "ytljibmnhhdiakaa", sum := "bc18e66e5ff53d48a7911b08a3357b0b131e3148c4b65041536fc3eb3a7703aa", func := "swath/swathlaw05.UnwrapNoLess", spec := "unwrapNoLess", unfollowed := true, recurses := true, apart := false, narrowed := true }
def UnwrapNoLessUptoSaid : Prop := unwrapNoLessUptoRow.holds Try.pinned (OpenSpec.upto unwrapNoLessSpec)

/-- 'swathlaw05.UnwrapAlong', WHERE WHAT IT READS IS OF BULK AT MOST 1048576: true; the input reads as it did. -/
def unwrapAlongUptoRow : OpenClaim := { program := "ytljibmnhhdiakaa", sum := "bc18e66e5ff53d48a7911b08a3357b0b131e3148c4b65041536fc3eb3a7703aa", func := "swath/swathlaw05.UnwrapAlong", spec := "unwrapAlong", unfollowed := true, recurses := true, apart := false, narrowed := true }
def UnwrapAlongUptoSaid : Prop := unwrapAlongUptoRow.holds Try.pinned (OpenSpec.upto unwrapAlongSpec)

/-- 'swathlaw05.UnwrapPaths', WHERE WHAT IT READS IS OF BULK AT MOST 1048576: true; the input reads as it did. -/
def unwrapPathsUptoRow : OpenClaim := { program := "ytljibmnhhdiakaa", sum := "bc18e66e5ff53d48a7911b08a3357b0b131e3148c4b65041536fc3eb3a7703aa", func := "swath/swathlaw05.UnwrapPaths", spec := "unwrapPaths", unfollowed := true, recurses := true, apart := false, narrowed := true }
def UnwrapPathsUptoSaid : Prop := unwrapPathsUptoRow.holds Try.pinned (OpenSpec.upto unwrapPathsSpec)

/-- 'swathlaw05.UnwrapFields', WHERE WHAT IT READS IS OF BULK AT MOST 1048576: true; the input reads as it did. -/
def unwrapFieldsUptoRow : OpenClaim := { program := "ytljibmnhhdiakaa", sum := "bc18e66e5ff53d48a7911b08a3357b0b131e3148c4b65041536fc3eb3a7703aa", func := "swath/swathlaw05.UnwrapFields", spec := "unwrapFields", unfollowed := true, recurses := true, apart := false, narrowed := true }
def UnwrapFieldsUptoSaid : Prop := unwrapFieldsUptoRow.holds Try.pinned (OpenSpec.upto unwrapFieldsSpec)

/-- 'swathlaw05.UnwrapUndecided', WHERE WHAT IT READS IS OF BULK AT MOST 1048576: true; the input reads as it did. -/
def unwrapUndecidedUptoRow : OpenClaim := { program := "ytljibmnhhdiakaa", sum := "bc18e66e5ff53d48a7911b08a3357b0b131e3148c4b65041536fc3eb3a7703aa", func := "swath/swathlaw05.UnwrapUndecided", spec := "unwrapUndecided", unfollowed := true, recurses := true, apart := false, narrowed := true }
def UnwrapUndecidedUptoSaid : Prop := unwrapUndecidedUptoRow.holds Try.pinned (OpenSpec.upto unwrapUndecidedSpec)

end Rows
end Go.Proofs.Ytljibmnhhdiakaa
