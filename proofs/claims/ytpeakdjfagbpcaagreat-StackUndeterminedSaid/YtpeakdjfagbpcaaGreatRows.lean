/-
  No cell of these rows narrows 'for every input' (looked for: loops, veiled, ifaces, maps, wideKeys, modest, calm, conditions, laid).
  DERIVED. THE GIVEN ROWS OF THIS SEAT. 13 by the template 'for every input the law returns true; each argument reads behind the call as it read before'; 0 by the template 'total and deterministic' (their statements: YtpeakdjfagbpcaaGreatTotals.lean).
  GIVEN WITH THE SEED: the statements are not yours to turn. If you find one false, say at which input.
  Laid BY PROGRAM, IN A SANDBOX (cutbox-rows.mjs): the forced cells as the released guide's own fill.sh prints them over the translation a96246728a12ac8f… (all of the seat's roots in one cut). By AI agents, Wed Nov 11 2026. No macro, syntax, notation, axiom, sorry.
-/
import Derived.Test.YtpeakdjfagbpcaaGreatChecked
import GoSem.Claim
import GoSem.ClaimJoined
import GoSem.ClaimMapViews
import Derived.JoinedTies
import Derived.KernelRfl
namespace Go.Proofs.YtpeakdjfagbpcaaGreat
/- THE CELL 'sum', in the pinned program and in every row, IS THE sha256 OF THE DUMP (.gsa) THAT YtpeakdjfagbpcaaGreatProg.lean LOADS. Nothing in Lean hashes anything: it is a label: what it is worth is what the hold of that sum in a sandbox is worth. -/
noncomputable def Tryz.pinned : Pinned := { name := "ytpeakdjfagbpcaagreat", sum := "a96246728a12ac8f7cce2b704f49ee0d6bdb8c6feecb05b532415e21de884770", checked := Tryz.checked }
namespace Rows
def none {H : Type} : Left H := { results := [], args := [] }

/-- 'swathlaw07.StackSolves': WHATEVER THE INPUT: true; the input reads as it did. -/
def stackSolvesSpec : ChangeSpec := { name := "stackSolves", fn := fun _ => fun
  | [d1, d2] => { results := [.lit (.bool true)], args := [d1, d2] }
  | _ => none }
def stackSolvesRow : OpenClaim := { program := "ytpeakdjfagbpcaagreat", sum := "a96246728a12ac8f7cce2b704f49ee0d6bdb8c6feecb05b532415e21de884770", func := "swath/swathlaw07.StackSolves", spec := "stackSolves", unfollowed := true, recurses := true, plainKeys := false, apart := false }
def StackSolvesSaid : Prop := stackSolvesRow.holds Tryz.pinned (OpenSpec.ofChange stackSolvesSpec)

/-- ITS FALSE NEIGHBOUR: 'it returns false'. Refute it at one input. -/
def stackSolvesWrong : ChangeSpec := { name := "stackSolves", fn := fun _ => fun
  | [d1, d2] => { results := [.lit (.bool false)], args := [d1, d2] }
  | _ => none }
def StackSolvesWrongFalsely : Prop := stackSolvesRow.holds Tryz.pinned (OpenSpec.ofChange stackSolvesWrong)

/-- 'swathlaw07.StackSmall': WHATEVER THE INPUT: true; the input reads as it did. -/
def stackSmallSpec : ChangeSpec := { name := "stackSmall", fn := fun _ => fun
  | [d1, d2, d3] => { results := [.lit (.bool true)], args := [d1, d2, d3] }
  | _ => none }
def stackSmallRow : OpenClaim := { program := "ytpeakdjfagbpcaagreat", sum := "a96246728a12ac8f7cce2b704f49ee0d6bdb8c6feecb05b532415e21de884770", func := "swath/swathlaw07.StackSmall", spec := "stackSmall", unfollowed := true, recurses := true, plainKeys := false, apart := false }
def StackSmallSaid : Prop := stackSmallRow.holds Tryz.pinned (OpenSpec.ofChange stackSmallSpec)

/-- ITS FALSE NEIGHBOUR: 'it returns false'. Refute it at one input. -/
def stackSmallWrong : ChangeSpec := { name := "stackSmall", fn := fun _ => fun
  | [d1, d2, d3] => { results := [.lit (.bool false)], args := [d1, d2, d3] }
  | _ => none }
def StackSmallWrongFalsely : Prop := stackSmallRow.holds Tryz.pinned (OpenSpec.ofChange stackSmallWrong)

/-- 'swathlaw07.StackForests': WHATEVER THE INPUT: true; the input reads as it did. -/
def stackForestsSpec : ChangeSpec := { name := "stackForests", fn := fun _ => fun
  | [d1, d2] => { results := [.lit (.bool true)], args := [d1, d2] }
  | _ => none }
def stackForestsRow : OpenClaim := { program := "ytpeakdjfagbpcaagreat", sum := "a96246728a12ac8f7cce2b704f49ee0d6bdb8c6feecb05b532415e21de884770", func := "swath/swathlaw07.StackForests", spec := "stackForests", unfollowed := true, recurses := true, plainKeys := false, apart := false }
def StackForestsSaid : Prop := stackForestsRow.holds Tryz.pinned (OpenSpec.ofChange stackForestsSpec)

/-- ITS FALSE NEIGHBOUR: 'it returns false'. Refute it at one input. -/
def stackForestsWrong : ChangeSpec := { name := "stackForests", fn := fun _ => fun
  | [d1, d2] => { results := [.lit (.bool false)], args := [d1, d2] }
  | _ => none }
def StackForestsWrongFalsely : Prop := stackForestsRow.holds Tryz.pinned (OpenSpec.ofChange stackForestsWrong)

/-- 'swathlaw07.StackMoved': WHATEVER THE INPUT: true; the input reads as it did. -/
def stackMovedSpec : ChangeSpec := { name := "stackMoved", fn := fun _ => fun
  | [d1, d2, d3] => { results := [.lit (.bool true)], args := [d1, d2, d3] }
  | _ => none }
def stackMovedRow : OpenClaim := { program := "ytpeakdjfagbpcaagreat", sum := "a96246728a12ac8f7cce2b704f49ee0d6bdb8c6feecb05b532415e21de884770", func := "swath/swathlaw07.StackMoved", spec := "stackMoved", unfollowed := true, recurses := true, plainKeys := false, apart := false }
def StackMovedSaid : Prop := stackMovedRow.holds Tryz.pinned (OpenSpec.ofChange stackMovedSpec)

/-- ITS FALSE NEIGHBOUR: 'it returns false'. Refute it at one input. -/
def stackMovedWrong : ChangeSpec := { name := "stackMoved", fn := fun _ => fun
  | [d1, d2, d3] => { results := [.lit (.bool false)], args := [d1, d2, d3] }
  | _ => none }
def StackMovedWrongFalsely : Prop := stackMovedRow.holds Tryz.pinned (OpenSpec.ofChange stackMovedWrong)

/-- 'swathlaw07.StackUndetermined': WHATEVER THE INPUT: true; the input reads as it did. -/
def stackUndeterminedSpec : ChangeSpec := { name := "stackUndetermined", fn := fun _ => fun
  | [d1, d2] => { results := [.lit (.bool true)], args := [d1, d2] }
  | _ => none }
def stackUndeterminedRow : OpenClaim := { program := "ytpeakdjfagbpcaagreat", sum := "a96246728a12ac8f7cce2b704f49ee0d6bdb8c6feecb05b532415e21de884770", func := "swath/swathlaw07.StackUndetermined", spec := "stackUndetermined", unfollowed := true, recurses := true, plainKeys := false, apart := false }
def StackUndeterminedSaid : Prop := stackUndeterminedRow.holds Tryz.pinned (OpenSpec.ofChange stackUndeterminedSpec)

/-- ITS FALSE NEIGHBOUR: 'it returns false'. Refute it at one input. -/
def stackUndeterminedWrong : ChangeSpec := { name := "stackUndetermined", fn := fun _ => fun
  | [d1, d2] => { results := [.lit (.bool false)], args := [d1, d2] }
  | _ => none }
def StackUndeterminedWrongFalsely : Prop := stackUndeterminedRow.holds Tryz.pinned (OpenSpec.ofChange stackUndeterminedWrong)

/-- 'swathlaw07.StackParts': WHATEVER THE INPUT: true; the input reads as it did. -/
def stackPartsSpec : ChangeSpec := { name := "stackParts", fn := fun _ => fun
  | [d] => { results := [.lit (.bool true)], args := [d] }
  | _ => none }
def stackPartsRow : OpenClaim := { program := "ytpeakdjfagbpcaagreat", sum := "a96246728a12ac8f7cce2b704f49ee0d6bdb8c6feecb05b532415e21de884770", func := "swath/swathlaw07.StackParts", spec := "stackParts", unfollowed := true, recurses := true, plainKeys := false, apart := false }
def StackPartsSaid : Prop := stackPartsRow.holds Tryz.pinned (OpenSpec.ofChange stackPartsSpec)

/-- ITS FALSE NEIGHBOUR: 'it returns false'. Refute it at one input. -/
def stackPartsWrong : ChangeSpec := { name := "stackParts", fn := fun _ => fun
  | [d] => { results := [.lit (.bool false)], args := [d] }
  | _ => none }
def StackPartsWrongFalsely : Prop := stackPartsRow.holds Tryz.pinned (OpenSpec.ofChange stackPartsWrong)

/-- 'swathlaw07.StackWalks': WHATEVER THE INPUT: true; the input reads as it did. -/
def stackWalksSpec : ChangeSpec := { name := "stackWalks", fn := fun _ => fun
  | [d1, d2] => { results := [.lit (.bool true)], args := [d1, d2] }
  | _ => none }
def stackWalksRow : OpenClaim := { program := "ytpeakdjfagbpcaagreat", sum := "a96246728a12ac8f7cce2b704f49ee0d6bdb8c6feecb05b532415e21de884770", func := "swath/swathlaw07.StackWalks", spec := "stackWalks", unfollowed := true, recurses := true, plainKeys := false, apart := false }
def StackWalksSaid : Prop := stackWalksRow.holds Tryz.pinned (OpenSpec.ofChange stackWalksSpec)

/-- ITS FALSE NEIGHBOUR: 'it returns false'. Refute it at one input. -/
def stackWalksWrong : ChangeSpec := { name := "stackWalks", fn := fun _ => fun
  | [d1, d2] => { results := [.lit (.bool false)], args := [d1, d2] }
  | _ => none }
def StackWalksWrongFalsely : Prop := stackWalksRow.holds Tryz.pinned (OpenSpec.ofChange stackWalksWrong)

/-- 'swathlaw07.StackNoLighter': WHATEVER THE INPUT: true; the input reads as it did. -/
def stackNoLighterSpec : ChangeSpec := { name := "stackNoLighter", fn := fun _ => fun
  | [d1, d2] => { results := [.lit (.bool true)], args := [d1, d2] }
  | _ => none }
def stackNoLighterRow : OpenClaim := { program := "ytpeakdjfagbpcaagreat", sum := "a96246728a12ac8f7cce2b704f49ee0d6bdb8c6feecb05b532415e21de884770", func := "swath/swathlaw07.StackNoLighter", spec := "stackNoLighter", unfollowed := true, recurses := true, plainKeys := false, apart := false }
def StackNoLighterSaid : Prop := stackNoLighterRow.holds Tryz.pinned (OpenSpec.ofChange stackNoLighterSpec)

/-- ITS FALSE NEIGHBOUR: 'it returns false'. Refute it at one input. -/
def stackNoLighterWrong : ChangeSpec := { name := "stackNoLighter", fn := fun _ => fun
  | [d1, d2] => { results := [.lit (.bool false)], args := [d1, d2] }
  | _ => none }
def StackNoLighterWrongFalsely : Prop := stackNoLighterRow.holds Tryz.pinned (OpenSpec.ofChange stackNoLighterWrong)

/-- 'swathlaw07.StackChecks': WHATEVER THE INPUT: true; the input reads as it did. -/
def stackChecksSpec : ChangeSpec := { name := "stackChecks", fn := fun _ => fun
  | [d1, d2, d3] => { results := [.lit (.bool true)], args := [d1, d2, d3] }
  | _ => none }
def stackChecksRow : OpenClaim := { program := "ytpeakdjfagbpcaagreat", sum := "a96246728a12ac8f7cce2b704f49ee0d6bdb8c6feecb05b532415e21de884770", func := "swath/swathlaw07.StackChecks", spec := "stackChecks", unfollowed := true, recurses := true, plainKeys := false, apart := false }
def StackChecksSaid : Prop := stackChecksRow.holds Tryz.pinned (OpenSpec.ofChange stackChecksSpec)

/-- ITS FALSE NEIGHBOUR: 'it returns false'. Refute it at one input. -/
def stackChecksWrong : ChangeSpec := { name := "stackChecks", fn := fun _ => fun
  | [d1, d2, d3] => { results := [.lit (.bool false)], args := [d1, d2, d3] }
  | _ => none }
def StackChecksWrongFalsely : Prop := stackChecksRow.holds Tryz.pinned (OpenSpec.ofChange stackChecksWrong)

/-- 'swathlaw07.StackLightest': WHATEVER THE INPUT: true; the input reads as it did. -/
def stackLightestSpec : ChangeSpec := { name := "stackLightest", fn := fun _ => fun
  | [d] => { results := [.lit (.bool true)], args := [d] }
  | _ => none }
def stackLightestRow : OpenClaim := { program := "ytpeakdjfagbpcaagreat", sum := "a96246728a12ac8f7cce2b704f49ee0d6bdb8c6feecb05b532415e21de884770", func := "swath/swathlaw07.StackLightest", spec := "stackLightest", unfollowed := true, recurses := true, plainKeys := false, apart := false }
def StackLightestSaid : Prop := stackLightestRow.holds Tryz.pinned (OpenSpec.ofChange stackLightestSpec)

/-- ITS FALSE NEIGHBOUR: 'it returns false'. Refute it at one input. -/
def stackLightestWrong : ChangeSpec := { name := "stackLightest", fn := fun _ => fun
  | [d] => { results := [.lit (.bool false)], args := [d] }
  | _ => none }
def StackLightestWrongFalsely : Prop := stackLightestRow.holds Tryz.pinned (OpenSpec.ofChange stackLightestWrong)

/-- 'swathlaw07.StackClosed': WHATEVER THE INPUT: true; the input reads as it did. -/
def stackClosedSpec : ChangeSpec := { name := "stackClosed", fn := fun _ => fun
  | [d1, d2, d3] => { results := [.lit (.bool true)], args := [d1, d2, d3] }
  | _ => none }
def stackClosedRow : OpenClaim := { program := "ytpeakdjfagbpcaagreat", sum := "a96246728a12ac8f7cce2b704f49ee0d6bdb8c6feecb05b532415e21de884770", func := "swath/swathlaw07.StackClosed", spec := "stackClosed", unfollowed := true, recurses := true, plainKeys := false, apart := false }
def StackClosedSaid : Prop := stackClosedRow.holds Tryz.pinned (OpenSpec.ofChange stackClosedSpec)

/-- ITS FALSE NEIGHBOUR: 'it returns false'. Refute it at one input. -/
def stackClosedWrong : ChangeSpec := { name := "stackClosed", fn := fun _ => fun
  | [d1, d2, d3] => { results := [.lit (.bool false)], args := [d1, d2, d3] }
  | _ => none }
def StackClosedWrongFalsely : Prop := stackClosedRow.holds Tryz.pinned (OpenSpec.ofChange stackClosedWrong)

/-- 'swathlaw07.StackClosures': WHATEVER THE INPUT: true; the input reads as it did. -/
def stackClosuresSpec : ChangeSpec := { name := "stackClosures", fn := fun _ => fun
  | [d1, d2] => { results := [.lit (.bool true)], args := [d1, d2] }
  | _ => none }
def stackClosuresRow : OpenClaim := { program := "ytpeakdjfagbpcaagreat", sum := "a96246728a12ac8f7cce2b704f49ee0d6bdb8c6feecb05b532415e21de884770", func := "swath/swathlaw07.StackClosures", spec := "stackClosures", unfollowed := true, recurses := true, plainKeys := false, apart := false }
def StackClosuresSaid : Prop := stackClosuresRow.holds Tryz.pinned (OpenSpec.ofChange stackClosuresSpec)

/-- ITS FALSE NEIGHBOUR: 'it returns false'. Refute it at one input. -/
def stackClosuresWrong : ChangeSpec := { name := "stackClosures", fn := fun _ => fun
  | [d1, d2] => { results := [.lit (.bool false)], args := [d1, d2] }
  | _ => none }
def StackClosuresWrongFalsely : Prop := stackClosuresRow.holds Tryz.pinned (OpenSpec.ofChange stackClosuresWrong)

/-- 'swathlaw07.StackCycles': WHATEVER THE INPUT: true; the input reads as it did. -/
def stackCyclesSpec : ChangeSpec := { name := "stackCycles", fn := fun _ => fun
  | [d1, d2, d3] => { results := [.lit (.bool true)], args := [d1, d2, d3] }
  | _ => none }
def stackCyclesRow : OpenClaim := { program := "ytpeakdjfagbpcaagreat", sum := "a96246728a12ac8f7cce2b704f49ee0d6bdb8c6feecb05b532415e21de884770", func := "swath/swathlaw07.StackCycles", spec := "stackCycles", unfollowed := true, recurses := true, plainKeys := false, apart := false }
def StackCyclesSaid : Prop := stackCyclesRow.holds Tryz.pinned (OpenSpec.ofChange stackCyclesSpec)

/-- ITS FALSE NEIGHBOUR: 'it returns false'. Refute it at one input. -/
def stackCyclesWrong : ChangeSpec := { name := "stackCycles", fn := fun _ => fun
  | [d1, d2, d3] => { results := [.lit (.bool false)], args := [d1, d2, d3] }
  | _ => none }
def StackCyclesWrongFalsely : Prop := stackCyclesRow.holds Tryz.pinned (OpenSpec.ofChange stackCyclesWrong)

/- THE SECOND FORM. 'bulk': how many values and letters a reading holds, each counted each time it is reached (what is shared counts as often as it is met; a slice's spare places count too). A statement '..UptoSaid' is the law's where the arguments, and the package variables that the reading takes, are together of bulk at most 1048576: NARROWER than '..Said'. Prove '..Said' where nothing that the law and all that it calls make is longer than what came in: it says more and counts as full. Else prove '..UptoSaid'. A law counts once. -/
mutual
def uptoBulk {H : Type} : DataW H → Nat
  | .lit (.string bytes) => bytes.length + 1
  | .lit _ => 1
  | .nil => 1
  | .ptr d => uptoBulk d + 1
  | .slice elems spare => uptoBulkAll elems + uptoBulkAll spare + 1
  | .agg parts => uptoBulkAll parts + 1
  | .iface _ d => uptoBulk d + 1
  | .map entries => uptoBulkEntries entries + 1
  | .held _ => 1
def uptoBulkAll {H : Type} : List (DataW H) → Nat
  | [] => 0
  | d :: r => uptoBulk d + uptoBulkAll r
def uptoBulkEntries {H : Type} : List (Lit × DataW H) → Nat
  | [] => 0
  | x :: r => uptoBulkEntry x + uptoBulkEntries r
def uptoBulkEntry {H : Type} : Lit × DataW H → Nat
  | (.string bytes, d) => bytes.length + uptoBulk d + 1
  | (_, d) => uptoBulk d + 1
 end
def uptoSmall : (H : Type) → List (DataW H) → Bool := fun _ ds => decide (uptoBulkAll ds ≤ 1048576)
def OpenSpec.upto (s : _root_.Go.ChangeSpec) : _root_.Go.OpenSpec := { _root_.Go.OpenSpec.ofChange s with cond := some uptoSmall }

/-- 'swathlaw07.StackSolves', WHERE WHAT IT READS IS OF BULK AT MOST 1048576: true; the input reads as it did. -/
def stackSolvesUptoRow : OpenClaim := { program := "ytpeakdjfagbpcaagreat", sum := "a96246728a12ac8f7cce2b704f49ee0d6bdb8c6feecb05b532415e21de884770", func := "swath/swathlaw07.StackSolves", spec := "stackSolves", unfollowed := true, recurses := true, plainKeys := false, apart := false, narrowed := true }
def StackSolvesUptoSaid : Prop := stackSolvesUptoRow.holds Tryz.pinned (OpenSpec.upto stackSolvesSpec)

/-- 'swathlaw07.StackSmall', WHERE WHAT IT READS IS OF BULK AT MOST 1048576: true; the input reads as it did. -/
def stackSmallUptoRow : OpenClaim := { program := "ytpeakdjfagbpcaagreat", sum := "a96246728a12ac8f7cce2b704f49ee0d6bdb8c6feecb05b532415e21de884770", func := "swath/swathlaw07.StackSmall", spec := "stackSmall", unfollowed := true, recurses := true, plainKeys := false, apart := false, narrowed := true }
def StackSmallUptoSaid : Prop := stackSmallUptoRow.holds Tryz.pinned (OpenSpec.upto stackSmallSpec)

/-- 'swathlaw07.StackForests', WHERE WHAT IT READS IS OF BULK AT MOST 1048576: true; the input reads as it did. -/
def stackForestsUptoRow : OpenClaim := { program := "ytpeakdjfagbpcaagreat", sum := "a96246728a12ac8f7cce2b704f49ee0d6bdb8c6feecb05b532415e21de884770", func := "swath/swathlaw07.StackForests", spec := "stackForests", unfollowed := true, recurses := true, plainKeys := false, apart := false, narrowed := true }
def StackForestsUptoSaid : Prop := stackForestsUptoRow.holds Tryz.pinned (OpenSpec.upto stackForestsSpec)

/-- 'swathlaw07.StackMoved', WHERE WHAT IT READS IS OF BULK AT MOST 1048576: true; the input reads as it did. -/
def stackMovedUptoRow : OpenClaim := { program := "ytpeakdjfagbpcaagreat", sum := "a96246728a12ac8f7cce2b704f49ee0d6bdb8c6feecb05b532415e21de884770", func := "swath/swathlaw07.StackMoved", spec := "stackMoved", unfollowed := true, recurses := true, plainKeys := false, apart := false, narrowed := true }
def StackMovedUptoSaid : Prop := stackMovedUptoRow.holds Tryz.pinned (OpenSpec.upto stackMovedSpec)

/-- 'swathlaw07.StackUndetermined', WHERE WHAT IT READS IS OF BULK AT MOST 1048576: true; the input reads as it did. -/
def stackUndeterminedUptoRow : OpenClaim := { program := "ytpeakdjfagbpcaagreat", sum := "a96246728a12ac8f7cce2b704f49ee0d6bdb8c6feecb05b532415e21de884770", func := "swath/swathlaw07.StackUndetermined", spec := "stackUndetermined", unfollowed := true, recurses := true, plainKeys := false, apart := false, narrowed := true }
def StackUndeterminedUptoSaid : Prop := stackUndeterminedUptoRow.holds Tryz.pinned (OpenSpec.upto stackUndeterminedSpec)

/-- 'swathlaw07.StackParts', WHERE WHAT IT READS IS OF BULK AT MOST 1048576: true; the input reads as it did. -/
def stackPartsUptoRow : OpenClaim := { program := "ytpeakdjfagbpcaagreat", sum := "a96246728a12ac8f7cce2b704f49ee0d6bdb8c6feecb05b532415e21de884770", func := "swath/swathlaw07.StackParts", spec := "stackParts", unfollowed := true, recurses := true, plainKeys := false, apart := false, narrowed := true }
def StackPartsUptoSaid : Prop := stackPartsUptoRow.holds Tryz.pinned (OpenSpec.upto stackPartsSpec)

/-- 'swathlaw07.StackWalks', WHERE WHAT IT READS IS OF BULK AT MOST 1048576: true; the input reads as it did. -/
def stackWalksUptoRow : OpenClaim := { program := "ytpeakdjfagbpcaagreat", sum := "a96246728a12ac8f7cce2b704f49ee0d6bdb8c6feecb05b532415e21de884770", func := "swath/swathlaw07.StackWalks", spec := "stackWalks", unfollowed := true, recurses := true, plainKeys := false, apart := false, narrowed := true }
def StackWalksUptoSaid : Prop := stackWalksUptoRow.holds Tryz.pinned (OpenSpec.upto stackWalksSpec)

/-- 'swathlaw07.StackNoLighter', WHERE WHAT IT READS IS OF BULK AT MOST 1048576: true; the input reads as it did. -/
def stackNoLighterUptoRow : OpenClaim := { program := "ytpeakdjfagbpcaagreat", sum := "a96246728a12ac8f7cce2b704f49ee0d6bdb8c6feecb05b532415e21de884770", func := "swath/swathlaw07.StackNoLighter", spec := "stackNoLighter", unfollowed := true, recurses := true, plainKeys := false, apart := false, narrowed := true }
def StackNoLighterUptoSaid : Prop := stackNoLighterUptoRow.holds Tryz.pinned (OpenSpec.upto stackNoLighterSpec)

/-- 'swathlaw07.StackChecks', WHERE WHAT IT READS IS OF BULK AT MOST 1048576: true; the input reads as it did. -/
def stackChecksUptoRow : OpenClaim := { program := "ytpeakdjfagbpcaagreat", sum := "a96246728a12ac8f7cce2b704f49ee0d6bdb8c6feecb05b532415e21de884770", func := "swath/swathlaw07.StackChecks", spec := "stackChecks", unfollowed := true, recurses := true, plainKeys := false, apart := false, narrowed := true }
def StackChecksUptoSaid : Prop := stackChecksUptoRow.holds Tryz.pinned (OpenSpec.upto stackChecksSpec)

/-- 'swathlaw07.StackLightest', WHERE WHAT IT READS IS OF BULK AT MOST 1048576: true; the input reads as it did. -/
def stackLightestUptoRow : OpenClaim := { program := "ytpeakdjfagbpcaagreat", sum := "a96246728a12ac8f7cce2b704f49ee0d6bdb8c6feecb05b532415e21de884770", func := "swath/swathlaw07.StackLightest", spec := "stackLightest", unfollowed := true, recurses := true, plainKeys := false, apart := false, narrowed := true }
def StackLightestUptoSaid : Prop := stackLightestUptoRow.holds Tryz.pinned (OpenSpec.upto stackLightestSpec)

/-- 'swathlaw07.StackClosed', WHERE WHAT IT READS IS OF BULK AT MOST 1048576: true; the input reads as it did. -/
def stackClosedUptoRow : OpenClaim := { program := "ytpeakdjfagbpcaagreat", sum := "a96246728a12ac8f7cce2b704f49ee0d6bdb8c6feecb05b532415e21de884770", func := "swath/swathlaw07.StackClosed", spec := "stackClosed", unfollowed := true, recurses := true, plainKeys := false, apart := false, narrowed := true }
def StackClosedUptoSaid : Prop := stackClosedUptoRow.holds Tryz.pinned (OpenSpec.upto stackClosedSpec)

/-- 'swathlaw07.StackClosures', WHERE WHAT IT READS IS OF BULK AT MOST 1048576: true; the input reads as it did. -/
def stackClosuresUptoRow : OpenClaim := { program := "ytpeakdjfagbpcaagreat", sum := "a96246728a12ac8f7cce2b704f49ee0d6bdb8c6feecb05b532415e21de884770", func := "swath/swathlaw07.StackClosures", spec := "stackClosures", unfollowed := true, recurses := true, plainKeys := false, apart := false, narrowed := true }
def StackClosuresUptoSaid : Prop := stackClosuresUptoRow.holds Tryz.pinned (OpenSpec.upto stackClosuresSpec)

/-- 'swathlaw07.StackCycles', WHERE WHAT IT READS IS OF BULK AT MOST 1048576: true; the input reads as it did. -/
def stackCyclesUptoRow : OpenClaim := { program := "ytpeakdjfagbpcaagreat", sum := "a96246728a12ac8f7cce2b704f49ee0d6bdb8c6feecb05b532415e21de884770", func := "swath/swathlaw07.StackCycles", spec := "stackCycles", unfollowed := true, recurses := true, plainKeys := false, apart := false, narrowed := true }
def StackCyclesUptoSaid : Prop := stackCyclesUptoRow.holds Tryz.pinned (OpenSpec.upto stackCyclesSpec)

end Rows
end Go.Proofs.YtpeakdjfagbpcaaGreat
