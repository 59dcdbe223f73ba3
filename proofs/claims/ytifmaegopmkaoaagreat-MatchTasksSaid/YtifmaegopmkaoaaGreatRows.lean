/-
  No cell of these rows narrows 'for every input' (looked for: loops, veiled, ifaces, maps, wideKeys, modest, calm, conditions, laid).
  DERIVED. THE GIVEN ROWS OF THIS SEAT. 2 by the template 'for every input the law returns true; each argument reads behind the call as it read before'; 0 by the template 'total and deterministic' (their statements: YtifmaegopmkaoaaGreatTotals.lean).
  GIVEN WITH THE SEED: the statements are not yours to turn. If you find one false, say at which input.
  Laid BY PROGRAM, IN A SANDBOX (cutbox-rows.mjs): the forced cells as the released guide's own fill.sh prints them over the translation 6d7b32a64e4d50d1… (all of the seat's roots in one cut). By AI agents, Wed Nov 11 2026. No macro, syntax, notation, axiom, sorry.
-/
import Derived.Test.YtifmaegopmkaoaaGreatChecked
import GoSem.Claim
import GoSem.ClaimJoined
import GoSem.ClaimMapViews
import Derived.JoinedTies
import Derived.KernelRfl
namespace Go.Proofs.YtifmaegopmkaoaaGreat
/- THE CELL 'sum', in the pinned program and in every row, IS THE sha256 OF THE DUMP (.gsa) THAT YtifmaegopmkaoaaGreatProg.lean LOADS. Nothing in Lean hashes anything: it is a label: what it is worth is what the hold of that sum in a sandbox is worth. -/
noncomputable def Tryz.pinned : Pinned := { name := "ytifmaegopmkaoaagreat", sum := "6d7b32a64e4d50d1b3f181b8e316ae1d8d4831ffa50b44b3e9e08aff01091856", checked := Tryz.checked }
namespace Rows
def none {H : Type} : Left H := { results := [], args := [] }

/-- 'swathlaw03.MatchTasks': WHATEVER THE INPUT: true; the input reads as it did. -/
def matchTasksSpec : ChangeSpec := { name := "matchTasks", fn := fun _ => fun
  | [d1, d2] => { results := [.lit (.bool true)], args := [d1, d2] }
  | _ => none }
def matchTasksRow : OpenClaim := { program := "ytifmaegopmkaoaagreat", sum := "6d7b32a64e4d50d1b3f181b8e316ae1d8d4831ffa50b44b3e9e08aff01091856", func := "swath/swathlaw03.MatchTasks", spec := "matchTasks", inPlace := ["math.Float64bits", "math.Float64frombits", "math.archTrunc", "math.Float32bits"], unfollowed := true, recurses := true, named := ["math/bits.divideError", "math/bits.overflowError"], apart := false }
def MatchTasksSaid : Prop := matchTasksRow.holds Tryz.pinned (OpenSpec.ofChange matchTasksSpec)

/-- ITS FALSE NEIGHBOUR: 'it returns false'. Refute it at one input. -/
def matchTasksWrong : ChangeSpec := { name := "matchTasks", fn := fun _ => fun
  | [d1, d2] => { results := [.lit (.bool false)], args := [d1, d2] }
  | _ => none }
def MatchTasksWrongFalsely : Prop := matchTasksRow.holds Tryz.pinned (OpenSpec.ofChange matchTasksWrong)

/-- 'swathlaw03.MatchRegisters': WHATEVER THE INPUT: true; the input reads as it did. -/
def matchRegistersSpec : ChangeSpec := { name := "matchRegisters", fn := fun _ => fun
  | [d1, d2, d3] => { results := [.lit (.bool true)], args := [d1, d2, d3] }
  | _ => none }
def matchRegistersRow : OpenClaim := { program := "ytifmaegopmkaoaagreat", sum := "6d7b32a64e4d50d1b3f181b8e316ae1d8d4831ffa50b44b3e9e08aff01091856", func := "swath/swathlaw03.MatchRegisters", spec := "matchRegisters", inPlace := ["math.Float64bits", "math.Float64frombits", "math.archTrunc", "math.Float32bits"], unfollowed := true, recurses := true, named := ["math/bits.divideError", "math/bits.overflowError"], apart := false }
def MatchRegistersSaid : Prop := matchRegistersRow.holds Tryz.pinned (OpenSpec.ofChange matchRegistersSpec)

/-- ITS FALSE NEIGHBOUR: 'it returns false'. Refute it at one input. -/
def matchRegistersWrong : ChangeSpec := { name := "matchRegisters", fn := fun _ => fun
  | [d1, d2, d3] => { results := [.lit (.bool false)], args := [d1, d2, d3] }
  | _ => none }
def MatchRegistersWrongFalsely : Prop := matchRegistersRow.holds Tryz.pinned (OpenSpec.ofChange matchRegistersWrong)

/- THE SECOND FORM. 'bulk': how many values and letters a reading holds, each counted each time it is reached (what is shared counts as often as it is met; a slice's spare places count too). A statement '..UptoSaid' is the law's where the arguments, and the package variables that the reading takes, are together of bulk at most 1048576: NARROWER than '..Said'. Prove '..Said' where nothing that the law and all that it calls make is longer than what came in: it says more and counts as full. Else prove '..UptoSaid'. A law counts once. -/
mutual
def uptoBulk {H : Type} : DataW H → Nat
  | .lit (.string bytes) => bytes.length + 1
  | .lit _ => 1
  | .nil => 1
  | .ptr d => uptoBulk d + 1
  | .slice elems spare => uptoBulkAll elems + uptoBulkAll spare + 1
  | .agg parts => uptoBulkAll parts + 1
  | .iface _ d => uptoBulk d + 1
  | .map entries => uptoBulkEntries entries + 1
  | .held _ => 1
def uptoBulkAll {H : Type} : List (DataW H) → Nat
  | [] => 0
  | d :: r => uptoBulk d + uptoBulkAll r
def uptoBulkEntries {H : Type} : List (Lit × DataW H) → Nat
  | [] => 0
  | x :: r => uptoBulkEntry x + uptoBulkEntries r
def uptoBulkEntry {H : Type} : Lit × DataW H → Nat
  | (.string bytes, d) => bytes.length + uptoBulk d + 1
  | (_, d) => uptoBulk d + 1
 end
def uptoSmall : (H : Type) → List (DataW H) → Bool := fun _ ds => decide (uptoBulkAll ds ≤ 1048576)
def OpenSpec.upto (s : _root_.Go.ChangeSpec) : _root_.Go.OpenSpec := { _root_.Go.OpenSpec.ofChange s with cond := some uptoSmall }

/-- 'swathlaw03.MatchTasks', WHERE WHAT IT READS IS OF BULK AT MOST 1048576: true; the input reads as it did. -/
def matchTasksUptoRow : OpenClaim := { program := "ytifmaegopmkaoaagreat", sum := "6d7b32a64e4d50d1b3f181b8e316ae1d8d4831ffa50b44b3e9e08aff01091856", func := "swath/swathlaw03.MatchTasks", spec := "matchTasks", inPlace := ["math.Float64bits", "math.Float64frombits", "math.archTrunc", "math.Float32bits"], unfollowed := true, recurses := true, named := ["math/bits.divideError", "math/bits.overflowError"], apart := false, narrowed := true }
def MatchTasksUptoSaid : Prop := matchTasksUptoRow.holds Tryz.pinned (OpenSpec.upto matchTasksSpec)

/-- 'swathlaw03.MatchRegisters', WHERE WHAT IT READS IS OF BULK AT MOST 1048576: true; the input reads as it did. -/
def matchRegistersUptoRow : OpenClaim := { program := "ytifmaegopmkaoaagreat", sum := "6d7b32a64e4d50d1b3f181b8e316ae1d8d4831ffa50b44b3e9e08aff01091856", func := "swath/swathlaw03.MatchRegisters", spec := "matchRegisters", inPlace := ["math.Float64bits", "math.Float64frombits", "math.archTrunc", "math.Float32bits"], unfollowed := true, recurses := true, named := ["math/bits.divideError", "math/bits.overflowError"], apart := false, narrowed := true }
def MatchRegistersUptoSaid : Prop := matchRegistersUptoRow.holds Tryz.pinned (OpenSpec.upto matchRegistersSpec)

end Rows
end Go.Proofs.YtifmaegopmkaoaaGreat
