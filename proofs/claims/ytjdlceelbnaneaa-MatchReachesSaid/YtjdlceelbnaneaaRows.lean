/-
  No cell of these rows narrows 'for every input' (looked for: loops, veiled, ifaces, maps, wideKeys, modest, calm, conditions, laid).
  DERIVED. THE GIVEN ROWS OF THIS SEAT. 12 by the template 'for every input the law returns true; each argument reads behind the call as it read before'; 0 by the template 'total and deterministic' (their statements: YtjdlceelbnaneaaTotals.lean).
  GIVEN WITH THE SEED: the statements are not yours to turn. If you find one false, say at which input.
  Laid BY PROGRAM, IN A SANDBOX (cutbox-rows.mjs): the forced cells as the released guide's own fill.sh prints them over the translation 20937a73bca74d80… (all of the seat's roots in one cut). By AI agents, Wed Nov 11 2026. No macro, syntax, notation, axiom, sorry.
-/
import Derived.Test.YtjdlceelbnaneaaChecked
import GoSem.Claim
import GoSem.ClaimJoined
import GoSem.ClaimMapViews
import Derived.JoinedTies
import Derived.KernelRfl
namespace Go.Proofs.Ytjdlceelbnaneaa
/- THE CELL 'sum', in the pinned program and in every row, IS THE sha256 OF THE DUMP (.gsa) THAT YtjdlceelbnaneaaProg.lean LOADS. Nothing in Lean hashes anything: it is a label: what it is worth is what the hold of that sum in a sandbox is worth. -/
noncomputable def Try.pinned : Pinned := { name := "ytjdlceelbnaneaa", sum := "20937a73bca74d80d0113f26a93b030e9580fcb4b0117a5cd2d5c215a6b490ef", checked := Try.checked }
namespace Rows
def none {H : Type} : Left H := { results := [], args := [] }

/-- 'swathlaw03.MatchScores': WHATEVER THE INPUT: true; the input reads as it did. -/
def matchScoresSpec : ChangeSpec := { name := "matchScores", fn := fun _ => fun
  | [d1, d2, d3] => { results := [.lit (.bool true)], args := [d1, d2, d3] }
  | _ => none }
def matchScoresRow : OpenClaim := { program := "ytjdlceelbnaneaa", sum := "20937a73bca74d80d0113f26a93b030e9580fcb4b0117a5cd2d5c215a6b490ef", func := "swath/swathlaw03.MatchScores", spec := "matchScores", inPlace := ["math.Float64bits", "math.Float64frombits", "math.archTrunc", "math.Float32bits"], unfollowed := true, recurses := true, apart := false }
def MatchScoresSaid : Prop := matchScoresRow.holds Try.pinned (OpenSpec.ofChange matchScoresSpec)

/-- ITS FALSE NEIGHBOUR: 'it returns false'. Refute it at one input. -/
def matchScoresWrong : ChangeSpec := { name := "matchScores", fn := fun _ => fun
  | [d1, d2, d3] => { results := [.lit (.bool false)], args := [d1, d2, d3] }
  | _ => none }
def MatchScoresWrongFalsely : Prop := matchScoresRow.holds Try.pinned (OpenSpec.ofChange matchScoresWrong)

/-- 'swathlaw03.MatchBests': WHATEVER THE INPUT: true; the input reads as it did. -/
def matchBestsSpec : ChangeSpec := { name := "matchBests", fn := fun _ => fun
  | [d1, d2, d3] => { results := [.lit (.bool true)], args := [d1, d2, d3] }
  | _ => none }
def matchBestsRow : OpenClaim := { program := "ytjdlceelbnaneaa", sum := "20937a73bca74d80d0113f26a93b030e9580fcb4b0117a5cd2d5c215a6b490ef", func := "swath/swathlaw03.MatchBests", spec := "matchBests", inPlace := ["math.Float64bits", "math.Float64frombits", "math.archTrunc", "math.Float32bits"], unfollowed := true, recurses := true, apart := false }
def MatchBestsSaid : Prop := matchBestsRow.holds Try.pinned (OpenSpec.ofChange matchBestsSpec)

/-- ITS FALSE NEIGHBOUR: 'it returns false'. Refute it at one input. -/
def matchBestsWrong : ChangeSpec := { name := "matchBests", fn := fun _ => fun
  | [d1, d2, d3] => { results := [.lit (.bool false)], args := [d1, d2, d3] }
  | _ => none }
def MatchBestsWrongFalsely : Prop := matchBestsRow.holds Try.pinned (OpenSpec.ofChange matchBestsWrong)

/-- 'swathlaw03.MatchReaches': WHATEVER THE INPUT: true; the input reads as it did. -/
def matchReachesSpec : ChangeSpec := { name := "matchReaches", fn := fun _ => fun
  | [d1, d2, d3] => { results := [.lit (.bool true)], args := [d1, d2, d3] }
  | _ => none }
def matchReachesRow : OpenClaim := { program := "ytjdlceelbnaneaa", sum := "20937a73bca74d80d0113f26a93b030e9580fcb4b0117a5cd2d5c215a6b490ef", func := "swath/swathlaw03.MatchReaches", spec := "matchReaches", inPlace := ["math.Float64bits", "math.Float64frombits", "math.archTrunc", "math.Float32bits"], unfollowed := true, recurses := true, apart := false }
def MatchReachesSaid : Prop := matchReachesRow.holds Try.pinned (OpenSpec.ofChange matchReachesSpec)

/-- ITS FALSE NEIGHBOUR: 'it returns false'. Refute it at one input. -/
def matchReachesWrong : ChangeSpec := { name := "matchReaches", fn := fun _ => fun
  | [d1, d2, d3] => { results := [.lit (.bool false)], args := [d1, d2, d3] }
  | _ => none }
def MatchReachesWrongFalsely : Prop := matchReachesRow.holds Try.pinned (OpenSpec.ofChange matchReachesWrong)

/-- 'swathlaw03.MatchNormal': WHATEVER THE INPUT: true; the input reads as it did. -/
def matchNormalSpec : ChangeSpec := { name := "matchNormal", fn := fun _ => fun
  | [d] => { results := [.lit (.bool true)], args := [d] }
  | _ => none }
def matchNormalRow : OpenClaim := { program := "ytjdlceelbnaneaa", sum := "20937a73bca74d80d0113f26a93b030e9580fcb4b0117a5cd2d5c215a6b490ef", func := "swath/swathlaw03.MatchNormal", spec := "matchNormal", inPlace := ["math.Float64bits", "math.Float64frombits", "math.archTrunc", "math.Float32bits"], unfollowed := true, recurses := true, apart := false }
def MatchNormalSaid : Prop := matchNormalRow.holds Try.pinned (OpenSpec.ofChange matchNormalSpec)

/-- ITS FALSE NEIGHBOUR: 'it returns false'. Refute it at one input. -/
def matchNormalWrong : ChangeSpec := { name := "matchNormal", fn := fun _ => fun
  | [d] => { results := [.lit (.bool false)], args := [d] }
  | _ => none }
def MatchNormalWrongFalsely : Prop := matchNormalRow.holds Try.pinned (OpenSpec.ofChange matchNormalWrong)

/-- 'swathlaw03.MatchWeights': WHATEVER THE INPUT: true; the input reads as it did. -/
def matchWeightsSpec : ChangeSpec := { name := "matchWeights", fn := fun _ => fun
  | [d1, d2] => { results := [.lit (.bool true)], args := [d1, d2] }
  | _ => none }
def matchWeightsRow : OpenClaim := { program := "ytjdlceelbnaneaa", sum := "20937a73bca74d80d0113f26a93b030e9580fcb4b0117a5cd2d5c215a6b490ef", func := "swath/swathlaw03.MatchWeights", spec := "matchWeights", inPlace := ["math.Float64bits", "math.Float64frombits", "math.archTrunc", "math.Float32bits"], unfollowed := true, recurses := true, apart := false }
def MatchWeightsSaid : Prop := matchWeightsRow.holds Try.pinned (OpenSpec.ofChange matchWeightsSpec)

/-- ITS FALSE NEIGHBOUR: 'it returns false'. Refute it at one input. -/
def matchWeightsWrong : ChangeSpec := { name := "matchWeights", fn := fun _ => fun
  | [d1, d2] => { results := [.lit (.bool false)], args := [d1, d2] }
  | _ => none }
def MatchWeightsWrongFalsely : Prop := matchWeightsRow.holds Try.pinned (OpenSpec.ofChange matchWeightsWrong)

/-- 'swathlaw03.MatchSamples': WHATEVER THE INPUT: true; the input reads as it did. -/
def matchSamplesSpec : ChangeSpec := { name := "matchSamples", fn := fun _ => fun
  | [d1, d2, d3] => { results := [.lit (.bool true)], args := [d1, d2, d3] }
  | _ => none }
def matchSamplesRow : OpenClaim := { program := "ytjdlceelbnaneaa", sum := "20937a73bca74d80d0113f26a93b030e9580fcb4b0117a5cd2d5c215a6b490ef", func := "swath/swathlaw03.MatchSamples", spec := "matchSamples", inPlace := ["math.Float64bits", "math.Float64frombits", "math.archTrunc", "math.Float32bits"], unfollowed := true, recurses := true, apart := false }
def MatchSamplesSaid : Prop := matchSamplesRow.holds Try.pinned (OpenSpec.ofChange matchSamplesSpec)

/-- ITS FALSE NEIGHBOUR: 'it returns false'. Refute it at one input. -/
def matchSamplesWrong : ChangeSpec := { name := "matchSamples", fn := fun _ => fun
  | [d1, d2, d3] => { results := [.lit (.bool false)], args := [d1, d2, d3] }
  | _ => none }
def MatchSamplesWrongFalsely : Prop := matchSamplesRow.holds Try.pinned (OpenSpec.ofChange matchSamplesWrong)

/-- 'swathlaw03.MatchWindows': WHATEVER THE INPUT: true; the input reads as it did. -/
def matchWindowsSpec : ChangeSpec := { name := "matchWindows", fn := fun _ => fun
  | [d1, d2] => { results := [.lit (.bool true)], args := [d1, d2] }
  | _ => none }
def matchWindowsRow : OpenClaim := { program := "ytjdlceelbnaneaa", sum := "20937a73bca74d80d0113f26a93b030e9580fcb4b0117a5cd2d5c215a6b490ef", func := "swath/swathlaw03.MatchWindows", spec := "matchWindows", inPlace := ["math.Float64bits", "math.Float64frombits", "math.archTrunc", "math.Float32bits"], unfollowed := true, recurses := true, apart := false }
def MatchWindowsSaid : Prop := matchWindowsRow.holds Try.pinned (OpenSpec.ofChange matchWindowsSpec)

/-- ITS FALSE NEIGHBOUR: 'it returns false'. Refute it at one input. -/
def matchWindowsWrong : ChangeSpec := { name := "matchWindows", fn := fun _ => fun
  | [d1, d2] => { results := [.lit (.bool false)], args := [d1, d2] }
  | _ => none }
def MatchWindowsWrongFalsely : Prop := matchWindowsRow.holds Try.pinned (OpenSpec.ofChange matchWindowsWrong)

/-- 'swathlaw03.MatchShifts': WHATEVER THE INPUT: true; the input reads as it did. -/
def matchShiftsSpec : ChangeSpec := { name := "matchShifts", fn := fun _ => fun
  | [d1, d2, d3] => { results := [.lit (.bool true)], args := [d1, d2, d3] }
  | _ => none }
def matchShiftsRow : OpenClaim := { program := "ytjdlceelbnaneaa", sum := "20937a73bca74d80d0113f26a93b030e9580fcb4b0117a5cd2d5c215a6b490ef", func := "swath/swathlaw03.MatchShifts", spec := "matchShifts", inPlace := ["math.Float64bits", "math.Float64frombits", "math.archTrunc", "math.Float32bits"], unfollowed := true, recurses := true, apart := false }
def MatchShiftsSaid : Prop := matchShiftsRow.holds Try.pinned (OpenSpec.ofChange matchShiftsSpec)

/-- ITS FALSE NEIGHBOUR: 'it returns false'. Refute it at one input. -/
def matchShiftsWrong : ChangeSpec := { name := "matchShifts", fn := fun _ => fun
  | [d1, d2, d3] => { results := [.lit (.bool false)], args := [d1, d2, d3] }
  | _ => none }
def MatchShiftsWrongFalsely : Prop := matchShiftsRow.holds Try.pinned (OpenSpec.ofChange matchShiftsWrong)

/-- 'swathlaw03.MatchFits': WHATEVER THE INPUT: true; the input reads as it did. -/
def matchFitsSpec : ChangeSpec := { name := "matchFits", fn := fun _ => fun
  | [d1, d2] => { results := [.lit (.bool true)], args := [d1, d2] }
  | _ => none }
def matchFitsRow : OpenClaim := { program := "ytjdlceelbnaneaa", sum := "20937a73bca74d80d0113f26a93b030e9580fcb4b0117a5cd2d5c215a6b490ef", func := "swath/swathlaw03.MatchFits", spec := "matchFits", inPlace := ["math.Float64bits", "math.Float64frombits", "math.archTrunc", "math.Float32bits"], unfollowed := true, recurses := true, apart := false }
def MatchFitsSaid : Prop := matchFitsRow.holds Try.pinned (OpenSpec.ofChange matchFitsSpec)

/-- ITS FALSE NEIGHBOUR: 'it returns false'. Refute it at one input. -/
def matchFitsWrong : ChangeSpec := { name := "matchFits", fn := fun _ => fun
  | [d1, d2] => { results := [.lit (.bool false)], args := [d1, d2] }
  | _ => none }
def MatchFitsWrongFalsely : Prop := matchFitsRow.holds Try.pinned (OpenSpec.ofChange matchFitsWrong)

/-- 'swathlaw03.MatchResamples': WHATEVER THE INPUT: true; the input reads as it did. -/
def matchResamplesSpec : ChangeSpec := { name := "matchResamples", fn := fun _ => fun
  | [d1, d2] => { results := [.lit (.bool true)], args := [d1, d2] }
  | _ => none }
def matchResamplesRow : OpenClaim := { program := "ytjdlceelbnaneaa", sum := "20937a73bca74d80d0113f26a93b030e9580fcb4b0117a5cd2d5c215a6b490ef", func := "swath/swathlaw03.MatchResamples", spec := "matchResamples", inPlace := ["math.Float64bits", "math.Float64frombits", "math.archTrunc", "math.Float32bits"], unfollowed := true, recurses := true, apart := false }
def MatchResamplesSaid : Prop := matchResamplesRow.holds Try.pinned (OpenSpec.ofChange matchResamplesSpec)

/-- ITS FALSE NEIGHBOUR: 'it returns false'. Refute it at one input. -/
def matchResamplesWrong : ChangeSpec := { name := "matchResamples", fn := fun _ => fun
  | [d1, d2] => { results := [.lit (.bool false)], args := [d1, d2] }
  | _ => none }
def MatchResamplesWrongFalsely : Prop := matchResamplesRow.holds Try.pinned (OpenSpec.ofChange matchResamplesWrong)

/-- 'swathlaw03.MatchMoves': WHATEVER THE INPUT: true; the input reads as it did. -/
def matchMovesSpec : ChangeSpec := { name := "matchMoves", fn := fun _ => fun
  | [d1, d2, d3] => { results := [.lit (.bool true)], args := [d1, d2, d3] }
  | _ => none }
def matchMovesRow : OpenClaim := { program := "ytjdlceelbnaneaa", sum := "20937a73bca74d80d0113f26a93b030e9580fcb4b0117a5cd2d5c215a6b490ef", func := "swath/swathlaw03.MatchMoves", spec := "matchMoves", inPlace := ["math.Float64bits", "math.Float64frombits", "math.archTrunc", "math.Float32bits"], unfollowed := true, recurses := true, apart := false }
def MatchMovesSaid : Prop := matchMovesRow.holds Try.pinned (OpenSpec.ofChange matchMovesSpec)

/-- ITS FALSE NEIGHBOUR: 'it returns false'. Refute it at one input. -/
def matchMovesWrong : ChangeSpec := { name := "matchMoves", fn := fun _ => fun
  | [d1, d2, d3] => { results := [.lit (.bool false)], args := [d1, d2, d3] }
  | _ => none }
def MatchMovesWrongFalsely : Prop := matchMovesRow.holds Try.pinned (OpenSpec.ofChange matchMovesWrong)

/-- 'swathlaw03.MatchKeeps': WHATEVER THE INPUT: true; the input reads as it did. -/
def matchKeepsSpec : ChangeSpec := { name := "matchKeeps", fn := fun _ => fun
  | [d1, d2] => { results := [.lit (.bool true)], args := [d1, d2] }
  | _ => none }
def matchKeepsRow : OpenClaim := { program := "ytjdlceelbnaneaa", sum := "20937a73bca74d80d0113f26a93b030e9580fcb4b0117a5cd2d5c215a6b490ef", func := "swath/swathlaw03.MatchKeeps", spec := "matchKeeps", inPlace := ["math.Float64bits", "math.Float64frombits", "math.archTrunc", "math.Float32bits"], unfollowed := true, recurses := true, apart := false }
def MatchKeepsSaid : Prop := matchKeepsRow.holds Try.pinned (OpenSpec.ofChange matchKeepsSpec)

/-- ITS FALSE NEIGHBOUR: 'it returns false'. Refute it at one input. -/
def matchKeepsWrong : ChangeSpec := { name := "matchKeeps", fn := fun _ => fun
  | [d1, d2] => { results := [.lit (.bool false)], args := [d1, d2] }
  | _ => none }
def MatchKeepsWrongFalsely : Prop := matchKeepsRow.holds Try.pinned (OpenSpec.ofChange matchKeepsWrong)

/- THE SECOND FORM. 'bulk': how many values and letters a reading holds, each counted each time it is reached (what is shared counts as often as it is met; a slice's spare places count too). A statement '..UptoSaid' is the law's where the arguments, and the package variables that the reading takes, are together of bulk at most 1048576: NARROWER than '..Said'. Prove '..Said' where nothing that the law and all that it calls make is longer than what came in: it says more and counts as full. Else prove '..UptoSaid'. A law counts once. -/
mutual
def uptoBulk {H : Type} : DataW H → Nat
  | .lit (.string bytes) => bytes.length + 1
  | .lit _ => 1
  | .nil => 1
  | .ptr d => uptoBulk d + 1
  | .slice elems spare => uptoBulkAll elems + uptoBulkAll spare + 1
  | .agg parts => uptoBulkAll parts + 1
  | .iface _ d => uptoBulk d + 1
  | .map entries => uptoBulkEntries entries + 1
  | .held _ => 1
def uptoBulkAll {H : Type} : List (DataW H) → Nat
  | [] => 0
  | d :: r => uptoBulk d + uptoBulkAll r
def uptoBulkEntries {H : Type} : List (Lit × DataW H) → Nat
  | [] => 0
  | x :: r => uptoBulkEntry x + uptoBulkEntries r
def uptoBulkEntry {H : Type} : Lit × DataW H → Nat
  | (.string bytes, d) => bytes.length + uptoBulk d + 1
  | (_, d) => uptoBulk d + 1
 end
def uptoSmall : (H : Type) → List (DataW H) → Bool := fun _ ds => decide (uptoBulkAll ds ≤ 1048576)
def OpenSpec.upto (s : _root_.Go.ChangeSpec) : _root_.Go.OpenSpec := { _root_.Go.OpenSpec.ofChange s with cond := some uptoSmall }

/-- 'swathlaw03.MatchScores', WHERE WHAT IT READS IS OF BULK AT MOST 1048576: true; the input reads as it did. -/
def matchScoresUptoRow : OpenClaim := { program := "ytjdlceelbnaneaa", sum := "20937a73bca74d80d0113f26a93b030e9580fcb4b0117a5cd2d5c215a6b490ef", func := "swath/swathlaw03.MatchScores", spec := "matchScores", inPlace := ["math.Float64bits", "math.Float64frombits", "math.archTrunc", "math.Float32bits"], unfollowed := true, recurses := true, apart := false, narrowed := true }
def MatchScoresUptoSaid : Prop := matchScoresUptoRow.holds Try.pinned (OpenSpec.upto matchScoresSpec)

/-- 'swathlaw03.MatchBests', WHERE WHAT IT READS IS OF BULK AT MOST 1048576: true; the input reads as it did. -/
def matchBestsUptoRow : OpenClaim := { program := "ytjdlceelbnaneaa", sum := "20937a73bca74d80d0113f26a93b030e9580fcb4b0117a5cd2d5c215a6b490ef", func := "swath/swathlaw03.MatchBests", spec := "matchBests", inPlace := ["math.Float64bits", "math.Float64frombits", "math.archTrunc", "math.Float32bits"], unfollowed := true, recurses := true, apart := false, narrowed := true }
def MatchBestsUptoSaid : Prop := matchBestsUptoRow.holds Try.pinned (OpenSpec.upto matchBestsSpec)

/-- 'swathlaw03.MatchReaches', WHERE WHAT IT READS IS OF BULK AT MOST 1048576: true; the input reads as it did. -/
def matchReachesUptoRow : OpenClaim := { program := "ytjdlceelbnaneaa", sum := "20937a73bca74d80d0113f26a93b030e9580fcb4b0117a5cd2d5c215a6b490ef", func := "swath/swathlaw03.MatchReaches", spec := "matchReaches", inPlace := ["math.Float64bits", "math.Float64frombits", "math.archTrunc", "math.Float32bits"], unfollowed := true, recurses := true, apart := false, narrowed := true }
def MatchReachesUptoSaid : Prop := matchReachesUptoRow.holds Try.pinned (OpenSpec.upto matchReachesSpec)

/-- 'swathlaw03.MatchNormal', WHERE WHAT IT READS IS OF BULK AT MOST 1048576: true; the input reads as it did. -/
def matchNormalUptoRow : OpenClaim := { program := "ytjdlceelbnaneaa", sum := "20937a73bca74d80d0113f26a93b030e9580fcb4b0117a5cd2d5c215a6b490ef", func := "swath/swathlaw03.MatchNormal", spec := "matchNormal", inPlace := ["math.Float64bits", "math.Float64frombits", "math.archTrunc", "math.Float32bits"], unfollowed := true, recurses := true, apart := false, narrowed := true }
def MatchNormalUptoSaid : Prop := matchNormalUptoRow.holds Try.pinned (OpenSpec.upto matchNormalSpec)

/-- 'swathlaw03.MatchWeights', WHERE WHAT IT READS IS OF BULK AT MOST 1048576: true; the input reads as it did. -/
def matchWeightsUptoRow : OpenClaim := { program := "ytjdlceelbnaneaa", sum := "20937a73bca74d80d0113f26a93b030e9580fcb4b0117a5cd2d5c215a6b490ef", func := "swath/swathlaw03.MatchWeights", spec := "matchWeights", inPlace := ["math.Float64bits", "math.Float64frombits", "math.archTrunc", "math.Float32bits"], unfollowed := true, recurses := true, apart := false, narrowed := true }
def MatchWeightsUptoSaid : Prop := matchWeightsUptoRow.holds Try.pinned (OpenSpec.upto matchWeightsSpec)

/-- 'swathlaw03.MatchSamples', WHERE WHAT IT READS IS OF BULK AT MOST 1048576: true; the input reads as it did. -/
def matchSamplesUptoRow : OpenClaim := { program := "ytjdlceelbnaneaa", sum := "20937a73bca74d80d0113f26a93b030e9580fcb4b0117a5cd2d5c215a6b490ef", func := "swath/swathlaw03.MatchSamples", spec := "matchSamples", inPlace := ["math.Float64bits", "math.Float64frombits", "math.archTrunc", "math.Float32bits"], unfollowed := true, recurses := true, apart := false, narrowed := true }
def MatchSamplesUptoSaid : Prop := matchSamplesUptoRow.holds Try.pinned (OpenSpec.upto matchSamplesSpec)

/-- 'swathlaw03.MatchWindows', WHERE WHAT IT READS IS OF BULK AT MOST 1048576: true; the input reads as it did. -/
def matchWindowsUptoRow : OpenClaim := { program := "ytjdlceelbnaneaa", sum := "20937a73bca74d80d0113f26a93b030e9580fcb4b0117a5cd2d5c215a6b490ef", func := "swath/swathlaw03.MatchWindows", spec := "matchWindows", inPlace := ["math.Float64bits", "math.Float64frombits", "math.archTrunc", "math.Float32bits"], unfollowed := true, recurses := true, apart := false, narrowed := true }
def MatchWindowsUptoSaid : Prop := matchWindowsUptoRow.holds Try.pinned (OpenSpec.upto matchWindowsSpec)

/-- 'swathlaw03.MatchShifts', WHERE WHAT IT READS IS OF BULK AT MOST 1048576: true; the input reads as it did. -/
def matchShiftsUptoRow : OpenClaim := { program := "ytjdlceelbnaneaa", sum := "20937a73bca74d80d0113f26a93b030e9580fcb4b0117a5cd2d5c215a6b490ef", func := "swath/swathlaw03.MatchShifts", spec := "matchShifts", inPlace := ["math.Float64bits", "math.Float64frombits", "math.archTrunc", "math.Float32bits"], unfollowed := true, recurses := true, apart := false, narrowed := true }
def MatchShiftsUptoSaid : Prop := matchShiftsUptoRow.holds Try.pinned (OpenSpec.upto matchShiftsSpec)

/-- 'swathlaw03.MatchFits', WHERE WHAT IT READS IS OF BULK AT MOST 1048576: true; the input reads as it did. -/
def matchFitsUptoRow : OpenClaim := { program := "ytjdlceelbnaneaa", sum := "20937a73bca74d80d0113f26a93b030e9580fcb4b0117a5cd2d5c215a6b490ef", func := "swath/swathlaw03.MatchFits", spec := "matchFits", inPlace := ["math.Float64bits", "math.Float64frombits", "math.archTrunc", "math.Float32bits"], unfollowed := true, recurses := true, apart := false, narrowed := true }
def MatchFitsUptoSaid : Prop := matchFitsUptoRow.holds Try.pinned (OpenSpec.upto matchFitsSpec)

/-- 'swathlaw03.MatchResamples', WHERE WHAT IT READS IS OF BULK AT MOST 1048576: true; the input reads as it did. -/
def matchResamplesUptoRow : OpenClaim := { program := "ytjdlceelbnaneaa", sum := "20937a73bca74d80d0113f26a93b030e9580fcb4b0117a5cd2d5c215a6b490ef", func := "swath/swathlaw03.MatchResamples", spec := "matchResamples", inPlace := ["math.Float64bits", "math.Float64frombits", "math.archTrunc", "math.Float32bits"], unfollowed := true, recurses := true, apart := false, narrowed := true }
def MatchResamplesUptoSaid : Prop := matchResamplesUptoRow.holds Try.pinned (OpenSpec.upto matchResamplesSpec)

/-- 'swathlaw03.MatchMoves', WHERE WHAT IT READS IS OF BULK AT MOST 1048576: true; the input reads as it did. -/
def matchMovesUptoRow : OpenClaim := { program := "ytjdlceelbnaneaa", sum := "20937a73bca74d80d0113f26a93b030e9580fcb4b0117a5cd2d5c215a6b490ef", func := "swath/swathlaw03.MatchMoves", spec := "matchMoves", inPlace := ["math.Float64bits", "math.Float64frombits", "math.archTrunc", "math.Float32bits"], unfollowed := true, recurses := true, apart := false, narrowed := true }
def MatchMovesUptoSaid : Prop := matchMovesUptoRow.holds Try.pinned (OpenSpec.upto matchMovesSpec)

/-- 'swathlaw03.MatchKeeps', WHERE WHAT IT READS IS OF BULK AT MOST 1048576: true; the input reads as it did. -/
def matchKeepsUptoRow : OpenClaim := { program := "ytjdlceelbnaneaa", sum := "20937a73bca74d80d0113f26a93b030e9580fcb4b0117a5cd2d5c215a6b490ef", func := "swath/swathlaw03.MatchKeeps", spec := "matchKeeps", inPlace := ["math.Float64bits", "math.Float64frombits", "math.archTrunc", "math.Float32bits"], unfollowed := true, recurses := true, apart := false, narrowed := true }
def MatchKeepsUptoSaid : Prop := matchKeepsUptoRow.holds Try.pinned (OpenSpec.upto matchKeepsSpec)

end Rows
end Go.Proofs.Ytjdlceelbnaneaa
