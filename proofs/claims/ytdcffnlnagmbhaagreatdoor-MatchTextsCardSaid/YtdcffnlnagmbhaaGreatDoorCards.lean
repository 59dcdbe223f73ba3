/-
  DERIVED. GIVEN WITH THE SEED: THE CARDS: each row of YtdcffnlnagmbhaaGreatDoorRows.lean that lists a variable, with what it lists TIED to the program's text (the seventh form; the later family's looks); each row that meets fmt, with fmt's text TOLD by the authors' own Lean function (tested against real Go, not proved from fmt's source: count such statements apart). THE CARD IS WHAT COUNTS. Prove the row's statement (the work); the ties are given (YtdcffnlnagmbhaaGreatDoorTie.lean); close each card by the builder's one call (the guide's Derived/Test/ToyasCard.lean, 'card_holds'). Laid BY PROGRAM, IN A SANDBOX (cutbox-door.mjs). By AI agents, Wed Nov 11 2026. No macro, syntax, notation, axiom, sorry.
-/
import Derived.Test.YtdcffnlnagmbhaaGreatDoorRows
import GoSem.ClaimSeven
namespace Go.Proofs.YtdcffnlnagmbhaaGreatDoor
namespace Rows

/-- THE TIED CARD OF 'swathlaw03.MatchTexts'. -/
def matchTextsCard : Claim7 := { stood := { row := matchTextsRow, standIns := [], harness := (true, "b88056c4f7261fefa73d7815d7e0720c207d157a7f27e5e8abb083e8e6d553de"), looks := true }, kinds := [], alts := [], laidByText := true, laidKinds := [.data, .data, .data, .data, .sentinel, .sentinel, .pinned], laidTests := true, laidLooks := .later }
def MatchTextsCardSaid : Prop := Claim7.holds Tryz.pinned (.plain (OpenSpec.ofChange matchTextsSpec)) matchTextsCard

/-- THE SECOND FORM's CARD OF 'swathlaw03.MatchTexts'. -/
def matchTextsUptoCard : Claim7 := { stood := { row := matchTextsUptoRow, standIns := [], harness := (true, "b88056c4f7261fefa73d7815d7e0720c207d157a7f27e5e8abb083e8e6d553de"), looks := true }, kinds := [], alts := [], laidByText := true, laidKinds := [.data, .data, .data, .data, .sentinel, .sentinel, .pinned], laidTests := true, laidLooks := .later }
def MatchTextsUptoCardSaid : Prop := Claim7.holds Tryz.pinned (.plain (OpenSpec.upto matchTextsSpec)) matchTextsUptoCard
end Rows
end Go.Proofs.YtdcffnlnagmbhaaGreatDoor
