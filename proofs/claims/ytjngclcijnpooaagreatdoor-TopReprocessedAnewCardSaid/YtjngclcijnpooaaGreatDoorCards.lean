/-
  DERIVED. GIVEN WITH THE SEED: THE CARDS: each row of YtjngclcijnpooaaGreatDoorRows.lean that lists a variable, with what it lists TIED to the program's text (the seventh form; the later family's looks); each row that meets fmt, with fmt's text TOLD by the authors' own Lean function (tested against real Go, not proved from fmt's source: count such statements apart). THE CARD IS WHAT COUNTS. Prove the row's statement (the work); the ties are given (YtjngclcijnpooaaGreatDoorTie.lean); close each card by the builder's one call (the guide's Derived/Test/ToyasCard.lean, 'card_holds'). Laid BY PROGRAM, IN A SANDBOX (cutbox-door.mjs). By AI agents, Wed Nov 11 2026. No macro, syntax, notation, axiom, sorry.
-/
import Derived.Test.YtjngclcijnpooaaGreatDoorRows
import GoSem.ClaimSeven
namespace Go.Proofs.YtjngclcijnpooaaGreatDoor
namespace Rows

/-- THE TIED CARD OF 'swathtop.TopAlertSure'. -/
def topAlertSureCard : Claim7 := { stood := { row := topAlertSureRow, standIns := [], harness := (true, "5f1ab8e11db84bc5b40cb1eafc926f4722a27f53937bd65eb5834f7be5756440"), looks := true }, kinds := [], alts := [], laidByText := true, laidKinds := [.data, .data, .data, .data, .sentinel, .sentinel, .pinned], laidTests := true, laidLooks := .later }
def TopAlertSureCardSaid : Prop := Claim7.holds Tryz.pinned (.plain (OpenSpec.ofChange topAlertSureSpec)) topAlertSureCard

/-- THE TIED CARD OF 'swathtop.TopReprocessedAnew'. -/
def topReprocessedAnewCard : Claim7 := { stood := { row := topReprocessedAnewRow, standIns := [], harness := (true, "5f1ab8e11db84bc5b40cb1eafc926f4722a27f53937bd65eb5834f7be5756440"), looks := true }, kinds := [], alts := [], laidByText := true, laidKinds := [.data, .data, .data, .data, .sentinel, .sentinel, .pinned], laidTests := true, laidLooks := .later }
def TopReprocessedAnewCardSaid : Prop := Claim7.holds Tryz.pinned (.plain (OpenSpec.ofChange topReprocessedAnewSpec)) topReprocessedAnewCard

/-- THE TIED CARD OF 'swathtop.TopRecovered'. -/
def topRecoveredCard : Claim7 := { stood := { row := topRecoveredRow, standIns := [], harness := (true, "5f1ab8e11db84bc5b40cb1eafc926f4722a27f53937bd65eb5834f7be5756440"), looks := true }, kinds := [], alts := [], laidByText := true, laidKinds := [.data, .data, .data, .data, .sentinel, .sentinel, .pinned], laidTests := true, laidLooks := .later }
def TopRecoveredCardSaid : Prop := Claim7.holds Tryz.pinned (.plain (OpenSpec.ofChange topRecoveredSpec)) topRecoveredCard

/-- THE SECOND FORM's CARD OF 'swathtop.TopAlertSure'. -/
def topAlertSureUptoCard : Claim7 := { stood := { row := topAlertSureUptoRow, standIns := [], harness := (true, "5f1ab8e11db84bc5b40cb1eafc926f4722a27f53937bd65eb5834f7be5756440"), looks := true }, kinds := [], alts := [], laidByText := true, laidKinds := [.data, .data, .data, .data, .sentinel, .sentinel, .pinned], laidTests := true, laidLooks := .later }
def TopAlertSureUptoCardSaid : Prop := Claim7.holds Tryz.pinned (.plain (OpenSpec.upto topAlertSureSpec)) topAlertSureUptoCard

/-- THE SECOND FORM's CARD OF 'swathtop.TopReprocessedAnew'. -/
def topReprocessedAnewUptoCard : Claim7 := { stood := { row := topReprocessedAnewUptoRow, standIns := [], harness := (true, "5f1ab8e11db84bc5b40cb1eafc926f4722a27f53937bd65eb5834f7be5756440"), looks := true }, kinds := [], alts := [], laidByText := true, laidKinds := [.data, .data, .data, .data, .sentinel, .sentinel, .pinned], laidTests := true, laidLooks := .later }
def TopReprocessedAnewUptoCardSaid : Prop := Claim7.holds Tryz.pinned (.plain (OpenSpec.upto topReprocessedAnewSpec)) topReprocessedAnewUptoCard

/-- THE SECOND FORM's CARD OF 'swathtop.TopRecovered'. -/
def topRecoveredUptoCard : Claim7 := { stood := { row := topRecoveredUptoRow, standIns := [], harness := (true, "5f1ab8e11db84bc5b40cb1eafc926f4722a27f53937bd65eb5834f7be5756440"), looks := true }, kinds := [], alts := [], laidByText := true, laidKinds := [.data, .data, .data, .data, .sentinel, .sentinel, .pinned], laidTests := true, laidLooks := .later }
def TopRecoveredUptoCardSaid : Prop := Claim7.holds Tryz.pinned (.plain (OpenSpec.upto topRecoveredSpec)) topRecoveredUptoCard
end Rows
end Go.Proofs.YtjngclcijnpooaaGreatDoor
