/-
  DERIVED. GIVEN WITH THE SEED: THE CARDS: each row of YtbcmiinhjgbkdaaGreatDoorRows.lean that lists a variable, with what it lists TIED to the program's text (the seventh form; the later family's looks); each row that meets fmt, with fmt's text TOLD by the authors' own Lean function (tested against real Go, not proved from fmt's source: count such statements apart). THE CARD IS WHAT COUNTS. Prove the row's statement (the work); the ties are given (YtbcmiinhjgbkdaaGreatDoorTie.lean); close each card by the builder's one call (the guide's Derived/Test/ToyasCard.lean, 'card_holds'). Laid BY PROGRAM, IN A SANDBOX (cutbox-door.mjs). By AI agents, Wed Nov 11 2026. No macro, syntax, notation, axiom, sorry.
-/
import Derived.Test.YtbcmiinhjgbkdaaGreatDoorRows
import GoSem.ClaimSeven
namespace Go.Proofs.YtbcmiinhjgbkdaaGreatDoor
namespace Rows

/-- THE TIED CARD OF 'swathlaw07.StackNets'. -/
def stackNetsCard : Claim7 := { stood := { row := stackNetsRow, standIns := [], harness := (true, "10842999e99cb5e8ec1e9a4d981a9b22c3690595b00e8536cba20c6f159b7114"), looks := true }, kinds := [], alts := [], laidByText := true, laidKinds := [.data, .data, .data, .data, .sentinel, .sentinel, .pinned], laidTests := true, laidLooks := .later }
def StackNetsCardSaid : Prop := Claim7.holds Tryz.pinned (.plain (OpenSpec.ofChange stackNetsSpec)) stackNetsCard

/-- THE SECOND FORM's CARD OF 'swathlaw07.StackNets'. -/
def stackNetsUptoCard : Claim7 := { stood := { row := stackNetsUptoRow, standIns := [], harness := (true, "10842999e99cb5e8ec1e9a4d981a9b22c3690595b00e8536cba20c6f159b7114"), looks := true }, kinds := [], alts := [], laidByText := true, laidKinds := [.data, .data, .data, .data, .sentinel, .sentinel, .pinned], laidTests := true, laidLooks := .later }
def StackNetsUptoCardSaid : Prop := Claim7.holds Tryz.pinned (.plain (OpenSpec.upto stackNetsSpec)) stackNetsUptoCard
end Rows
end Go.Proofs.YtbcmiinhjgbkdaaGreatDoor
