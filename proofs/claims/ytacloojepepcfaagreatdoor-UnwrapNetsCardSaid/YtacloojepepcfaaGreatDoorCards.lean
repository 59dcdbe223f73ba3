/-
  DERIVED. GIVEN WITH THE SEED: THE CARDS: each row of YtacloojepepcfaaGreatDoorRows.lean that lists a variable, with what it lists TIED to the program's text (the seventh form; the later family's looks); each row that meets fmt, with fmt's text TOLD by the authors' own Lean function (tested against real Go, not proved from fmt's source: count such statements apart). THE CARD IS WHAT COUNTS. Prove the row's statement (the work); the ties are given (YtacloojepepcfaaGreatDoorTie.lean); close each card by the builder's one call (the guide's Derived/Test/ToyasCard.lean, 'card_holds'). Laid BY PROGRAM, IN A SANDBOX (cutbox-door.mjs). By AI agents, Wed Nov 11 2026. No macro, syntax, notation, axiom, sorry.
-/
import Derived.Test.YtacloojepepcfaaGreatDoorRows
import GoSem.ClaimSeven
namespace Go.Proofs.YtacloojepepcfaaGreatDoor
namespace Rows

/-- THE TIED CARD OF 'swathlaw05.UnwrapNets'. -/
def unwrapNetsCard : Claim7 := { stood := { row := unwrapNetsRow, standIns := [], harness := (true, "952feaee2d20e00ed94af359b8115775dc8ead78b74a869f7059b128b4d10bb1"), looks := true }, kinds := [], alts := [], laidByText := true, laidKinds := [.data, .data, .data, .data, .sentinel, .sentinel, .pinned], laidTests := true, laidLooks := .later }
def UnwrapNetsCardSaid : Prop := Claim7.holds Tryz.pinned (.plain (OpenSpec.ofChange unwrapNetsSpec)) unwrapNetsCard

/-- THE SECOND FORM's CARD OF 'swathlaw05.UnwrapNets'. -/
def unwrapNetsUptoCard : Claim7 := { stood := { row := unwrapNetsUptoRow, standIns := [], harness := (true, "952feaee2d20e00ed94af359b8115775dc8ead78b74a869f7059b128b4d10bb1"), looks := true }, kinds := [], alts := [], laidByText := true, laidKinds := [.data, .data, .data, .data, .sentinel, .sentinel, .pinned], laidTests := true, laidLooks := .later }
def UnwrapNetsUptoCardSaid : Prop := Claim7.holds Tryz.pinned (.plain (OpenSpec.upto unwrapNetsSpec)) unwrapNetsUptoCard
end Rows
end Go.Proofs.YtacloojepepcfaaGreatDoor
