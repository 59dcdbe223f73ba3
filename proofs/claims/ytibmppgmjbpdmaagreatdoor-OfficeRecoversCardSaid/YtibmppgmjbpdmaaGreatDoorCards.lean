/-
  DERIVED. GIVEN WITH THE SEED: THE CARDS: each row of YtibmppgmjbpdmaaGreatDoorRows.lean that lists a variable, with what it lists TIED to the program's text (the seventh form; the later family's looks); each row that meets fmt, with fmt's text TOLD by the authors' own Lean function (tested against real Go, not proved from fmt's source: count such statements apart). THE CARD IS WHAT COUNTS. Prove the row's statement (the work); the ties are given (YtibmppgmjbpdmaaGreatDoorTie.lean); close each card by the builder's one call (the guide's Derived/Test/ToyasCard.lean, 'card_holds'). Laid BY PROGRAM, IN A SANDBOX (cutbox-door.mjs). By AI agents, Wed Nov 11 2026. No macro, syntax, notation, axiom, sorry.
-/
import Derived.Test.YtibmppgmjbpdmaaGreatDoorRows
import GoSem.ClaimSeven
namespace Go.Proofs.YtibmppgmjbpdmaaGreatDoor
namespace Rows

/-- THE TIED CARD OF 'swathlaw10.OfficeSeals'. -/
def officeSealsCard : Claim7 := { stood := { row := officeSealsRow, standIns := [], harness := (true, "8bdf51cd79bbabcbd177c287fa99b034962e272d9d17b960d66423984ca26721"), looks := true }, kinds := [], alts := [], laidByText := true, laidKinds := [.data, .data, .data, .data, .sentinel, .sentinel, .pinned], laidTests := true, laidLooks := .later }
def OfficeSealsCardSaid : Prop := Claim7.holds Tryz.pinned (.plain (OpenSpec.ofChange officeSealsSpec)) officeSealsCard

/-- THE TIED CARD OF 'swathlaw10.OfficeRecovers'. -/
def officeRecoversCard : Claim7 := { stood := { row := officeRecoversRow, standIns := [], harness := (true, "8bdf51cd79bbabcbd177c287fa99b034962e272d9d17b960d66423984ca26721"), looks := true }, kinds := [], alts := [], laidByText := true, laidKinds := [.data, .data, .data, .data, .sentinel, .sentinel, .pinned], laidTests := true, laidLooks := .later }
def OfficeRecoversCardSaid : Prop := Claim7.holds Tryz.pinned (.plain (OpenSpec.ofChange officeRecoversSpec)) officeRecoversCard

/-- THE SECOND FORM's CARD OF 'swathlaw10.OfficeSeals'. -/
def officeSealsUptoCard : Claim7 := { stood := { row := officeSealsUptoRow, standIns := [], harness := (true, "8bdf51cd79bbabcbd177c287fa99b034962e272d9d17b960d66423984ca26721"), looks := true }, kinds := [], alts := [], laidByText := true, laidKinds := [.data, .data, .data, .data, .sentinel, .sentinel, .pinned], laidTests := true, laidLooks := .later }
def OfficeSealsUptoCardSaid : Prop := Claim7.holds Tryz.pinned (.plain (OpenSpec.upto officeSealsSpec)) officeSealsUptoCard

/-- THE SECOND FORM's CARD OF 'swathlaw10.OfficeRecovers'. -/
def officeRecoversUptoCard : Claim7 := { stood := { row := officeRecoversUptoRow, standIns := [], harness := (true, "8bdf51cd79bbabcbd177c287fa99b034962e272d9d17b960d66423984ca26721"), looks := true }, kinds := [], alts := [], laidByText := true, laidKinds := [.data, .data, .data, .data, .sentinel, .sentinel, .pinned], laidTests := true, laidLooks := .later }
def OfficeRecoversUptoCardSaid : Prop := Claim7.holds Tryz.pinned (.plain (OpenSpec.upto officeRecoversSpec)) officeRecoversUptoCard
end Rows
end Go.Proofs.YtibmppgmjbpdmaaGreatDoor
