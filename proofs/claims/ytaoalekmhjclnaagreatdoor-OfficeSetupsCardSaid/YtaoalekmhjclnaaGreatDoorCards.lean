/-
  DERIVED. GIVEN WITH THE SEED: THE CARDS: each row of YtaoalekmhjclnaaGreatDoorRows.lean that lists a variable, with what it lists TIED to the program's text (the seventh form; the later family's looks); each row that meets fmt, with fmt's text TOLD by the authors' own Lean function (tested against real Go, not proved from fmt's source: count such statements apart). THE CARD IS WHAT COUNTS. Prove the row's statement (the work); the ties are given (YtaoalekmhjclnaaGreatDoorTie.lean); close each card by the builder's one call (the guide's Derived/Test/ToyasCard.lean, 'card_holds'). Laid BY PROGRAM, IN A SANDBOX (cutbox-door.mjs). By AI agents, Wed Nov 11 2026. No macro, syntax, notation, axiom, sorry.
-/
import Derived.Test.YtaoalekmhjclnaaGreatDoorRows
import GoSem.ClaimSeven
namespace Go.Proofs.YtaoalekmhjclnaaGreatDoor
namespace Rows

/-- THE TIED CARD OF 'swathlaw10.OfficeSetups'. -/
def officeSetupsCard : Claim7 := { stood := { row := officeSetupsRow, standIns := [], harness := (true, "5aab990060fefa0e9373072f095bc5000b0d4b2f27c0bff114828a685ec94803"), looks := true }, kinds := [], alts := [], laidByText := true, laidKinds := [.data, .data, .data, .data, .sentinel, .sentinel, .pinned], laidTests := true, laidLooks := .later }
def OfficeSetupsCardSaid : Prop := Claim7.holds Tryz.pinned (.plain (OpenSpec.ofChange officeSetupsSpec)) officeSetupsCard

/-- THE TIED CARD OF 'swathlaw10.OfficePlans'. -/
def officePlansCard : Claim7 := { stood := { row := officePlansRow, standIns := [], harness := (true, "5aab990060fefa0e9373072f095bc5000b0d4b2f27c0bff114828a685ec94803"), looks := true }, kinds := [], alts := [], laidByText := true, laidKinds := [.data, .data, .data, .data, .sentinel, .sentinel, .pinned], laidTests := true, laidLooks := .later }
def OfficePlansCardSaid : Prop := Claim7.holds Tryz.pinned (.plain (OpenSpec.ofChange officePlansSpec)) officePlansCard

/-- THE TIED CARD OF 'swathlaw10.OfficePasses'. -/
def officePassesCard : Claim7 := { stood := { row := officePassesRow, standIns := [], harness := (true, "5aab990060fefa0e9373072f095bc5000b0d4b2f27c0bff114828a685ec94803"), looks := true }, kinds := [], alts := [], laidByText := true, laidKinds := [.data, .data, .data, .data, .sentinel, .sentinel, .pinned], laidTests := true, laidLooks := .later }
def OfficePassesCardSaid : Prop := Claim7.holds Tryz.pinned (.plain (OpenSpec.ofChange officePassesSpec)) officePassesCard

/-- THE SECOND FORM's CARD OF 'swathlaw10.OfficeSetups'. -/
def officeSetupsUptoCard : Claim7 := { stood := { row := officeSetupsUptoRow, standIns := [], harness := (true, "5aab990060fefa0e9373072f095bc5000b0d4b2f27c0bff114828a685ec94803"), looks := true }, kinds := [], alts := [], laidByText := true, laidKinds := [.data, .data, .data, .data, .sentinel, .sentinel, .pinned], laidTests := true, laidLooks := .later }
def OfficeSetupsUptoCardSaid : Prop := Claim7.holds Tryz.pinned (.plain (OpenSpec.upto officeSetupsSpec)) officeSetupsUptoCard

/-- THE SECOND FORM's CARD OF 'swathlaw10.OfficePlans'. -/
def officePlansUptoCard : Claim7 := { stood := { row := officePlansUptoRow, standIns := [], harness := (true, "5aab990060fefa0e9373072f095bc5000b0d4b2f27c0bff114828a685ec94803"), looks := true }, kinds := [], alts := [], laidByText := true, laidKinds := [.data, .data, .data, .data, .sentinel, .sentinel, .pinned], laidTests := true, laidLooks := .later }
def OfficePlansUptoCardSaid : Prop := Claim7.holds Tryz.pinned (.plain (OpenSpec.upto officePlansSpec)) officePlansUptoCard

/-- THE SECOND FORM's CARD OF 'swathlaw10.OfficePasses'. -/
def officePassesUptoCard : Claim7 := { stood := { row := officePassesUptoRow, standIns := [], harness := (true, "5aab990060fefa0e9373072f095bc5000b0d4b2f27c0bff114828a685ec94803"), looks := true }, kinds := [], alts := [], laidByText := true, laidKinds := [.data, .data, .data, .data, .sentinel, .sentinel, .pinned], laidTests := true, laidLooks := .later }
def OfficePassesUptoCardSaid : Prop := Claim7.holds Tryz.pinned (.plain (OpenSpec.upto officePassesSpec)) officePassesUptoCard
end Rows
end Go.Proofs.YtaoalekmhjclnaaGreatDoor
