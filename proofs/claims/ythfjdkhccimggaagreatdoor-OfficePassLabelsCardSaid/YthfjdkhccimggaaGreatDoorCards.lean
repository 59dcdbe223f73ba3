/-
  DERIVED. GIVEN WITH THE SEED: THE CARDS: each row of YthfjdkhccimggaaGreatDoorRows.lean that lists a variable, with what it lists TIED to the program's text (the seventh form; the later family's looks); each row that meets fmt, with fmt's text TOLD by the authors' own Lean function (tested against real Go, not proved from fmt's source: count such statements apart). THE CARD IS WHAT COUNTS. Prove the row's statement (the work); the ties are given (YthfjdkhccimggaaGreatDoorTie.lean); close each card by the builder's one call (the guide's Derived/Test/ToyasCard.lean, 'card_holds'). Laid BY PROGRAM, IN A SANDBOX (cutbox-door.mjs). By AI agents, Wed Nov 11 2026. No macro, syntax, notation, axiom, sorry.
-/
import Derived.Test.YthfjdkhccimggaaGreatDoorRows
import GoSem.ClaimSeven
namespace Go.Proofs.YthfjdkhccimggaaGreatDoor
namespace Rows

/-- THE TIED CARD OF 'swathlaw10.OfficePoints'. -/
def officePointsCard : Claim7 := { stood := { row := officePointsRow, standIns := [], harness := (true, "61e83f9224e7446a63ccaabdf4d97d1b98015f092d589035354785c65d967016"), looks := true }, kinds := [], alts := [], laidByText := true, laidKinds := [.data, .data, .data, .data, .sentinel, .sentinel, .pinned], laidTests := true, laidLooks := .later }
def OfficePointsCardSaid : Prop := Claim7.holds Tryz.pinned (.plain (OpenSpec.ofChange officePointsSpec)) officePointsCard

/-- THE TIED CARD OF 'swathlaw10.OfficeFixes'. -/
def officeFixesCard : Claim7 := { stood := { row := officeFixesRow, standIns := [], harness := (true, "61e83f9224e7446a63ccaabdf4d97d1b98015f092d589035354785c65d967016"), looks := true }, kinds := [], alts := [], laidByText := true, laidKinds := [.data, .data, .data, .data, .sentinel, .sentinel, .pinned], laidTests := true, laidLooks := .later }
def OfficeFixesCardSaid : Prop := Claim7.holds Tryz.pinned (.plain (OpenSpec.ofChange officeFixesSpec)) officeFixesCard

/-- THE TIED CARD OF 'swathlaw10.OfficeLogs'. -/
def officeLogsCard : Claim7 := { stood := { row := officeLogsRow, standIns := [], harness := (true, "61e83f9224e7446a63ccaabdf4d97d1b98015f092d589035354785c65d967016"), looks := true }, kinds := [], alts := [], laidByText := true, laidKinds := [.data, .data, .data, .data, .sentinel, .sentinel, .pinned], laidTests := true, laidLooks := .later }
def OfficeLogsCardSaid : Prop := Claim7.holds Tryz.pinned (.plain (OpenSpec.ofChange officeLogsSpec)) officeLogsCard

/-- THE TIED CARD OF 'swathlaw10.OfficeSetups'. -/
def officeSetupsCard : Claim7 := { stood := { row := officeSetupsRow, standIns := [], harness := (true, "61e83f9224e7446a63ccaabdf4d97d1b98015f092d589035354785c65d967016"), looks := true }, kinds := [], alts := [], laidByText := true, laidKinds := [.data, .data, .data, .data, .sentinel, .sentinel, .pinned], laidTests := true, laidLooks := .later }
def OfficeSetupsCardSaid : Prop := Claim7.holds Tryz.pinned (.plain (OpenSpec.ofChange officeSetupsSpec)) officeSetupsCard

/-- THE TIED CARD OF 'swathlaw10.OfficePassLabels'. -/
def officePassLabelsCard : Claim7 := { stood := { row := officePassLabelsRow, standIns := [], harness := (true, "61e83f9224e7446a63ccaabdf4d97d1b98015f092d589035354785c65d967016"), looks := true }, kinds := [], alts := [], laidByText := true, laidKinds := [.data, .data, .data, .data, .sentinel, .sentinel, .pinned], laidTests := true, laidLooks := .later }
def OfficePassLabelsCardSaid : Prop := Claim7.holds Tryz.pinned (.plain (OpenSpec.ofChange officePassLabelsSpec)) officePassLabelsCard

/-- THE TIED CARD OF 'swathlaw10.OfficeClashes'. -/
def officeClashesCard : Claim7 := { stood := { row := officeClashesRow, standIns := [], harness := (true, "61e83f9224e7446a63ccaabdf4d97d1b98015f092d589035354785c65d967016"), looks := true }, kinds := [], alts := [], laidByText := true, laidKinds := [.data, .data, .data, .data, .sentinel, .sentinel, .pinned], laidTests := true, laidLooks := .later }
def OfficeClashesCardSaid : Prop := Claim7.holds Tryz.pinned (.plain (OpenSpec.ofChange officeClashesSpec)) officeClashesCard

/-- THE TIED CARD OF 'swathlaw10.OfficeDesk'. -/
def officeDeskCard : Claim7 := { stood := { row := officeDeskRow, standIns := [], harness := (true, "61e83f9224e7446a63ccaabdf4d97d1b98015f092d589035354785c65d967016"), looks := true }, kinds := [], alts := [], laidByText := true, laidKinds := [.data, .data, .data, .data, .sentinel, .sentinel, .pinned], laidTests := true, laidLooks := .later }
def OfficeDeskCardSaid : Prop := Claim7.holds Tryz.pinned (.plain (OpenSpec.ofChange officeDeskSpec)) officeDeskCard

/-- THE TIED CARD OF 'swathlaw10.OfficePlans'. -/
def officePlansCard : Claim7 := { stood := { row := officePlansRow, standIns := [], harness := (true, "61e83f9224e7446a63ccaabdf4d97d1b98015f092d589035354785c65d967016"), looks := true }, kinds := [], alts := [], laidByText := true, laidKinds := [.data, .data, .data, .data, .sentinel, .sentinel, .pinned], laidTests := true, laidLooks := .later }
def OfficePlansCardSaid : Prop := Claim7.holds Tryz.pinned (.plain (OpenSpec.ofChange officePlansSpec)) officePlansCard

/-- THE TIED CARD OF 'swathlaw10.OfficeAccepts'. -/
def officeAcceptsCard : Claim7 := { stood := { row := officeAcceptsRow, standIns := [], harness := (true, "61e83f9224e7446a63ccaabdf4d97d1b98015f092d589035354785c65d967016"), looks := true }, kinds := [], alts := [], laidByText := true, laidKinds := [.data, .data, .data, .data, .sentinel, .sentinel, .pinned], laidTests := true, laidLooks := .later }
def OfficeAcceptsCardSaid : Prop := Claim7.holds Tryz.pinned (.plain (OpenSpec.ofChange officeAcceptsSpec)) officeAcceptsCard

/-- THE TIED CARD OF 'swathlaw10.OfficePasses'. -/
def officePassesCard : Claim7 := { stood := { row := officePassesRow, standIns := [], harness := (true, "61e83f9224e7446a63ccaabdf4d97d1b98015f092d589035354785c65d967016"), looks := true }, kinds := [], alts := [], laidByText := true, laidKinds := [.data, .data, .data, .data, .sentinel, .sentinel, .pinned], laidTests := true, laidLooks := .later }
def OfficePassesCardSaid : Prop := Claim7.holds Tryz.pinned (.plain (OpenSpec.ofChange officePassesSpec)) officePassesCard

/-- THE TIED CARD OF 'swathlaw10.OfficeUntouched'. -/
def officeUntouchedCard : Claim7 := { stood := { row := officeUntouchedRow, standIns := [], harness := (true, "61e83f9224e7446a63ccaabdf4d97d1b98015f092d589035354785c65d967016"), looks := true }, kinds := [], alts := [], laidByText := true, laidKinds := [.data, .data, .data, .data, .sentinel, .sentinel, .pinned], laidTests := true, laidLooks := .later }
def OfficeUntouchedCardSaid : Prop := Claim7.holds Tryz.pinned (.plain (OpenSpec.ofChange officeUntouchedSpec)) officeUntouchedCard

/-- THE TIED CARD OF 'swathlaw10.OfficeSeals'. -/
def officeSealsCard : Claim7 := { stood := { row := officeSealsRow, standIns := [], harness := (true, "61e83f9224e7446a63ccaabdf4d97d1b98015f092d589035354785c65d967016"), looks := true }, kinds := [], alts := [], laidByText := true, laidKinds := [.data, .data, .data, .data, .sentinel, .sentinel, .pinned], laidTests := true, laidLooks := .later }
def OfficeSealsCardSaid : Prop := Claim7.holds Tryz.pinned (.plain (OpenSpec.ofChange officeSealsSpec)) officeSealsCard

/-- THE TIED CARD OF 'swathlaw10.OfficeRecovers'. -/
def officeRecoversCard : Claim7 := { stood := { row := officeRecoversRow, standIns := [], harness := (true, "61e83f9224e7446a63ccaabdf4d97d1b98015f092d589035354785c65d967016"), looks := true }, kinds := [], alts := [], laidByText := true, laidKinds := [.data, .data, .data, .data, .sentinel, .sentinel, .pinned], laidTests := true, laidLooks := .later }
def OfficeRecoversCardSaid : Prop := Claim7.holds Tryz.pinned (.plain (OpenSpec.ofChange officeRecoversSpec)) officeRecoversCard

/-- THE TIED CARD OF 'swathlaw10.OfficeAnswers'. -/
def officeAnswersCard : Claim7 := { stood := { row := officeAnswersRow, standIns := [], harness := (true, "61e83f9224e7446a63ccaabdf4d97d1b98015f092d589035354785c65d967016"), looks := true }, kinds := [], alts := [], laidByText := true, laidKinds := [.data, .data, .data, .data, .sentinel, .sentinel, .pinned], laidTests := true, laidLooks := .later }
def OfficeAnswersCardSaid : Prop := Claim7.holds Tryz.pinned (.plain (OpenSpec.ofChange officeAnswersSpec)) officeAnswersCard

/-- THE TIED CARD OF 'swathlaw10.OfficeConsole'. -/
def officeConsoleCard : Claim7 := { stood := { row := officeConsoleRow, standIns := [], harness := (true, "61e83f9224e7446a63ccaabdf4d97d1b98015f092d589035354785c65d967016"), looks := true }, kinds := [], alts := [], laidByText := true, laidKinds := [.data, .data, .data, .data, .sentinel, .sentinel, .pinned], laidTests := true, laidLooks := .later }
def OfficeConsoleCardSaid : Prop := Claim7.holds Tryz.pinned (.plain (OpenSpec.ofChange officeConsoleSpec)) officeConsoleCard

/-- THE SECOND FORM's CARD OF 'swathlaw10.OfficePoints'. -/
def officePointsUptoCard : Claim7 := { stood := { row := officePointsUptoRow, standIns := [], harness := (true, "61e83f9224e7446a63ccaabdf4d97d1b98015f092d589035354785c65d967016"), looks := true }, kinds := [], alts := [], laidByText := true, laidKinds := [.data, .data, .data, .data, .sentinel, .sentinel, .pinned], laidTests := true, laidLooks := .later }
def OfficePointsUptoCardSaid : Prop := Claim7.holds Tryz.pinned (.plain (OpenSpec.upto officePointsSpec)) officePointsUptoCard

/-- THE SECOND FORM's CARD OF 'swathlaw10.OfficeFixes'. -/
def officeFixesUptoCard : Claim7 := { stood := { row := officeFixesUptoRow, standIns := [], harness := (true, "61e83f9224e7446a63ccaabdf4d97d1b98015f092d589035354785c65d967016"), looks := true }, kinds := [], alts := [], laidByText := true, laidKinds := [.data, .data, .data, .data, .sentinel, .sentinel, .pinned], laidTests := true, laidLooks := .later }
def OfficeFixesUptoCardSaid : Prop := Claim7.holds Tryz.pinned (.plain (OpenSpec.upto officeFixesSpec)) officeFixesUptoCard

/-- THE SECOND FORM's CARD OF 'swathlaw10.OfficeLogs'. -/
def officeLogsUptoCard : Claim7 := { stood := { row := officeLogsUptoRow, standIns := [], harness := (true, "61e83f9224e7446a63ccaabdf4d97d1b98015f092d589035354785c65d967016"), looks := true }, kinds := [], alts := [], laidByText := true, laidKinds := [.data, .data, .data, .data, .sentinel, .sentinel, .pinned], laidTests := true, laidLooks := .later }
def OfficeLogsUptoCardSaid : Prop := Claim7.holds Tryz.pinned (.plain (OpenSpec.upto officeLogsSpec)) officeLogsUptoCard

/-- THE SECOND FORM's CARD OF 'swathlaw10.OfficeSetups'. -/
def officeSetupsUptoCard : Claim7 := { stood := { row := officeSetupsUptoRow, standIns := [], harness := (true, "61e83f9224e7446a63ccaabdf4d97d1b98015f092d589035354785c65d967016"), looks := true }, kinds := [], alts := [], laidByText := true, laidKinds := [.data, .data, .data, .data, .sentinel, .sentinel, .pinned], laidTests := true, laidLooks := .later }
def OfficeSetupsUptoCardSaid : Prop := Claim7.holds Tryz.pinned (.plain (OpenSpec.upto officeSetupsSpec)) officeSetupsUptoCard

/-- THE SECOND FORM's CARD OF 'swathlaw10.OfficePassLabels'. -/
def officePassLabelsUptoCard : Claim7 := { stood := { row := officePassLabelsUptoRow, standIns := [], harness := (true, "61e83f9224e7446a63ccaabdf4d97d1b98015f092d589035354785c65d967016"), looks := true }, kinds := [], alts := [], laidByText := true, laidKinds := [.data, .data, .data, .data, .sentinel, .sentinel, .pinned], laidTests := true, laidLooks := .later }
def OfficePassLabelsUptoCardSaid : Prop := Claim7.holds Tryz.pinned (.plain (OpenSpec.upto officePassLabelsSpec)) officePassLabelsUptoCard

/-- THE SECOND FORM's CARD OF 'swathlaw10.OfficeClashes'. -/
def officeClashesUptoCard : Claim7 := { stood := { row := officeClashesUptoRow, standIns := [], harness := (true, "61e83f9224e7446a63ccaabdf4d97d1b98015f092d589035354785c65d967016"), looks := true }, kinds := [], alts := [], laidByText := true, laidKinds := [.data, .data, .data, .data, .sentinel, .sentinel, .pinned], laidTests := true, laidLooks := .later }
def OfficeClashesUptoCardSaid : Prop := Claim7.holds Tryz.pinned (.plain (OpenSpec.upto officeClashesSpec)) officeClashesUptoCard

/-- THE SECOND FORM's CARD OF 'swathlaw10.OfficeDesk'. -/
def officeDeskUptoCard : Claim7 := { stood := { row := officeDeskUptoRow, standIns := [], harness := (true, "61e83f9224e7446a63ccaabdf4d97d1b98015f092d589035354785c65d967016"), looks := true }, kinds := [], alts := [], laidByText := true, laidKinds := [.data, .data, .data, .data, .sentinel, .sentinel, .pinned], laidTests := true, laidLooks := .later }
def OfficeDeskUptoCardSaid : Prop := Claim7.holds Tryz.pinned (.plain (OpenSpec.upto officeDeskSpec)) officeDeskUptoCard

/-- THE SECOND FORM's CARD OF 'swathlaw10.OfficePlans'. -/
def officePlansUptoCard : Claim7 := { stood := { row := officePlansUptoRow, standIns := [], harness := (true, "61e83f9224e7446a63ccaabdf4d97d1b98015f092d589035354785c65d967016"), looks := true }, kinds := [], alts := [], laidByText := true, laidKinds := [.data, .data, .data, .data, .sentinel, .sentinel, .pinned], laidTests := true, laidLooks := .later }
def OfficePlansUptoCardSaid : Prop := Claim7.holds Tryz.pinned (.plain (OpenSpec.upto officePlansSpec)) officePlansUptoCard

/-- THE SECOND FORM's CARD OF 'swathlaw10.OfficeAccepts'. -/
def officeAcceptsUptoCard : Claim7 := { stood := { row := officeAcceptsUptoRow, standIns := [], harness := (true, "61e83f9224e7446a63ccaabdf4d97d1b98015f092d589035354785c65d967016"), looks := true }, kinds := [], alts := [], laidByText := true, laidKinds := [.data, .data, .data, .data, .sentinel, .sentinel, .pinned], laidTests := true, laidLooks := .later }
def OfficeAcceptsUptoCardSaid : Prop := Claim7.holds Tryz.pinned (.plain (OpenSpec.upto officeAcceptsSpec)) officeAcceptsUptoCard

/-- THE SECOND FORM's CARD OF 'swathlaw10.OfficePasses'. -/
def officePassesUptoCard : Claim7 := { stood := { row := officePassesUptoRow, standIns := [], harness := (true, "61e83f9224e7446a63ccaabdf4d97d1b98015f092d589035354785c65d967016"), looks := true }, kinds := [], alts := [], laidByText := true, laidKinds := [.data, .data, .data, .data, .sentinel, .sentinel, .pinned], laidTests := true, laidLooks := .later }
def OfficePassesUptoCardSaid : Prop := Claim7.holds Tryz.pinned (.plain (OpenSpec.upto officePassesSpec)) officePassesUptoCard

/-- THE SECOND FORM's CARD OF 'swathlaw10.OfficeUntouched'. -/
def officeUntouchedUptoCard : Claim7 := { stood := { row := officeUntouchedUptoRow, standIns := [], harness := (true, "61e83f9224e7446a63ccaabdf4d97d1b98015f092d589035354785c65d967016"), looks := true }, kinds := [], alts := [], laidByText := true, laidKinds := [.data, .data, .data, .data, .sentinel, .sentinel, .pinned], laidTests := true, laidLooks := .later }
def OfficeUntouchedUptoCardSaid : Prop := Claim7.holds Tryz.pinned (.plain (OpenSpec.upto officeUntouchedSpec)) officeUntouchedUptoCard

/-- THE SECOND FORM's CARD OF 'swathlaw10.OfficeSeals'. -/
def officeSealsUptoCard : Claim7 := { stood := { row := officeSealsUptoRow, standIns := [], harness := (true, "61e83f9224e7446a63ccaabdf4d97d1b98015f092d589035354785c65d967016"), looks := true }, kinds := [], alts := [], laidByText := true, laidKinds := [.data, .data, .data, .data, .sentinel, .sentinel, .pinned], laidTests := true, laidLooks := .later }
def OfficeSealsUptoCardSaid : Prop := Claim7.holds Tryz.pinned (.plain (OpenSpec.upto officeSealsSpec)) officeSealsUptoCard

/-- THE SECOND FORM's CARD OF 'swathlaw10.OfficeRecovers'. -/
def officeRecoversUptoCard : Claim7 := { stood := { row := officeRecoversUptoRow, standIns := [], harness := (true, "61e83f9224e7446a63ccaabdf4d97d1b98015f092d589035354785c65d967016"), looks := true }, kinds := [], alts := [], laidByText := true, laidKinds := [.data, .data, .data, .data, .sentinel, .sentinel, .pinned], laidTests := true, laidLooks := .later }
def OfficeRecoversUptoCardSaid : Prop := Claim7.holds Tryz.pinned (.plain (OpenSpec.upto officeRecoversSpec)) officeRecoversUptoCard

/-- THE SECOND FORM's CARD OF 'swathlaw10.OfficeAnswers'. -/
def officeAnswersUptoCard : Claim7 := { stood := { row := officeAnswersUptoRow, standIns := [], harness := (true, "61e83f9224e7446a63ccaabdf4d97d1b98015f092d589035354785c65d967016"), looks := true }, kinds := [], alts := [], laidByText := true, laidKinds := [.data, .data, .data, .data, .sentinel, .sentinel, .pinned], laidTests := true, laidLooks := .later }
def OfficeAnswersUptoCardSaid : Prop := Claim7.holds Tryz.pinned (.plain (OpenSpec.upto officeAnswersSpec)) officeAnswersUptoCard

/-- THE SECOND FORM's CARD OF 'swathlaw10.OfficeConsole'. -/
def officeConsoleUptoCard : Claim7 := { stood := { row := officeConsoleUptoRow, standIns := [], harness := (true, "61e83f9224e7446a63ccaabdf4d97d1b98015f092d589035354785c65d967016"), looks := true }, kinds := [], alts := [], laidByText := true, laidKinds := [.data, .data, .data, .data, .sentinel, .sentinel, .pinned], laidTests := true, laidLooks := .later }
def OfficeConsoleUptoCardSaid : Prop := Claim7.holds Tryz.pinned (.plain (OpenSpec.upto officeConsoleSpec)) officeConsoleUptoCard
end Rows
end Go.Proofs.YthfjdkhccimggaaGreatDoor
