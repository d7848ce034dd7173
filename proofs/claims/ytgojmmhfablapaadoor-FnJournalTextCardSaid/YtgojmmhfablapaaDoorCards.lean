/-
  DERIVED. GIVEN WITH THE SEED: THE CARDS: each row of YtgojmmhfablapaaDoorRows.lean that lists a variable, with what it lists TIED to the program's text (the seventh form; the later family's looks); each row that meets fmt, with fmt's text TOLD by the authors' own Lean function (tested against real Go, not proved from fmt's source: count such statements apart). THE CARD IS WHAT COUNTS. Prove the row's statement (the work); the ties are given (YtgojmmhfablapaaDoorTie.lean); close each card by the builder's one call (the guide's Derived/Test/ToyasCard.lean, 'card_holds'). Laid BY PROGRAM, IN A SANDBOX (cutbox-door.mjs). By AI agents, Wed Nov 11 2026. No macro, syntax, notation, axiom, sorry.
-/
import Derived.Test.YtgojmmhfablapaaDoorRows
import GoSem.ClaimSeven
namespace Go.Proofs.YtgojmmhfablapaaDoor
namespace Rows

/-- THE TIED CARD OF 'laws.FnExactDeedText'. -/
def fnExactDeedTextCard : Claim7 := { stood := { row := fnExactDeedTextRow, standIns := [], harness := (true, "ccb9c20905abd202a84090aa4b9a4c04257ccf6fcebe04f107b1803dcbe99e59"), looks := false }, kinds := [], alts := [], laidByText := true, laidKinds := [.data, .data, .data], laidTests := true, laidLooks := .later }
def FnExactDeedTextCardSaid : Prop := Claim7.holds Tryd.pinned (.plain (OpenSpec.ofChange fnExactDeedTextSpec)) fnExactDeedTextCard

/-- THE TIED CARD OF 'laws.FnExactEntryText'. -/
def fnExactEntryTextCard : Claim7 := { stood := { row := fnExactEntryTextRow, standIns := [], harness := (true, "ccb9c20905abd202a84090aa4b9a4c04257ccf6fcebe04f107b1803dcbe99e59"), looks := false }, kinds := [], alts := [], laidByText := true, laidKinds := [.data, .data, .data], laidTests := true, laidLooks := .later }
def FnExactEntryTextCardSaid : Prop := Claim7.holds Tryd.pinned (.plain (OpenSpec.ofChange fnExactEntryTextSpec)) fnExactEntryTextCard

/-- THE TIED CARD OF 'laws.FnSumOf'. -/
def fnSumOfCard : Claim7 := { stood := { row := fnSumOfRow, standIns := [], harness := (true, "ccb9c20905abd202a84090aa4b9a4c04257ccf6fcebe04f107b1803dcbe99e59"), looks := false }, kinds := [], alts := [], laidByText := true, laidKinds := [.data, .data, .data], laidTests := true, laidLooks := .later }
def FnSumOfCardSaid : Prop := Claim7.holds Tryd.pinned (.plain (OpenSpec.ofChange fnSumOfSpec)) fnSumOfCard

/-- THE TIED CARD OF 'laws.FnExactJournalText'. -/
def fnExactJournalTextCard : Claim7 := { stood := { row := fnExactJournalTextRow, standIns := [], harness := (true, "ccb9c20905abd202a84090aa4b9a4c04257ccf6fcebe04f107b1803dcbe99e59"), looks := false }, kinds := [], alts := [], laidByText := true, laidKinds := [.data, .data, .data], laidTests := true, laidLooks := .later }
def FnExactJournalTextCardSaid : Prop := Claim7.holds Tryd.pinned (.plain (OpenSpec.ofChange fnExactJournalTextSpec)) fnExactJournalTextCard

/-- THE TIED CARD OF 'laws.FnExactReadDeed'. -/
def fnExactReadDeedCard : Claim7 := { stood := { row := fnExactReadDeedRow, standIns := [], harness := (true, "ccb9c20905abd202a84090aa4b9a4c04257ccf6fcebe04f107b1803dcbe99e59"), looks := false }, kinds := [], alts := [], laidByText := true, laidKinds := [.data, .data, .data, .data, .pinned], laidTests := true, laidLooks := .later }
def FnExactReadDeedCardSaid : Prop := Claim7.holds Tryd.pinned (.plain (OpenSpec.ofChange fnExactReadDeedSpec)) fnExactReadDeedCard

/-- THE TIED CARD OF 'laws.FnDeedText'. -/
def fnDeedTextCard : Claim7 := { stood := { row := fnDeedTextRow, standIns := [], harness := (true, "ccb9c20905abd202a84090aa4b9a4c04257ccf6fcebe04f107b1803dcbe99e59"), looks := false }, kinds := [], alts := [], laidByText := true, laidKinds := [.data, .data, .data, .data, .pinned], laidTests := true, laidLooks := .later }
def FnDeedTextCardSaid : Prop := Claim7.holds Tryd.pinned (.plain (OpenSpec.ofChange fnDeedTextSpec)) fnDeedTextCard

/-- THE TIED CARD OF 'laws.FnExactReadEntry'. -/
def fnExactReadEntryCard : Claim7 := { stood := { row := fnExactReadEntryRow, standIns := [], harness := (true, "ccb9c20905abd202a84090aa4b9a4c04257ccf6fcebe04f107b1803dcbe99e59"), looks := false }, kinds := [], alts := [], laidByText := true, laidKinds := [.data, .data, .data, .data, .pinned], laidTests := true, laidLooks := .later }
def FnExactReadEntryCardSaid : Prop := Claim7.holds Tryd.pinned (.plain (OpenSpec.ofChange fnExactReadEntrySpec)) fnExactReadEntryCard

/-- THE TIED CARD OF 'laws.FnReadDeed'. -/
def fnReadDeedCard : Claim7 := { stood := { row := fnReadDeedRow, standIns := [], harness := (true, "ccb9c20905abd202a84090aa4b9a4c04257ccf6fcebe04f107b1803dcbe99e59"), looks := false }, kinds := [], alts := [], laidByText := true, laidKinds := [.data, .data, .data, .data, .pinned], laidTests := true, laidLooks := .later }
def FnReadDeedCardSaid : Prop := Claim7.holds Tryd.pinned (.plain (OpenSpec.ofChange fnReadDeedSpec)) fnReadDeedCard

/-- THE TIED CARD OF 'laws.FnEntryText'. -/
def fnEntryTextCard : Claim7 := { stood := { row := fnEntryTextRow, standIns := [], harness := (true, "ccb9c20905abd202a84090aa4b9a4c04257ccf6fcebe04f107b1803dcbe99e59"), looks := false }, kinds := [], alts := [], laidByText := true, laidKinds := [.data, .data, .data, .data, .pinned], laidTests := true, laidLooks := .later }
def FnEntryTextCardSaid : Prop := Claim7.holds Tryd.pinned (.plain (OpenSpec.ofChange fnEntryTextSpec)) fnEntryTextCard

/-- THE TIED CARD OF 'laws.FnExactReadJournal'. -/
def fnExactReadJournalCard : Claim7 := { stood := { row := fnExactReadJournalRow, standIns := [], harness := (true, "ccb9c20905abd202a84090aa4b9a4c04257ccf6fcebe04f107b1803dcbe99e59"), looks := false }, kinds := [], alts := [], laidByText := true, laidKinds := [.data, .data, .data, .data, .pinned], laidTests := true, laidLooks := .later }
def FnExactReadJournalCardSaid : Prop := Claim7.holds Tryd.pinned (.plain (OpenSpec.ofChange fnExactReadJournalSpec)) fnExactReadJournalCard

/-- THE TIED CARD OF 'laws.FnJournalText'. -/
def fnJournalTextCard : Claim7 := { stood := { row := fnJournalTextRow, standIns := [], harness := (true, "ccb9c20905abd202a84090aa4b9a4c04257ccf6fcebe04f107b1803dcbe99e59"), looks := false }, kinds := [], alts := [], laidByText := true, laidKinds := [.data, .data, .data, .data, .pinned], laidTests := true, laidLooks := .later }
def FnJournalTextCardSaid : Prop := Claim7.holds Tryd.pinned (.plain (OpenSpec.ofChange fnJournalTextSpec)) fnJournalTextCard

/-- THE SECOND FORM's CARD OF 'laws.FnExactDeedText'. -/
def fnExactDeedTextUptoCard : Claim7 := { stood := { row := fnExactDeedTextUptoRow, standIns := [], harness := (true, "ccb9c20905abd202a84090aa4b9a4c04257ccf6fcebe04f107b1803dcbe99e59"), looks := false }, kinds := [], alts := [], laidByText := true, laidKinds := [.data, .data, .data], laidTests := true, laidLooks := .later }
def FnExactDeedTextUptoCardSaid : Prop := Claim7.holds Tryd.pinned (.plain (OpenSpec.upto fnExactDeedTextSpec)) fnExactDeedTextUptoCard

/-- THE SECOND FORM's CARD OF 'laws.FnExactEntryText'. -/
def fnExactEntryTextUptoCard : Claim7 := { stood := { row := fnExactEntryTextUptoRow, standIns := [], harness := (true, "ccb9c20905abd202a84090aa4b9a4c04257ccf6fcebe04f107b1803dcbe99e59"), looks := false }, kinds := [], alts := [], laidByText := true, laidKinds := [.data, .data, .data], laidTests := true, laidLooks := .later }
def FnExactEntryTextUptoCardSaid : Prop := Claim7.holds Tryd.pinned (.plain (OpenSpec.upto fnExactEntryTextSpec)) fnExactEntryTextUptoCard

/-- THE SECOND FORM's CARD OF 'laws.FnSumOf'. -/
def fnSumOfUptoCard : Claim7 := { stood := { row := fnSumOfUptoRow, standIns := [], harness := (true, "ccb9c20905abd202a84090aa4b9a4c04257ccf6fcebe04f107b1803dcbe99e59"), looks := false }, kinds := [], alts := [], laidByText := true, laidKinds := [.data, .data, .data], laidTests := true, laidLooks := .later }
def FnSumOfUptoCardSaid : Prop := Claim7.holds Tryd.pinned (.plain (OpenSpec.upto fnSumOfSpec)) fnSumOfUptoCard

/-- THE SECOND FORM's CARD OF 'laws.FnExactJournalText'. -/
def fnExactJournalTextUptoCard : Claim7 := { stood := { row := fnExactJournalTextUptoRow, standIns := [], harness := (true, "ccb9c20905abd202a84090aa4b9a4c04257ccf6fcebe04f107b1803dcbe99e59"), looks := false }, kinds := [], alts := [], laidByText := true, laidKinds := [.data, .data, .data], laidTests := true, laidLooks := .later }
def FnExactJournalTextUptoCardSaid : Prop := Claim7.holds Tryd.pinned (.plain (OpenSpec.upto fnExactJournalTextSpec)) fnExactJournalTextUptoCard

/-- THE SECOND FORM's CARD OF 'laws.FnExactReadDeed'. -/
def fnExactReadDeedUptoCard : Claim7 := { stood := { row := fnExactReadDeedUptoRow, standIns := [], harness := (true, "ccb9c20905abd202a84090aa4b9a4c04257ccf6fcebe04f107b1803dcbe99e59"), looks := false }, kinds := [], alts := [], laidByText := true, laidKinds := [.data, .data, .data, .data, .pinned], laidTests := true, laidLooks := .later }
def FnExactReadDeedUptoCardSaid : Prop := Claim7.holds Tryd.pinned (.plain (OpenSpec.upto fnExactReadDeedSpec)) fnExactReadDeedUptoCard

/-- THE SECOND FORM's CARD OF 'laws.FnDeedText'. -/
def fnDeedTextUptoCard : Claim7 := { stood := { row := fnDeedTextUptoRow, standIns := [], harness := (true, "ccb9c20905abd202a84090aa4b9a4c04257ccf6fcebe04f107b1803dcbe99e59"), looks := false }, kinds := [], alts := [], laidByText := true, laidKinds := [.data, .data, .data, .data, .pinned], laidTests := true, laidLooks := .later }
def FnDeedTextUptoCardSaid : Prop := Claim7.holds Tryd.pinned (.plain (OpenSpec.upto fnDeedTextSpec)) fnDeedTextUptoCard

/-- THE SECOND FORM's CARD OF 'laws.FnExactReadEntry'. -/
def fnExactReadEntryUptoCard : Claim7 := { stood := { row := fnExactReadEntryUptoRow, standIns := [], harness := (true, "ccb9c20905abd202a84090aa4b9a4c04257ccf6fcebe04f107b1803dcbe99e59"), looks := false }, kinds := [], alts := [], laidByText := true, laidKinds := [.data, .data, .data, .data, .pinned], laidTests := true, laidLooks := .later }
def FnExactReadEntryUptoCardSaid : Prop := Claim7.holds Tryd.pinned (.plain (OpenSpec.upto fnExactReadEntrySpec)) fnExactReadEntryUptoCard

/-- THE SECOND FORM's CARD OF 'laws.FnReadDeed'. -/
def fnReadDeedUptoCard : Claim7 := { stood := { row := fnReadDeedUptoRow, standIns := [], harness := (true, "ccb9c20905abd202a84090aa4b9a4c04257ccf6fcebe04f107b1803dcbe99e59"), looks := false }, kinds := [], alts := [], laidByText := true, laidKinds := [.data, .data, .data, .data, .pinned], laidTests := true, laidLooks := .later }
def FnReadDeedUptoCardSaid : Prop := Claim7.holds Tryd.pinned (.plain (OpenSpec.upto fnReadDeedSpec)) fnReadDeedUptoCard

/-- THE SECOND FORM's CARD OF 'laws.FnEntryText'. -/
def fnEntryTextUptoCard : Claim7 := { stood := { row := fnEntryTextUptoRow, standIns := [], harness := (true, "ccb9c20905abd202a84090aa4b9a4c04257ccf6fcebe04f107b1803dcbe99e59"), looks := false }, kinds := [], alts := [], laidByText := true, laidKinds := [.data, .data, .data, .data, .pinned], laidTests := true, laidLooks := .later }
def FnEntryTextUptoCardSaid : Prop := Claim7.holds Tryd.pinned (.plain (OpenSpec.upto fnEntryTextSpec)) fnEntryTextUptoCard

/-- THE SECOND FORM's CARD OF 'laws.FnExactReadJournal'. -/
def fnExactReadJournalUptoCard : Claim7 := { stood := { row := fnExactReadJournalUptoRow, standIns := [], harness := (true, "ccb9c20905abd202a84090aa4b9a4c04257ccf6fcebe04f107b1803dcbe99e59"), looks := false }, kinds := [], alts := [], laidByText := true, laidKinds := [.data, .data, .data, .data, .pinned], laidTests := true, laidLooks := .later }
def FnExactReadJournalUptoCardSaid : Prop := Claim7.holds Tryd.pinned (.plain (OpenSpec.upto fnExactReadJournalSpec)) fnExactReadJournalUptoCard

/-- THE SECOND FORM's CARD OF 'laws.FnJournalText'. -/
def fnJournalTextUptoCard : Claim7 := { stood := { row := fnJournalTextUptoRow, standIns := [], harness := (true, "ccb9c20905abd202a84090aa4b9a4c04257ccf6fcebe04f107b1803dcbe99e59"), looks := false }, kinds := [], alts := [], laidByText := true, laidKinds := [.data, .data, .data, .data, .pinned], laidTests := true, laidLooks := .later }
def FnJournalTextUptoCardSaid : Prop := Claim7.holds Tryd.pinned (.plain (OpenSpec.upto fnJournalTextSpec)) fnJournalTextUptoCard
end Rows
end Go.Proofs.YtgojmmhfablapaaDoor
