/-
  DERIVED. GIVEN WITH THE SEED: THE CARDS: each row of YtncfnlocdlhagaaDoorRows.lean that lists a variable, with what it lists TIED to the program's text (the seventh form; the later family's looks); each row that meets fmt, with fmt's text TOLD by the authors' own Lean function (tested against real Go, not proved from fmt's source: count such statements apart). THE CARD IS WHAT COUNTS. Prove the row's statement (the work); the ties are given (YtncfnlocdlhagaaDoorTie.lean); close each card by the builder's one call (the guide's Derived/Test/ToyasCard.lean, 'card_holds'). Laid BY PROGRAM, IN A SANDBOX (cutbox-door.mjs). By AI agents, Wed Nov 11 2026. No macro, syntax, notation, axiom, sorry.
-/
import Derived.Test.YtncfnlocdlhagaaDoorRows
import GoSem.ClaimSeven
namespace Go.Proofs.YtncfnlocdlhagaaDoor
namespace Rows

/-- THE TIED CARD OF 'laws.FnReadEntry'. -/
def fnReadEntryCard : Claim7 := { stood := { row := fnReadEntryRow, standIns := [], harness := (true, "5b7d58595ac82eed6dbf0871479f631cc9dcd5d8e42822ed4821cc3e8b2a6b8f"), looks := false }, kinds := [], alts := [], laidByText := true, laidKinds := [.data, .data, .data, .data, .pinned], laidTests := true, laidLooks := .later }
def FnReadEntryCardSaid : Prop := Claim7.holds Tryd.pinned (.plain (OpenSpec.ofChange fnReadEntrySpec)) fnReadEntryCard

/-- THE TIED CARD OF 'laws.FnReadJournal'. -/
def fnReadJournalCard : Claim7 := { stood := { row := fnReadJournalRow, standIns := [], harness := (true, "5b7d58595ac82eed6dbf0871479f631cc9dcd5d8e42822ed4821cc3e8b2a6b8f"), looks := false }, kinds := [], alts := [], laidByText := true, laidKinds := [.data, .data, .data, .data, .pinned], laidTests := true, laidLooks := .later }
def FnReadJournalCardSaid : Prop := Claim7.holds Tryd.pinned (.plain (OpenSpec.ofChange fnReadJournalSpec)) fnReadJournalCard

/-- THE TIED CARD OF 'laws.FnExactHouseText'. -/
def fnExactHouseTextCard : Claim7 := { stood := { row := fnExactHouseTextRow, standIns := [], harness := (true, "5b7d58595ac82eed6dbf0871479f631cc9dcd5d8e42822ed4821cc3e8b2a6b8f"), looks := false }, kinds := [], alts := [], laidByText := true, laidKinds := [.data, .data, .data], laidTests := true, laidLooks := .later }
def FnExactHouseTextCardSaid : Prop := Claim7.holds Tryd.pinned (.plain (OpenSpec.ofChange fnExactHouseTextSpec)) fnExactHouseTextCard

/-- THE TIED CARD OF 'laws.FnExactSaveText'. -/
def fnExactSaveTextCard : Claim7 := { stood := { row := fnExactSaveTextRow, standIns := [], harness := (true, "5b7d58595ac82eed6dbf0871479f631cc9dcd5d8e42822ed4821cc3e8b2a6b8f"), looks := false }, kinds := [], alts := [], laidByText := true, laidKinds := [.data, .data, .data], laidTests := true, laidLooks := .later }
def FnExactSaveTextCardSaid : Prop := Claim7.holds Tryd.pinned (.plain (OpenSpec.ofChange fnExactSaveTextSpec)) fnExactSaveTextCard

/-- THE TIED CARD OF 'laws.FnHouseNew'. -/
def fnHouseNewCard : Claim7 := { stood := { row := fnHouseNewRow, standIns := [], harness := (true, "5b7d58595ac82eed6dbf0871479f631cc9dcd5d8e42822ed4821cc3e8b2a6b8f"), looks := false }, kinds := [], alts := [], laidByText := true, laidKinds := [.data, .data, .data], laidTests := true, laidLooks := .later }
def FnHouseNewCardSaid : Prop := Claim7.holds Tryd.pinned (.plain (OpenSpec.ofChange fnHouseNewSpec)) fnHouseNewCard

/-- THE SECOND FORM's CARD OF 'laws.FnReadEntry'. -/
def fnReadEntryUptoCard : Claim7 := { stood := { row := fnReadEntryUptoRow, standIns := [], harness := (true, "5b7d58595ac82eed6dbf0871479f631cc9dcd5d8e42822ed4821cc3e8b2a6b8f"), looks := false }, kinds := [], alts := [], laidByText := true, laidKinds := [.data, .data, .data, .data, .pinned], laidTests := true, laidLooks := .later }
def FnReadEntryUptoCardSaid : Prop := Claim7.holds Tryd.pinned (.plain (OpenSpec.upto fnReadEntrySpec)) fnReadEntryUptoCard

/-- THE SECOND FORM's CARD OF 'laws.FnReadJournal'. -/
def fnReadJournalUptoCard : Claim7 := { stood := { row := fnReadJournalUptoRow, standIns := [], harness := (true, "5b7d58595ac82eed6dbf0871479f631cc9dcd5d8e42822ed4821cc3e8b2a6b8f"), looks := false }, kinds := [], alts := [], laidByText := true, laidKinds := [.data, .data, .data, .data, .pinned], laidTests := true, laidLooks := .later }
def FnReadJournalUptoCardSaid : Prop := Claim7.holds Tryd.pinned (.plain (OpenSpec.upto fnReadJournalSpec)) fnReadJournalUptoCard

/-- THE SECOND FORM's CARD OF 'laws.FnExactHouseText'. -/
def fnExactHouseTextUptoCard : Claim7 := { stood := { row := fnExactHouseTextUptoRow, standIns := [], harness := (true, "5b7d58595ac82eed6dbf0871479f631cc9dcd5d8e42822ed4821cc3e8b2a6b8f"), looks := false }, kinds := [], alts := [], laidByText := true, laidKinds := [.data, .data, .data], laidTests := true, laidLooks := .later }
def FnExactHouseTextUptoCardSaid : Prop := Claim7.holds Tryd.pinned (.plain (OpenSpec.upto fnExactHouseTextSpec)) fnExactHouseTextUptoCard

/-- THE SECOND FORM's CARD OF 'laws.FnExactSaveText'. -/
def fnExactSaveTextUptoCard : Claim7 := { stood := { row := fnExactSaveTextUptoRow, standIns := [], harness := (true, "5b7d58595ac82eed6dbf0871479f631cc9dcd5d8e42822ed4821cc3e8b2a6b8f"), looks := false }, kinds := [], alts := [], laidByText := true, laidKinds := [.data, .data, .data], laidTests := true, laidLooks := .later }
def FnExactSaveTextUptoCardSaid : Prop := Claim7.holds Tryd.pinned (.plain (OpenSpec.upto fnExactSaveTextSpec)) fnExactSaveTextUptoCard

/-- THE SECOND FORM's CARD OF 'laws.FnHouseNew'. -/
def fnHouseNewUptoCard : Claim7 := { stood := { row := fnHouseNewUptoRow, standIns := [], harness := (true, "5b7d58595ac82eed6dbf0871479f631cc9dcd5d8e42822ed4821cc3e8b2a6b8f"), looks := false }, kinds := [], alts := [], laidByText := true, laidKinds := [.data, .data, .data], laidTests := true, laidLooks := .later }
def FnHouseNewUptoCardSaid : Prop := Claim7.holds Tryd.pinned (.plain (OpenSpec.upto fnHouseNewSpec)) fnHouseNewUptoCard
end Rows
end Go.Proofs.YtncfnlocdlhagaaDoor
