/-
  DERIVED. GIVEN WITH THE SEED: THE CARDS: each row of YteejdnmmpmcmeaaGreatDoorRows.lean that lists a variable, with what it lists TIED to the program's text (the seventh form; the later family's looks); each row that meets fmt, with fmt's text TOLD by the authors' own Lean function (tested against real Go, not proved from fmt's source: count such statements apart). THE CARD IS WHAT COUNTS. Prove the row's statement (the work); the ties are given (YteejdnmmpmcmeaaGreatDoorTie.lean); close each card by the builder's one call (the guide's Derived/Test/ToyasCard.lean, 'card_holds'). Laid BY PROGRAM, IN A SANDBOX (cutbox-door.mjs). By AI agents, Wed Nov 11 2026. No macro, syntax, notation, axiom, sorry.
-/
import Derived.Test.YteejdnmmpmcmeaaGreatDoorRows
import GoSem.ClaimSeven
namespace Go.Proofs.YteejdnmmpmcmeaaGreatDoor
namespace Rows

/-- THE TIED CARD OF 'laws.FnHouseValid'. -/
def fnHouseValidCard : Claim7 := { stood := { row := fnHouseValidRow, standIns := [], harness := (true, "8836f471f1b4faa3be30a93d1cb9550ab781cb422f55cd67b25bcd9fa131c7d4"), looks := false }, kinds := [], alts := [], laidByText := true, laidKinds := [.data, .data, .data], laidTests := true, laidLooks := .later }
def FnHouseValidCardSaid : Prop := Claim7.holds Tryz.pinned (.plain (OpenSpec.ofChange fnHouseValidSpec)) fnHouseValidCard

/-- THE TIED CARD OF 'laws.FnHouseStay'. -/
def fnHouseStayCard : Claim7 := { stood := { row := fnHouseStayRow, standIns := [], harness := (true, "8836f471f1b4faa3be30a93d1cb9550ab781cb422f55cd67b25bcd9fa131c7d4"), looks := false }, kinds := [], alts := [], laidByText := true, laidKinds := [.data, .data, .data], laidTests := true, laidLooks := .later }
def FnHouseStayCardSaid : Prop := Claim7.holds Tryz.pinned (.plain (OpenSpec.ofChange fnHouseStaySpec)) fnHouseStayCard

/-- THE TIED CARD OF 'laws.FnHouseDue'. -/
def fnHouseDueCard : Claim7 := { stood := { row := fnHouseDueRow, standIns := [], harness := (true, "8836f471f1b4faa3be30a93d1cb9550ab781cb422f55cd67b25bcd9fa131c7d4"), looks := false }, kinds := [], alts := [], laidByText := true, laidKinds := [.data, .data, .data], laidTests := true, laidLooks := .later }
def FnHouseDueCardSaid : Prop := Claim7.holds Tryz.pinned (.plain (OpenSpec.ofChange fnHouseDueSpec)) fnHouseDueCard

/-- THE TIED CARD OF 'laws.FnHouseMay'. -/
def fnHouseMayCard : Claim7 := { stood := { row := fnHouseMayRow, standIns := [], harness := (true, "8836f471f1b4faa3be30a93d1cb9550ab781cb422f55cd67b25bcd9fa131c7d4"), looks := false }, kinds := [], alts := [], laidByText := true, laidKinds := [.data, .data, .data], laidTests := true, laidLooks := .later }
def FnHouseMayCardSaid : Prop := Claim7.holds Tryz.pinned (.plain (OpenSpec.ofChange fnHouseMaySpec)) fnHouseMayCard

/-- THE TIED CARD OF 'laws.FnEndOrder'. -/
def fnEndOrderCard : Claim7 := { stood := { row := fnEndOrderRow, standIns := [], harness := (true, "8836f471f1b4faa3be30a93d1cb9550ab781cb422f55cd67b25bcd9fa131c7d4"), looks := false }, kinds := [], alts := [], laidByText := true, laidKinds := [.data, .data, .data], laidTests := true, laidLooks := .later }
def FnEndOrderCardSaid : Prop := Claim7.holds Tryz.pinned (.plain (OpenSpec.ofChange fnEndOrderSpec)) fnEndOrderCard

/-- THE TIED CARD OF 'laws.FnExactReadHouse'. -/
def fnExactReadHouseCard : Claim7 := { stood := { row := fnExactReadHouseRow, standIns := [], harness := (true, "8836f471f1b4faa3be30a93d1cb9550ab781cb422f55cd67b25bcd9fa131c7d4"), looks := false }, kinds := [], alts := [], laidByText := true, laidKinds := [.data, .data, .data, .data, .pinned], laidTests := true, laidLooks := .later }
def FnExactReadHouseCardSaid : Prop := Claim7.holds Tryz.pinned (.plain (OpenSpec.ofChange fnExactReadHouseSpec)) fnExactReadHouseCard

/-- THE TIED CARD OF 'laws.FnExactReadSave'. -/
def fnExactReadSaveCard : Claim7 := { stood := { row := fnExactReadSaveRow, standIns := [], harness := (true, "8836f471f1b4faa3be30a93d1cb9550ab781cb422f55cd67b25bcd9fa131c7d4"), looks := false }, kinds := [], alts := [], laidByText := true, laidKinds := [.data, .data, .data, .data, .pinned], laidTests := true, laidLooks := .later }
def FnExactReadSaveCardSaid : Prop := Claim7.holds Tryz.pinned (.plain (OpenSpec.ofChange fnExactReadSaveSpec)) fnExactReadSaveCard

/-- THE TIED CARD OF 'laws.FnHouseText'. -/
def fnHouseTextCard : Claim7 := { stood := { row := fnHouseTextRow, standIns := [], harness := (true, "8836f471f1b4faa3be30a93d1cb9550ab781cb422f55cd67b25bcd9fa131c7d4"), looks := false }, kinds := [], alts := [], laidByText := true, laidKinds := [.data, .data, .data, .data, .pinned], laidTests := true, laidLooks := .later }
def FnHouseTextCardSaid : Prop := Claim7.holds Tryz.pinned (.plain (OpenSpec.ofChange fnHouseTextSpec)) fnHouseTextCard

/-- THE TIED CARD OF 'laws.FnSaveText'. -/
def fnSaveTextCard : Claim7 := { stood := { row := fnSaveTextRow, standIns := [], harness := (true, "8836f471f1b4faa3be30a93d1cb9550ab781cb422f55cd67b25bcd9fa131c7d4"), looks := false }, kinds := [], alts := [], laidByText := true, laidKinds := [.data, .data, .data, .data, .pinned], laidTests := true, laidLooks := .later }
def FnSaveTextCardSaid : Prop := Claim7.holds Tryz.pinned (.plain (OpenSpec.ofChange fnSaveTextSpec)) fnSaveTextCard

/-- THE TIED CARD OF 'laws.FnReadHouse'. -/
def fnReadHouseCard : Claim7 := { stood := { row := fnReadHouseRow, standIns := [], harness := (true, "8836f471f1b4faa3be30a93d1cb9550ab781cb422f55cd67b25bcd9fa131c7d4"), looks := false }, kinds := [], alts := [], laidByText := true, laidKinds := [.data, .data, .data, .data, .pinned], laidTests := true, laidLooks := .later }
def FnReadHouseCardSaid : Prop := Claim7.holds Tryz.pinned (.plain (OpenSpec.ofChange fnReadHouseSpec)) fnReadHouseCard

/-- THE TIED CARD OF 'laws.FnReadSave'. -/
def fnReadSaveCard : Claim7 := { stood := { row := fnReadSaveRow, standIns := [], harness := (true, "8836f471f1b4faa3be30a93d1cb9550ab781cb422f55cd67b25bcd9fa131c7d4"), looks := false }, kinds := [], alts := [], laidByText := true, laidKinds := [.data, .data, .data, .data, .pinned], laidTests := true, laidLooks := .later }
def FnReadSaveCardSaid : Prop := Claim7.holds Tryz.pinned (.plain (OpenSpec.ofChange fnReadSaveSpec)) fnReadSaveCard

/-- THE TIED CARD OF 'laws.FnHouseOwed'. -/
def fnHouseOwedCard : Claim7 := { stood := { row := fnHouseOwedRow, standIns := [], harness := (true, "8836f471f1b4faa3be30a93d1cb9550ab781cb422f55cd67b25bcd9fa131c7d4"), looks := false }, kinds := [], alts := [], laidByText := true, laidKinds := [.data, .data, .data], laidTests := true, laidLooks := .later }
def FnHouseOwedCardSaid : Prop := Claim7.holds Tryz.pinned (.plain (OpenSpec.ofChange fnHouseOwedSpec)) fnHouseOwedCard

/-- THE SECOND FORM's CARD OF 'laws.FnHouseValid'. -/
def fnHouseValidUptoCard : Claim7 := { stood := { row := fnHouseValidUptoRow, standIns := [], harness := (true, "8836f471f1b4faa3be30a93d1cb9550ab781cb422f55cd67b25bcd9fa131c7d4"), looks := false }, kinds := [], alts := [], laidByText := true, laidKinds := [.data, .data, .data], laidTests := true, laidLooks := .later }
def FnHouseValidUptoCardSaid : Prop := Claim7.holds Tryz.pinned (.plain (OpenSpec.upto fnHouseValidSpec)) fnHouseValidUptoCard

/-- THE SECOND FORM's CARD OF 'laws.FnHouseStay'. -/
def fnHouseStayUptoCard : Claim7 := { stood := { row := fnHouseStayUptoRow, standIns := [], harness := (true, "8836f471f1b4faa3be30a93d1cb9550ab781cb422f55cd67b25bcd9fa131c7d4"), looks := false }, kinds := [], alts := [], laidByText := true, laidKinds := [.data, .data, .data], laidTests := true, laidLooks := .later }
def FnHouseStayUptoCardSaid : Prop := Claim7.holds Tryz.pinned (.plain (OpenSpec.upto fnHouseStaySpec)) fnHouseStayUptoCard

/-- THE SECOND FORM's CARD OF 'laws.FnHouseDue'. -/
def fnHouseDueUptoCard : Claim7 := { stood := { row := fnHouseDueUptoRow, standIns := [], harness := (true, "8836f471f1b4faa3be30a93d1cb9550ab781cb422f55cd67b25bcd9fa131c7d4"), looks := false }, kinds := [], alts := [], laidByText := true, laidKinds := [.data, .data, .data], laidTests := true, laidLooks := .later }
def FnHouseDueUptoCardSaid : Prop := Claim7.holds Tryz.pinned (.plain (OpenSpec.upto fnHouseDueSpec)) fnHouseDueUptoCard

/-- THE SECOND FORM's CARD OF 'laws.FnHouseMay'. -/
def fnHouseMayUptoCard : Claim7 := { stood := { row := fnHouseMayUptoRow, standIns := [], harness := (true, "8836f471f1b4faa3be30a93d1cb9550ab781cb422f55cd67b25bcd9fa131c7d4"), looks := false }, kinds := [], alts := [], laidByText := true, laidKinds := [.data, .data, .data], laidTests := true, laidLooks := .later }
def FnHouseMayUptoCardSaid : Prop := Claim7.holds Tryz.pinned (.plain (OpenSpec.upto fnHouseMaySpec)) fnHouseMayUptoCard

/-- THE SECOND FORM's CARD OF 'laws.FnEndOrder'. -/
def fnEndOrderUptoCard : Claim7 := { stood := { row := fnEndOrderUptoRow, standIns := [], harness := (true, "8836f471f1b4faa3be30a93d1cb9550ab781cb422f55cd67b25bcd9fa131c7d4"), looks := false }, kinds := [], alts := [], laidByText := true, laidKinds := [.data, .data, .data], laidTests := true, laidLooks := .later }
def FnEndOrderUptoCardSaid : Prop := Claim7.holds Tryz.pinned (.plain (OpenSpec.upto fnEndOrderSpec)) fnEndOrderUptoCard

/-- THE SECOND FORM's CARD OF 'laws.FnExactReadHouse'. -/
def fnExactReadHouseUptoCard : Claim7 := { stood := { row := fnExactReadHouseUptoRow, standIns := [], harness := (true, "8836f471f1b4faa3be30a93d1cb9550ab781cb422f55cd67b25bcd9fa131c7d4"), looks := false }, kinds := [], alts := [], laidByText := true, laidKinds := [.data, .data, .data, .data, .pinned], laidTests := true, laidLooks := .later }
def FnExactReadHouseUptoCardSaid : Prop := Claim7.holds Tryz.pinned (.plain (OpenSpec.upto fnExactReadHouseSpec)) fnExactReadHouseUptoCard

/-- THE SECOND FORM's CARD OF 'laws.FnExactReadSave'. -/
def fnExactReadSaveUptoCard : Claim7 := { stood := { row := fnExactReadSaveUptoRow, standIns := [], harness := (true, "8836f471f1b4faa3be30a93d1cb9550ab781cb422f55cd67b25bcd9fa131c7d4"), looks := false }, kinds := [], alts := [], laidByText := true, laidKinds := [.data, .data, .data, .data, .pinned], laidTests := true, laidLooks := .later }
def FnExactReadSaveUptoCardSaid : Prop := Claim7.holds Tryz.pinned (.plain (OpenSpec.upto fnExactReadSaveSpec)) fnExactReadSaveUptoCard

/-- THE SECOND FORM's CARD OF 'laws.FnHouseText'. -/
def fnHouseTextUptoCard : Claim7 := { stood := { row := fnHouseTextUptoRow, standIns := [], harness := (true, "8836f471f1b4faa3be30a93d1cb9550ab781cb422f55cd67b25bcd9fa131c7d4"), looks := false }, kinds := [], alts := [], laidByText := true, laidKinds := [.data, .data, .data, .data, .pinned], laidTests := true, laidLooks := .later }
def FnHouseTextUptoCardSaid : Prop := Claim7.holds Tryz.pinned (.plain (OpenSpec.upto fnHouseTextSpec)) fnHouseTextUptoCard

/-- THE SECOND FORM's CARD OF 'laws.FnSaveText'. -/
def fnSaveTextUptoCard : Claim7 := { stood := { row := fnSaveTextUptoRow, standIns := [], harness := (true, "8836f471f1b4faa3be30a93d1cb9550ab781cb422f55cd67b25bcd9fa131c7d4"), looks := false }, kinds := [], alts := [], laidByText := true, laidKinds := [.data, .data, .data, .data, .pinned], laidTests := true, laidLooks := .later }
def FnSaveTextUptoCardSaid : Prop := Claim7.holds Tryz.pinned (.plain (OpenSpec.upto fnSaveTextSpec)) fnSaveTextUptoCard

/-- THE SECOND FORM's CARD OF 'laws.FnReadHouse'. -/
def fnReadHouseUptoCard : Claim7 := { stood := { row := fnReadHouseUptoRow, standIns := [], harness := (true, "8836f471f1b4faa3be30a93d1cb9550ab781cb422f55cd67b25bcd9fa131c7d4"), looks := false }, kinds := [], alts := [], laidByText := true, laidKinds := [.data, .data, .data, .data, .pinned], laidTests := true, laidLooks := .later }
def FnReadHouseUptoCardSaid : Prop := Claim7.holds Tryz.pinned (.plain (OpenSpec.upto fnReadHouseSpec)) fnReadHouseUptoCard

/-- THE SECOND FORM's CARD OF 'laws.FnReadSave'. -/
def fnReadSaveUptoCard : Claim7 := { stood := { row := fnReadSaveUptoRow, standIns := [], harness := (true, "8836f471f1b4faa3be30a93d1cb9550ab781cb422f55cd67b25bcd9fa131c7d4"), looks := false }, kinds := [], alts := [], laidByText := true, laidKinds := [.data, .data, .data, .data, .pinned], laidTests := true, laidLooks := .later }
def FnReadSaveUptoCardSaid : Prop := Claim7.holds Tryz.pinned (.plain (OpenSpec.upto fnReadSaveSpec)) fnReadSaveUptoCard

/-- THE SECOND FORM's CARD OF 'laws.FnHouseOwed'. -/
def fnHouseOwedUptoCard : Claim7 := { stood := { row := fnHouseOwedUptoRow, standIns := [], harness := (true, "8836f471f1b4faa3be30a93d1cb9550ab781cb422f55cd67b25bcd9fa131c7d4"), looks := false }, kinds := [], alts := [], laidByText := true, laidKinds := [.data, .data, .data], laidTests := true, laidLooks := .later }
def FnHouseOwedUptoCardSaid : Prop := Claim7.holds Tryz.pinned (.plain (OpenSpec.upto fnHouseOwedSpec)) fnHouseOwedUptoCard
end Rows
end Go.Proofs.YteejdnmmpmcmeaaGreatDoor
