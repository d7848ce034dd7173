/-
  DERIVED. GIVEN WITH THE SEED: THE CARDS: each row of YtgnkoffndhmhpaaGreatDoorRows.lean that lists a variable, with what it lists TIED to the program's text (the seventh form; the later family's looks); each row that meets fmt, with fmt's text TOLD by the authors' own Lean function (tested against real Go, not proved from fmt's source: count such statements apart). THE CARD IS WHAT COUNTS. Prove the row's statement (the work); the ties are given (YtgnkoffndhmhpaaGreatDoorTie.lean); close each card by the builder's one call (the guide's Derived/Test/ToyasCard.lean, 'card_holds'). Laid BY PROGRAM, IN A SANDBOX (cutbox-door.mjs). By AI agents, Wed Nov 11 2026. No macro, syntax, notation, axiom, sorry.
-/
import Derived.Test.YtgnkoffndhmhpaaGreatDoorRows
import GoSem.ClaimSeven
namespace Go.Proofs.YtgnkoffndhmhpaaGreatDoor
namespace Rows

/-- THE TIED CARD OF 'laws.FnExactHouseEnd'. -/
def fnExactHouseEndCard : Claim7 := { stood := { row := fnExactHouseEndRow, standIns := [], harness := (true, "187b89d4dcf2e00ffd772258a8d27a10f99dbdd8eb6cef1f5ca97fdeb0bda899"), looks := false }, kinds := [], alts := [], laidByText := true, laidKinds := [.data, .data], laidTests := true, laidLooks := .later }
def FnExactHouseEndCardSaid : Prop := Claim7.holds Tryz.pinned (.plain (OpenSpec.ofChange fnExactHouseEndSpec)) fnExactHouseEndCard

/-- THE TIED CARD OF 'laws.FnExactHouseRun'. -/
def fnExactHouseRunCard : Claim7 := { stood := { row := fnExactHouseRunRow, standIns := [], harness := (true, "187b89d4dcf2e00ffd772258a8d27a10f99dbdd8eb6cef1f5ca97fdeb0bda899"), looks := false }, kinds := [], alts := [], laidByText := true, laidKinds := [.data, .data], laidTests := true, laidLooks := .later }
def FnExactHouseRunCardSaid : Prop := Claim7.holds Tryz.pinned (.plain (OpenSpec.ofChange fnExactHouseRunSpec)) fnExactHouseRunCard

/-- THE TIED CARD OF 'laws.FnHouseDo'. -/
def fnHouseDoCard : Claim7 := { stood := { row := fnHouseDoRow, standIns := [], harness := (true, "187b89d4dcf2e00ffd772258a8d27a10f99dbdd8eb6cef1f5ca97fdeb0bda899"), looks := false }, kinds := [], alts := [], laidByText := true, laidKinds := [.data, .data, .data], laidTests := true, laidLooks := .later }
def FnHouseDoCardSaid : Prop := Claim7.holds Tryz.pinned (.plain (OpenSpec.ofChange fnHouseDoSpec)) fnHouseDoCard

/-- THE TIED CARD OF 'laws.FnHouseOwed'. -/
def fnHouseOwedCard : Claim7 := { stood := { row := fnHouseOwedRow, standIns := [], harness := (true, "187b89d4dcf2e00ffd772258a8d27a10f99dbdd8eb6cef1f5ca97fdeb0bda899"), looks := false }, kinds := [], alts := [], laidByText := true, laidKinds := [.data, .data, .data], laidTests := true, laidLooks := .later }
def FnHouseOwedCardSaid : Prop := Claim7.holds Tryz.pinned (.plain (OpenSpec.ofChange fnHouseOwedSpec)) fnHouseOwedCard

/-- THE TIED CARD OF 'laws.FnEndDeeds'. -/
def fnEndDeedsCard : Claim7 := { stood := { row := fnEndDeedsRow, standIns := [], harness := (true, "187b89d4dcf2e00ffd772258a8d27a10f99dbdd8eb6cef1f5ca97fdeb0bda899"), looks := false }, kinds := [], alts := [], laidByText := true, laidKinds := [.data, .data, .data], laidTests := true, laidLooks := .later }
def FnEndDeedsCardSaid : Prop := Claim7.holds Tryz.pinned (.plain (OpenSpec.ofChange fnEndDeedsSpec)) fnEndDeedsCard

/-- THE TIED CARD OF 'laws.FnHouseRun'. -/
def fnHouseRunCard : Claim7 := { stood := { row := fnHouseRunRow, standIns := [], harness := (true, "187b89d4dcf2e00ffd772258a8d27a10f99dbdd8eb6cef1f5ca97fdeb0bda899"), looks := false }, kinds := [], alts := [], laidByText := true, laidKinds := [.data, .data, .data], laidTests := true, laidLooks := .later }
def FnHouseRunCardSaid : Prop := Claim7.holds Tryz.pinned (.plain (OpenSpec.ofChange fnHouseRunSpec)) fnHouseRunCard

/-- THE TIED CARD OF 'laws.FnHouseEnd'. -/
def fnHouseEndCard : Claim7 := { stood := { row := fnHouseEndRow, standIns := [], harness := (true, "187b89d4dcf2e00ffd772258a8d27a10f99dbdd8eb6cef1f5ca97fdeb0bda899"), looks := false }, kinds := [], alts := [], laidByText := true, laidKinds := [.data, .data, .data], laidTests := true, laidLooks := .later }
def FnHouseEndCardSaid : Prop := Claim7.holds Tryz.pinned (.plain (OpenSpec.ofChange fnHouseEndSpec)) fnHouseEndCard

/-- THE SECOND FORM's CARD OF 'laws.FnExactHouseEnd'. -/
def fnExactHouseEndUptoCard : Claim7 := { stood := { row := fnExactHouseEndUptoRow, standIns := [], harness := (true, "187b89d4dcf2e00ffd772258a8d27a10f99dbdd8eb6cef1f5ca97fdeb0bda899"), looks := false }, kinds := [], alts := [], laidByText := true, laidKinds := [.data, .data], laidTests := true, laidLooks := .later }
def FnExactHouseEndUptoCardSaid : Prop := Claim7.holds Tryz.pinned (.plain (OpenSpec.upto fnExactHouseEndSpec)) fnExactHouseEndUptoCard

/-- THE SECOND FORM's CARD OF 'laws.FnExactHouseRun'. -/
def fnExactHouseRunUptoCard : Claim7 := { stood := { row := fnExactHouseRunUptoRow, standIns := [], harness := (true, "187b89d4dcf2e00ffd772258a8d27a10f99dbdd8eb6cef1f5ca97fdeb0bda899"), looks := false }, kinds := [], alts := [], laidByText := true, laidKinds := [.data, .data], laidTests := true, laidLooks := .later }
def FnExactHouseRunUptoCardSaid : Prop := Claim7.holds Tryz.pinned (.plain (OpenSpec.upto fnExactHouseRunSpec)) fnExactHouseRunUptoCard

/-- THE SECOND FORM's CARD OF 'laws.FnHouseDo'. -/
def fnHouseDoUptoCard : Claim7 := { stood := { row := fnHouseDoUptoRow, standIns := [], harness := (true, "187b89d4dcf2e00ffd772258a8d27a10f99dbdd8eb6cef1f5ca97fdeb0bda899"), looks := false }, kinds := [], alts := [], laidByText := true, laidKinds := [.data, .data, .data], laidTests := true, laidLooks := .later }
def FnHouseDoUptoCardSaid : Prop := Claim7.holds Tryz.pinned (.plain (OpenSpec.upto fnHouseDoSpec)) fnHouseDoUptoCard

/-- THE SECOND FORM's CARD OF 'laws.FnHouseOwed'. -/
def fnHouseOwedUptoCard : Claim7 := { stood := { row := fnHouseOwedUptoRow, standIns := [], harness := (true, "187b89d4dcf2e00ffd772258a8d27a10f99dbdd8eb6cef1f5ca97fdeb0bda899"), looks := false }, kinds := [], alts := [], laidByText := true, laidKinds := [.data, .data, .data], laidTests := true, laidLooks := .later }
def FnHouseOwedUptoCardSaid : Prop := Claim7.holds Tryz.pinned (.plain (OpenSpec.upto fnHouseOwedSpec)) fnHouseOwedUptoCard

/-- THE SECOND FORM's CARD OF 'laws.FnEndDeeds'. -/
def fnEndDeedsUptoCard : Claim7 := { stood := { row := fnEndDeedsUptoRow, standIns := [], harness := (true, "187b89d4dcf2e00ffd772258a8d27a10f99dbdd8eb6cef1f5ca97fdeb0bda899"), looks := false }, kinds := [], alts := [], laidByText := true, laidKinds := [.data, .data, .data], laidTests := true, laidLooks := .later }
def FnEndDeedsUptoCardSaid : Prop := Claim7.holds Tryz.pinned (.plain (OpenSpec.upto fnEndDeedsSpec)) fnEndDeedsUptoCard

/-- THE SECOND FORM's CARD OF 'laws.FnHouseRun'. -/
def fnHouseRunUptoCard : Claim7 := { stood := { row := fnHouseRunUptoRow, standIns := [], harness := (true, "187b89d4dcf2e00ffd772258a8d27a10f99dbdd8eb6cef1f5ca97fdeb0bda899"), looks := false }, kinds := [], alts := [], laidByText := true, laidKinds := [.data, .data, .data], laidTests := true, laidLooks := .later }
def FnHouseRunUptoCardSaid : Prop := Claim7.holds Tryz.pinned (.plain (OpenSpec.upto fnHouseRunSpec)) fnHouseRunUptoCard

/-- THE SECOND FORM's CARD OF 'laws.FnHouseEnd'. -/
def fnHouseEndUptoCard : Claim7 := { stood := { row := fnHouseEndUptoRow, standIns := [], harness := (true, "187b89d4dcf2e00ffd772258a8d27a10f99dbdd8eb6cef1f5ca97fdeb0bda899"), looks := false }, kinds := [], alts := [], laidByText := true, laidKinds := [.data, .data, .data], laidTests := true, laidLooks := .later }
def FnHouseEndUptoCardSaid : Prop := Claim7.holds Tryz.pinned (.plain (OpenSpec.upto fnHouseEndSpec)) fnHouseEndUptoCard
end Rows
end Go.Proofs.YtgnkoffndhmhpaaGreatDoor
