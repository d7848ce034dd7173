/-
  DERIVED. GIVEN WITH THE SEED: THE CARDS: each row of YtahglfakiobbcaaGreatDoorRows.lean that lists a variable, with what it lists TIED to the program's text (the seventh form; the later family's looks); each row that meets fmt, with fmt's text TOLD by the authors' own Lean function (tested against real Go, not proved from fmt's source: count such statements apart). THE CARD IS WHAT COUNTS. Prove the row's statement (the work); the ties are given (YtahglfakiobbcaaGreatDoorTie.lean); close each card by the builder's one call (the guide's Derived/Test/ToyasCard.lean, 'card_holds'). Laid BY PROGRAM, IN A SANDBOX (cutbox-door.mjs). By AI agents, Wed Nov 11 2026. No macro, syntax, notation, axiom, sorry.
-/
import Derived.Test.YtahglfakiobbcaaGreatDoorRows
import GoSem.ClaimSeven
namespace Go.Proofs.YtahglfakiobbcaaGreatDoor
namespace Rows

/-- THE TIED CARD OF 'laws.FnExactHouseDo'. -/
def fnExactHouseDoCard : Claim7 := { stood := { row := fnExactHouseDoRow, standIns := [], harness := (true, "a51e7d1b19e3ad9f3b5d40d15b6cd9be7c7b40860a081ebceac2f3f706009e50"), looks := false }, kinds := [], alts := [], laidByText := true, laidKinds := [.data, .data], laidTests := true, laidLooks := .later }
def FnExactHouseDoCardSaid : Prop := Claim7.holds Tryz.pinned (.plain (OpenSpec.ofChange fnExactHouseDoSpec)) fnExactHouseDoCard

/-- THE TIED CARD OF 'laws.FnExactHouseEnd'. -/
def fnExactHouseEndCard : Claim7 := { stood := { row := fnExactHouseEndRow, standIns := [], harness := (true, "a51e7d1b19e3ad9f3b5d40d15b6cd9be7c7b40860a081ebceac2f3f706009e50"), looks := false }, kinds := [], alts := [], laidByText := true, laidKinds := [.data, .data], laidTests := true, laidLooks := .later }
def FnExactHouseEndCardSaid : Prop := Claim7.holds Tryz.pinned (.plain (OpenSpec.ofChange fnExactHouseEndSpec)) fnExactHouseEndCard

/-- THE TIED CARD OF 'laws.FnExactHouseRun'. -/
def fnExactHouseRunCard : Claim7 := { stood := { row := fnExactHouseRunRow, standIns := [], harness := (true, "a51e7d1b19e3ad9f3b5d40d15b6cd9be7c7b40860a081ebceac2f3f706009e50"), looks := false }, kinds := [], alts := [], laidByText := true, laidKinds := [.data, .data], laidTests := true, laidLooks := .later }
def FnExactHouseRunCardSaid : Prop := Claim7.holds Tryz.pinned (.plain (OpenSpec.ofChange fnExactHouseRunSpec)) fnExactHouseRunCard

/-- THE SECOND FORM's CARD OF 'laws.FnExactHouseDo'. -/
def fnExactHouseDoUptoCard : Claim7 := { stood := { row := fnExactHouseDoUptoRow, standIns := [], harness := (true, "a51e7d1b19e3ad9f3b5d40d15b6cd9be7c7b40860a081ebceac2f3f706009e50"), looks := false }, kinds := [], alts := [], laidByText := true, laidKinds := [.data, .data], laidTests := true, laidLooks := .later }
def FnExactHouseDoUptoCardSaid : Prop := Claim7.holds Tryz.pinned (.plain (OpenSpec.upto fnExactHouseDoSpec)) fnExactHouseDoUptoCard

/-- THE SECOND FORM's CARD OF 'laws.FnExactHouseEnd'. -/
def fnExactHouseEndUptoCard : Claim7 := { stood := { row := fnExactHouseEndUptoRow, standIns := [], harness := (true, "a51e7d1b19e3ad9f3b5d40d15b6cd9be7c7b40860a081ebceac2f3f706009e50"), looks := false }, kinds := [], alts := [], laidByText := true, laidKinds := [.data, .data], laidTests := true, laidLooks := .later }
def FnExactHouseEndUptoCardSaid : Prop := Claim7.holds Tryz.pinned (.plain (OpenSpec.upto fnExactHouseEndSpec)) fnExactHouseEndUptoCard

/-- THE SECOND FORM's CARD OF 'laws.FnExactHouseRun'. -/
def fnExactHouseRunUptoCard : Claim7 := { stood := { row := fnExactHouseRunUptoRow, standIns := [], harness := (true, "a51e7d1b19e3ad9f3b5d40d15b6cd9be7c7b40860a081ebceac2f3f706009e50"), looks := false }, kinds := [], alts := [], laidByText := true, laidKinds := [.data, .data], laidTests := true, laidLooks := .later }
def FnExactHouseRunUptoCardSaid : Prop := Claim7.holds Tryz.pinned (.plain (OpenSpec.upto fnExactHouseRunSpec)) fnExactHouseRunUptoCard
end Rows
end Go.Proofs.YtahglfakiobbcaaGreatDoor
