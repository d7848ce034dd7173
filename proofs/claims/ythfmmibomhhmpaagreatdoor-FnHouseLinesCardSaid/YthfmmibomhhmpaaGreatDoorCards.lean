/-
  DERIVED. GIVEN WITH THE SEED: THE CARDS: each row of YthfmmibomhhmpaaGreatDoorRows.lean that lists a variable, with what it lists TIED to the program's text (the seventh form; the later family's looks); each row that meets fmt, with fmt's text TOLD by the authors' own Lean function (tested against real Go, not proved from fmt's source: count such statements apart). THE CARD IS WHAT COUNTS. Prove the row's statement (the work); the ties are given (YthfmmibomhhmpaaGreatDoorTie.lean); close each card by the builder's one call (the guide's Derived/Test/ToyasCard.lean, 'card_holds'). Laid BY PROGRAM, IN A SANDBOX (cutbox-door.mjs). By AI agents, Wed Nov 11 2026. No macro, syntax, notation, axiom, sorry.
-/
import Derived.Test.YthfmmibomhhmpaaGreatDoorRows
import GoSem.ClaimSeven
namespace Go.Proofs.YthfmmibomhhmpaaGreatDoor
namespace Rows

/-- THE TIED CARD OF 'laws.FnHouseLines'. -/
def fnHouseLinesCard : Claim7 := { stood := { row := fnHouseLinesRow, standIns := [], harness := (true, "473b54f93a46b94b59398db18657619c4849f543122f7c0b94aa777422daa4f6"), looks := false }, kinds := [], alts := [], laidByText := true, laidKinds := [.data, .data, .data, .data, .pinned], laidTests := true, laidLooks := .later }
def FnHouseLinesCardSaid : Prop := Claim7.holds Tryz.pinned (.plain (OpenSpec.ofChange fnHouseLinesSpec)) fnHouseLinesCard

/-- THE SECOND FORM's CARD OF 'laws.FnHouseLines'. -/
def fnHouseLinesUptoCard : Claim7 := { stood := { row := fnHouseLinesUptoRow, standIns := [], harness := (true, "473b54f93a46b94b59398db18657619c4849f543122f7c0b94aa777422daa4f6"), looks := false }, kinds := [], alts := [], laidByText := true, laidKinds := [.data, .data, .data, .data, .pinned], laidTests := true, laidLooks := .later }
def FnHouseLinesUptoCardSaid : Prop := Claim7.holds Tryz.pinned (.plain (OpenSpec.upto fnHouseLinesSpec)) fnHouseLinesUptoCard
end Rows
end Go.Proofs.YthfmmibomhhmpaaGreatDoor
