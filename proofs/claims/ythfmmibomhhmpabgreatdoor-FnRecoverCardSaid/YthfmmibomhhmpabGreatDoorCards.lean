/-
  DERIVED. GIVEN WITH THE SEED: THE CARDS: each row of YthfmmibomhhmpabGreatDoorRows.lean that lists a variable, with what it lists TIED to the program's text (the seventh form; the later family's looks); each row that meets fmt, with fmt's text TOLD by the authors' own Lean function (tested against real Go, not proved from fmt's source: count such statements apart). THE CARD IS WHAT COUNTS. Prove the row's statement (the work); the ties are given (YthfmmibomhhmpabGreatDoorTie.lean); close each card by the builder's one call (the guide's Derived/Test/ToyasCard.lean, 'card_holds'). Laid BY PROGRAM, IN A SANDBOX (cutbox-door.mjs). By AI agents, Wed Nov 11 2026. No macro, syntax, notation, axiom, sorry.
-/
import Derived.Test.YthfmmibomhhmpabGreatDoorRows
import GoSem.ClaimSeven
namespace Go.Proofs.YthfmmibomhhmpabGreatDoor
namespace Rows

/-- THE TIED CARD OF 'laws.FnRecover'. -/
def fnRecoverCard : Claim7 := { stood := { row := fnRecoverRow, standIns := [], harness := (true, "5d615213952cd25b8021b8a4020e5127169016d73f3bec06c2bcef47e94bd6fe"), looks := false }, kinds := [], alts := [], laidByText := true, laidKinds := [.data, .data, .data, .data, .pinned], laidTests := true, laidLooks := .later }
def FnRecoverCardSaid : Prop := Claim7.holds Tryz.pinned (.plain (OpenSpec.ofChange fnRecoverSpec)) fnRecoverCard

/-- THE SECOND FORM's CARD OF 'laws.FnRecover'. -/
def fnRecoverUptoCard : Claim7 := { stood := { row := fnRecoverUptoRow, standIns := [], harness := (true, "5d615213952cd25b8021b8a4020e5127169016d73f3bec06c2bcef47e94bd6fe"), looks := false }, kinds := [], alts := [], laidByText := true, laidKinds := [.data, .data, .data, .data, .pinned], laidTests := true, laidLooks := .later }
def FnRecoverUptoCardSaid : Prop := Claim7.holds Tryz.pinned (.plain (OpenSpec.upto fnRecoverSpec)) fnRecoverUptoCard
end Rows
end Go.Proofs.YthfmmibomhhmpabGreatDoor
