/-
  DERIVED. GIVEN WITH THE SEED: THE CARDS: each row of YtbgkcehffiogcacGreatDoorRows.lean that lists a variable, with what it lists TIED to the program's text (the seventh form; the later family's looks); each row that meets fmt, with fmt's text TOLD by the authors' own Lean function (tested against real Go, not proved from fmt's source: count such statements apart). THE CARD IS WHAT COUNTS. Prove the row's statement (the work); the ties are given (YtbgkcehffiogcacGreatDoorTie.lean); close each card by the builder's one call (the guide's Derived/Test/ToyasCard.lean, 'card_holds'). Laid BY PROGRAM, IN A SANDBOX (cutbox-door.mjs). By AI agents, Wed Nov 11 2026. No macro, syntax, notation, axiom, sorry.
-/
import Derived.Test.YtbgkcehffiogcacGreatDoorRows
import GoSem.ClaimSeven
namespace Go.Proofs.YtbgkcehffiogcacGreatDoor
namespace Rows

/-- THE TIED CARD OF 'laws.FnExactHouseLine'. -/
def fnExactHouseLineCard : Claim7 := { stood := { row := fnExactHouseLineRow, standIns := [], harness := (true, "18154aae8a7f2a31707afa78f7f9c47ff5d5c17cd9b87bc95acb68fbb8027612"), looks := false }, kinds := [], alts := [], laidByText := true, laidKinds := [.data, .data, .data, .data, .pinned], laidTests := true, laidLooks := .later }
def FnExactHouseLineCardSaid : Prop := Claim7.holds Tryz.pinned (.plain (OpenSpec.ofChange fnExactHouseLineSpec)) fnExactHouseLineCard

/-- THE TIED CARD OF 'laws.FnExactHouseLines'. -/
def fnExactHouseLinesCard : Claim7 := { stood := { row := fnExactHouseLinesRow, standIns := [], harness := (true, "18154aae8a7f2a31707afa78f7f9c47ff5d5c17cd9b87bc95acb68fbb8027612"), looks := false }, kinds := [], alts := [], laidByText := true, laidKinds := [.data, .data, .data, .data, .pinned], laidTests := true, laidLooks := .later }
def FnExactHouseLinesCardSaid : Prop := Claim7.holds Tryz.pinned (.plain (OpenSpec.ofChange fnExactHouseLinesSpec)) fnExactHouseLinesCard

/-- THE SECOND FORM's CARD OF 'laws.FnExactHouseLine'. -/
def fnExactHouseLineUptoCard : Claim7 := { stood := { row := fnExactHouseLineUptoRow, standIns := [], harness := (true, "18154aae8a7f2a31707afa78f7f9c47ff5d5c17cd9b87bc95acb68fbb8027612"), looks := false }, kinds := [], alts := [], laidByText := true, laidKinds := [.data, .data, .data, .data, .pinned], laidTests := true, laidLooks := .later }
def FnExactHouseLineUptoCardSaid : Prop := Claim7.holds Tryz.pinned (.plain (OpenSpec.upto fnExactHouseLineSpec)) fnExactHouseLineUptoCard

/-- THE SECOND FORM's CARD OF 'laws.FnExactHouseLines'. -/
def fnExactHouseLinesUptoCard : Claim7 := { stood := { row := fnExactHouseLinesUptoRow, standIns := [], harness := (true, "18154aae8a7f2a31707afa78f7f9c47ff5d5c17cd9b87bc95acb68fbb8027612"), looks := false }, kinds := [], alts := [], laidByText := true, laidKinds := [.data, .data, .data, .data, .pinned], laidTests := true, laidLooks := .later }
def FnExactHouseLinesUptoCardSaid : Prop := Claim7.holds Tryz.pinned (.plain (OpenSpec.upto fnExactHouseLinesSpec)) fnExactHouseLinesUptoCard
end Rows
end Go.Proofs.YtbgkcehffiogcacGreatDoor
