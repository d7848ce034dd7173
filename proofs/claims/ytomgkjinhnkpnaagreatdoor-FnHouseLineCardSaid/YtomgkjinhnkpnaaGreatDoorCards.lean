/-
  DERIVED. GIVEN WITH THE SEED: THE CARDS: each row of YtomgkjinhnkpnaaGreatDoorRows.lean that lists a variable, with what it lists TIED to the program's text (the seventh form; the later family's looks); each row that meets fmt, with fmt's text TOLD by the authors' own Lean function (tested against real Go, not proved from fmt's source: count such statements apart). THE CARD IS WHAT COUNTS. Prove the row's statement (the work); the ties are given (YtomgkjinhnkpnaaGreatDoorTie.lean); close each card by the builder's one call (the guide's Derived/Test/ToyasCard.lean, 'card_holds'). Laid BY PROGRAM, IN A SANDBOX (cutbox-door.mjs). By AI agents, Wed Nov 11 2026. No macro, syntax, notation, axiom, sorry.
-/
import Derived.Test.YtomgkjinhnkpnaaGreatDoorRows
import GoSem.ClaimSeven
namespace Go.Proofs.YtomgkjinhnkpnaaGreatDoor
namespace Rows

/-- THE TIED CARD OF 'laws.FnHouseLine'. -/
def fnHouseLineCard : Claim7 := { stood := { row := fnHouseLineRow, standIns := [], harness := (true, "27ff6812b3d3955435a9b42c3ff71378d0bd9e4dc57862a565cf6e9353ba1ac9"), looks := false }, kinds := [], alts := [], laidByText := true, laidKinds := [.data, .data, .data, .data, .pinned], laidTests := true, laidLooks := .later }
def FnHouseLineCardSaid : Prop := Claim7.holds Tryz.pinned (.plain (OpenSpec.ofChange fnHouseLineSpec)) fnHouseLineCard

/-- THE SECOND FORM's CARD OF 'laws.FnHouseLine'. -/
def fnHouseLineUptoCard : Claim7 := { stood := { row := fnHouseLineUptoRow, standIns := [], harness := (true, "27ff6812b3d3955435a9b42c3ff71378d0bd9e4dc57862a565cf6e9353ba1ac9"), looks := false }, kinds := [], alts := [], laidByText := true, laidKinds := [.data, .data, .data, .data, .pinned], laidTests := true, laidLooks := .later }
def FnHouseLineUptoCardSaid : Prop := Claim7.holds Tryz.pinned (.plain (OpenSpec.upto fnHouseLineSpec)) fnHouseLineUptoCard
end Rows
end Go.Proofs.YtomgkjinhnkpnaaGreatDoor
