/-
  DERIVED. GIVEN WITH THE SEED: THE CARDS: each row of YtbgkcehffiogcabGreatDoorRows.lean that lists a variable, with what it lists TIED to the program's text (the seventh form; the later family's looks); each row that meets fmt, with fmt's text TOLD by the authors' own Lean function (tested against real Go, not proved from fmt's source: count such statements apart). THE CARD IS WHAT COUNTS. Prove the row's statement (the work); the ties are given (YtbgkcehffiogcabGreatDoorTie.lean); close each card by the builder's one call (the guide's Derived/Test/ToyasCard.lean, 'card_holds'). Laid BY PROGRAM, IN A SANDBOX (cutbox-door.mjs). By AI agents, Wed Nov 11 2026. No macro, syntax, notation, axiom, sorry.
-/
import Derived.Test.YtbgkcehffiogcabGreatDoorRows
import GoSem.ClaimSeven
namespace Go.Proofs.YtbgkcehffiogcabGreatDoor
namespace Rows

/-- THE TIED CARD OF 'laws.FnExactRecover'. -/
def fnExactRecoverCard : Claim7 := { stood := { row := fnExactRecoverRow, standIns := [], harness := (true, "d35716def7927f4f66105604326d4ddae8602c269e8ff0869da5e554710b718b"), looks := false }, kinds := [], alts := [], laidByText := true, laidKinds := [.data, .data, .data, .data, .pinned], laidTests := true, laidLooks := .later }
def FnExactRecoverCardSaid : Prop := Claim7.holds Tryz.pinned (.plain (OpenSpec.ofChange fnExactRecoverSpec)) fnExactRecoverCard

/-- THE TIED CARD OF 'laws.FnRecover'. -/
def fnRecoverCard : Claim7 := { stood := { row := fnRecoverRow, standIns := [], harness := (true, "d35716def7927f4f66105604326d4ddae8602c269e8ff0869da5e554710b718b"), looks := false }, kinds := [], alts := [], laidByText := true, laidKinds := [.data, .data, .data, .data, .pinned], laidTests := true, laidLooks := .later }
def FnRecoverCardSaid : Prop := Claim7.holds Tryz.pinned (.plain (OpenSpec.ofChange fnRecoverSpec)) fnRecoverCard

/-- THE SECOND FORM's CARD OF 'laws.FnExactRecover'. -/
def fnExactRecoverUptoCard : Claim7 := { stood := { row := fnExactRecoverUptoRow, standIns := [], harness := (true, "d35716def7927f4f66105604326d4ddae8602c269e8ff0869da5e554710b718b"), looks := false }, kinds := [], alts := [], laidByText := true, laidKinds := [.data, .data, .data, .data, .pinned], laidTests := true, laidLooks := .later }
def FnExactRecoverUptoCardSaid : Prop := Claim7.holds Tryz.pinned (.plain (OpenSpec.upto fnExactRecoverSpec)) fnExactRecoverUptoCard

/-- THE SECOND FORM's CARD OF 'laws.FnRecover'. -/
def fnRecoverUptoCard : Claim7 := { stood := { row := fnRecoverUptoRow, standIns := [], harness := (true, "d35716def7927f4f66105604326d4ddae8602c269e8ff0869da5e554710b718b"), looks := false }, kinds := [], alts := [], laidByText := true, laidKinds := [.data, .data, .data, .data, .pinned], laidTests := true, laidLooks := .later }
def FnRecoverUptoCardSaid : Prop := Claim7.holds Tryz.pinned (.plain (OpenSpec.upto fnRecoverSpec)) fnRecoverUptoCard
end Rows
end Go.Proofs.YtbgkcehffiogcabGreatDoor
