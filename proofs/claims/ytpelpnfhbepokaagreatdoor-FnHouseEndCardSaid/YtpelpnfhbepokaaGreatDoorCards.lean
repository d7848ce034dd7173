/-
  DERIVED. GIVEN WITH THE SEED: THE CARDS: each row of YtpelpnfhbepokaaGreatDoorRows.lean that lists a variable, with what it lists TIED to the program's text (the seventh form; the later family's looks); each row that meets fmt, with fmt's text TOLD by the authors' own Lean function (tested against real Go, not proved from fmt's source: count such statements apart). THE CARD IS WHAT COUNTS. Prove the row's statement (the work); the ties are given (YtpelpnfhbepokaaGreatDoorTie.lean); close each card by the builder's one call (the guide's Derived/Test/ToyasCard.lean, 'card_holds'). Laid BY PROGRAM, IN A SANDBOX (cutbox-door.mjs). By AI agents, Wed Nov 11 2026. No macro, syntax, notation, axiom, sorry.
-/
import Derived.Test.YtpelpnfhbepokaaGreatDoorRows
import GoSem.ClaimSeven
namespace Go.Proofs.YtpelpnfhbepokaaGreatDoor
namespace Rows

/-- THE TIED CARD OF 'laws.FnHouseRun'. -/
def fnHouseRunCard : Claim7 := { stood := { row := fnHouseRunRow, standIns := [], harness := (true, "14d75ff08caf5127483c6eba276b2d9f21100af07ec1bf953ef223277e5f1c15"), looks := false }, kinds := [], alts := [], laidByText := true, laidKinds := [.data, .data, .data], laidTests := true, laidLooks := .later }
def FnHouseRunCardSaid : Prop := Claim7.holds Tryz.pinned (.plain (OpenSpec.ofChange fnHouseRunSpec)) fnHouseRunCard

/-- THE TIED CARD OF 'laws.FnHouseEnd'. -/
def fnHouseEndCard : Claim7 := { stood := { row := fnHouseEndRow, standIns := [], harness := (true, "14d75ff08caf5127483c6eba276b2d9f21100af07ec1bf953ef223277e5f1c15"), looks := false }, kinds := [], alts := [], laidByText := true, laidKinds := [.data, .data, .data], laidTests := true, laidLooks := .later }
def FnHouseEndCardSaid : Prop := Claim7.holds Tryz.pinned (.plain (OpenSpec.ofChange fnHouseEndSpec)) fnHouseEndCard

/-- THE TIED CARD OF 'laws.FnExactReplay'. -/
def fnExactReplayCard : Claim7 := { stood := { row := fnExactReplayRow, standIns := [], harness := (true, "14d75ff08caf5127483c6eba276b2d9f21100af07ec1bf953ef223277e5f1c15"), looks := false }, kinds := [], alts := [], laidByText := true, laidKinds := [.data, .data, .data, .data, .pinned], laidTests := true, laidLooks := .later }
def FnExactReplayCardSaid : Prop := Claim7.holds Tryz.pinned (.plain (OpenSpec.ofChange fnExactReplaySpec)) fnExactReplayCard

/-- THE TIED CARD OF 'laws.FnReplay'. -/
def fnReplayCard : Claim7 := { stood := { row := fnReplayRow, standIns := [], harness := (true, "14d75ff08caf5127483c6eba276b2d9f21100af07ec1bf953ef223277e5f1c15"), looks := false }, kinds := [], alts := [], laidByText := true, laidKinds := [.data, .data, .data, .data, .pinned], laidTests := true, laidLooks := .later }
def FnReplayCardSaid : Prop := Claim7.holds Tryz.pinned (.plain (OpenSpec.ofChange fnReplaySpec)) fnReplayCard

/-- THE SECOND FORM's CARD OF 'laws.FnHouseRun'. -/
def fnHouseRunUptoCard : Claim7 := { stood := { row := fnHouseRunUptoRow, standIns := [], harness := (true, "14d75ff08caf5127483c6eba276b2d9f21100af07ec1bf953ef223277e5f1c15"), looks := false }, kinds := [], alts := [], laidByText := true, laidKinds := [.data, .data, .data], laidTests := true, laidLooks := .later }
def FnHouseRunUptoCardSaid : Prop := Claim7.holds Tryz.pinned (.plain (OpenSpec.upto fnHouseRunSpec)) fnHouseRunUptoCard

/-- THE SECOND FORM's CARD OF 'laws.FnHouseEnd'. -/
def fnHouseEndUptoCard : Claim7 := { stood := { row := fnHouseEndUptoRow, standIns := [], harness := (true, "14d75ff08caf5127483c6eba276b2d9f21100af07ec1bf953ef223277e5f1c15"), looks := false }, kinds := [], alts := [], laidByText := true, laidKinds := [.data, .data, .data], laidTests := true, laidLooks := .later }
def FnHouseEndUptoCardSaid : Prop := Claim7.holds Tryz.pinned (.plain (OpenSpec.upto fnHouseEndSpec)) fnHouseEndUptoCard

/-- THE SECOND FORM's CARD OF 'laws.FnExactReplay'. -/
def fnExactReplayUptoCard : Claim7 := { stood := { row := fnExactReplayUptoRow, standIns := [], harness := (true, "14d75ff08caf5127483c6eba276b2d9f21100af07ec1bf953ef223277e5f1c15"), looks := false }, kinds := [], alts := [], laidByText := true, laidKinds := [.data, .data, .data, .data, .pinned], laidTests := true, laidLooks := .later }
def FnExactReplayUptoCardSaid : Prop := Claim7.holds Tryz.pinned (.plain (OpenSpec.upto fnExactReplaySpec)) fnExactReplayUptoCard

/-- THE SECOND FORM's CARD OF 'laws.FnReplay'. -/
def fnReplayUptoCard : Claim7 := { stood := { row := fnReplayUptoRow, standIns := [], harness := (true, "14d75ff08caf5127483c6eba276b2d9f21100af07ec1bf953ef223277e5f1c15"), looks := false }, kinds := [], alts := [], laidByText := true, laidKinds := [.data, .data, .data, .data, .pinned], laidTests := true, laidLooks := .later }
def FnReplayUptoCardSaid : Prop := Claim7.holds Tryz.pinned (.plain (OpenSpec.upto fnReplaySpec)) fnReplayUptoCard
end Rows
end Go.Proofs.YtpelpnfhbepokaaGreatDoor
