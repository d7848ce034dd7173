/-
  DERIVED. GIVEN WITH THE SEED: THE CARDS: each row of YtndcnflchkfaeaaDoorRows.lean that lists a variable, with what it lists TIED to the program's text (the seventh form; the later family's looks); each row that meets fmt, with fmt's text TOLD by the authors' own Lean function (tested against real Go, not proved from fmt's source: count such statements apart). THE CARD IS WHAT COUNTS. Prove the row's statement (the work); the ties are given (YtndcnflchkfaeaaDoorTie.lean); close each card by the builder's one call (the guide's Derived/Test/ToyasCard.lean, 'card_holds'). Laid BY PROGRAM, IN A SANDBOX (cutbox-door.mjs). By AI agents, Wed Nov 11 2026. No macro, syntax, notation, axiom, sorry.
-/
import Derived.Test.YtndcnflchkfaeaaDoorRows
import GoSem.ClaimSeven
namespace Go.Proofs.YtndcnflchkfaeaaDoor
namespace Rows

/-- THE TIED CARD OF 'laws.FnDeskValid'. -/
def fnDeskValidCard : Claim7 := { stood := { row := fnDeskValidRow, standIns := [], harness := (true, "fac733ff4b74e098bebe86bcb0d60e3ba055f8f45bb509f64aeacd64c1814c6c"), looks := false }, kinds := [], alts := [], laidByText := true, laidKinds := [.data, .data, .data], laidTests := true, laidLooks := .later }
def FnDeskValidCardSaid : Prop := Claim7.holds Tryd.pinned (.plain (OpenSpec.ofChange fnDeskValidSpec)) fnDeskValidCard

/-- THE TIED CARD OF 'laws.FnDeskAsk'. -/
def fnDeskAskCard : Claim7 := { stood := { row := fnDeskAskRow, standIns := [], harness := (true, "fac733ff4b74e098bebe86bcb0d60e3ba055f8f45bb509f64aeacd64c1814c6c"), looks := false }, kinds := [], alts := [], laidByText := true, laidKinds := [.data, .data, .data], laidTests := true, laidLooks := .later }
def FnDeskAskCardSaid : Prop := Claim7.holds Tryd.pinned (.plain (OpenSpec.ofChange fnDeskAskSpec)) fnDeskAskCard

/-- THE TIED CARD OF 'laws.FnDeskFree'. -/
def fnDeskFreeCard : Claim7 := { stood := { row := fnDeskFreeRow, standIns := [], harness := (true, "fac733ff4b74e098bebe86bcb0d60e3ba055f8f45bb509f64aeacd64c1814c6c"), looks := false }, kinds := [], alts := [], laidByText := true, laidKinds := [.data, .data, .data], laidTests := true, laidLooks := .later }
def FnDeskFreeCardSaid : Prop := Claim7.holds Tryd.pinned (.plain (OpenSpec.ofChange fnDeskFreeSpec)) fnDeskFreeCard

/-- THE TIED CARD OF 'laws.FnBooksKeep'. -/
def fnBooksKeepCard : Claim7 := { stood := { row := fnBooksKeepRow, standIns := [], harness := (true, "fac733ff4b74e098bebe86bcb0d60e3ba055f8f45bb509f64aeacd64c1814c6c"), looks := false }, kinds := [], alts := [], laidByText := true, laidKinds := [.data, .data, .data], laidTests := true, laidLooks := .later }
def FnBooksKeepCardSaid : Prop := Claim7.holds Tryd.pinned (.plain (OpenSpec.ofChange fnBooksKeepSpec)) fnBooksKeepCard

/-- THE TIED CARD OF 'laws.FnDeskPlace'. -/
def fnDeskPlaceCard : Claim7 := { stood := { row := fnDeskPlaceRow, standIns := [], harness := (true, "fac733ff4b74e098bebe86bcb0d60e3ba055f8f45bb509f64aeacd64c1814c6c"), looks := false }, kinds := [], alts := [], laidByText := true, laidKinds := [.data, .data, .data], laidTests := true, laidLooks := .later }
def FnDeskPlaceCardSaid : Prop := Claim7.holds Tryd.pinned (.plain (OpenSpec.ofChange fnDeskPlaceSpec)) fnDeskPlaceCard

/-- THE TIED CARD OF 'laws.FnDeskRun'. -/
def fnDeskRunCard : Claim7 := { stood := { row := fnDeskRunRow, standIns := [], harness := (true, "fac733ff4b74e098bebe86bcb0d60e3ba055f8f45bb509f64aeacd64c1814c6c"), looks := false }, kinds := [], alts := [], laidByText := true, laidKinds := [.data, .data, .data], laidTests := true, laidLooks := .later }
def FnDeskRunCardSaid : Prop := Claim7.holds Tryd.pinned (.plain (OpenSpec.ofChange fnDeskRunSpec)) fnDeskRunCard

/-- THE SECOND FORM's CARD OF 'laws.FnDeskValid'. -/
def fnDeskValidUptoCard : Claim7 := { stood := { row := fnDeskValidUptoRow, standIns := [], harness := (true, "fac733ff4b74e098bebe86bcb0d60e3ba055f8f45bb509f64aeacd64c1814c6c"), looks := false }, kinds := [], alts := [], laidByText := true, laidKinds := [.data, .data, .data], laidTests := true, laidLooks := .later }
def FnDeskValidUptoCardSaid : Prop := Claim7.holds Tryd.pinned (.plain (OpenSpec.upto fnDeskValidSpec)) fnDeskValidUptoCard

/-- THE SECOND FORM's CARD OF 'laws.FnDeskAsk'. -/
def fnDeskAskUptoCard : Claim7 := { stood := { row := fnDeskAskUptoRow, standIns := [], harness := (true, "fac733ff4b74e098bebe86bcb0d60e3ba055f8f45bb509f64aeacd64c1814c6c"), looks := false }, kinds := [], alts := [], laidByText := true, laidKinds := [.data, .data, .data], laidTests := true, laidLooks := .later }
def FnDeskAskUptoCardSaid : Prop := Claim7.holds Tryd.pinned (.plain (OpenSpec.upto fnDeskAskSpec)) fnDeskAskUptoCard

/-- THE SECOND FORM's CARD OF 'laws.FnDeskFree'. -/
def fnDeskFreeUptoCard : Claim7 := { stood := { row := fnDeskFreeUptoRow, standIns := [], harness := (true, "fac733ff4b74e098bebe86bcb0d60e3ba055f8f45bb509f64aeacd64c1814c6c"), looks := false }, kinds := [], alts := [], laidByText := true, laidKinds := [.data, .data, .data], laidTests := true, laidLooks := .later }
def FnDeskFreeUptoCardSaid : Prop := Claim7.holds Tryd.pinned (.plain (OpenSpec.upto fnDeskFreeSpec)) fnDeskFreeUptoCard

/-- THE SECOND FORM's CARD OF 'laws.FnBooksKeep'. -/
def fnBooksKeepUptoCard : Claim7 := { stood := { row := fnBooksKeepUptoRow, standIns := [], harness := (true, "fac733ff4b74e098bebe86bcb0d60e3ba055f8f45bb509f64aeacd64c1814c6c"), looks := false }, kinds := [], alts := [], laidByText := true, laidKinds := [.data, .data, .data], laidTests := true, laidLooks := .later }
def FnBooksKeepUptoCardSaid : Prop := Claim7.holds Tryd.pinned (.plain (OpenSpec.upto fnBooksKeepSpec)) fnBooksKeepUptoCard

/-- THE SECOND FORM's CARD OF 'laws.FnDeskPlace'. -/
def fnDeskPlaceUptoCard : Claim7 := { stood := { row := fnDeskPlaceUptoRow, standIns := [], harness := (true, "fac733ff4b74e098bebe86bcb0d60e3ba055f8f45bb509f64aeacd64c1814c6c"), looks := false }, kinds := [], alts := [], laidByText := true, laidKinds := [.data, .data, .data], laidTests := true, laidLooks := .later }
def FnDeskPlaceUptoCardSaid : Prop := Claim7.holds Tryd.pinned (.plain (OpenSpec.upto fnDeskPlaceSpec)) fnDeskPlaceUptoCard

/-- THE SECOND FORM's CARD OF 'laws.FnDeskRun'. -/
def fnDeskRunUptoCard : Claim7 := { stood := { row := fnDeskRunUptoRow, standIns := [], harness := (true, "fac733ff4b74e098bebe86bcb0d60e3ba055f8f45bb509f64aeacd64c1814c6c"), looks := false }, kinds := [], alts := [], laidByText := true, laidKinds := [.data, .data, .data], laidTests := true, laidLooks := .later }
def FnDeskRunUptoCardSaid : Prop := Claim7.holds Tryd.pinned (.plain (OpenSpec.upto fnDeskRunSpec)) fnDeskRunUptoCard
end Rows
end Go.Proofs.YtndcnflchkfaeaaDoor
