/-
  No cell of these rows narrows 'for every input' (looked for: loops, veiled, ifaces, maps, wideKeys, modest, calm, conditions, laid).
  DERIVED. THE GIVEN ROWS OF THIS SEAT. 7 by the template 'for every input the law returns true; each argument reads behind the call as it read before'; 0 by the template 'total and deterministic' (their statements: YtncfnlocdlhagaaTotals.lean).
  GIVEN WITH THE SEED: the statements are not yours to turn. If you find one false, say at which input.
  Laid BY PROGRAM, IN A SANDBOX (cutbox-rows.mjs): the forced cells as the released guide's own fill.sh prints them over the translation ae9f3a9fa1cdbe0c… (all of the seat's roots in one cut). By AI agents, Wed Nov 11 2026. No macro, syntax, notation, axiom, sorry.
-/
import Derived.Test.YtncfnlocdlhagaaChecked
import GoSem.Claim
import GoSem.ClaimJoined
import GoSem.ClaimMapViews
import Derived.JoinedTies
import Derived.KernelRfl
namespace Go.Proofs.Ytncfnlocdlhagaa
/- THE CELL 'sum', in the pinned program and in every row, IS THE sha256 OF THE DUMP (.gsa) THAT YtncfnlocdlhagaaProg.lean LOADS. Nothing in Lean hashes anything: it is a label: what it is worth is what the hold of that sum in a sandbox is worth. -/
noncomputable def Try.pinned : Pinned := { name := "ytncfnlocdlhagaa", sum := "ae9f3a9fa1cdbe0c642d60863233ffa1b171f48c71d93094d85e985d1c8dd8c2", checked := Try.checked }
namespace Rows
def none {H : Type} : Left H := { results := [], args := [] }

/-- 'laws.FnExactHouseNew': WHATEVER THE INPUT: true; the input reads as it did. -/
def fnExactHouseNewSpec : ChangeSpec := { name := "fnExactHouseNew", fn := fun _ => fun
  | [d1, d2, d3] => { results := [.lit (.bool true)], args := [d1, d2, d3] }
  | _ => none }
def fnExactHouseNewRow : OpenClaim := { program := "ytncfnlocdlhagaa", sum := "ae9f3a9fa1cdbe0c642d60863233ffa1b171f48c71d93094d85e985d1c8dd8c2", func := "loop.example/parkinghouse/laws.FnExactHouseNew", spec := "fnExactHouseNew", recurses := true, apart := false }
def FnExactHouseNewSaid : Prop := fnExactHouseNewRow.holds Try.pinned (OpenSpec.ofChange fnExactHouseNewSpec)

/-- ITS FALSE NEIGHBOUR: 'it returns false'. Refute it at one input. -/
def fnExactHouseNewWrong : ChangeSpec := { name := "fnExactHouseNew", fn := fun _ => fun
  | [d1, d2, d3] => { results := [.lit (.bool false)], args := [d1, d2, d3] }
  | _ => none }
def FnExactHouseNewWrongFalsely : Prop := fnExactHouseNewRow.holds Try.pinned (OpenSpec.ofChange fnExactHouseNewWrong)

/-- 'laws.FnExactHouseValid': WHATEVER THE INPUT: true; the input reads as it did. -/
def fnExactHouseValidSpec : ChangeSpec := { name := "fnExactHouseValid", fn := fun _ => fun
  | [d] => { results := [.lit (.bool true)], args := [d] }
  | _ => none }
def fnExactHouseValidRow : OpenClaim := { program := "ytncfnlocdlhagaa", sum := "ae9f3a9fa1cdbe0c642d60863233ffa1b171f48c71d93094d85e985d1c8dd8c2", func := "loop.example/parkinghouse/laws.FnExactHouseValid", spec := "fnExactHouseValid", recurses := true, apart := false }
def FnExactHouseValidSaid : Prop := fnExactHouseValidRow.holds Try.pinned (OpenSpec.ofChange fnExactHouseValidSpec)

/-- ITS FALSE NEIGHBOUR: 'it returns false'. Refute it at one input. -/
def fnExactHouseValidWrong : ChangeSpec := { name := "fnExactHouseValid", fn := fun _ => fun
  | [d] => { results := [.lit (.bool false)], args := [d] }
  | _ => none }
def FnExactHouseValidWrongFalsely : Prop := fnExactHouseValidRow.holds Try.pinned (OpenSpec.ofChange fnExactHouseValidWrong)

/-- 'laws.FnExactHouseStay': WHATEVER THE INPUT: true; the input reads as it did. -/
def fnExactHouseStaySpec : ChangeSpec := { name := "fnExactHouseStay", fn := fun _ => fun
  | [d1, d2] => { results := [.lit (.bool true)], args := [d1, d2] }
  | _ => none }
def fnExactHouseStayRow : OpenClaim := { program := "ytncfnlocdlhagaa", sum := "ae9f3a9fa1cdbe0c642d60863233ffa1b171f48c71d93094d85e985d1c8dd8c2", func := "loop.example/parkinghouse/laws.FnExactHouseStay", spec := "fnExactHouseStay", unfollowed := true, recurses := true, apart := false }
def FnExactHouseStaySaid : Prop := fnExactHouseStayRow.holds Try.pinned (OpenSpec.ofChange fnExactHouseStaySpec)

/-- ITS FALSE NEIGHBOUR: 'it returns false'. Refute it at one input. -/
def fnExactHouseStayWrong : ChangeSpec := { name := "fnExactHouseStay", fn := fun _ => fun
  | [d1, d2] => { results := [.lit (.bool false)], args := [d1, d2] }
  | _ => none }
def FnExactHouseStayWrongFalsely : Prop := fnExactHouseStayRow.holds Try.pinned (OpenSpec.ofChange fnExactHouseStayWrong)

/-- 'laws.FnExactEndOrder': WHATEVER THE INPUT: true; the input reads as it did. -/
def fnExactEndOrderSpec : ChangeSpec := { name := "fnExactEndOrder", fn := fun _ => fun
  | [d] => { results := [.lit (.bool true)], args := [d] }
  | _ => none }
def fnExactEndOrderRow : OpenClaim := { program := "ytncfnlocdlhagaa", sum := "ae9f3a9fa1cdbe0c642d60863233ffa1b171f48c71d93094d85e985d1c8dd8c2", func := "loop.example/parkinghouse/laws.FnExactEndOrder", spec := "fnExactEndOrder", recurses := true, apart := false }
def FnExactEndOrderSaid : Prop := fnExactEndOrderRow.holds Try.pinned (OpenSpec.ofChange fnExactEndOrderSpec)

/-- ITS FALSE NEIGHBOUR: 'it returns false'. Refute it at one input. -/
def fnExactEndOrderWrong : ChangeSpec := { name := "fnExactEndOrder", fn := fun _ => fun
  | [d] => { results := [.lit (.bool false)], args := [d] }
  | _ => none }
def FnExactEndOrderWrongFalsely : Prop := fnExactEndOrderRow.holds Try.pinned (OpenSpec.ofChange fnExactEndOrderWrong)

/-- 'laws.FnExactHouseOwed': WHATEVER THE INPUT: true; the input reads as it did. -/
def fnExactHouseOwedSpec : ChangeSpec := { name := "fnExactHouseOwed", fn := fun _ => fun
  | [d] => { results := [.lit (.bool true)], args := [d] }
  | _ => none }
def fnExactHouseOwedRow : OpenClaim := { program := "ytncfnlocdlhagaa", sum := "ae9f3a9fa1cdbe0c642d60863233ffa1b171f48c71d93094d85e985d1c8dd8c2", func := "loop.example/parkinghouse/laws.FnExactHouseOwed", spec := "fnExactHouseOwed", recurses := true, apart := false }
def FnExactHouseOwedSaid : Prop := fnExactHouseOwedRow.holds Try.pinned (OpenSpec.ofChange fnExactHouseOwedSpec)

/-- ITS FALSE NEIGHBOUR: 'it returns false'. Refute it at one input. -/
def fnExactHouseOwedWrong : ChangeSpec := { name := "fnExactHouseOwed", fn := fun _ => fun
  | [d] => { results := [.lit (.bool false)], args := [d] }
  | _ => none }
def FnExactHouseOwedWrongFalsely : Prop := fnExactHouseOwedRow.holds Try.pinned (OpenSpec.ofChange fnExactHouseOwedWrong)

/-- 'laws.FnExactHouseDue': WHATEVER THE INPUT: true; the input reads as it did. -/
def fnExactHouseDueSpec : ChangeSpec := { name := "fnExactHouseDue", fn := fun _ => fun
  | [d1, d2] => { results := [.lit (.bool true)], args := [d1, d2] }
  | _ => none }
def fnExactHouseDueRow : OpenClaim := { program := "ytncfnlocdlhagaa", sum := "ae9f3a9fa1cdbe0c642d60863233ffa1b171f48c71d93094d85e985d1c8dd8c2", func := "loop.example/parkinghouse/laws.FnExactHouseDue", spec := "fnExactHouseDue", unfollowed := true, recurses := true, apart := false }
def FnExactHouseDueSaid : Prop := fnExactHouseDueRow.holds Try.pinned (OpenSpec.ofChange fnExactHouseDueSpec)

/-- ITS FALSE NEIGHBOUR: 'it returns false'. Refute it at one input. -/
def fnExactHouseDueWrong : ChangeSpec := { name := "fnExactHouseDue", fn := fun _ => fun
  | [d1, d2] => { results := [.lit (.bool false)], args := [d1, d2] }
  | _ => none }
def FnExactHouseDueWrongFalsely : Prop := fnExactHouseDueRow.holds Try.pinned (OpenSpec.ofChange fnExactHouseDueWrong)

/-- 'laws.FnExactHouseMay': WHATEVER THE INPUT: true; the input reads as it did. -/
def fnExactHouseMaySpec : ChangeSpec := { name := "fnExactHouseMay", fn := fun _ => fun
  | [d1, d2] => { results := [.lit (.bool true)], args := [d1, d2] }
  | _ => none }
def fnExactHouseMayRow : OpenClaim := { program := "ytncfnlocdlhagaa", sum := "ae9f3a9fa1cdbe0c642d60863233ffa1b171f48c71d93094d85e985d1c8dd8c2", func := "loop.example/parkinghouse/laws.FnExactHouseMay", spec := "fnExactHouseMay", unfollowed := true, recurses := true, apart := false }
def FnExactHouseMaySaid : Prop := fnExactHouseMayRow.holds Try.pinned (OpenSpec.ofChange fnExactHouseMaySpec)

/-- ITS FALSE NEIGHBOUR: 'it returns false'. Refute it at one input. -/
def fnExactHouseMayWrong : ChangeSpec := { name := "fnExactHouseMay", fn := fun _ => fun
  | [d1, d2] => { results := [.lit (.bool false)], args := [d1, d2] }
  | _ => none }
def FnExactHouseMayWrongFalsely : Prop := fnExactHouseMayRow.holds Try.pinned (OpenSpec.ofChange fnExactHouseMayWrong)

/- THE SECOND FORM. 'bulk': how many values and letters a reading holds, each counted each time it is reached (what is shared counts as often as it is met; a slice's spare places count too). A statement '..UptoSaid' is the law's where the arguments, and the package variables that the reading takes, are together of bulk at most 1048576: NARROWER than '..Said'. Prove '..Said' where nothing that the law and all that it calls make is longer than what came in: it says more and counts as full. Else prove '..UptoSaid'. A law counts once. -/
mutual
def uptoBulk {H : Type} : DataW H → Nat
  | .lit (.string bytes) => bytes.length + 1
  | .lit _ => 1
  | .nil => 1
  | .ptr d => uptoBulk d + 1
  | .slice elems spare => uptoBulkAll elems + uptoBulkAll spare + 1
  | .agg parts => uptoBulkAll parts + 1
  | .iface _ d => uptoBulk d + 1
  | .map entries => uptoBulkEntries entries + 1
  | .held _ => 1
def uptoBulkAll {H : Type} : List (DataW H) → Nat
  | [] => 0
  | d :: r => uptoBulk d + uptoBulkAll r
def uptoBulkEntries {H : Type} : List (Lit × DataW H) → Nat
  | [] => 0
  | x :: r => uptoBulkEntry x + uptoBulkEntries r
def uptoBulkEntry {H : Type} : Lit × DataW H → Nat
  | (.string bytes, d) => bytes.length + uptoBulk d + 1
  | (_, d) => uptoBulk d + 1
 end
def uptoSmall : (H : Type) → List (DataW H) → Bool := fun _ ds => decide (uptoBulkAll ds ≤ 1048576)
def OpenSpec.upto (s : _root_.Go.ChangeSpec) : _root_.Go.OpenSpec := { _root_.Go.OpenSpec.ofChange s with cond := some uptoSmall }

/-- 'laws.FnExactHouseNew', WHERE WHAT IT READS IS OF BULK AT MOST 1048576: true; the input reads as it did. -/
def fnExactHouseNewUptoRow : OpenClaim := { program := "ytncfnlocdlhagaa", sum := "ae9f3a9fa1cdbe0c642d60863233ffa1b171f48c71d93094d85e985d1c8dd8c2", func := "loop.example/parkinghouse/laws.FnExactHouseNew", spec := "fnExactHouseNew", recurses := true, apart := false, narrowed := true }
def FnExactHouseNewUptoSaid : Prop := fnExactHouseNewUptoRow.holds Try.pinned (OpenSpec.upto fnExactHouseNewSpec)

/-- 'laws.FnExactHouseValid', WHERE WHAT IT READS IS OF BULK AT MOST 1048576: true; the input reads as it did. -/
def fnExactHouseValidUptoRow : OpenClaim := { program := "ytncfnlocdlhagaa", sum := "ae9f3a9fa1cdbe0c642d60863233ffa1b171f48c71d93094d85e985d1c8dd8c2", func := "loop.example/parkinghouse/laws.FnExactHouseValid", spec := "fnExactHouseValid", recurses := true, apart := false, narrowed := true }
def FnExactHouseValidUptoSaid : Prop := fnExactHouseValidUptoRow.holds Try.pinned (OpenSpec.upto fnExactHouseValidSpec)

/-- 'laws.FnExactHouseStay', WHERE WHAT IT READS IS OF BULK AT MOST 1048576: true; the input reads as it did. -/
def fnExactHouseStayUptoRow : OpenClaim := { program := "ytncfnlocdlhagaa", sum := "ae9f3a9fa1cdbe0c642d60863233ffa1b171f48c71d93094d85e985d1c8dd8c2", func := "loop.example/parkinghouse/laws.FnExactHouseStay", spec := "fnExactHouseStay", unfollowed := true, recurses := true, apart := false, narrowed := true }
def FnExactHouseStayUptoSaid : Prop := fnExactHouseStayUptoRow.holds Try.pinned (OpenSpec.upto fnExactHouseStaySpec)

/-- 'laws.FnExactEndOrder', WHERE WHAT IT READS IS OF BULK AT MOST 1048576: true; the input reads as it did. -/
def fnExactEndOrderUptoRow : OpenClaim := { program := "ytncfnlocdlhagaa", sum := "ae9f3a9fa1cdbe0c642d60863233ffa1b171f48c71d93094d85e985d1c8dd8c2", func := "loop.example/parkinghouse/laws.FnExactEndOrder", spec := "fnExactEndOrder", recurses := true, apart := false, narrowed := true }
def FnExactEndOrderUptoSaid : Prop := fnExactEndOrderUptoRow.holds Try.pinned (OpenSpec.upto fnExactEndOrderSpec)

/-- 'laws.FnExactHouseOwed', WHERE WHAT IT READS IS OF BULK AT MOST 1048576: true; the input reads as it did. -/
def fnExactHouseOwedUptoRow : OpenClaim := { program := "ytncfnlocdlhagaa", sum := "ae9f3a9fa1cdbe0c642d60863233ffa1b171f48c71d93094d85e985d1c8dd8c2", func := "loop.example/parkinghouse/laws.FnExactHouseOwed", spec := "fnExactHouseOwed", recurses := true, apart := false, narrowed := true }
def FnExactHouseOwedUptoSaid : Prop := fnExactHouseOwedUptoRow.holds Try.pinned (OpenSpec.upto fnExactHouseOwedSpec)

/-- 'laws.FnExactHouseDue', WHERE WHAT IT READS IS OF BULK AT MOST 1048576: true; the input reads as it did. -/
def fnExactHouseDueUptoRow : OpenClaim := { program := "ytncfnlocdlhagaa", sum := "ae9f3a9fa1cdbe0c642d60863233ffa1b171f48c71d93094d85e985d1c8dd8c2", func := "loop.example/parkinghouse/laws.FnExactHouseDue", spec := "fnExactHouseDue", unfollowed := true, recurses := true, apart := false, narrowed := true }
def FnExactHouseDueUptoSaid : Prop := fnExactHouseDueUptoRow.holds Try.pinned (OpenSpec.upto fnExactHouseDueSpec)

/-- 'laws.FnExactHouseMay', WHERE WHAT IT READS IS OF BULK AT MOST 1048576: true; the input reads as it did. -/
def fnExactHouseMayUptoRow : OpenClaim := { program := "ytncfnlocdlhagaa", sum := "ae9f3a9fa1cdbe0c642d60863233ffa1b171f48c71d93094d85e985d1c8dd8c2", func := "loop.example/parkinghouse/laws.FnExactHouseMay", spec := "fnExactHouseMay", unfollowed := true, recurses := true, apart := false, narrowed := true }
def FnExactHouseMayUptoSaid : Prop := fnExactHouseMayUptoRow.holds Try.pinned (OpenSpec.upto fnExactHouseMaySpec)

end Rows
end Go.Proofs.Ytncfnlocdlhagaa
