/-
  No cell of these rows narrows 'for every input' (looked for: loops, veiled, ifaces, maps, wideKeys, modest, calm, conditions, laid).
  DERIVED. THE GIVEN ROWS OF THIS SEAT. 4 by the template 'for every input the law returns true; each argument reads behind the call as it read before'; 0 by the template 'total and deterministic' (their statements: YtndcnflchkfaeaaTotals.lean).
  GIVEN WITH THE SEED: the statements are not yours to turn. If you find one false, say at which input.
  Laid BY PROGRAM, IN A SANDBOX (cutbox-rows.mjs): the forced cells as the released guide's own fill.sh prints them over the translation bfbc52300c40690d… (all of the seat's roots in one cut). By AI agents, Wed Nov 11 2026. No macro, syntax, notation, axiom, sorry.
-/
import Derived.Test.YtndcnflchkfaeaaChecked
import GoSem.Claim
import GoSem.ClaimJoined
import GoSem.ClaimMapViews
import Derived.JoinedTies
import Derived.KernelRfl
namespace Go.Proofs.Ytndcnflchkfaeaa
/- THE CELL 'sum', in the pinned program and in every row, IS THE sha256 OF THE DUMP (.gsa) THAT YtndcnflchkfaeaaProg.lean LOADS. Nothing in Lean hashes anything: it is a label: what it is worth is what the hold of that sum in a sandbox is worth. -/
noncomputable def Try.pinned : Pinned := { name := "ytndcnflchkfaeaa", sum := "bfbc52300c40690dfc605184aca285063a35d3c3cbdf3ed5d0c7bf66ab5abde3", checked := Try.checked }
namespace Rows
def none {H : Type} : Left H := { results := [], args := [] }

/-- 'laws.FnExactDeskFree': WHATEVER THE INPUT: true; the input reads as it did. -/
def fnExactDeskFreeSpec : ChangeSpec := { name := "fnExactDeskFree", fn := fun _ => fun
  | [d1, d2] => { results := [.lit (.bool true)], args := [d1, d2] }
  | _ => none }
def fnExactDeskFreeRow : OpenClaim := { program := "ytndcnflchkfaeaa", sum := "bfbc52300c40690dfc605184aca285063a35d3c3cbdf3ed5d0c7bf66ab5abde3", func := "loop.example/parkinghouse/laws.FnExactDeskFree", spec := "fnExactDeskFree", unfollowed := true, recurses := true, apart := false }
def FnExactDeskFreeSaid : Prop := fnExactDeskFreeRow.holds Try.pinned (OpenSpec.ofChange fnExactDeskFreeSpec)

/-- ITS FALSE NEIGHBOUR: 'it returns false'. Refute it at one input. -/
def fnExactDeskFreeWrong : ChangeSpec := { name := "fnExactDeskFree", fn := fun _ => fun
  | [d1, d2] => { results := [.lit (.bool false)], args := [d1, d2] }
  | _ => none }
def FnExactDeskFreeWrongFalsely : Prop := fnExactDeskFreeRow.holds Try.pinned (OpenSpec.ofChange fnExactDeskFreeWrong)

/-- 'laws.FnExactBooksKeep': WHATEVER THE INPUT: true; the input reads as it did. -/
def fnExactBooksKeepSpec : ChangeSpec := { name := "fnExactBooksKeep", fn := fun _ => fun
  | [d1, d2] => { results := [.lit (.bool true)], args := [d1, d2] }
  | _ => none }
def fnExactBooksKeepRow : OpenClaim := { program := "ytndcnflchkfaeaa", sum := "bfbc52300c40690dfc605184aca285063a35d3c3cbdf3ed5d0c7bf66ab5abde3", func := "loop.example/parkinghouse/laws.FnExactBooksKeep", spec := "fnExactBooksKeep", unfollowed := true, recurses := true, apart := false }
def FnExactBooksKeepSaid : Prop := fnExactBooksKeepRow.holds Try.pinned (OpenSpec.ofChange fnExactBooksKeepSpec)

/-- ITS FALSE NEIGHBOUR: 'it returns false'. Refute it at one input. -/
def fnExactBooksKeepWrong : ChangeSpec := { name := "fnExactBooksKeep", fn := fun _ => fun
  | [d1, d2] => { results := [.lit (.bool false)], args := [d1, d2] }
  | _ => none }
def FnExactBooksKeepWrongFalsely : Prop := fnExactBooksKeepRow.holds Try.pinned (OpenSpec.ofChange fnExactBooksKeepWrong)

/-- 'laws.FnExactDeskRun': WHATEVER THE INPUT: true; the input reads as it did. -/
def fnExactDeskRunSpec : ChangeSpec := { name := "fnExactDeskRun", fn := fun _ => fun
  | [d1, d2] => { results := [.lit (.bool true)], args := [d1, d2] }
  | _ => none }
def fnExactDeskRunRow : OpenClaim := { program := "ytndcnflchkfaeaa", sum := "bfbc52300c40690dfc605184aca285063a35d3c3cbdf3ed5d0c7bf66ab5abde3", func := "loop.example/parkinghouse/laws.FnExactDeskRun", spec := "fnExactDeskRun", unfollowed := true, recurses := true, apart := false }
def FnExactDeskRunSaid : Prop := fnExactDeskRunRow.holds Try.pinned (OpenSpec.ofChange fnExactDeskRunSpec)

/-- ITS FALSE NEIGHBOUR: 'it returns false'. Refute it at one input. -/
def fnExactDeskRunWrong : ChangeSpec := { name := "fnExactDeskRun", fn := fun _ => fun
  | [d1, d2] => { results := [.lit (.bool false)], args := [d1, d2] }
  | _ => none }
def FnExactDeskRunWrongFalsely : Prop := fnExactDeskRunRow.holds Try.pinned (OpenSpec.ofChange fnExactDeskRunWrong)

/-- 'laws.FnExactDeskPlace': WHATEVER THE INPUT: true; the input reads as it did. -/
def fnExactDeskPlaceSpec : ChangeSpec := { name := "fnExactDeskPlace", fn := fun _ => fun
  | [d1, d2] => { results := [.lit (.bool true)], args := [d1, d2] }
  | _ => none }
def fnExactDeskPlaceRow : OpenClaim := { program := "ytndcnflchkfaeaa", sum := "bfbc52300c40690dfc605184aca285063a35d3c3cbdf3ed5d0c7bf66ab5abde3", func := "loop.example/parkinghouse/laws.FnExactDeskPlace", spec := "fnExactDeskPlace", unfollowed := true, recurses := true, apart := false }
def FnExactDeskPlaceSaid : Prop := fnExactDeskPlaceRow.holds Try.pinned (OpenSpec.ofChange fnExactDeskPlaceSpec)

/-- ITS FALSE NEIGHBOUR: 'it returns false'. Refute it at one input. -/
def fnExactDeskPlaceWrong : ChangeSpec := { name := "fnExactDeskPlace", fn := fun _ => fun
  | [d1, d2] => { results := [.lit (.bool false)], args := [d1, d2] }
  | _ => none }
def FnExactDeskPlaceWrongFalsely : Prop := fnExactDeskPlaceRow.holds Try.pinned (OpenSpec.ofChange fnExactDeskPlaceWrong)

/- THE SECOND FORM. 'bulk': how many values and letters a reading holds, each counted each time it is reached (what is shared counts as often as it is met; a slice's spare places count too). A statement '..UptoSaid' is the law's where the arguments, and the package variables that the reading takes, are together of bulk at most 1048576: NARROWER than '..Said'. Prove '..Said' where nothing that the law and all that it calls make is longer than what came in: it says more and counts as full. Else prove '..UptoSaid'. A law counts once. -/
mutual
def uptoBulk {H : Type} : DataW H → Nat
  | .lit (.string bytes) => bytes.length + 1
  | .lit _ => 1
  | .nil => 1
  | .ptr d => uptoBulk d + 1
  | .slice elems spare => uptoBulkAll elems + uptoBulkAll spare + 1
  | .agg parts => uptoBulkAll parts + 1
  | .iface _ d => uptoBulk d + 1
  | .map entries => uptoBulkEntries entries + 1
  | .held _ => 1
def uptoBulkAll {H : Type} : List (DataW H) → Nat
  | [] => 0
  | d :: r => uptoBulk d + uptoBulkAll r
def uptoBulkEntries {H : Type} : List (Lit × DataW H) → Nat
  | [] => 0
  | x :: r => uptoBulkEntry x + uptoBulkEntries r
def uptoBulkEntry {H : Type} : Lit × DataW H → Nat
  | (.string bytes, d) => bytes.length + uptoBulk d + 1
  | (_, d) => uptoBulk d + 1
 end
def uptoSmall : (H : Type) → List (DataW H) → Bool := fun _ ds => decide (uptoBulkAll ds ≤ 1048576)
def OpenSpec.upto (s : _root_.Go.ChangeSpec) : _root_.Go.OpenSpec := { _root_.Go.OpenSpec.ofChange s with cond := some uptoSmall }

/-- 'laws.FnExactDeskFree', WHERE WHAT IT READS IS OF BULK AT MOST 1048576: true; the input reads as it did. -/
def fnExactDeskFreeUptoRow : OpenClaim := { program := "ytndcnflchkfaeaa", sum := "bfbc52300c40690dfc605184aca285063a35d3c3cbdf3ed5d0c7bf66ab5abde3", func := "loop.example/parkinghouse/laws.FnExactDeskFree", spec := "fnExactDeskFree", unfollowed := true, recurses := true, apart := false, narrowed := true }
def FnExactDeskFreeUptoSaid : Prop := fnExactDeskFreeUptoRow.holds Try.pinned (OpenSpec.upto fnExactDeskFreeSpec)

/-- 'laws.FnExactBooksKeep', WHERE WHAT IT READS IS OF BULK AT MOST 1048576: true; the input reads as it did. -/
def fnExactBooksKeepUptoRow : OpenClaim := { program := "ytndcnflchkfaeaa", sum := "bfbc52300c40690dfc605184aca285063a35d3c3cbdf3ed5d0c7bf66ab5abde3", func := "loop.example/parkinghouse/laws.FnExactBooksKeep", spec := "fnExactBooksKeep", unfollowed := true, recurses := true, apart := false, narrowed := true }
def FnExactBooksKeepUptoSaid : Prop := fnExactBooksKeepUptoRow.holds Try.pinned (OpenSpec.upto fnExactBooksKeepSpec)

/-- 'laws.FnExactDeskRun', WHERE WHAT IT READS IS OF BULK AT MOST 1048576: true; the input reads as it did. -/
def fnExactDeskRunUptoRow : OpenClaim := { program := "ytndcnflchkfaeaa", sum := "bfbc52300c40690dfc605184aca285063a35d3c3cbdf3ed5d0c7bf66ab5abde3", func := "loop.example/parkinghouse/laws.FnExactDeskRun", spec := "fnExactDeskRun", unfollowed := true, recurses := true, apart := false, narrowed := true }
def FnExactDeskRunUptoSaid : Prop := fnExactDeskRunUptoRow.holds Try.pinned (OpenSpec.upto fnExactDeskRunSpec)

/-- 'laws.FnExactDeskPlace', WHERE WHAT IT READS IS OF BULK AT MOST 1048576: true; the input reads as it did. -/
def fnExactDeskPlaceUptoRow : OpenClaim := { program := "ytndcnflchkfaeaa", sum := "bfbc52300c40690dfc605184aca285063a35d3c3cbdf3ed5d0c7bf66ab5abde3", func := "loop.example/parkinghouse/laws.FnExactDeskPlace", spec := "fnExactDeskPlace", unfollowed := true, recurses := true, apart := false, narrowed := true }
def FnExactDeskPlaceUptoSaid : Prop := fnExactDeskPlaceUptoRow.holds Try.pinned (OpenSpec.upto fnExactDeskPlaceSpec)

end Rows
end Go.Proofs.Ytndcnflchkfaeaa
