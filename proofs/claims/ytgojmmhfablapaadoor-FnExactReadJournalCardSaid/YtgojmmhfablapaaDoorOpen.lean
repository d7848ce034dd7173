/-
  How the arguments of the laws are opened: structs of numbers.
-/
import Derived.Test.YtgojmmhfablapaaDoorEnv
import Derived.WalkKit
import Derived.ProofKit
import Derived.OpenShut
import Derived.ShutString
import Derived.Lib.SmallJoins
namespace Go.Proofs.YtgojmmhfablapaaDoor
open Go.ChangeShapes Go.WideShapes Go.ChangeAt Go.RowKit
set_option linter.unusedVariables false

def B64 (x : Int) : Prop := -9223372036854775808 ≤ x ∧ x ≤ 9223372036854775807
theorem bd_i64 {x : Int} (h : (Lit.int .i64 x).wf = true) : B64 x := bounds_i64 h

section
variable {H : Type} {enc : TypeId × Value → H} {w : World} {base : Nat} {spare : Nat → Bool} {held : Bool} {b0 : Nat} {r : Reach} {v : Value} {d : DataW H} {p : List MemPlace}

theorem trod_i64 {n : Nat} {c : Value} {y : DataW H × List MemPlace} (h : DataW.trod enc Tryd.prog w base spare held n 3 [c] = some y) : ∃ x : Int, c = .int .i64 x ∧ B64 x := by
  obtain ⟨x, e, _, hx⟩ := DataW.trod_int Tryd.underlying3 h
  exact ⟨x, by simpa using e, bd_i64 hx⟩

set_option maxRecDepth 100000 in
theorem open_deed (hv : Value.okWide Tryd.prog w r b0 23 v) (h : DataW.Trod enc Tryd.prog w base spare held 23 v d p) :
    ∃ a b c : Int, v = .agg #[.int .i64 a, .int .i64 b, .int .i64 c] ∧ B64 a ∧ B64 b ∧ B64 c := by
  obtain ⟨v0, v1, v2, y0, y1, y2, n, rfl, _, _, h0, h1, h2⟩ := Joins.open_agg3 Tryd.underlying23 (by kernel_rfl) (by kernel_rfl) hv h
  obtain ⟨a, rfl, wa⟩ := trod_i64 h0
  obtain ⟨b, rfl, wb⟩ := trod_i64 h1
  obtain ⟨c, rfl, wc⟩ := trod_i64 h2
  exact ⟨a, b, c, rfl, wa, wb, wc⟩
end
end Go.Proofs.YtgojmmhfablapaaDoor
