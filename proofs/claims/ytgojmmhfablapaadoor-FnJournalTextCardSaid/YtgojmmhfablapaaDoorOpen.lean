/-
  How the arguments of the laws are opened: structs of numbers.
-/
import Derived.Test.YtgojmmhfablapaaDoorEnv
import Derived.Test.YtgojmmhfablapaaDoorFlat
import Derived.WalkKit
import Derived.ProofKit
import Derived.OpenShut
import Derived.ShutString
import Derived.Lib.SmallJoins
namespace Go.Proofs.YtgojmmhfablapaaDoor
open Go.ChangeShapes Go.WideShapes Go.ChangeAt Go.RowKit
set_option linter.unusedVariables false

section
variable {H : Type} {enc : TypeId × Value → H} {w : World} {base : Nat} {spare : Nat → Bool} {held : Bool} {b0 : Nat} {r : Reach} {v : Value} {d : DataW H} {p : List MemPlace}

set_option maxRecDepth 100000 in
theorem open_deed (hv : Value.okWide Tryd.prog w r b0 23 v) (h : DataW.Trod enc Tryd.prog w base spare held 23 v d p) :
    ∃ a b c : Int, v = .agg #[.int .i64 a, .int .i64 b, .int .i64 c] ∧ B64 a ∧ B64 b ∧ B64 c := by
  obtain ⟨v0, v1, v2, y0, y1, y2, n, rfl, _, _, h0, h1, h2⟩ := Joins.open_agg3 Tryd.underlying23 (by kernel_rfl) (by kernel_rfl) hv h
  obtain ⟨a, rfl, wa⟩ := trod_i64 h0
  obtain ⟨b, rfl, wb⟩ := trod_i64 h1
  obtain ⟨c, rfl, wc⟩ := trod_i64 h2
  exact ⟨a, b, c, rfl, wa, wb, wc⟩
end
end Go.Proofs.YtgojmmhfablapaaDoor
