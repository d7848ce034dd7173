/-
  Both packages' HouseStay, HouseDue, HouseMay: what they say of a car's stay. Condition: the house's slices read as lists.
-/
import Derived.Test.YtncfnlocdlhagaaDoorVix
namespace Go.Proofs.YtncfnlocdlhagaaDoor
open Go.RowKit
set_option linter.unusedVariables false
set_option linter.unusedSimpArgs false

/-- what HouseStay hands back -/
def stayR (h : HouseD) (id : Int) : Value := match houseStay h id with
  | some s => .tuple #[.agg #[.int .i64 s.1, .int .i64 s.2.1, .int .i64 s.2.2], .bool true]
  | none => .tuple #[.agg #[.int .i64 0, .int .i64 0, .int .i64 0], .bool false]

end Go.Proofs.YtncfnlocdlhagaaDoor
