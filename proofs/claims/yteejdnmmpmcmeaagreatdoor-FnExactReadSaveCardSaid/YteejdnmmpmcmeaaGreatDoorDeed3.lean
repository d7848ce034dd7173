/-
  The reference's DeedText at valid deeds; both functions DeedText at every deed. Condition: the library's table of powers of ten is laid.
-/
import Derived.Test.YteejdnmmpmcmeaaGreatDoorDeed2
namespace Go.Proofs.YteejdnmmpmcmeaaGreatDoor
open Go.RowKit
set_option linter.unusedVariables false

theorem deedName_emp (k : Int) (hk : k = 0 ∨ k = 1 ∨ k = 2 ∨ k = 3 ∨ k = 4) : (deedName k).isEmpty = false ∧ (deedName k).length ≤ 5 := by
  rcases hk with rfl | rfl | rfl | rfl | rfl <;> decide

end Go.Proofs.YteejdnmmpmcmeaaGreatDoor
