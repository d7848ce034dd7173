/-
  How the arguments of the laws are opened: structs of numbers.
-/
import Derived.Test.YteejdnmmpmcmeaaGreatDoorEnv
import Derived.Test.YteejdnmmpmcmeaaGreatDoorFlat
import Derived.WalkKit
import Derived.ProofKit
import Derived.OpenShut
import Derived.ShutString
import Derived.Lib.SmallJoins
namespace Go.Proofs.YteejdnmmpmcmeaaGreatDoor
open Go.ChangeShapes Go.WideShapes Go.ChangeAt Go.RowKit
set_option linter.unusedVariables false

section
variable {H : Type} {enc : TypeId × Value → H} {w : World} {base : Nat} {spare : Nat → Bool} {held : Bool} {b0 : Nat} {r : Reach} {v : Value} {d : DataW H} {p : List MemPlace}

end
end Go.Proofs.YteejdnmmpmcmeaaGreatDoor
