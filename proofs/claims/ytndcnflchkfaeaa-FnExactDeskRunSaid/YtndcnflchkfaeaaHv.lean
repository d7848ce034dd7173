/-
  impl.HallValid tells whether a hall is valid ('hallOk'). Condition: the slice of cells reads as a list.
-/
import Derived.Test.YtndcnflchkfaeaaHallP
import Derived.Test.YtndcnflchkfaeaaBlk
namespace Go.Proofs.Ytndcnflchkfaeaa
open Go.RowKit
set_option linter.unusedVariables false

abbrev hallV (wide deep : Int) (p : Option Addr) (n cap : Nat) : Value := .agg #[.int .i64 wide, .int .i64 deep, .slice p n cap]

end Go.Proofs.Ytndcnflchkfaeaa
