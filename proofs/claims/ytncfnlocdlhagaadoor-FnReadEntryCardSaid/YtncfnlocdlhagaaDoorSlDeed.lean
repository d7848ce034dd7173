/-
  The helpers of the laws on slices of HouseDeed: to, sz, eq, mark, held. Conditions: the slices read as lists of at most 2^40 elements.
-/
import Derived.Test.YtncfnlocdlhagaaDoorSpecRead2
import Derived.Test.YtncfnlocdlhagaaDoorJournal
import Derived.Test.YtncfnlocdlhagaaDoorMarks
import Derived.Deep.RegionHeld3
namespace Go.Proofs.YtncfnlocdlhagaaDoor
open Go.RowKit
set_option linter.unusedVariables false

theorem infoDeed : (Tryd.prog.info? 25).map (fun i => (i.zero, i.size, i.bytes)) = some (some (.agg #[.int .i64 0, .int .i64 0, .int .i64 0]), 3, 24) := by kernel_rfl














end Go.Proofs.YtncfnlocdlhagaaDoor
