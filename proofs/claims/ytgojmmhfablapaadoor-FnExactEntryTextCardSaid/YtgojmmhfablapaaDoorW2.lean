/-
  The walk of the law FnExactEntryText.
-/
import Derived.Test.YtgojmmhfablapaaDoorEntry
import Derived.Test.YtgojmmhfablapaaDoorW1
namespace Go.Proofs.YtgojmmhfablapaaDoor
open Go.RowKit
set_option linter.unusedVariables false

set_option maxRecDepth 100000 in
set_option maxHeartbeats 1000000 in
theorem walk_FnExactEntryText (n : Int) (hn : B64 n) (a b c : Int) (h : B64 a ∧ B64 b ∧ B64 c) (W : World) (hE : Env W) :
    Calls Tryd.prog 4 #[.int .i64 n, .agg #[.int .i64 a, .int .i64 b, .int .i64 c]] W fun e w' => e = .returned (.bool true) ∧ Ext W w' := by
  have HE := Lib.hid hE
  clear hE h hn
  go_enter Tryd.func4, Tryd.ntmps4
  go_wp2_with fail
  refine (toDeed a b c _).mono ?_
  rintro e w1 ⟨rfl, h1⟩
  go_wp2_with fail
  refine (specEntry n a b c _).mono ?_
  rintro e w2 ⟨rfl, h2⟩
  replace h2 := h1.trans h2
  clear h1
  have hc2 := h2.cells.1
  go_wp2_with fail
  refine (toDeed a b c _).mono ?_
  rintro e w3 ⟨rfl, h3⟩
  go_wp2_with fail
  refine (implEntry n a b c _ (HE.out.ext (by (repeat' (first | exact Ext.refl _ | (with_reducible assumption) | (with_reducible refine Ext.alloc ?_ _) | (with_reducible refine Ext.drew ?_) | (with_reducible refine Ext.drewN ?_ _) | (refine Ext.trans ?_ (by with_reducible assumption))))))).mono ?_
  rintro e w4 ⟨rfl, h4⟩
  go_wp2
  go_ret
  exact ⟨rfl, by (repeat' (first | exact Ext.refl _ | (with_reducible assumption) | (with_reducible refine Ext.alloc ?_ _) | (with_reducible refine Ext.drew ?_) | (with_reducible refine Ext.drewN ?_ _) | (refine Ext.trans ?_ (by with_reducible assumption))))⟩
end Go.Proofs.YtgojmmhfablapaaDoor
