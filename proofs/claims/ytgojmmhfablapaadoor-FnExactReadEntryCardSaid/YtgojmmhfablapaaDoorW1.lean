/-
  The walk of the law FnExactDeedText.
-/
import Derived.Test.YtgojmmhfablapaaDoorDeed3
import Derived.Test.YtgojmmhfablapaaDoorOpen
namespace Go.Proofs.YtgojmmhfablapaaDoor
open Go.RowKit
set_option linter.unusedVariables false

set_option maxRecDepth 100000 in
set_option maxHeartbeats 1000000 in
theorem toDeed (a b c : Int) (w : World) :
    Calls Tryd.prog 15 #[deedV a b c] w fun e w' => e = .returned (deedV a b c) ∧ Ext w w' := by
  go_enter Tryd.func15, Tryd.ntmps15
  go_wp2
  exact bodyPost_ret (v := deedV a b c) (by simp [results, Tryd.results15, go_sem]) rfl ⟨rfl, by (repeat' (first | exact Ext.refl _ | (with_reducible assumption) | (with_reducible refine Ext.alloc ?_ _) | (with_reducible refine Ext.setCell ?_ (by first | exact Nat.le_refl _ | (dsimp only; omega) | (simp; done) | (simp; omega)) _) | (with_reducible refine Ext.drew ?_) | (with_reducible refine Ext.drewN ?_ _) | (refine Ext.trans ?_ (by with_reducible assumption))))⟩

set_option maxRecDepth 100000 in
set_option maxHeartbeats 1000000 in
theorem walk_FnExactDeedText (a b c : Int) (h : B64 a ∧ B64 b ∧ B64 c) (W : World) (hE : Env W) :
    Calls Tryd.prog 3 #[.agg #[.int .i64 a, .int .i64 b, .int .i64 c]] W fun e w' => e = .returned (.bool true) ∧ Ext W w' := by
  have HE := Lib.hid hE
  clear hE h
  go_enter Tryd.func3, Tryd.ntmps3
  go_wp2_with fail
  refine (toDeed a b c _).mono ?_
  rintro e w1 ⟨rfl, h1⟩
  go_wp2_with fail
  refine (specDeed a b c _).mono ?_
  rintro e w2 ⟨rfl, h2⟩
  replace h2 := h1.trans h2
  clear h1
  have hc2 := h2.cells.1
  go_wp2_with fail
  refine (toDeed a b c _).mono ?_
  rintro e w3 ⟨rfl, h3⟩
  go_wp2_with fail
  refine (implDeed a b c _ (HE.out.ext (by (repeat' (first | exact Ext.refl _ | (with_reducible assumption) | (with_reducible refine Ext.alloc ?_ _) | (with_reducible refine Ext.setCell ?_ (by first | exact Nat.le_refl _ | (dsimp only; omega) | (simp; done) | (simp; omega)) _) | (with_reducible refine Ext.drew ?_) | (with_reducible refine Ext.drewN ?_ _) | (refine Ext.trans ?_ (by with_reducible assumption))))))).mono ?_
  rintro e w4 ⟨rfl, h4⟩
  go_wp2
  go_ret
  exact ⟨rfl, by (repeat' (first | exact Ext.refl _ | (with_reducible assumption) | (with_reducible refine Ext.alloc ?_ _) | (with_reducible refine Ext.setCell ?_ (by first | exact Nat.le_refl _ | (dsimp only; omega) | (simp; done) | (simp; omega)) _) | (with_reducible refine Ext.drew ?_) | (with_reducible refine Ext.drewN ?_ _) | (refine Ext.trans ?_ (by with_reducible assumption))))⟩
end Go.Proofs.YtgojmmhfablapaaDoor
