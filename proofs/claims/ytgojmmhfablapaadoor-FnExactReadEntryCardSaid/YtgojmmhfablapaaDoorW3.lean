/-
  The walk of the law FnExactReadDeed.
-/
import Derived.Test.YtgojmmhfablapaaDoorSpecRead2
import Derived.Test.YtgojmmhfablapaaDoorW1
namespace Go.Proofs.YtgojmmhfablapaaDoor
open Go.RowKit
set_option linter.unusedVariables false

set_option maxRecDepth 100000 in
set_option maxHeartbeats 1000000 in
theorem eqDeed (a b c x y z : Int) (w : World) :
    Calls Tryd.prog 30 #[deedV a b c, deedV x y z] w fun e w' => e = .returned (.bool (decide (a = x ∧ b = y ∧ c = z))) ∧ Ext w w' := by
  go_enter Tryd.func30, Tryd.ntmps30
  go_wp2
  all_goals go_ret
  all_goals refine ⟨ret_bool ?_, ((Ext.refl _).alloc _).alloc _⟩
  all_goals simp_all

set_option maxRecDepth 100000 in
set_option maxHeartbeats 1000000 in
theorem exReadDeed_big (s : ByteArray) (W : World) (h : 1048576 < s.size) (hs : s.size ≤ maxLen) :
    Calls Tryd.prog 7 #[.string s] W fun e w' => e = .returned (.bool true) ∧ Ext W w' := by
  unfold maxLen at hs
  go_enter Tryd.func7, Tryd.ntmps7
  go_wp2
  go_ret
  exact ⟨rfl, by (repeat' (first | exact Ext.refl _ | (with_reducible assumption) | (with_reducible refine Ext.alloc ?_ _) | (with_reducible refine Ext.setCell ?_ (by first | exact Nat.le_refl _ | (dsimp only; omega) | (simp; done) | (simp; omega)) _) | (with_reducible refine Ext.drew ?_) | (with_reducible refine Ext.drewN ?_ _) | (refine Ext.trans ?_ (by with_reducible assumption))))⟩

set_option maxRecDepth 100000 in
set_option maxHeartbeats 1000000 in
theorem walk_FnExactReadDeed_o (l : List UInt8) (hl : l.length ≤ 1048576) (k a b : Int) (ok : Bool) (W : World)
    (HI : Hid (∀ w, Env w → Calls Tryd.prog 29 #[str l] w fun e w' => e = .returned (.tuple #[deedV k a b, .bool ok]) ∧ Ext w w')) (HS : Hid (∀ w, Calls Tryd.prog 28 #[str l] w fun e w' => e = .returned (.tuple #[deedV k a b, .bool ok]) ∧ Ext w w')) (HE : Hid (Env W)) :
    Calls Tryd.prog 7 #[str l] W fun e w' => e = .returned (.bool true) ∧ Ext W w' := by
  have HQ : Hid (∀ w, Calls Tryd.prog 30 #[deedV k a b, deedV k a b] w fun e w' => e = .returned (.bool true) ∧ Ext w w') := fun w => (eqDeed k a b k a b w).mono fun e w' h => by simpa using h
  go_enter Tryd.func7, Tryd.ntmps7
  go_wp2_with fail
  refine (HS.out _).mono ?_
  rintro e w1 ⟨rfl, h1⟩
  go_wp2_with fail
  refine (HI.out _ (HE.out.ext (by (repeat' (first | exact Ext.refl _ | (with_reducible assumption) | (with_reducible refine Ext.alloc ?_ _) | (with_reducible refine Ext.setCell ?_ (by first | exact Nat.le_refl _ | (dsimp only; omega) | (simp; done) | (simp; omega)) _) | (with_reducible refine Ext.drew ?_) | (with_reducible refine Ext.drewN ?_ _) | (refine Ext.trans ?_ (by with_reducible assumption))))))).mono ?_
  rintro e w2 ⟨rfl, h2⟩
  obtain ⟨hc2, hf2⟩ := h2.cells
  have hz2 : w1.heap.size < w2.heap.size := Nat.lt_of_lt_of_le (by simp) h2.sz
  go_wp2_with fail
  refine (HQ.out _).mono ?_
  rintro e w3 ⟨rfl, h3⟩
  go_wp2
  go_ret
  exact ⟨rfl, by (repeat' (first | exact Ext.refl _ | (with_reducible assumption) | (with_reducible refine Ext.alloc ?_ _) | (with_reducible refine Ext.setCell ?_ (by first | exact Nat.le_refl _ | (dsimp only; omega) | (simp; done) | (simp; omega)) _) | (with_reducible refine Ext.drew ?_) | (with_reducible refine Ext.drewN ?_ _) | (refine Ext.trans ?_ (by with_reducible assumption))))⟩

theorem walk_FnExactReadDeed (s : ByteArray) (hs : s.size ≤ maxLen) (W : World) (hE : Env W) :
    Calls Tryd.prog 7 #[.string s] W fun e w' => e = .returned (.bool true) ∧ Ext W w' := by
  by_cases h : 1048576 < s.size
  · exact exReadDeed_big s W h hs
  · obtain ⟨k, a, b, ok, h1⟩ : ∃ k a b ok, rdV (readDeed s.data.toList) = .tuple #[deedV k a b, .bool ok] := by
      cases readDeed s.data.toList with
      | none => exact ⟨0, 0, 0, false, rfl⟩
      | some d => obtain ⟨k, a, b⟩ := d; exact ⟨k, a, b, true, rfl⟩
    have hl : s.data.toList.length ≤ 1048576 := by rw [toList_length]; omega
    refine walk_FnExactReadDeed_o s.data.toList hl k a b ok W (fun w hE => (implReadDeed _ w (by omega) hE).mono ?_) (fun w => (specReadDeed _ w (by omega)).mono ?_) hE
    · rintro e w' ⟨rfl, h⟩; exact ⟨by rw [h1], h⟩
    · rintro e w' ⟨rfl, h⟩; exact ⟨by rw [h1], h⟩
end Go.Proofs.YtgojmmhfablapaaDoor
