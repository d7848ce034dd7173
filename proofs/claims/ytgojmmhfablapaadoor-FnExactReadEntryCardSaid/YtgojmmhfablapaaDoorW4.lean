/-
  The walk of the law FnExactReadEntry.
-/
import Derived.Test.YtgojmmhfablapaaDoorSpecEntry
import Derived.Test.YtgojmmhfablapaaDoorW3
namespace Go.Proofs.YtgojmmhfablapaaDoor
open Go.RowKit
set_option linter.unusedVariables false

set_option maxRecDepth 100000 in
set_option maxHeartbeats 1000000 in
theorem exReadEntry_big (s : ByteArray) (W : World) (h : 1048576 < s.size) (hs : s.size ≤ maxLen) :
    Calls Tryd.prog 9 #[.string s] W fun e w' => e = .returned (.bool true) ∧ Ext W w' := by
  unfold maxLen at hs
  go_enter Tryd.func9, Tryd.ntmps9
  go_wp2
  go_ret
  exact ⟨rfl, by (repeat' (first | exact Ext.refl _ | (with_reducible assumption) | (with_reducible refine Ext.alloc ?_ _) | (with_reducible refine Ext.setCell ?_ (by first | exact Nat.le_refl _ | (dsimp only; omega) | (simp; done) | (simp; omega)) _) | (with_reducible refine Ext.drew ?_) | (with_reducible refine Ext.drewN ?_ _) | (refine Ext.trans ?_ (by with_reducible assumption))))⟩

set_option maxRecDepth 100000 in
set_option maxHeartbeats 1000000 in
theorem exReadEntry_o (l : List UInt8) (hl : l.length ≤ 1048576) (n k a b m : Int) (W : World)
    (HI : Hid (∀ w, Env w → Calls Tryd.prog 33 #[str l] w fun e w' => e = .returned (.tuple #[.int .i64 n, deedV k a b, .int .i64 m]) ∧ Ext w w')) (HS : Hid (∀ w, Calls Tryd.prog 32 #[str l] w fun e w' => e = .returned (.tuple #[.int .i64 n, deedV k a b, .int .i64 m]) ∧ Ext w w')) (HE : Hid (Env W)) :
    Calls Tryd.prog 9 #[str l] W fun e w' => e = .returned (.bool true) ∧ Ext W w' := by
  have HQ : Hid (∀ w, Calls Tryd.prog 30 #[deedV k a b, deedV k a b] w fun e w' => e = .returned (.bool true) ∧ Ext w w') := fun w => (eqDeed k a b k a b w).mono fun e w' h => by simpa using h
  go_enter Tryd.func9, Tryd.ntmps9
  go_wp2_with fail
  refine (HS.out _).mono ?_
  rintro e w1 ⟨rfl, h1⟩
  go_wp2_with fail
  refine (HI.out _ (HE.out.ext (by (repeat' (first | exact Ext.refl _ | (with_reducible assumption) | (with_reducible refine Ext.alloc ?_ _) | (with_reducible refine Ext.setCell ?_ (by first | exact Nat.le_refl _ | (dsimp only; omega) | (simp; done) | (simp; omega)) _) | (with_reducible refine Ext.drew ?_) | (with_reducible refine Ext.drewN ?_ _) | (refine Ext.trans ?_ (by with_reducible assumption))))))).mono ?_
  rintro e w2 ⟨rfl, h2⟩
  obtain ⟨hc2, hf2⟩ := h2.cells
  have hz2 : w1.heap.size < w2.heap.size := Nat.lt_of_lt_of_le (by simp) h2.sz
  go_wp2_with fail
  refine (HQ.out _).mono ?_
  rintro e w3 ⟨rfl, h3⟩
  go_wp2
  go_ret
  exact ⟨rfl, by (repeat' (first | exact Ext.refl _ | (with_reducible assumption) | (with_reducible refine Ext.alloc ?_ _) | (with_reducible refine Ext.setCell ?_ (by first | exact Nat.le_refl _ | (dsimp only; omega) | (simp; done) | (simp; omega)) _) | (with_reducible refine Ext.drew ?_) | (with_reducible refine Ext.drewN ?_ _) | (refine Ext.trans ?_ (by with_reducible assumption))))⟩

theorem walk_FnExactReadEntry (s : ByteArray) (hs : s.size ≤ maxLen) (W : World) (hE : Env W) :
    Calls Tryd.prog 9 #[.string s] W fun e w' => e = .returned (.bool true) ∧ Ext W w' := by
  by_cases h : 1048576 < s.size
  · exact exReadEntry_big s W h hs
  · obtain ⟨n, k, a, b, m, h1⟩ : ∃ n k a b m, reV (readEntry s.data.toList) = .tuple #[.int .i64 n, deedV k a b, .int .i64 m] := by
      cases readEntry s.data.toList with
      | none => exact ⟨0, 0, 0, 0, 0, rfl⟩
      | some d => obtain ⟨n, ⟨k, a, b⟩, m⟩ := d; exact ⟨n, k, a, b, m, rfl⟩
    have hl : s.data.toList.length ≤ 1048576 := by rw [toList_length]; omega
    refine exReadEntry_o s.data.toList hl n k a b m W (fun w hE => (implReadEntry _ w (by omega) hE).mono ?_) (fun w => (specReadEntry _ w (by omega)).mono ?_) hE
    · rintro e w' ⟨rfl, h⟩; exact ⟨by rw [h1], h⟩
    · rintro e w' ⟨rfl, h⟩; exact ⟨by rw [h1], h⟩
end Go.Proofs.YtgojmmhfablapaaDoor
