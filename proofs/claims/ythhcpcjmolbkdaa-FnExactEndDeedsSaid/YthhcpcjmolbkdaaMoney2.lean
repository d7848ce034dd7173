/-
  StayDue and MayLeave of both packages at valid stays. No condition beyond.
-/
import Derived.Test.YthhcpcjmolbkdaaMoney
namespace Go.Proofs.Ythhcpcjmolbkdaa
open Go.RowKit
set_option linter.unusedVariables false

set_option maxRecDepth 100000 in
set_option maxHeartbeats 1000000 in
theorem implSd (f s p c i pd a now : Int) (w : World) (h : tariffOk f s p c = true) (h2 : stayOk i pd a = true) (h3 : a ≤ now) (h4 : now ≤ 9999) : Calls Try.prog 40 #[tariffV f s p c, stayV i pd a, .int .i64 now] w fun e w' => e = .returned (.int .i64 (stayDue f s p c i pd a now)) ∧ Ext w w' := by
  obtain ⟨b1, b2, b3, b4, b5, b6⟩ := stay_parts h2
  have HT : Hid (∀ w, Calls Try.prog 53 #[tariffV f s p c] w fun e w' => e = .returned (.bool true) ∧ Ext w w') := fun w => by rw [← h]; exact implTv f s p c w
  have HS : Hid (∀ w, Calls Try.prog 54 #[stayV i pd a] w fun e w' => e = .returned (.bool true) ∧ Ext w w') := fun w => by rw [← h2]; exact implSv i pd a w
  obtain ⟨q, hq⟩ : ∃ q, q = feeOf f s p c (now - i) := ⟨_, rfl⟩
  have hqb : 0 ≤ q ∧ q ≤ 693 := by rw [hq]; exact feeOf_bd h (by omega) (by omega)
  have HF : Hid (∀ w, Calls Try.prog 57 #[tariffV f s p c, .int .i64 (now - i)] w fun e w' => e = .returned (.int .i64 q) ∧ Ext w w') := fun w => by rw [hq]; exact implFo f s p c _ w h (by omega) (by omega)
  have hres : stayDue f s p c i pd a now = max (q - pd) 0 := by rw [hq]; simp [stayDue, h, h2, h3, h4]
  rw [hres]
  clear hq hres h h2
  go_enter Try.func40, Try.ntmps40
  go_wp2_with fail
  refine (HT.out _).mono ?_
  rintro e w1 ⟨rfl, h1'⟩
  have hz1 : w.heap.size < w1.heap.size := Nat.lt_of_lt_of_le (by simp; omega) h1'.sz
  have hz2 : w.heap.size + 1 < w1.heap.size := Nat.lt_of_lt_of_le (by simp) h1'.sz
  have e0 : w1.cell? ⟨w.heap.size, 0, none⟩ = some (.int .i64 f) := by rw [h1'.cells.1 _ _ (by simp; omega)]; simp
  have e1 : w1.cell? ⟨w.heap.size, 1, none⟩ = some (.int .i64 s) := by rw [h1'.cells.1 _ _ (by simp; omega)]; simp
  have e2 : w1.cell? ⟨w.heap.size, 2, none⟩ = some (.int .i64 p) := by rw [h1'.cells.1 _ _ (by simp; omega)]; simp
  have e3 : w1.cell? ⟨w.heap.size, 3, none⟩ = some (.int .i64 c) := by rw [h1'.cells.1 _ _ (by simp; omega)]; simp
  have g0 : w1.cell? ⟨w.heap.size + 1, 0, none⟩ = some (.int .i64 i) := by rw [h1'.cells.1 _ _ (by simp)]; simp
  have g1 : w1.cell? ⟨w.heap.size + 1, 1, none⟩ = some (.int .i64 pd) := by rw [h1'.cells.1 _ _ (by simp)]; simp
  have g2 : w1.cell? ⟨w.heap.size + 1, 2, none⟩ = some (.int .i64 a) := by rw [h1'.cells.1 _ _ (by simp)]; simp
  go_wp2_with (first | (go_at_call 54; refine (HS.out _).mono ?_; rintro e w2 ⟨rfl, h2'⟩; have hc2 := h2'.cells.1; have hz3 : w.heap.size < w2.heap.size := Nat.lt_of_lt_of_le hz1 h2'.sz; have hz4 : w.heap.size + 1 < w2.heap.size := Nat.lt_of_lt_of_le hz2 h2'.sz) | go_in)
  have k1 : IntKind.i64.wrap (now - i) = now - i := IntWalk.i64_in _ (by omega)
  have k2 : IntKind.i64.wrap (q - pd) = q - pd := IntWalk.i64_in _ (by omega)
  go_region_held3 (fun w' => w'.cell? ⟨w.heap.size, 0, none⟩ = some (.int .i64 f) ∧ w'.cell? ⟨w.heap.size, 1, none⟩ = some (.int .i64 s) ∧ w'.cell? ⟨w.heap.size, 2, none⟩ = some (.int .i64 p) ∧ w'.cell? ⟨w.heap.size, 3, none⟩ = some (.int .i64 c) ∧ w'.cell? ⟨w.heap.size + 1, 0, none⟩ = some (.int .i64 i) ∧ w'.cell? ⟨w.heap.size + 1, 1, none⟩ = some (.int .i64 pd)) (go_keep)
    ((go_at_call 57; refine (HF.out _).mono ?_; rintro e w3 ⟨rfl, h3'⟩; (try replace h3' := h3'.of_drew); have hc3 := h3'.cells.1; have hz5 : w.heap.size < w3.heap.size := Nat.lt_of_lt_of_le (by assumption) h3'.sz; have hz6 : w.heap.size + 1 < w3.heap.size := Nat.lt_of_lt_of_le (by assumption) h3'.sz))
  all_goals clear k1 k2
  all_goals go_wp2
  all_goals go_ret
  all_goals exact ⟨ret_int (by omega), by (repeat' (first | exact Ext.refl _ | (with_reducible assumption) | (with_reducible refine Ext.alloc ?_ _) | (with_reducible refine Ext.setCell ?_ (by first | exact Nat.le_refl _ | (dsimp only; omega) | (simp; done) | (simp; omega)) _) | (with_reducible refine Ext.drew ?_) | (with_reducible refine Ext.drewN ?_ _) | (refine Ext.trans ?_ (by with_reducible assumption))))⟩

set_option maxRecDepth 100000 in
set_option maxHeartbeats 1000000 in
theorem specSd (f s p c i pd a now : Int) (w : World) (h : tariffOk f s p c = true) (h2 : stayOk i pd a = true) (h3 : a ≤ now) (h4 : now ≤ 9999) : Calls Try.prog 34 #[tariffV f s p c, stayV i pd a, .int .i64 now] w fun e w' => e = .returned (.int .i64 (stayDue f s p c i pd a now)) ∧ Ext w w' := by
  obtain ⟨b1, b2, b3, b4, b5, b6⟩ := stay_parts h2
  have HT : Hid (∀ w, Calls Try.prog 46 #[tariffV f s p c] w fun e w' => e = .returned (.bool true) ∧ Ext w w') := fun w => by rw [← h]; exact specTv f s p c w
  have HS : Hid (∀ w, Calls Try.prog 48 #[stayV i pd a] w fun e w' => e = .returned (.bool true) ∧ Ext w w') := fun w => by rw [← h2]; exact specSv i pd a w
  obtain ⟨q, hq⟩ : ∃ q, q = feeOf f s p c (now - i) := ⟨_, rfl⟩
  have hqb : 0 ≤ q ∧ q ≤ 693 := by rw [hq]; exact feeOf_bd h (by omega) (by omega)
  have HF : Hid (∀ w, Calls Try.prog 50 #[tariffV f s p c, .int .i64 (now - i)] w fun e w' => e = .returned (.int .i64 q) ∧ Ext w w') := fun w => by rw [hq]; exact specFo f s p c _ w h (by omega) (by omega)
  have hres : stayDue f s p c i pd a now = max (q - pd) 0 := by rw [hq]; simp [stayDue, h, h2, h3, h4]
  rw [hres]
  clear hq hres h h2
  go_enter Try.func34, Try.ntmps34
  go_wp2_with fail
  refine (HT.out _).mono ?_
  rintro e w1 ⟨rfl, h1'⟩
  have hz1 : w.heap.size < w1.heap.size := Nat.lt_of_lt_of_le (by simp; omega) h1'.sz
  have hz2 : w.heap.size + 1 < w1.heap.size := Nat.lt_of_lt_of_le (by simp) h1'.sz
  have e0 : w1.cell? ⟨w.heap.size, 0, none⟩ = some (.int .i64 f) := by rw [h1'.cells.1 _ _ (by simp; omega)]; simp
  have e1 : w1.cell? ⟨w.heap.size, 1, none⟩ = some (.int .i64 s) := by rw [h1'.cells.1 _ _ (by simp; omega)]; simp
  have e2 : w1.cell? ⟨w.heap.size, 2, none⟩ = some (.int .i64 p) := by rw [h1'.cells.1 _ _ (by simp; omega)]; simp
  have e3 : w1.cell? ⟨w.heap.size, 3, none⟩ = some (.int .i64 c) := by rw [h1'.cells.1 _ _ (by simp; omega)]; simp
  have g0 : w1.cell? ⟨w.heap.size + 1, 0, none⟩ = some (.int .i64 i) := by rw [h1'.cells.1 _ _ (by simp)]; simp
  have g1 : w1.cell? ⟨w.heap.size + 1, 1, none⟩ = some (.int .i64 pd) := by rw [h1'.cells.1 _ _ (by simp)]; simp
  have g2 : w1.cell? ⟨w.heap.size + 1, 2, none⟩ = some (.int .i64 a) := by rw [h1'.cells.1 _ _ (by simp)]; simp
  go_wp2_with (first | (go_at_call 48; refine (HS.out _).mono ?_; rintro e w2 ⟨rfl, h2'⟩; have hc2 := h2'.cells.1; have hz3 : w.heap.size < w2.heap.size := Nat.lt_of_lt_of_le hz1 h2'.sz; have hz4 : w.heap.size + 1 < w2.heap.size := Nat.lt_of_lt_of_le hz2 h2'.sz) | go_in)
  have k1 : IntKind.i64.wrap (now - i) = now - i := IntWalk.i64_in _ (by omega)
  have k2 : IntKind.i64.wrap (q - pd) = q - pd := IntWalk.i64_in _ (by omega)
  go_region_held3 (fun w' => w'.cell? ⟨w.heap.size, 0, none⟩ = some (.int .i64 f) ∧ w'.cell? ⟨w.heap.size, 1, none⟩ = some (.int .i64 s) ∧ w'.cell? ⟨w.heap.size, 2, none⟩ = some (.int .i64 p) ∧ w'.cell? ⟨w.heap.size, 3, none⟩ = some (.int .i64 c) ∧ w'.cell? ⟨w.heap.size + 1, 0, none⟩ = some (.int .i64 i) ∧ w'.cell? ⟨w.heap.size + 1, 1, none⟩ = some (.int .i64 pd)) (go_keep)
    ((go_at_call 50; refine (HF.out _).mono ?_; rintro e w3 ⟨rfl, h3'⟩; (try replace h3' := h3'.of_drew); have hc3 := h3'.cells.1; have hz5 : w.heap.size < w3.heap.size := Nat.lt_of_lt_of_le (by assumption) h3'.sz; have hz6 : w.heap.size + 1 < w3.heap.size := Nat.lt_of_lt_of_le (by assumption) h3'.sz))
  all_goals clear k1 k2
  all_goals go_wp2
  all_goals go_ret
  all_goals exact ⟨ret_int (by omega), by (repeat' (first | exact Ext.refl _ | (with_reducible assumption) | (with_reducible refine Ext.alloc ?_ _) | (with_reducible refine Ext.setCell ?_ (by first | exact Nat.le_refl _ | (dsimp only; omega) | (simp; done) | (simp; omega)) _) | (with_reducible refine Ext.drew ?_) | (with_reducible refine Ext.drewN ?_ _) | (refine Ext.trans ?_ (by with_reducible assumption))))⟩

end Go.Proofs.Ythhcpcjmolbkdaa
