/-
  StayDue and MayLeave of both packages at valid stays. No condition beyond.
-/
import Derived.Test.YteejdnmmpmcmeaaGreatDoorMoney
namespace Go.Proofs.YteejdnmmpmcmeaaGreatDoor
open Go.RowKit
set_option linter.unusedVariables false

set_option maxRecDepth 100000 in
set_option maxHeartbeats 1000000 in
theorem implSd (f s p c i pd a now : Int) (w : World) (h : tariffOk f s p c = true) (h2 : stayOk i pd a = true) (h3 : a ≤ now) (h4 : now ≤ 9999) : Calls Tryz.prog 74 #[tariffV f s p c, stayV i pd a, .int .i64 now] w fun e w' => e = .returned (.int .i64 (stayDue f s p c i pd a now)) ∧ Ext w w' := by
  obtain ⟨b1, b2, b3, b4, b5, b6⟩ := stay_parts h2
  have HT : Hid (∀ w, Calls Tryz.prog 62 #[tariffV f s p c] w fun e w' => e = .returned (.bool true) ∧ Ext w w') := fun w => by rw [← h]; exact implTv f s p c w
  have HS : Hid (∀ w, Calls Tryz.prog 24 #[stayV i pd a] w fun e w' => e = .returned (.bool true) ∧ Ext w w') := fun w => by rw [← h2]; exact implSv i pd a w
  obtain ⟨q, hq⟩ : ∃ q, q = feeOf f s p c (now - i) := ⟨_, rfl⟩
  have hqb : 0 ≤ q ∧ q ≤ 693 := by rw [hq]; exact feeOf_bd h (by omega) (by omega)
  have HF : Hid (∀ w, Calls Tryz.prog 28 #[tariffV f s p c, .int .i64 (now - i)] w fun e w' => e = .returned (.int .i64 q) ∧ Ext w w') := fun w => by rw [hq]; exact implFo f s p c _ w h (by omega) (by omega)
  have hres : stayDue f s p c i pd a now = max (q - pd) 0 := by rw [hq]; simp [stayDue, h, h2, h3, h4]
  rw [hres]
  clear hq hres h h2
  go_enter Tryz.func74, Tryz.ntmps74
  go_wp2_with fail
  refine (HT.out _).mono ?_
  rintro e w1 ⟨rfl, h1'⟩
  have hz1 : w.heap.size < w1.heap.size := Nat.lt_of_lt_of_le (by simp; omega) h1'.sz
  have hz2 : w.heap.size + 1 < w1.heap.size := Nat.lt_of_lt_of_le (by simp) h1'.sz
  have e0 : w1.cell? ⟨w.heap.size, 0, none⟩ = some (.int .i64 f) := by rw [h1'.cells.1 _ _ (by simp; omega)]; simp
  have e1 : w1.cell? ⟨w.heap.size, 1, none⟩ = some (.int .i64 s) := by rw [h1'.cells.1 _ _ (by simp; omega)]; simp
  have e2 : w1.cell? ⟨w.heap.size, 2, none⟩ = some (.int .i64 p) := by rw [h1'.cells.1 _ _ (by simp; omega)]; simp
  have e3 : w1.cell? ⟨w.heap.size, 3, none⟩ = some (.int .i64 c) := by rw [h1'.cells.1 _ _ (by simp; omega)]; simp
  have g0 : w1.cell? ⟨w.heap.size + 1, 0, none⟩ = some (.int .i64 i) := by rw [h1'.cells.1 _ _ (by simp)]; simp
  have g1 : w1.cell? ⟨w.heap.size + 1, 1, none⟩ = some (.int .i64 pd) := by rw [h1'.cells.1 _ _ (by simp)]; simp
  have g2 : w1.cell? ⟨w.heap.size + 1, 2, none⟩ = some (.int .i64 a) := by rw [h1'.cells.1 _ _ (by simp)]; simp
  go_wp2_with (first | (go_at_call 24; refine (HS.out _).mono ?_; rintro e w2 ⟨rfl, h2'⟩; have hc2 := h2'.cells.1; have hz3 : w.heap.size < w2.heap.size := Nat.lt_of_lt_of_le hz1 h2'.sz; have hz4 : w.heap.size + 1 < w2.heap.size := Nat.lt_of_lt_of_le hz2 h2'.sz) | go_in)
  have k1 : IntKind.i64.wrap (now - i) = now - i := IntWalk.i64_in _ (by omega)
  have k2 : IntKind.i64.wrap (q - pd) = q - pd := IntWalk.i64_in _ (by omega)
  go_region_held3 (fun w' => w'.cell? ⟨w.heap.size, 0, none⟩ = some (.int .i64 f) ∧ w'.cell? ⟨w.heap.size, 1, none⟩ = some (.int .i64 s) ∧ w'.cell? ⟨w.heap.size, 2, none⟩ = some (.int .i64 p) ∧ w'.cell? ⟨w.heap.size, 3, none⟩ = some (.int .i64 c) ∧ w'.cell? ⟨w.heap.size + 1, 0, none⟩ = some (.int .i64 i) ∧ w'.cell? ⟨w.heap.size + 1, 1, none⟩ = some (.int .i64 pd)) (go_keep)
    ((go_at_call 28; refine (HF.out _).mono ?_; rintro e w3 ⟨rfl, h3'⟩; (try replace h3' := h3'.of_drew); have hc3 := h3'.cells.1; have hz5 : w.heap.size < w3.heap.size := Nat.lt_of_lt_of_le (by assumption) h3'.sz; have hz6 : w.heap.size + 1 < w3.heap.size := Nat.lt_of_lt_of_le (by assumption) h3'.sz))
  all_goals clear k1 k2
  all_goals go_wp2
  all_goals go_ret
  all_goals exact ⟨ret_int (by omega), by (repeat' (first | exact Ext.refl _ | (with_reducible assumption) | (with_reducible refine Ext.alloc ?_ _) | (with_reducible refine Ext.setCell ?_ (by first | exact Nat.le_refl _ | (dsimp only; omega) | (simp; done) | (simp; omega)) _) | (with_reducible refine Ext.drew ?_) | (with_reducible refine Ext.drewN ?_ _) | (refine Ext.trans ?_ (by with_reducible assumption))))⟩

set_option maxRecDepth 100000 in
set_option maxHeartbeats 1000000 in
theorem specSd (f s p c i pd a now : Int) (w : World) (h : tariffOk f s p c = true) (h2 : stayOk i pd a = true) (h3 : a ≤ now) (h4 : now ≤ 9999) : Calls Tryz.prog 75 #[tariffV f s p c, stayV i pd a, .int .i64 now] w fun e w' => e = .returned (.int .i64 (stayDue f s p c i pd a now)) ∧ Ext w w' := by
  obtain ⟨b1, b2, b3, b4, b5, b6⟩ := stay_parts h2
  have HT : Hid (∀ w, Calls Tryz.prog 65 #[tariffV f s p c] w fun e w' => e = .returned (.bool true) ∧ Ext w w') := fun w => by rw [← h]; exact specTv f s p c w
  have HS : Hid (∀ w, Calls Tryz.prog 67 #[stayV i pd a] w fun e w' => e = .returned (.bool true) ∧ Ext w w') := fun w => by rw [← h2]; exact specSv i pd a w
  obtain ⟨q, hq⟩ : ∃ q, q = feeOf f s p c (now - i) := ⟨_, rfl⟩
  have hqb : 0 ≤ q ∧ q ≤ 693 := by rw [hq]; exact feeOf_bd h (by omega) (by omega)
  have HF : Hid (∀ w, Calls Tryz.prog 127 #[tariffV f s p c, .int .i64 (now - i)] w fun e w' => e = .returned (.int .i64 q) ∧ Ext w w') := fun w => by rw [hq]; exact specFo f s p c _ w h (by omega) (by omega)
  have hres : stayDue f s p c i pd a now = max (q - pd) 0 := by rw [hq]; simp [stayDue, h, h2, h3, h4]
  rw [hres]
  clear hq hres h h2
  go_enter Tryz.func75, Tryz.ntmps75
  go_wp2_with fail
  refine (HT.out _).mono ?_
  rintro e w1 ⟨rfl, h1'⟩
  have hz1 : w.heap.size < w1.heap.size := Nat.lt_of_lt_of_le (by simp; omega) h1'.sz
  have hz2 : w.heap.size + 1 < w1.heap.size := Nat.lt_of_lt_of_le (by simp) h1'.sz
  have e0 : w1.cell? ⟨w.heap.size, 0, none⟩ = some (.int .i64 f) := by rw [h1'.cells.1 _ _ (by simp; omega)]; simp
  have e1 : w1.cell? ⟨w.heap.size, 1, none⟩ = some (.int .i64 s) := by rw [h1'.cells.1 _ _ (by simp; omega)]; simp
  have e2 : w1.cell? ⟨w.heap.size, 2, none⟩ = some (.int .i64 p) := by rw [h1'.cells.1 _ _ (by simp; omega)]; simp
  have e3 : w1.cell? ⟨w.heap.size, 3, none⟩ = some (.int .i64 c) := by rw [h1'.cells.1 _ _ (by simp; omega)]; simp
  have g0 : w1.cell? ⟨w.heap.size + 1, 0, none⟩ = some (.int .i64 i) := by rw [h1'.cells.1 _ _ (by simp)]; simp
  have g1 : w1.cell? ⟨w.heap.size + 1, 1, none⟩ = some (.int .i64 pd) := by rw [h1'.cells.1 _ _ (by simp)]; simp
  have g2 : w1.cell? ⟨w.heap.size + 1, 2, none⟩ = some (.int .i64 a) := by rw [h1'.cells.1 _ _ (by simp)]; simp
  go_wp2_with (first | (go_at_call 67; refine (HS.out _).mono ?_; rintro e w2 ⟨rfl, h2'⟩; have hc2 := h2'.cells.1; have hz3 : w.heap.size < w2.heap.size := Nat.lt_of_lt_of_le hz1 h2'.sz; have hz4 : w.heap.size + 1 < w2.heap.size := Nat.lt_of_lt_of_le hz2 h2'.sz) | go_in)
  have k1 : IntKind.i64.wrap (now - i) = now - i := IntWalk.i64_in _ (by omega)
  have k2 : IntKind.i64.wrap (q - pd) = q - pd := IntWalk.i64_in _ (by omega)
  go_region_held3 (fun w' => w'.cell? ⟨w.heap.size, 0, none⟩ = some (.int .i64 f) ∧ w'.cell? ⟨w.heap.size, 1, none⟩ = some (.int .i64 s) ∧ w'.cell? ⟨w.heap.size, 2, none⟩ = some (.int .i64 p) ∧ w'.cell? ⟨w.heap.size, 3, none⟩ = some (.int .i64 c) ∧ w'.cell? ⟨w.heap.size + 1, 0, none⟩ = some (.int .i64 i) ∧ w'.cell? ⟨w.heap.size + 1, 1, none⟩ = some (.int .i64 pd)) (go_keep)
    ((go_at_call 127; refine (HF.out _).mono ?_; rintro e w3 ⟨rfl, h3'⟩; (try replace h3' := h3'.of_drew); have hc3 := h3'.cells.1; have hz5 : w.heap.size < w3.heap.size := Nat.lt_of_lt_of_le (by assumption) h3'.sz; have hz6 : w.heap.size + 1 < w3.heap.size := Nat.lt_of_lt_of_le (by assumption) h3'.sz))
  all_goals clear k1 k2
  all_goals go_wp2
  all_goals go_ret
  all_goals exact ⟨ret_int (by omega), by (repeat' (first | exact Ext.refl _ | (with_reducible assumption) | (with_reducible refine Ext.alloc ?_ _) | (with_reducible refine Ext.setCell ?_ (by first | exact Nat.le_refl _ | (dsimp only; omega) | (simp; done) | (simp; omega)) _) | (with_reducible refine Ext.drew ?_) | (with_reducible refine Ext.drewN ?_ _) | (refine Ext.trans ?_ (by with_reducible assumption))))⟩

set_option maxRecDepth 100000 in
set_option maxHeartbeats 1000000 in
theorem implMl_0 (f s p c i pd a now d1 d2 : Int) (w : World) (h0 : 0 ≤ d1) (h2 : 0 ≤ d2) (h3 : a ≤ now) (h4 : now ≤ 9999) (h5 : 0 ≤ a) (t1 : (d1 == 0) = true)
    (HA : Hid (∀ w, Calls Tryz.prog 74 #[tariffV f s p c, stayV i pd a, .int .i64 now] w fun e w' => e = .returned (.int .i64 d1) ∧ Ext w w'))
    (HB : Hid (∀ w, Calls Tryz.prog 74 #[tariffV f s p c, stayV i pd a, .int .i64 a] w fun e w' => e = .returned (.int .i64 d2) ∧ Ext w w')) :
    Calls Tryz.prog 77 #[tariffV f s p c, stayV i pd a, .int .i64 now] w fun e w' => e = .returned (.bool true) ∧ Ext w w' := by
  go_enter Tryz.func77, Tryz.ntmps77
  go_wp2_with fail
  refine (HA.out _).mono ?_
  rintro e w1 ⟨rfl, h1'⟩
  have hz1 : w.heap.size < w1.heap.size := Nat.lt_of_lt_of_le (by simp; omega) h1'.sz
  have hz2 : w.heap.size + 1 < w1.heap.size := Nat.lt_of_lt_of_le (by simp) h1'.sz
  have hc1 := h1'.cells.1
  go_wp2
  go_ret
  exact ⟨ret_bool (by first | rfl | (simp; omega)), by (repeat' (first | exact Ext.refl _ | (with_reducible assumption) | (with_reducible refine Ext.alloc ?_ _) | (with_reducible refine Ext.setCell ?_ (by first | exact Nat.le_refl _ | (dsimp only; omega) | (simp; done) | (simp; omega)) _) | (with_reducible refine Ext.drew ?_) | (with_reducible refine Ext.drewN ?_ _) | (refine Ext.trans ?_ (by with_reducible assumption))))⟩
set_option maxRecDepth 100000 in
set_option maxHeartbeats 1000000 in
theorem implMl_1 (f s p c i pd a now d1 d2 : Int) (w : World) (h0 : 0 ≤ d1) (h2 : 0 ≤ d2) (h3 : a ≤ now) (h4 : now ≤ 9999) (h5 : 0 ≤ a) (t1 : (d1 == 0) = false) (t2 : 15 < now - a) (t3 : (d2 == 0) = true)
    (HA : Hid (∀ w, Calls Tryz.prog 74 #[tariffV f s p c, stayV i pd a, .int .i64 now] w fun e w' => e = .returned (.int .i64 d1) ∧ Ext w w'))
    (HB : Hid (∀ w, Calls Tryz.prog 74 #[tariffV f s p c, stayV i pd a, .int .i64 a] w fun e w' => e = .returned (.int .i64 d2) ∧ Ext w w')) :
    Calls Tryz.prog 77 #[tariffV f s p c, stayV i pd a, .int .i64 now] w fun e w' => e = .returned (.bool false) ∧ Ext w w' := by
  go_enter Tryz.func77, Tryz.ntmps77
  go_wp2_with fail
  refine (HA.out _).mono ?_
  rintro e w1 ⟨rfl, h1'⟩
  have hz1 : w.heap.size < w1.heap.size := Nat.lt_of_lt_of_le (by simp; omega) h1'.sz
  have hz2 : w.heap.size + 1 < w1.heap.size := Nat.lt_of_lt_of_le (by simp) h1'.sz
  have hc1 := h1'.cells.1
  go_wp2
  go_ret
  exact ⟨ret_bool (by first | rfl | (simp; omega)), by (repeat' (first | exact Ext.refl _ | (with_reducible assumption) | (with_reducible refine Ext.alloc ?_ _) | (with_reducible refine Ext.setCell ?_ (by first | exact Nat.le_refl _ | (dsimp only; omega) | (simp; done) | (simp; omega)) _) | (with_reducible refine Ext.drew ?_) | (with_reducible refine Ext.drewN ?_ _) | (refine Ext.trans ?_ (by with_reducible assumption))))⟩
set_option maxRecDepth 100000 in
set_option maxHeartbeats 1000000 in
theorem implMl_2 (f s p c i pd a now d1 d2 : Int) (w : World) (h0 : 0 ≤ d1) (h2 : 0 ≤ d2) (h3 : a ≤ now) (h4 : now ≤ 9999) (h5 : 0 ≤ a) (t1 : (d1 == 0) = false) (t2 : now - a ≤ 15) (t3 : (d2 == 0) = true)
    (HA : Hid (∀ w, Calls Tryz.prog 74 #[tariffV f s p c, stayV i pd a, .int .i64 now] w fun e w' => e = .returned (.int .i64 d1) ∧ Ext w w'))
    (HB : Hid (∀ w, Calls Tryz.prog 74 #[tariffV f s p c, stayV i pd a, .int .i64 a] w fun e w' => e = .returned (.int .i64 d2) ∧ Ext w w')) :
    Calls Tryz.prog 77 #[tariffV f s p c, stayV i pd a, .int .i64 now] w fun e w' => e = .returned (.bool true) ∧ Ext w w' := by
  go_enter Tryz.func77, Tryz.ntmps77
  go_wp2_with fail
  refine (HA.out _).mono ?_
  rintro e w1 ⟨rfl, h1'⟩
  have hz1 : w.heap.size < w1.heap.size := Nat.lt_of_lt_of_le (by simp; omega) h1'.sz
  have hz2 : w.heap.size + 1 < w1.heap.size := Nat.lt_of_lt_of_le (by simp) h1'.sz
  have hc1 := h1'.cells.1
  go_wp2_with fail
  refine (HB.out _).mono ?_
  rintro e w2 ⟨rfl, h2'⟩
  have hz3 := Nat.lt_of_lt_of_le hz1 h2'.sz
  have hz4 := Nat.lt_of_lt_of_le hz2 h2'.sz
  have hc2 := h2'.cells.1
  go_wp2
  go_ret
  exact ⟨ret_bool (by first | rfl | (simp; omega)), by (repeat' (first | exact Ext.refl _ | (with_reducible assumption) | (with_reducible refine Ext.alloc ?_ _) | (with_reducible refine Ext.setCell ?_ (by first | exact Nat.le_refl _ | (dsimp only; omega) | (simp; done) | (simp; omega)) _) | (with_reducible refine Ext.drew ?_) | (with_reducible refine Ext.drewN ?_ _) | (refine Ext.trans ?_ (by with_reducible assumption))))⟩
set_option maxRecDepth 100000 in
set_option maxHeartbeats 1000000 in
theorem implMl_3 (f s p c i pd a now d1 d2 : Int) (w : World) (h0 : 0 ≤ d1) (h2 : 0 ≤ d2) (h3 : a ≤ now) (h4 : now ≤ 9999) (h5 : 0 ≤ a) (t1 : (d1 == 0) = false) (t2 : 15 < now - a) (t3 : (d2 == 0) = false)
    (HA : Hid (∀ w, Calls Tryz.prog 74 #[tariffV f s p c, stayV i pd a, .int .i64 now] w fun e w' => e = .returned (.int .i64 d1) ∧ Ext w w'))
    (HB : Hid (∀ w, Calls Tryz.prog 74 #[tariffV f s p c, stayV i pd a, .int .i64 a] w fun e w' => e = .returned (.int .i64 d2) ∧ Ext w w')) :
    Calls Tryz.prog 77 #[tariffV f s p c, stayV i pd a, .int .i64 now] w fun e w' => e = .returned (.bool false) ∧ Ext w w' := by
  go_enter Tryz.func77, Tryz.ntmps77
  go_wp2_with fail
  refine (HA.out _).mono ?_
  rintro e w1 ⟨rfl, h1'⟩
  have hz1 : w.heap.size < w1.heap.size := Nat.lt_of_lt_of_le (by simp; omega) h1'.sz
  have hz2 : w.heap.size + 1 < w1.heap.size := Nat.lt_of_lt_of_le (by simp) h1'.sz
  have hc1 := h1'.cells.1
  go_wp2
  go_ret
  exact ⟨ret_bool (by first | rfl | (simp; omega)), by (repeat' (first | exact Ext.refl _ | (with_reducible assumption) | (with_reducible refine Ext.alloc ?_ _) | (with_reducible refine Ext.setCell ?_ (by first | exact Nat.le_refl _ | (dsimp only; omega) | (simp; done) | (simp; omega)) _) | (with_reducible refine Ext.drew ?_) | (with_reducible refine Ext.drewN ?_ _) | (refine Ext.trans ?_ (by with_reducible assumption))))⟩
set_option maxRecDepth 100000 in
set_option maxHeartbeats 1000000 in
theorem implMl_4 (f s p c i pd a now d1 d2 : Int) (w : World) (h0 : 0 ≤ d1) (h2 : 0 ≤ d2) (h3 : a ≤ now) (h4 : now ≤ 9999) (h5 : 0 ≤ a) (t1 : (d1 == 0) = false) (t2 : now - a ≤ 15) (t3 : (d2 == 0) = false)
    (HA : Hid (∀ w, Calls Tryz.prog 74 #[tariffV f s p c, stayV i pd a, .int .i64 now] w fun e w' => e = .returned (.int .i64 d1) ∧ Ext w w'))
    (HB : Hid (∀ w, Calls Tryz.prog 74 #[tariffV f s p c, stayV i pd a, .int .i64 a] w fun e w' => e = .returned (.int .i64 d2) ∧ Ext w w')) :
    Calls Tryz.prog 77 #[tariffV f s p c, stayV i pd a, .int .i64 now] w fun e w' => e = .returned (.bool false) ∧ Ext w w' := by
  go_enter Tryz.func77, Tryz.ntmps77
  go_wp2_with fail
  refine (HA.out _).mono ?_
  rintro e w1 ⟨rfl, h1'⟩
  have hz1 : w.heap.size < w1.heap.size := Nat.lt_of_lt_of_le (by simp; omega) h1'.sz
  have hz2 : w.heap.size + 1 < w1.heap.size := Nat.lt_of_lt_of_le (by simp) h1'.sz
  have hc1 := h1'.cells.1
  go_wp2_with fail
  refine (HB.out _).mono ?_
  rintro e w2 ⟨rfl, h2'⟩
  have hz3 := Nat.lt_of_lt_of_le hz1 h2'.sz
  have hz4 := Nat.lt_of_lt_of_le hz2 h2'.sz
  have hc2 := h2'.cells.1
  go_wp2
  go_ret
  exact ⟨ret_bool (by first | rfl | (simp; omega)), by (repeat' (first | exact Ext.refl _ | (with_reducible assumption) | (with_reducible refine Ext.alloc ?_ _) | (with_reducible refine Ext.setCell ?_ (by first | exact Nat.le_refl _ | (dsimp only; omega) | (simp; done) | (simp; omega)) _) | (with_reducible refine Ext.drew ?_) | (with_reducible refine Ext.drewN ?_ _) | (refine Ext.trans ?_ (by with_reducible assumption))))⟩
theorem implMl (f s p c i pd a now : Int) (w : World) (h : tariffOk f s p c = true) (h2 : stayOk i pd a = true) (h3 : a ≤ now) (h4 : now ≤ 9999) : Calls Tryz.prog 77 #[tariffV f s p c, stayV i pd a, .int .i64 now] w fun e w' => e = .returned (.bool (mayLeave f s p c i pd a now)) ∧ Ext w w' := by
  obtain ⟨b1, b2, b3, b4, b5, b6⟩ := stay_parts h2
  have e1 : 0 ≤ stayDue f s p c i pd a now := by unfold stayDue; rw [if_pos (by simp [h, h2, h3, h4])]; omega
  have e2 : 0 ≤ stayDue f s p c i pd a a := by unfold stayDue; rw [if_pos (by simp [h, h2]; omega)]; omega
  have hr : mayLeave f s p c i pd a now = (decide (stayDue f s p c i pd a now = 0) || (decide (now - a ≤ 15) && decide (stayDue f s p c i pd a a = 0))) := by simp [mayLeave, e1]
  have hA := fun w => implSd f s p c i pd a now w h h2 h3 h4
  have hB := fun w => implSd f s p c i pd a a w h h2 (by omega) b6
  rw [hr]
  generalize stayDue f s p c i pd a now = d1 at *
  generalize stayDue f s p c i pd a a = d2 at *
  by_cases t1 : d1 = 0
  · rw [show (decide (d1 = 0) || (decide (now - a ≤ 15) && decide (d2 = 0))) = true by simp [t1]]
    exact implMl_0 f s p c i pd a now d1 d2 w e1 e2 h3 h4 (by omega) (by simp [t1]) hA hB
  · by_cases t2 : now - a ≤ 15
    · by_cases t3 : d2 = 0
      · rw [show (decide (d1 = 0) || (decide (now - a ≤ 15) && decide (d2 = 0))) = true by simp [t2, t3]]
        exact implMl_2 f s p c i pd a now d1 d2 w e1 e2 h3 h4 (by omega) (by simp [t1]) t2 (by simp [t3]) hA hB
      · rw [show (decide (d1 = 0) || (decide (now - a ≤ 15) && decide (d2 = 0))) = false by simp [t1, t3]]
        exact implMl_4 f s p c i pd a now d1 d2 w e1 e2 h3 h4 (by omega) (by simp [t1]) t2 (by simp [t3]) hA hB
    · by_cases t3 : d2 = 0
      · rw [show (decide (d1 = 0) || (decide (now - a ≤ 15) && decide (d2 = 0))) = false by simp [t1, t2]]
        exact implMl_1 f s p c i pd a now d1 d2 w e1 e2 h3 h4 (by omega) (by simp [t1]) (by omega) (by simp [t3]) hA hB
      · rw [show (decide (d1 = 0) || (decide (now - a ≤ 15) && decide (d2 = 0))) = false by simp [t1, t2]]
        exact implMl_3 f s p c i pd a now d1 d2 w e1 e2 h3 h4 (by omega) (by simp [t1]) (by omega) (by simp [t3]) hA hB

set_option maxRecDepth 100000 in
set_option maxHeartbeats 1000000 in
theorem specMl_0 (f s p c i pd a now d1 d2 : Int) (w : World) (h0 : 0 ≤ d1) (h2 : 0 ≤ d2) (h3 : a ≤ now) (h4 : now ≤ 9999) (h5 : 0 ≤ a) (t1 : (d1 == 0) = true)
    (HA : Hid (∀ w, Calls Tryz.prog 75 #[tariffV f s p c, stayV i pd a, .int .i64 now] w fun e w' => e = .returned (.int .i64 d1) ∧ Ext w w'))
    (HB : Hid (∀ w, Calls Tryz.prog 75 #[tariffV f s p c, stayV i pd a, .int .i64 a] w fun e w' => e = .returned (.int .i64 d2) ∧ Ext w w')) :
    Calls Tryz.prog 78 #[tariffV f s p c, stayV i pd a, .int .i64 now] w fun e w' => e = .returned (.bool true) ∧ Ext w w' := by
  go_enter Tryz.func78, Tryz.ntmps78
  go_wp2_with fail
  refine (HA.out _).mono ?_
  rintro e w1 ⟨rfl, h1'⟩
  have hz1 : w.heap.size < w1.heap.size := Nat.lt_of_lt_of_le (by simp; omega) h1'.sz
  have hz2 : w.heap.size + 1 < w1.heap.size := Nat.lt_of_lt_of_le (by simp) h1'.sz
  have hc1 := h1'.cells.1
  go_wp2_with fail
  refine (HA.out _).mono ?_
  rintro e w2 ⟨rfl, h2'⟩
  have hz3 := Nat.lt_of_lt_of_le hz1 h2'.sz
  have hz4 := Nat.lt_of_lt_of_le hz2 h2'.sz
  have hc2 := h2'.cells.1
  go_wp2
  go_ret
  exact ⟨ret_bool (by first | rfl | (simp; omega)), by (repeat' (first | exact Ext.refl _ | (with_reducible assumption) | (with_reducible refine Ext.alloc ?_ _) | (with_reducible refine Ext.setCell ?_ (by first | exact Nat.le_refl _ | (dsimp only; omega) | (simp; done) | (simp; omega)) _) | (with_reducible refine Ext.drew ?_) | (with_reducible refine Ext.drewN ?_ _) | (refine Ext.trans ?_ (by with_reducible assumption))))⟩
set_option maxRecDepth 100000 in
set_option maxHeartbeats 1000000 in
theorem specMl_1 (f s p c i pd a now d1 d2 : Int) (w : World) (h0 : 0 ≤ d1) (h2 : 0 ≤ d2) (h3 : a ≤ now) (h4 : now ≤ 9999) (h5 : 0 ≤ a) (t1 : (d1 == 0) = false) (t2 : 15 < now - a) (t3 : (d2 == 0) = true)
    (HA : Hid (∀ w, Calls Tryz.prog 75 #[tariffV f s p c, stayV i pd a, .int .i64 now] w fun e w' => e = .returned (.int .i64 d1) ∧ Ext w w'))
    (HB : Hid (∀ w, Calls Tryz.prog 75 #[tariffV f s p c, stayV i pd a, .int .i64 a] w fun e w' => e = .returned (.int .i64 d2) ∧ Ext w w')) :
    Calls Tryz.prog 78 #[tariffV f s p c, stayV i pd a, .int .i64 now] w fun e w' => e = .returned (.bool false) ∧ Ext w w' := by
  go_enter Tryz.func78, Tryz.ntmps78
  go_wp2_with fail
  refine (HA.out _).mono ?_
  rintro e w1 ⟨rfl, h1'⟩
  have hz1 : w.heap.size < w1.heap.size := Nat.lt_of_lt_of_le (by simp; omega) h1'.sz
  have hz2 : w.heap.size + 1 < w1.heap.size := Nat.lt_of_lt_of_le (by simp) h1'.sz
  have hc1 := h1'.cells.1
  go_wp2_with fail
  refine (HA.out _).mono ?_
  rintro e w2 ⟨rfl, h2'⟩
  have hz3 := Nat.lt_of_lt_of_le hz1 h2'.sz
  have hz4 := Nat.lt_of_lt_of_le hz2 h2'.sz
  have hc2 := h2'.cells.1
  go_wp2_with fail
  refine (HB.out _).mono ?_
  rintro e w3 ⟨rfl, h3'⟩
  have hz5 := Nat.lt_of_lt_of_le hz3 h3'.sz
  have hz6 := Nat.lt_of_lt_of_le hz4 h3'.sz
  have hc3 := h3'.cells.1
  go_wp2
  go_ret
  exact ⟨ret_bool (by first | rfl | (simp; omega)), by (repeat' (first | exact Ext.refl _ | (with_reducible assumption) | (with_reducible refine Ext.alloc ?_ _) | (with_reducible refine Ext.setCell ?_ (by first | exact Nat.le_refl _ | (dsimp only; omega) | (simp; done) | (simp; omega)) _) | (with_reducible refine Ext.drew ?_) | (with_reducible refine Ext.drewN ?_ _) | (refine Ext.trans ?_ (by with_reducible assumption))))⟩
set_option maxRecDepth 100000 in
set_option maxHeartbeats 1000000 in
theorem specMl_2 (f s p c i pd a now d1 d2 : Int) (w : World) (h0 : 0 ≤ d1) (h2 : 0 ≤ d2) (h3 : a ≤ now) (h4 : now ≤ 9999) (h5 : 0 ≤ a) (t1 : (d1 == 0) = false) (t2 : now - a ≤ 15) (t3 : (d2 == 0) = true)
    (HA : Hid (∀ w, Calls Tryz.prog 75 #[tariffV f s p c, stayV i pd a, .int .i64 now] w fun e w' => e = .returned (.int .i64 d1) ∧ Ext w w'))
    (HB : Hid (∀ w, Calls Tryz.prog 75 #[tariffV f s p c, stayV i pd a, .int .i64 a] w fun e w' => e = .returned (.int .i64 d2) ∧ Ext w w')) :
    Calls Tryz.prog 78 #[tariffV f s p c, stayV i pd a, .int .i64 now] w fun e w' => e = .returned (.bool true) ∧ Ext w w' := by
  go_enter Tryz.func78, Tryz.ntmps78
  go_wp2_with fail
  refine (HA.out _).mono ?_
  rintro e w1 ⟨rfl, h1'⟩
  have hz1 : w.heap.size < w1.heap.size := Nat.lt_of_lt_of_le (by simp; omega) h1'.sz
  have hz2 : w.heap.size + 1 < w1.heap.size := Nat.lt_of_lt_of_le (by simp) h1'.sz
  have hc1 := h1'.cells.1
  go_wp2_with fail
  refine (HA.out _).mono ?_
  rintro e w2 ⟨rfl, h2'⟩
  have hz3 := Nat.lt_of_lt_of_le hz1 h2'.sz
  have hz4 := Nat.lt_of_lt_of_le hz2 h2'.sz
  have hc2 := h2'.cells.1
  go_wp2_with fail
  refine (HB.out _).mono ?_
  rintro e w3 ⟨rfl, h3'⟩
  have hz5 := Nat.lt_of_lt_of_le hz3 h3'.sz
  have hz6 := Nat.lt_of_lt_of_le hz4 h3'.sz
  have hc3 := h3'.cells.1
  go_wp2
  go_ret
  exact ⟨ret_bool (by first | rfl | (simp; omega)), by (repeat' (first | exact Ext.refl _ | (with_reducible assumption) | (with_reducible refine Ext.alloc ?_ _) | (with_reducible refine Ext.setCell ?_ (by first | exact Nat.le_refl _ | (dsimp only; omega) | (simp; done) | (simp; omega)) _) | (with_reducible refine Ext.drew ?_) | (with_reducible refine Ext.drewN ?_ _) | (refine Ext.trans ?_ (by with_reducible assumption))))⟩
set_option maxRecDepth 100000 in
set_option maxHeartbeats 1000000 in
theorem specMl_3 (f s p c i pd a now d1 d2 : Int) (w : World) (h0 : 0 ≤ d1) (h2 : 0 ≤ d2) (h3 : a ≤ now) (h4 : now ≤ 9999) (h5 : 0 ≤ a) (t1 : (d1 == 0) = false) (t2 : 15 < now - a) (t3 : (d2 == 0) = false)
    (HA : Hid (∀ w, Calls Tryz.prog 75 #[tariffV f s p c, stayV i pd a, .int .i64 now] w fun e w' => e = .returned (.int .i64 d1) ∧ Ext w w'))
    (HB : Hid (∀ w, Calls Tryz.prog 75 #[tariffV f s p c, stayV i pd a, .int .i64 a] w fun e w' => e = .returned (.int .i64 d2) ∧ Ext w w')) :
    Calls Tryz.prog 78 #[tariffV f s p c, stayV i pd a, .int .i64 now] w fun e w' => e = .returned (.bool false) ∧ Ext w w' := by
  go_enter Tryz.func78, Tryz.ntmps78
  go_wp2_with fail
  refine (HA.out _).mono ?_
  rintro e w1 ⟨rfl, h1'⟩
  have hz1 : w.heap.size < w1.heap.size := Nat.lt_of_lt_of_le (by simp; omega) h1'.sz
  have hz2 : w.heap.size + 1 < w1.heap.size := Nat.lt_of_lt_of_le (by simp) h1'.sz
  have hc1 := h1'.cells.1
  go_wp2_with fail
  refine (HA.out _).mono ?_
  rintro e w2 ⟨rfl, h2'⟩
  have hz3 := Nat.lt_of_lt_of_le hz1 h2'.sz
  have hz4 := Nat.lt_of_lt_of_le hz2 h2'.sz
  have hc2 := h2'.cells.1
  go_wp2_with fail
  refine (HB.out _).mono ?_
  rintro e w3 ⟨rfl, h3'⟩
  have hz5 := Nat.lt_of_lt_of_le hz3 h3'.sz
  have hz6 := Nat.lt_of_lt_of_le hz4 h3'.sz
  have hc3 := h3'.cells.1
  go_wp2
  go_ret
  exact ⟨ret_bool (by first | rfl | (simp; omega)), by (repeat' (first | exact Ext.refl _ | (with_reducible assumption) | (with_reducible refine Ext.alloc ?_ _) | (with_reducible refine Ext.setCell ?_ (by first | exact Nat.le_refl _ | (dsimp only; omega) | (simp; done) | (simp; omega)) _) | (with_reducible refine Ext.drew ?_) | (with_reducible refine Ext.drewN ?_ _) | (refine Ext.trans ?_ (by with_reducible assumption))))⟩
set_option maxRecDepth 100000 in
set_option maxHeartbeats 1000000 in
theorem specMl_4 (f s p c i pd a now d1 d2 : Int) (w : World) (h0 : 0 ≤ d1) (h2 : 0 ≤ d2) (h3 : a ≤ now) (h4 : now ≤ 9999) (h5 : 0 ≤ a) (t1 : (d1 == 0) = false) (t2 : now - a ≤ 15) (t3 : (d2 == 0) = false)
    (HA : Hid (∀ w, Calls Tryz.prog 75 #[tariffV f s p c, stayV i pd a, .int .i64 now] w fun e w' => e = .returned (.int .i64 d1) ∧ Ext w w'))
    (HB : Hid (∀ w, Calls Tryz.prog 75 #[tariffV f s p c, stayV i pd a, .int .i64 a] w fun e w' => e = .returned (.int .i64 d2) ∧ Ext w w')) :
    Calls Tryz.prog 78 #[tariffV f s p c, stayV i pd a, .int .i64 now] w fun e w' => e = .returned (.bool false) ∧ Ext w w' := by
  go_enter Tryz.func78, Tryz.ntmps78
  go_wp2_with fail
  refine (HA.out _).mono ?_
  rintro e w1 ⟨rfl, h1'⟩
  have hz1 : w.heap.size < w1.heap.size := Nat.lt_of_lt_of_le (by simp; omega) h1'.sz
  have hz2 : w.heap.size + 1 < w1.heap.size := Nat.lt_of_lt_of_le (by simp) h1'.sz
  have hc1 := h1'.cells.1
  go_wp2_with fail
  refine (HA.out _).mono ?_
  rintro e w2 ⟨rfl, h2'⟩
  have hz3 := Nat.lt_of_lt_of_le hz1 h2'.sz
  have hz4 := Nat.lt_of_lt_of_le hz2 h2'.sz
  have hc2 := h2'.cells.1
  go_wp2_with fail
  refine (HB.out _).mono ?_
  rintro e w3 ⟨rfl, h3'⟩
  have hz5 := Nat.lt_of_lt_of_le hz3 h3'.sz
  have hz6 := Nat.lt_of_lt_of_le hz4 h3'.sz
  have hc3 := h3'.cells.1
  go_wp2
  go_ret
  exact ⟨ret_bool (by first | rfl | (simp; omega)), by (repeat' (first | exact Ext.refl _ | (with_reducible assumption) | (with_reducible refine Ext.alloc ?_ _) | (with_reducible refine Ext.setCell ?_ (by first | exact Nat.le_refl _ | (dsimp only; omega) | (simp; done) | (simp; omega)) _) | (with_reducible refine Ext.drew ?_) | (with_reducible refine Ext.drewN ?_ _) | (refine Ext.trans ?_ (by with_reducible assumption))))⟩
theorem specMl (f s p c i pd a now : Int) (w : World) (h : tariffOk f s p c = true) (h2 : stayOk i pd a = true) (h3 : a ≤ now) (h4 : now ≤ 9999) : Calls Tryz.prog 78 #[tariffV f s p c, stayV i pd a, .int .i64 now] w fun e w' => e = .returned (.bool (mayLeave f s p c i pd a now)) ∧ Ext w w' := by
  obtain ⟨b1, b2, b3, b4, b5, b6⟩ := stay_parts h2
  have e1 : 0 ≤ stayDue f s p c i pd a now := by unfold stayDue; rw [if_pos (by simp [h, h2, h3, h4])]; omega
  have e2 : 0 ≤ stayDue f s p c i pd a a := by unfold stayDue; rw [if_pos (by simp [h, h2]; omega)]; omega
  have hr : mayLeave f s p c i pd a now = (decide (stayDue f s p c i pd a now = 0) || (decide (now - a ≤ 15) && decide (stayDue f s p c i pd a a = 0))) := by simp [mayLeave, e1]
  have hA := fun w => specSd f s p c i pd a now w h h2 h3 h4
  have hB := fun w => specSd f s p c i pd a a w h h2 (by omega) b6
  rw [hr]
  generalize stayDue f s p c i pd a now = d1 at *
  generalize stayDue f s p c i pd a a = d2 at *
  by_cases t1 : d1 = 0
  · rw [show (decide (d1 = 0) || (decide (now - a ≤ 15) && decide (d2 = 0))) = true by simp [t1]]
    exact specMl_0 f s p c i pd a now d1 d2 w e1 e2 h3 h4 (by omega) (by simp [t1]) hA hB
  · by_cases t2 : now - a ≤ 15
    · by_cases t3 : d2 = 0
      · rw [show (decide (d1 = 0) || (decide (now - a ≤ 15) && decide (d2 = 0))) = true by simp [t2, t3]]
        exact specMl_2 f s p c i pd a now d1 d2 w e1 e2 h3 h4 (by omega) (by simp [t1]) t2 (by simp [t3]) hA hB
      · rw [show (decide (d1 = 0) || (decide (now - a ≤ 15) && decide (d2 = 0))) = false by simp [t1, t3]]
        exact specMl_4 f s p c i pd a now d1 d2 w e1 e2 h3 h4 (by omega) (by simp [t1]) t2 (by simp [t3]) hA hB
    · by_cases t3 : d2 = 0
      · rw [show (decide (d1 = 0) || (decide (now - a ≤ 15) && decide (d2 = 0))) = false by simp [t1, t2]]
        exact specMl_1 f s p c i pd a now d1 d2 w e1 e2 h3 h4 (by omega) (by simp [t1]) (by omega) (by simp [t3]) hA hB
      · rw [show (decide (d1 = 0) || (decide (now - a ≤ 15) && decide (d2 = 0))) = false by simp [t1, t2]]
        exact specMl_3 f s p c i pd a now d1 d2 w e1 e2 h3 h4 (by omega) (by simp [t1]) (by omega) (by simp [t3]) hA hB

end Go.Proofs.YteejdnmmpmcmeaaGreatDoor
