/-
  The reference's DeedText at valid deeds; both functions DeedText at every deed. Condition: the library's table of powers of ten is laid.
-/
import Derived.Test.YtncfnlocdlhagaaDoorDeed2
namespace Go.Proofs.YtncfnlocdlhagaaDoor
open Go.RowKit
set_option linter.unusedVariables false

set_option maxRecDepth 100000 in
set_option maxHeartbeats 1000000 in
theorem l8Name_any (k : Int) (w : World) (hk : k = 0 ∨ k = 1 ∨ k = 2 ∨ k = 3 ∨ k = 4) : Calls Tryd.prog 84 #[.int .i64 k] w fun e w' => e = .returned (str (deedName k)) ∧ w = w' := by
  rcases hk with rfl | rfl | rfl | rfl | rfl
  all_goals
    go_enter Tryd.func84, Tryd.ntmps84
    go_wp2
    go_ret
    exact ⟨ret_str (by simp [deedName]), rfl⟩

set_option maxRecDepth 100000 in
set_option maxHeartbeats 1000000 in
theorem specDeed_one (k a : Int) (nm : List UInt8) (w : World) (t1 : (k == 1) = false) (t4 : (k == 4) = false) (h0 : 0 ≤ a) (h1 : a ≤ 9999) (hN : ∀ w, Calls Tryd.prog 84 #[.int .i64 k] w fun e w' => e = .returned (str nm) ∧ w = w') (he : nm.isEmpty = false) (hn : nm.length ≤ 5) :
    Calls Tryd.prog 80 #[deedV k a 0] w fun e w' => e = .returned (str (nm ++ [32] ++ Lib.decDigits a.toNat)) ∧ Ext w w' := by
  have hl : (Lib.decDigits a.toNat).length ≤ 21 := decDigits_len _ (by omega)
  have hs1 : ¬ 9223372036854775807 < nm.length + 1 := by omega
  have hs2 : ¬ 9223372036854775807 < nm.length + 1 + (Lib.decDigits a.toNat).length := by omega
  all_goals
    have HN := Lib.hid hN
    clear hN
    go_enter Tryd.func80, Tryd.ntmps80
    go_wp2_with (first | (go_at_call 84; refine (HN.out _).mono ?_; rintro e w1 ⟨rfl, rfl⟩) | go_in)
    go_region_held3 (fun w' => w'.cell? ⟨w.heap.size, 0, none⟩ = some (.int .i64 k) ∧ w'.cell? ⟨w.heap.size, 1, none⟩ = some (.int .i64 a)) (go_keep)
      (first | (go_at_call 84; refine (HN.out _).mono ?_; rintro e w1 ⟨rfl, rfl⟩) | (go_at_call 58; refine (l1Num a _ h0 (by omega)).mono ?_; rintro e w1 ⟨rfl, h1⟩; have hce := h1.cells.1))
    all_goals go_wp2
    all_goals go_ret
    all_goals exact ⟨ret_str (by simp), by (repeat' (first | exact Ext.refl _ | (with_reducible assumption) | (with_reducible refine Ext.alloc ?_ _) | (with_reducible refine Ext.setCell ?_ (by first | exact Nat.le_refl _ | (dsimp only; omega) | (simp; done) | (simp; omega)) _) | (with_reducible refine Ext.drew ?_) | (with_reducible refine Ext.drewN ?_ _) | (refine Ext.trans ?_ (by with_reducible assumption))))⟩

set_option maxRecDepth 100000 in
set_option maxHeartbeats 1000000 in
theorem specDeed_two (k a b : Int) (nm : List UInt8) (w : World) (hk : (k == 1) = true ∨ (k == 1) = false ∧ (k == 4) = true) (h0 : 0 ≤ a) (h1 : a ≤ 9999) (h2 : 0 ≤ b) (h3 : b ≤ 9999) (hN : ∀ w, Calls Tryd.prog 84 #[.int .i64 k] w fun e w' => e = .returned (str nm) ∧ w = w') (he : nm.isEmpty = false) (hn : nm.length ≤ 5) :
    Calls Tryd.prog 80 #[deedV k a b] w fun e w' => e = .returned (str (nm ++ [32] ++ Lib.decDigits a.toNat ++ ([32] ++ Lib.decDigits b.toNat))) ∧ Ext w w' := by
  have hl : (Lib.decDigits a.toNat).length ≤ 21 := decDigits_len _ (by omega)
  have hl2 : (Lib.decDigits b.toNat).length ≤ 21 := decDigits_len _ (by omega)
  have hs1 : ¬ 9223372036854775807 < nm.length + 1 := by omega
  have hs2 : ¬ 9223372036854775807 < nm.length + 1 + (Lib.decDigits a.toNat).length := by omega
  rcases hk with t1 | ⟨t1, t4⟩
  all_goals
    have HN := Lib.hid hN
    clear hN
    go_enter Tryd.func80, Tryd.ntmps80
    go_wp2_with (first | (go_at_call 84; refine (HN.out _).mono ?_; rintro e w1 ⟨rfl, rfl⟩) | go_in)
    go_region_held3 (fun w' => w'.cell? ⟨w.heap.size, 0, none⟩ = some (.int .i64 k) ∧ w'.cell? ⟨w.heap.size, 1, none⟩ = some (.int .i64 a) ∧ w'.cell? ⟨w.heap.size, 2, none⟩ = some (.int .i64 b)) (go_keep)
      (first | (go_at_call 84; refine (HN.out _).mono ?_; rintro e w1 ⟨rfl, rfl⟩) | (go_at_call 58; refine (l1Num a _ h0 (by omega)).mono ?_; rintro e w1 ⟨rfl, h1⟩; have hce := h1.cells.1))
    all_goals go_wp2_with (first | (go_at_call 58; refine (l1Num b _ h2 (by omega)).mono ?_; rintro e w2 ⟨rfl, h2⟩) | go_in)
    all_goals go_ret
    all_goals exact ⟨ret_str (by simp), by (repeat' (first | exact Ext.refl _ | (with_reducible assumption) | (with_reducible refine Ext.alloc ?_ _) | (with_reducible refine Ext.setCell ?_ (by first | exact Nat.le_refl _ | (dsimp only; omega) | (simp; done) | (simp; omega)) _) | (with_reducible refine Ext.drew ?_) | (with_reducible refine Ext.drewN ?_ _) | (refine Ext.trans ?_ (by with_reducible assumption))))⟩

theorem deedName_emp (k : Int) (hk : k = 0 ∨ k = 1 ∨ k = 2 ∨ k = 3 ∨ k = 4) : (deedName k).isEmpty = false ∧ (deedName k).length ≤ 5 := by
  rcases hk with rfl | rfl | rfl | rfl | rfl <;> decide

/-- spec.DeedText -/
theorem specDeed (k a b : Int) (w : World) : Calls Tryd.prog 80 #[deedV k a b] w fun e w' => e = .returned (str (deedText k a b)) ∧ Ext w w' := by
  by_cases hk : k = 0 ∨ k = 1 ∨ k = 2 ∨ k = 3 ∨ k = 4
  · by_cases hr : 0 ≤ a ∧ a ≤ 9999 ∧ 0 ≤ b ∧ b ≤ 9999
    · obtain ⟨h0, h1, h2, h3⟩ := hr
      obtain ⟨he, hn⟩ := deedName_emp k hk
      by_cases ht : k = 1 ∨ k = 4
      · have e : deedText k a b = deedName k ++ [32] ++ Lib.decDigits a.toNat ++ ([32] ++ Lib.decDigits b.toNat) := by
          rcases ht with rfl | rfl <;> simp [deedText, deedOk, deedTwo, h0, h1, h2, h3]
        rw [e]
        exact specDeed_two k a b _ w (by simp; omega) h0 h1 h2 h3 (fun w => l8Name_any k w hk) he hn
      · have ht' : k = 0 ∨ k = 2 ∨ k = 3 := by omega
        by_cases hb : b = 0
        · subst hb
          have e : deedText k a 0 = deedName k ++ [32] ++ Lib.decDigits a.toNat := by
            rcases ht' with rfl | rfl | rfl <;> simp [deedText, deedOk, deedTwo, h0, h1]
          rw [e]
          exact specDeed_one k a _ w (by simp; omega) (by simp; omega) h0 h1 (fun w => l8Name_any k w hk) he hn
        · have e : deedText k a b = [] := by
            rcases ht' with rfl | rfl | rfl <;> simp [deedText, deedOk, deedTwo, hb]
          rw [e]
          exact specDeed_bad3 k a b w ht' h0 h1 h2 h3 (by simp [hb])
    · have e : deedText k a b = [] := by
        unfold deedText; rw [if_neg]; simp [deedOk]; omega
      rw [e]
      exact specDeed_bad2 k a b w hk (by omega)
  · have e : deedText k a b = [] := by
      unfold deedText; rw [if_neg]; simp [deedOk]; omega
    rw [e]
    exact specDeed_bad k a b w (by simp; omega)

/-- impl.DeedText -/
theorem implDeed (k a b : Int) (w : World) (hE : Env w) : Calls Tryd.prog 46 #[deedV k a b] w fun e w' => e = .returned (str (deedText k a b)) ∧ Ext w w' := by
  by_cases hr : 0 ≤ a ∧ a ≤ 9999 ∧ 0 ≤ b ∧ b ≤ 9999
  · obtain ⟨h0, h1, h2, h3⟩ := hr
    by_cases ht : k = 1 ∨ k = 4
    · have e : deedText k a b = deedName k ++ [32] ++ Lib.decDigits a.toNat ++ ([32] ++ Lib.decDigits b.toNat) := by
        rcases ht with rfl | rfl <;> simp [deedText, deedOk, deedTwo, h0, h1, h2, h3]
      rw [e]
      exact implDeed_two k a b w hE ht h0 h1 h2 h3
    · by_cases hb : b = 0
      · subst hb
        by_cases hk : k = 0 ∨ k = 2 ∨ k = 3
        · have e : deedText k a 0 = deedName k ++ [32] ++ Lib.decDigits a.toNat := by
            rcases hk with rfl | rfl | rfl <;> simp [deedText, deedOk, deedTwo, h0, h1]
          rw [e]
          exact implDeed_one k a w hE hk h0 h1
        · have e : deedText k a 0 = [] := by
            unfold deedText; rw [if_neg]; simp [deedOk]; omega
          rw [e]
          exact implDeed_bad k a 0 w (.inr (.inr (.inr (.inr (.inr ⟨h0, h1, by omega, by omega, by simp; omega, by simp; omega, by simp, by simp; omega, by simp; omega, by simp; omega⟩)))))
      · have e : deedText k a b = [] := by
          unfold deedText; rw [if_neg]; simp [deedOk, deedTwo]; omega
        rw [e]
        exact implDeed_bad k a b w (.inr (.inr (.inr (.inr (.inl ⟨h0, h1, h2, h3, by simp; omega, by simp; omega, by simp [hb]⟩)))))
  · have e : deedText k a b = [] := by
      unfold deedText; rw [if_neg]; simp [deedOk]; omega
    rw [e]
    exact implDeed_bad k a b w (by omega)
end Go.Proofs.YtncfnlocdlhagaaDoor
