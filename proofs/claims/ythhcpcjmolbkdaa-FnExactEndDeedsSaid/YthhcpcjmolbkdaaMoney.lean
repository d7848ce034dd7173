/-
  Tariffs and stays: both packages' TariffValid, StayValid, FeeSteps, FeeOf, StayDue, MayLeave compute the same plain functions. No condition.
-/
import Derived.Test.YthhcpcjmolbkdaaBlk
import Derived.WalkLawsBesides
namespace Go.Proofs.Ythhcpcjmolbkdaa
open Go.RowKit
set_option linter.unusedVariables false

def tariffOk (f s p c : Int) : Bool := decide (0 ≤ f ∧ f < 1440 ∧ 1 ≤ s ∧ s ≤ 1440 ∧ 0 ≤ p ∧ p ≤ 99 ∧ 0 ≤ c ∧ c ≤ 99)
def stayOk (i p a : Int) : Bool := decide (0 ≤ i ∧ i ≤ 9999 ∧ 0 ≤ p ∧ p ≤ 9999 ∧ i ≤ a ∧ a ≤ 9999)
def feeSteps (f s m : Int) : Int := if m ≤ f then 0 else (m - f + s - 1) / s
def feeOf (f s p c m : Int) : Int := m / 1440 * c + min (feeSteps f s (m % 1440) * p) c
def stayDue (f s p c i pd a now : Int) : Int := if tariffOk f s p c && stayOk i pd a && decide (a ≤ now ∧ now ≤ 9999) then max (feeOf f s p c (now - i) - pd) 0 else -1
def mayLeave (f s p c i pd a now : Int) : Bool :=
  decide (stayDue f s p c i pd a now = 0) || (decide (0 ≤ stayDue f s p c i pd a now) && decide (now - a ≤ 15) && decide (stayDue f s p c i pd a a = 0))

abbrev tariffV (f s p c : Int) : Value := .agg #[.int .i64 f, .int .i64 s, .int .i64 p, .int .i64 c]
abbrev stayV (i p a : Int) : Value := .agg #[.int .i64 i, .int .i64 p, .int .i64 a]

theorem tariff_parts {f s p c : Int} (h : tariffOk f s p c = true) : 0 ≤ f ∧ f < 1440 ∧ 1 ≤ s ∧ s ≤ 1440 ∧ 0 ≤ p ∧ p ≤ 99 ∧ 0 ≤ c ∧ c ≤ 99 := by simpa [tariffOk] using h
theorem stay_parts {i p a : Int} (h : stayOk i p a = true) : 0 ≤ i ∧ i ≤ 9999 ∧ 0 ≤ p ∧ p ≤ 9999 ∧ i ≤ a ∧ a ≤ 9999 := by simpa [stayOk] using h
theorem feeSteps_bd {f s m : Int} (h0 : 0 ≤ f) (h1 : 1 ≤ s) (hm : m ≤ 9999) : 0 ≤ feeSteps f s m ∧ feeSteps f s m ≤ 9999 := by
  unfold feeSteps
  split
  · omega
  · refine ⟨Int.ediv_nonneg (by omega) (by omega), ?_⟩
    have : (m - f + s - 1) / s ≤ m - f := by
      apply Int.ediv_le_of_le_mul (by omega)
      have : (m - f) * s ≥ (m - f) * 1 := Int.mul_le_mul_of_nonneg_left h1 (by omega)
      have h2 : (m - f) * s = (m - f - 1) * s + s := by rw [Int.sub_mul (m - f) 1 s]; omega
      have h3 : (m - f - 1) * s ≥ (m - f - 1) * 1 := Int.mul_le_mul_of_nonneg_left h1 (by omega)
      omega
    omega
theorem feeSteps_alt {f s m : Int} (h1 : 1 ≤ s) : (max (m - f) 0 + s - 1) / s = feeSteps f s m := by
  unfold feeSteps
  split
  · rw [show max (m - f) 0 = 0 by omega]
    exact Int.ediv_eq_zero_of_lt (by omega) (by omega)
  · rw [show max (m - f) 0 = m - f by omega]
theorem feeMul_bd {x p : Int} (hx : 0 ≤ x) (hx2 : x ≤ 9999) (h0 : 0 ≤ p) (h1 : p ≤ 99) : 0 ≤ x * p ∧ x * p ≤ 989901 := by
  refine ⟨Int.mul_nonneg hx h0, ?_⟩
  have := Int.mul_le_mul hx2 h1 h0 (by omega)
  omega
theorem feeOf_bd {f s p c m : Int} (h : tariffOk f s p c = true) (h0 : 0 ≤ m) (h1 : m ≤ 9999) : 0 ≤ feeOf f s p c m ∧ feeOf f s p c m ≤ 693 := by
  obtain ⟨a1, a2, a3, a4, a5, a6, a7, a8⟩ := tariff_parts h
  obtain ⟨b1, b2⟩ := feeSteps_bd (m := m % 1440) a1 a3 (by omega)
  obtain ⟨d1, d2⟩ := feeMul_bd b1 b2 a5 a6
  unfold feeOf
  have e1 : 0 ≤ m / 1440 * c := Int.mul_nonneg (by omega) a7
  have e2 : m / 1440 * c ≤ 6 * 99 := Int.mul_le_mul (by omega) a8 a7 (by omega)
  omega

set_option maxRecDepth 100000 in
set_option maxHeartbeats 1000000 in
theorem implTv (f s p c : Int) (w : World) : Calls Try.prog 53 #[tariffV f s p c] w fun e w' => e = .returned (.bool (tariffOk f s p c)) ∧ Ext w w' := by
  by_cases c1 : 0 ≤ f
  · by_cases c2 : f < 1440
    · by_cases c3 : 1 ≤ s
      · by_cases c4 : s ≤ 1440
        · by_cases c5 : 0 ≤ p
          · by_cases c6 : p ≤ 99
            · by_cases c7 : 0 ≤ c
              · by_cases c8 : c ≤ 99
                · go_enter Try.func53, Try.ntmps53
                  go_wp2
                  go_ret
                  exact ⟨ret_bool (by simp [tariffOk]; omega), by (repeat' (first | exact Ext.refl _ | (with_reducible assumption) | (with_reducible refine Ext.alloc ?_ _) | (with_reducible refine Ext.setCell ?_ (by first | exact Nat.le_refl _ | (dsimp only; omega) | (simp; done) | (simp; omega)) _) | (with_reducible refine Ext.drew ?_) | (with_reducible refine Ext.drewN ?_ _) | (refine Ext.trans ?_ (by with_reducible assumption))))⟩
                · go_enter Try.func53, Try.ntmps53
                  go_wp2
                  go_ret
                  exact ⟨ret_bool (by simp [tariffOk]; omega), by (repeat' (first | exact Ext.refl _ | (with_reducible assumption) | (with_reducible refine Ext.alloc ?_ _) | (with_reducible refine Ext.setCell ?_ (by first | exact Nat.le_refl _ | (dsimp only; omega) | (simp; done) | (simp; omega)) _) | (with_reducible refine Ext.drew ?_) | (with_reducible refine Ext.drewN ?_ _) | (refine Ext.trans ?_ (by with_reducible assumption))))⟩
              · go_enter Try.func53, Try.ntmps53
                go_wp2
                go_ret
                exact ⟨ret_bool (by simp [tariffOk]; omega), by (repeat' (first | exact Ext.refl _ | (with_reducible assumption) | (with_reducible refine Ext.alloc ?_ _) | (with_reducible refine Ext.setCell ?_ (by first | exact Nat.le_refl _ | (dsimp only; omega) | (simp; done) | (simp; omega)) _) | (with_reducible refine Ext.drew ?_) | (with_reducible refine Ext.drewN ?_ _) | (refine Ext.trans ?_ (by with_reducible assumption))))⟩
            · go_enter Try.func53, Try.ntmps53
              go_wp2
              go_ret
              exact ⟨ret_bool (by simp [tariffOk]; omega), by (repeat' (first | exact Ext.refl _ | (with_reducible assumption) | (with_reducible refine Ext.alloc ?_ _) | (with_reducible refine Ext.setCell ?_ (by first | exact Nat.le_refl _ | (dsimp only; omega) | (simp; done) | (simp; omega)) _) | (with_reducible refine Ext.drew ?_) | (with_reducible refine Ext.drewN ?_ _) | (refine Ext.trans ?_ (by with_reducible assumption))))⟩
          · go_enter Try.func53, Try.ntmps53
            go_wp2
            go_ret
            exact ⟨ret_bool (by simp [tariffOk]; omega), by (repeat' (first | exact Ext.refl _ | (with_reducible assumption) | (with_reducible refine Ext.alloc ?_ _) | (with_reducible refine Ext.setCell ?_ (by first | exact Nat.le_refl _ | (dsimp only; omega) | (simp; done) | (simp; omega)) _) | (with_reducible refine Ext.drew ?_) | (with_reducible refine Ext.drewN ?_ _) | (refine Ext.trans ?_ (by with_reducible assumption))))⟩
        · go_enter Try.func53, Try.ntmps53
          go_wp2
          go_ret
          exact ⟨ret_bool (by simp [tariffOk]; omega), by (repeat' (first | exact Ext.refl _ | (with_reducible assumption) | (with_reducible refine Ext.alloc ?_ _) | (with_reducible refine Ext.setCell ?_ (by first | exact Nat.le_refl _ | (dsimp only; omega) | (simp; done) | (simp; omega)) _) | (with_reducible refine Ext.drew ?_) | (with_reducible refine Ext.drewN ?_ _) | (refine Ext.trans ?_ (by with_reducible assumption))))⟩
      · go_enter Try.func53, Try.ntmps53
        go_wp2
        go_ret
        exact ⟨ret_bool (by simp [tariffOk]; omega), by (repeat' (first | exact Ext.refl _ | (with_reducible assumption) | (with_reducible refine Ext.alloc ?_ _) | (with_reducible refine Ext.setCell ?_ (by first | exact Nat.le_refl _ | (dsimp only; omega) | (simp; done) | (simp; omega)) _) | (with_reducible refine Ext.drew ?_) | (with_reducible refine Ext.drewN ?_ _) | (refine Ext.trans ?_ (by with_reducible assumption))))⟩
    · go_enter Try.func53, Try.ntmps53
      go_wp2
      go_ret
      exact ⟨ret_bool (by simp [tariffOk]; omega), by (repeat' (first | exact Ext.refl _ | (with_reducible assumption) | (with_reducible refine Ext.alloc ?_ _) | (with_reducible refine Ext.setCell ?_ (by first | exact Nat.le_refl _ | (dsimp only; omega) | (simp; done) | (simp; omega)) _) | (with_reducible refine Ext.drew ?_) | (with_reducible refine Ext.drewN ?_ _) | (refine Ext.trans ?_ (by with_reducible assumption))))⟩
  · go_enter Try.func53, Try.ntmps53
    go_wp2
    go_ret
    exact ⟨ret_bool (by simp [tariffOk]; omega), by (repeat' (first | exact Ext.refl _ | (with_reducible assumption) | (with_reducible refine Ext.alloc ?_ _) | (with_reducible refine Ext.setCell ?_ (by first | exact Nat.le_refl _ | (dsimp only; omega) | (simp; done) | (simp; omega)) _) | (with_reducible refine Ext.drew ?_) | (with_reducible refine Ext.drewN ?_ _) | (refine Ext.trans ?_ (by with_reducible assumption))))⟩
set_option maxRecDepth 100000 in
set_option maxHeartbeats 1000000 in
theorem specTv (f s p c : Int) (w : World) : Calls Try.prog 46 #[tariffV f s p c] w fun e w' => e = .returned (.bool (tariffOk f s p c)) ∧ Ext w w' := by
  by_cases c1 : 0 ≤ f
  · by_cases c2 : f < 1440
    · by_cases c3 : 1 ≤ s
      · by_cases c4 : s ≤ 1440
        · by_cases c5 : 0 ≤ p
          · by_cases c6 : p ≤ 99
            · by_cases c7 : 0 ≤ c
              · by_cases c8 : c ≤ 99
                · go_enter Try.func46, Try.ntmps46
                  go_wp2_with go_in
                  go_ret
                  exact ⟨ret_bool (by simp [tariffOk]; omega), by (repeat' (first | exact Ext.refl _ | (with_reducible assumption) | (with_reducible refine Ext.alloc ?_ _) | (with_reducible refine Ext.setCell ?_ (by first | exact Nat.le_refl _ | (dsimp only; omega) | (simp; done) | (simp; omega)) _) | (with_reducible refine Ext.drew ?_) | (with_reducible refine Ext.drewN ?_ _) | (refine Ext.trans ?_ (by with_reducible assumption))))⟩
                · go_enter Try.func46, Try.ntmps46
                  go_wp2_with go_in
                  go_ret
                  exact ⟨ret_bool (by simp [tariffOk]; omega), by (repeat' (first | exact Ext.refl _ | (with_reducible assumption) | (with_reducible refine Ext.alloc ?_ _) | (with_reducible refine Ext.setCell ?_ (by first | exact Nat.le_refl _ | (dsimp only; omega) | (simp; done) | (simp; omega)) _) | (with_reducible refine Ext.drew ?_) | (with_reducible refine Ext.drewN ?_ _) | (refine Ext.trans ?_ (by with_reducible assumption))))⟩
              · go_enter Try.func46, Try.ntmps46
                go_wp2_with go_in
                go_ret
                exact ⟨ret_bool (by simp [tariffOk]; omega), by (repeat' (first | exact Ext.refl _ | (with_reducible assumption) | (with_reducible refine Ext.alloc ?_ _) | (with_reducible refine Ext.setCell ?_ (by first | exact Nat.le_refl _ | (dsimp only; omega) | (simp; done) | (simp; omega)) _) | (with_reducible refine Ext.drew ?_) | (with_reducible refine Ext.drewN ?_ _) | (refine Ext.trans ?_ (by with_reducible assumption))))⟩
            · go_enter Try.func46, Try.ntmps46
              go_wp2_with go_in
              go_ret
              exact ⟨ret_bool (by simp [tariffOk]; omega), by (repeat' (first | exact Ext.refl _ | (with_reducible assumption) | (with_reducible refine Ext.alloc ?_ _) | (with_reducible refine Ext.setCell ?_ (by first | exact Nat.le_refl _ | (dsimp only; omega) | (simp; done) | (simp; omega)) _) | (with_reducible refine Ext.drew ?_) | (with_reducible refine Ext.drewN ?_ _) | (refine Ext.trans ?_ (by with_reducible assumption))))⟩
          · go_enter Try.func46, Try.ntmps46
            go_wp2_with go_in
            go_ret
            exact ⟨ret_bool (by simp [tariffOk]; omega), by (repeat' (first | exact Ext.refl _ | (with_reducible assumption) | (with_reducible refine Ext.alloc ?_ _) | (with_reducible refine Ext.setCell ?_ (by first | exact Nat.le_refl _ | (dsimp only; omega) | (simp; done) | (simp; omega)) _) | (with_reducible refine Ext.drew ?_) | (with_reducible refine Ext.drewN ?_ _) | (refine Ext.trans ?_ (by with_reducible assumption))))⟩
        · go_enter Try.func46, Try.ntmps46
          go_wp2_with go_in
          go_ret
          exact ⟨ret_bool (by simp [tariffOk]; omega), by (repeat' (first | exact Ext.refl _ | (with_reducible assumption) | (with_reducible refine Ext.alloc ?_ _) | (with_reducible refine Ext.setCell ?_ (by first | exact Nat.le_refl _ | (dsimp only; omega) | (simp; done) | (simp; omega)) _) | (with_reducible refine Ext.drew ?_) | (with_reducible refine Ext.drewN ?_ _) | (refine Ext.trans ?_ (by with_reducible assumption))))⟩
      · go_enter Try.func46, Try.ntmps46
        go_wp2_with go_in
        go_ret
        exact ⟨ret_bool (by simp [tariffOk]; omega), by (repeat' (first | exact Ext.refl _ | (with_reducible assumption) | (with_reducible refine Ext.alloc ?_ _) | (with_reducible refine Ext.setCell ?_ (by first | exact Nat.le_refl _ | (dsimp only; omega) | (simp; done) | (simp; omega)) _) | (with_reducible refine Ext.drew ?_) | (with_reducible refine Ext.drewN ?_ _) | (refine Ext.trans ?_ (by with_reducible assumption))))⟩
    · go_enter Try.func46, Try.ntmps46
      go_wp2_with go_in
      go_ret
      exact ⟨ret_bool (by simp [tariffOk]; omega), by (repeat' (first | exact Ext.refl _ | (with_reducible assumption) | (with_reducible refine Ext.alloc ?_ _) | (with_reducible refine Ext.setCell ?_ (by first | exact Nat.le_refl _ | (dsimp only; omega) | (simp; done) | (simp; omega)) _) | (with_reducible refine Ext.drew ?_) | (with_reducible refine Ext.drewN ?_ _) | (refine Ext.trans ?_ (by with_reducible assumption))))⟩
  · go_enter Try.func46, Try.ntmps46
    go_wp2_with go_in
    go_ret
    exact ⟨ret_bool (by simp [tariffOk]; omega), by (repeat' (first | exact Ext.refl _ | (with_reducible assumption) | (with_reducible refine Ext.alloc ?_ _) | (with_reducible refine Ext.setCell ?_ (by first | exact Nat.le_refl _ | (dsimp only; omega) | (simp; done) | (simp; omega)) _) | (with_reducible refine Ext.drew ?_) | (with_reducible refine Ext.drewN ?_ _) | (refine Ext.trans ?_ (by with_reducible assumption))))⟩
set_option maxRecDepth 100000 in
set_option maxHeartbeats 1000000 in
theorem implSv (i p a : Int) (w : World) : Calls Try.prog 54 #[stayV i p a] w fun e w' => e = .returned (.bool (stayOk i p a)) ∧ Ext w w' := by
  by_cases c1 : 0 ≤ i
  · by_cases c2 : i ≤ 9999
    · by_cases c3 : 0 ≤ p
      · by_cases c4 : p ≤ 9999
        · by_cases c5 : i ≤ a
          · by_cases c6 : a ≤ 9999
            · go_enter Try.func54, Try.ntmps54
              go_wp2
              go_ret
              exact ⟨ret_bool (by simp [stayOk]; omega), by (repeat' (first | exact Ext.refl _ | (with_reducible assumption) | (with_reducible refine Ext.alloc ?_ _) | (with_reducible refine Ext.setCell ?_ (by first | exact Nat.le_refl _ | (dsimp only; omega) | (simp; done) | (simp; omega)) _) | (with_reducible refine Ext.drew ?_) | (with_reducible refine Ext.drewN ?_ _) | (refine Ext.trans ?_ (by with_reducible assumption))))⟩
            · go_enter Try.func54, Try.ntmps54
              go_wp2
              go_ret
              exact ⟨ret_bool (by simp [stayOk]; omega), by (repeat' (first | exact Ext.refl _ | (with_reducible assumption) | (with_reducible refine Ext.alloc ?_ _) | (with_reducible refine Ext.setCell ?_ (by first | exact Nat.le_refl _ | (dsimp only; omega) | (simp; done) | (simp; omega)) _) | (with_reducible refine Ext.drew ?_) | (with_reducible refine Ext.drewN ?_ _) | (refine Ext.trans ?_ (by with_reducible assumption))))⟩
          · go_enter Try.func54, Try.ntmps54
            go_wp2
            go_ret
            exact ⟨ret_bool (by simp [stayOk]; omega), by (repeat' (first | exact Ext.refl _ | (with_reducible assumption) | (with_reducible refine Ext.alloc ?_ _) | (with_reducible refine Ext.setCell ?_ (by first | exact Nat.le_refl _ | (dsimp only; omega) | (simp; done) | (simp; omega)) _) | (with_reducible refine Ext.drew ?_) | (with_reducible refine Ext.drewN ?_ _) | (refine Ext.trans ?_ (by with_reducible assumption))))⟩
        · go_enter Try.func54, Try.ntmps54
          go_wp2
          go_ret
          exact ⟨ret_bool (by simp [stayOk]; omega), by (repeat' (first | exact Ext.refl _ | (with_reducible assumption) | (with_reducible refine Ext.alloc ?_ _) | (with_reducible refine Ext.setCell ?_ (by first | exact Nat.le_refl _ | (dsimp only; omega) | (simp; done) | (simp; omega)) _) | (with_reducible refine Ext.drew ?_) | (with_reducible refine Ext.drewN ?_ _) | (refine Ext.trans ?_ (by with_reducible assumption))))⟩
      · go_enter Try.func54, Try.ntmps54
        go_wp2
        go_ret
        exact ⟨ret_bool (by simp [stayOk]; omega), by (repeat' (first | exact Ext.refl _ | (with_reducible assumption) | (with_reducible refine Ext.alloc ?_ _) | (with_reducible refine Ext.setCell ?_ (by first | exact Nat.le_refl _ | (dsimp only; omega) | (simp; done) | (simp; omega)) _) | (with_reducible refine Ext.drew ?_) | (with_reducible refine Ext.drewN ?_ _) | (refine Ext.trans ?_ (by with_reducible assumption))))⟩
    · go_enter Try.func54, Try.ntmps54
      go_wp2
      go_ret
      exact ⟨ret_bool (by simp [stayOk]; omega), by (repeat' (first | exact Ext.refl _ | (with_reducible assumption) | (with_reducible refine Ext.alloc ?_ _) | (with_reducible refine Ext.setCell ?_ (by first | exact Nat.le_refl _ | (dsimp only; omega) | (simp; done) | (simp; omega)) _) | (with_reducible refine Ext.drew ?_) | (with_reducible refine Ext.drewN ?_ _) | (refine Ext.trans ?_ (by with_reducible assumption))))⟩
  · go_enter Try.func54, Try.ntmps54
    go_wp2
    go_ret
    exact ⟨ret_bool (by simp [stayOk]; omega), by (repeat' (first | exact Ext.refl _ | (with_reducible assumption) | (with_reducible refine Ext.alloc ?_ _) | (with_reducible refine Ext.setCell ?_ (by first | exact Nat.le_refl _ | (dsimp only; omega) | (simp; done) | (simp; omega)) _) | (with_reducible refine Ext.drew ?_) | (with_reducible refine Ext.drewN ?_ _) | (refine Ext.trans ?_ (by with_reducible assumption))))⟩
set_option maxRecDepth 100000 in
set_option maxHeartbeats 1000000 in
theorem specSv (i p a : Int) (w : World) : Calls Try.prog 48 #[stayV i p a] w fun e w' => e = .returned (.bool (stayOk i p a)) ∧ Ext w w' := by
  by_cases c1 : 0 ≤ i
  · by_cases c2 : i ≤ 9999
    · by_cases c3 : 0 ≤ p
      · by_cases c4 : p ≤ 9999
        · by_cases c5 : i ≤ a
          · by_cases c6 : a ≤ 9999
            · go_enter Try.func48, Try.ntmps48
              go_wp2_with go_in
              go_ret
              exact ⟨ret_bool (by simp [stayOk]; omega), by (repeat' (first | exact Ext.refl _ | (with_reducible assumption) | (with_reducible refine Ext.alloc ?_ _) | (with_reducible refine Ext.setCell ?_ (by first | exact Nat.le_refl _ | (dsimp only; omega) | (simp; done) | (simp; omega)) _) | (with_reducible refine Ext.drew ?_) | (with_reducible refine Ext.drewN ?_ _) | (refine Ext.trans ?_ (by with_reducible assumption))))⟩
            · go_enter Try.func48, Try.ntmps48
              go_wp2_with go_in
              go_ret
              exact ⟨ret_bool (by simp [stayOk]; omega), by (repeat' (first | exact Ext.refl _ | (with_reducible assumption) | (with_reducible refine Ext.alloc ?_ _) | (with_reducible refine Ext.setCell ?_ (by first | exact Nat.le_refl _ | (dsimp only; omega) | (simp; done) | (simp; omega)) _) | (with_reducible refine Ext.drew ?_) | (with_reducible refine Ext.drewN ?_ _) | (refine Ext.trans ?_ (by with_reducible assumption))))⟩
          · go_enter Try.func48, Try.ntmps48
            go_wp2_with go_in
            go_ret
            exact ⟨ret_bool (by simp [stayOk]; omega), by (repeat' (first | exact Ext.refl _ | (with_reducible assumption) | (with_reducible refine Ext.alloc ?_ _) | (with_reducible refine Ext.setCell ?_ (by first | exact Nat.le_refl _ | (dsimp only; omega) | (simp; done) | (simp; omega)) _) | (with_reducible refine Ext.drew ?_) | (with_reducible refine Ext.drewN ?_ _) | (refine Ext.trans ?_ (by with_reducible assumption))))⟩
        · go_enter Try.func48, Try.ntmps48
          go_wp2_with go_in
          go_ret
          exact ⟨ret_bool (by simp [stayOk]; omega), by (repeat' (first | exact Ext.refl _ | (with_reducible assumption) | (with_reducible refine Ext.alloc ?_ _) | (with_reducible refine Ext.setCell ?_ (by first | exact Nat.le_refl _ | (dsimp only; omega) | (simp; done) | (simp; omega)) _) | (with_reducible refine Ext.drew ?_) | (with_reducible refine Ext.drewN ?_ _) | (refine Ext.trans ?_ (by with_reducible assumption))))⟩
      · go_enter Try.func48, Try.ntmps48
        go_wp2_with go_in
        go_ret
        exact ⟨ret_bool (by simp [stayOk]; omega), by (repeat' (first | exact Ext.refl _ | (with_reducible assumption) | (with_reducible refine Ext.alloc ?_ _) | (with_reducible refine Ext.setCell ?_ (by first | exact Nat.le_refl _ | (dsimp only; omega) | (simp; done) | (simp; omega)) _) | (with_reducible refine Ext.drew ?_) | (with_reducible refine Ext.drewN ?_ _) | (refine Ext.trans ?_ (by with_reducible assumption))))⟩
    · go_enter Try.func48, Try.ntmps48
      go_wp2_with go_in
      go_ret
      exact ⟨ret_bool (by simp [stayOk]; omega), by (repeat' (first | exact Ext.refl _ | (with_reducible assumption) | (with_reducible refine Ext.alloc ?_ _) | (with_reducible refine Ext.setCell ?_ (by first | exact Nat.le_refl _ | (dsimp only; omega) | (simp; done) | (simp; omega)) _) | (with_reducible refine Ext.drew ?_) | (with_reducible refine Ext.drewN ?_ _) | (refine Ext.trans ?_ (by with_reducible assumption))))⟩
  · go_enter Try.func48, Try.ntmps48
    go_wp2_with go_in
    go_ret
    exact ⟨ret_bool (by simp [stayOk]; omega), by (repeat' (first | exact Ext.refl _ | (with_reducible assumption) | (with_reducible refine Ext.alloc ?_ _) | (with_reducible refine Ext.setCell ?_ (by first | exact Nat.le_refl _ | (dsimp only; omega) | (simp; done) | (simp; omega)) _) | (with_reducible refine Ext.drew ?_) | (with_reducible refine Ext.drewN ?_ _) | (refine Ext.trans ?_ (by with_reducible assumption))))⟩

set_option maxRecDepth 100000 in
set_option maxHeartbeats 1000000 in
theorem implFs (f s p c m : Int) (w : World) (h : tariffOk f s p c = true) (h0 : 0 ≤ m) (h1 : m ≤ 9999) : Calls Try.prog 65 #[tariffV f s p c, .int .i64 m] w fun e w' => e = .returned (.int .i64 (feeSteps f s m)) ∧ Ext w w' := by
  obtain ⟨a1, a2, a3, a4, a5, a6, a7, a8⟩ := tariff_parts h
  have HT : Hid (∀ w, Calls Try.prog 53 #[tariffV f s p c] w fun e w' => e = .returned (.bool true) ∧ Ext w w') := fun w => by rw [← h]; exact implTv f s p c w
  have HB := Lib.hid (feeSteps_bd (m := m) a1 a3 h1)
  clear h
  by_cases hm : m ≤ f
  · have hf : Hid (feeSteps f s m = 0) := if_pos hm
    go_enter Try.func65, Try.ntmps65
    go_wp2_with fail
    refine (HT.out _).mono ?_
    rintro e w1 ⟨rfl, h1'⟩
    have hce := h1'.cells.1
    go_wp2
    go_ret
    exact ⟨ret_int hf.out.symm, by (repeat' (first | exact Ext.refl _ | (with_reducible assumption) | (with_reducible refine Ext.alloc ?_ _) | (with_reducible refine Ext.setCell ?_ (by first | exact Nat.le_refl _ | (dsimp only; omega) | (simp; done) | (simp; omega)) _) | (with_reducible refine Ext.drew ?_) | (with_reducible refine Ext.drewN ?_ _) | (refine Ext.trans ?_ (by with_reducible assumption))))⟩
  · have hf : Hid (feeSteps f s m = (m - f + s - 1) / s) := if_neg hm
    go_enter Try.func65, Try.ntmps65
    go_wp2_with fail
    refine (HT.out _).mono ?_
    rintro e w1 ⟨rfl, h1'⟩
    have hce := h1'.cells.1
    go_wp2
    go_ret
    exact ⟨ret_int hf.out.symm, by (repeat' (first | exact Ext.refl _ | (with_reducible assumption) | (with_reducible refine Ext.alloc ?_ _) | (with_reducible refine Ext.setCell ?_ (by first | exact Nat.le_refl _ | (dsimp only; omega) | (simp; done) | (simp; omega)) _) | (with_reducible refine Ext.drew ?_) | (with_reducible refine Ext.drewN ?_ _) | (refine Ext.trans ?_ (by with_reducible assumption))))⟩
set_option maxRecDepth 100000 in
set_option maxHeartbeats 1000000 in
theorem specFs (f s p c m : Int) (w : World) (h : tariffOk f s p c = true) (h0 : 0 ≤ m) (h1 : m ≤ 9999) : Calls Try.prog 60 #[tariffV f s p c, .int .i64 m] w fun e w' => e = .returned (.int .i64 (feeSteps f s m)) ∧ Ext w w' := by
  obtain ⟨a1, a2, a3, a4, a5, a6, a7, a8⟩ := tariff_parts h
  have HT : Hid (∀ w, Calls Try.prog 46 #[tariffV f s p c] w fun e w' => e = .returned (.bool true) ∧ Ext w w') := fun w => by rw [← h]; exact specTv f s p c w
  have hf := Lib.hid (feeSteps_alt (f := f) (m := m) a3)
  clear h
  go_enter Try.func60, Try.ntmps60
  go_wp2_with (first | (go_at_call 46; refine (HT.out _).mono ?_; rintro e w1 ⟨rfl, h1'⟩; have hce := h1'.cells.1) | go_in)
  all_goals go_ret
  all_goals exact ⟨ret_int (by rw [← hf.out]; congr 1; omega), by (repeat' (first | exact Ext.refl _ | (with_reducible assumption) | (with_reducible refine Ext.alloc ?_ _) | (with_reducible refine Ext.setCell ?_ (by first | exact Nat.le_refl _ | (dsimp only; omega) | (simp; done) | (simp; omega)) _) | (with_reducible refine Ext.drew ?_) | (with_reducible refine Ext.drewN ?_ _) | (refine Ext.trans ?_ (by with_reducible assumption))))⟩

set_option maxRecDepth 100000 in
set_option maxHeartbeats 1000000 in
theorem implFo (f s p c m : Int) (w : World) (h : tariffOk f s p c = true) (h0 : 0 ≤ m) (h1 : m ≤ 9999) : Calls Try.prog 57 #[tariffV f s p c, .int .i64 m] w fun e w' => e = .returned (.int .i64 (feeOf f s p c m)) ∧ Ext w w' := by
  obtain ⟨a1, a2, a3, a4, a5, a6, a7, a8⟩ := tariff_parts h
  have HT : Hid (∀ w, Calls Try.prog 53 #[tariffV f s p c] w fun e w' => e = .returned (.bool true) ∧ Ext w w') := fun w => by rw [← h]; exact implTv f s p c w
  obtain ⟨q, hq⟩ : ∃ q, q = feeSteps f s (m % 1440) := ⟨_, rfl⟩
  have hqb : 0 ≤ q ∧ q ≤ 9999 := by rw [hq]; exact feeSteps_bd a1 a3 (by omega)
  obtain ⟨q2, hq2⟩ : ∃ q, q = feeSteps f s m := ⟨_, rfl⟩
  have hqb2 : 0 ≤ q2 ∧ q2 ≤ 9999 := by rw [hq2]; exact feeSteps_bd a1 a3 (by omega)
  have HF : Hid (∀ w, Calls Try.prog 65 #[tariffV f s p c, .int .i64 (m % 1440)] w fun e w' => e = .returned (.int .i64 q) ∧ Ext w w') := fun w => by rw [hq]; exact implFs f s p c _ w h (by omega) (by omega)
  have HF2 : Hid (∀ w, Calls Try.prog 65 #[tariffV f s p c, .int .i64 m] w fun e w' => e = .returned (.int .i64 q2) ∧ Ext w w') := fun w => by rw [hq2]; exact implFs f s p c _ w h (by omega) (by omega)
  have hres : feeOf f s p c m = m / 1440 * c + min (q * p) c := by rw [hq]; rfl
  rw [hres]
  obtain ⟨b1, b2⟩ := feeMul_bd hqb.1 hqb.2 a5 a6
  have b3 : 0 ≤ m / 1440 * c := Int.mul_nonneg (by omega) a7
  have b4 : m / 1440 * c ≤ 6 * 99 := Int.mul_le_mul (by omega) a8 a7 (by omega)
  clear hq hq2 hres h
  go_enter Try.func57, Try.ntmps57
  go_wp2_with fail
  refine (HT.out _).mono ?_
  rintro e w1 ⟨rfl, h1'⟩
  have hz1 : w.heap.size < w1.heap.size := Nat.lt_of_lt_of_le (by simp) h1'.sz
  have e0 : w1.cell? ⟨w.heap.size, 0, none⟩ = some (.int .i64 f) := by rw [h1'.cells.1 _ _ (by simp)]; simp
  have e1 : w1.cell? ⟨w.heap.size, 1, none⟩ = some (.int .i64 s) := by rw [h1'.cells.1 _ _ (by simp)]; simp
  have e2 : w1.cell? ⟨w.heap.size, 2, none⟩ = some (.int .i64 p) := by rw [h1'.cells.1 _ _ (by simp)]; simp
  have e3 : w1.cell? ⟨w.heap.size, 3, none⟩ = some (.int .i64 c) := by rw [h1'.cells.1 _ _ (by simp)]; simp
  go_wp2_with fail
  have hq := IntWalk.i64_quo m 1440 ⟨h0, by omega, by omega⟩
  have hr := IntWalk.rem_in m 1440 h0
  have hr1 : IntKind.i64.wrap (m % 1440) = m % 1440 := IntWalk.i64_in _ (by omega)
  have k1 : IntKind.i64.wrap (q * p) = q * p := IntWalk.i64_in _ (by omega)
  have k2 : IntKind.i64.wrap (m / 1440 * c) = m / 1440 * c := IntWalk.i64_in _ (by omega)
  have k3 : IntKind.i64.wrap (m / 1440 * c + c) = m / 1440 * c + c := IntWalk.i64_in _ (by omega)
  have k4 : IntKind.i64.wrap (m / 1440 * c + q * p) = m / 1440 * c + q * p := IntWalk.i64_in _ (by omega)
  go_region_held3 (fun w' => w'.cell? ⟨w.heap.size, 0, none⟩ = some (.int .i64 f) ∧ w'.cell? ⟨w.heap.size, 1, none⟩ = some (.int .i64 s) ∧ w'.cell? ⟨w.heap.size, 2, none⟩ = some (.int .i64 p) ∧ w'.cell? ⟨w.heap.size, 3, none⟩ = some (.int .i64 c)) (go_keep)
    ((go_at_call 65; refine (HF.out _).mono ?_; rintro e w2 ⟨rfl, h2⟩; (try replace h2 := h2.of_drew); have hce := h2.cells.1; have hze : w.heap.size < w2.heap.size := Nat.lt_of_lt_of_le (by assumption) h2.sz))
  all_goals clear hq hr hr1 k1 k2 k3 k4
  all_goals go_wp2
  all_goals go_ret
  all_goals exact ⟨ret_int (by first | omega | (rw [IntWalk.i64_in _ (by omega)]; omega)), by (repeat' (first | exact Ext.refl _ | (with_reducible assumption) | (with_reducible refine Ext.alloc ?_ _) | (with_reducible refine Ext.setCell ?_ (by first | exact Nat.le_refl _ | (dsimp only; omega) | (simp; done) | (simp; omega)) _) | (with_reducible refine Ext.drew ?_) | (with_reducible refine Ext.drewN ?_ _) | (refine Ext.trans ?_ (by with_reducible assumption))))⟩

set_option maxRecDepth 100000 in
set_option maxHeartbeats 1000000 in
theorem specFo (f s p c m : Int) (w : World) (h : tariffOk f s p c = true) (h0 : 0 ≤ m) (h1 : m ≤ 9999) : Calls Try.prog 50 #[tariffV f s p c, .int .i64 m] w fun e w' => e = .returned (.int .i64 (feeOf f s p c m)) ∧ Ext w w' := by
  obtain ⟨a1, a2, a3, a4, a5, a6, a7, a8⟩ := tariff_parts h
  have HT : Hid (∀ w, Calls Try.prog 46 #[tariffV f s p c] w fun e w' => e = .returned (.bool true) ∧ Ext w w') := fun w => by rw [← h]; exact specTv f s p c w
  obtain ⟨q, hq⟩ : ∃ q, q = feeSteps f s (m % 1440) := ⟨_, rfl⟩
  have hqb : 0 ≤ q ∧ q ≤ 9999 := by rw [hq]; exact feeSteps_bd a1 a3 (by omega)
  obtain ⟨q2, hq2⟩ : ∃ q, q = feeSteps f s m := ⟨_, rfl⟩
  have hqb2 : 0 ≤ q2 ∧ q2 ≤ 9999 := by rw [hq2]; exact feeSteps_bd a1 a3 (by omega)
  have HF : Hid (∀ w, Calls Try.prog 60 #[tariffV f s p c, .int .i64 (m % 1440)] w fun e w' => e = .returned (.int .i64 q) ∧ Ext w w') := fun w => by rw [hq]; exact specFs f s p c _ w h (by omega) (by omega)
  have HF2 : Hid (∀ w, Calls Try.prog 60 #[tariffV f s p c, .int .i64 m] w fun e w' => e = .returned (.int .i64 q2) ∧ Ext w w') := fun w => by rw [hq2]; exact specFs f s p c _ w h (by omega) (by omega)
  have hres : feeOf f s p c m = m / 1440 * c + min (q * p) c := by rw [hq]; rfl
  rw [hres]
  obtain ⟨b1, b2⟩ := feeMul_bd hqb.1 hqb.2 a5 a6
  have b3 : 0 ≤ m / 1440 * c := Int.mul_nonneg (by omega) a7
  have b4 : m / 1440 * c ≤ 6 * 99 := Int.mul_le_mul (by omega) a8 a7 (by omega)
  clear hq hq2 hres h
  go_enter Try.func50, Try.ntmps50
  go_wp2_with fail
  refine (HF2.out _).mono ?_
  rintro e w1 ⟨rfl, h1'⟩
  have hz1 : w.heap.size < w1.heap.size := Nat.lt_of_lt_of_le (by simp) h1'.sz
  have e0 : w1.cell? ⟨w.heap.size, 0, none⟩ = some (.int .i64 f) := by rw [h1'.cells.1 _ _ (by simp)]; simp
  have e1 : w1.cell? ⟨w.heap.size, 1, none⟩ = some (.int .i64 s) := by rw [h1'.cells.1 _ _ (by simp)]; simp
  have e2 : w1.cell? ⟨w.heap.size, 2, none⟩ = some (.int .i64 p) := by rw [h1'.cells.1 _ _ (by simp)]; simp
  have e3 : w1.cell? ⟨w.heap.size, 3, none⟩ = some (.int .i64 c) := by rw [h1'.cells.1 _ _ (by simp)]; simp
  go_wp2_with fail
  have hq := IntWalk.i64_quo m 1440 ⟨h0, by omega, by omega⟩
  have hr := IntWalk.rem_in m 1440 h0
  have hr1 : IntKind.i64.wrap (m % 1440) = m % 1440 := IntWalk.i64_in _ (by omega)
  have k1 : IntKind.i64.wrap (q * p) = q * p := IntWalk.i64_in _ (by omega)
  have k2 : IntKind.i64.wrap (m / 1440 * c) = m / 1440 * c := IntWalk.i64_in _ (by omega)
  have k3 : IntKind.i64.wrap (m / 1440 * c + c) = m / 1440 * c + c := IntWalk.i64_in _ (by omega)
  have k4 : IntKind.i64.wrap (m / 1440 * c + q * p) = m / 1440 * c + q * p := IntWalk.i64_in _ (by omega)
  go_region_held3 (fun w' => w'.cell? ⟨w.heap.size, 0, none⟩ = some (.int .i64 f) ∧ w'.cell? ⟨w.heap.size, 1, none⟩ = some (.int .i64 s) ∧ w'.cell? ⟨w.heap.size, 2, none⟩ = some (.int .i64 p) ∧ w'.cell? ⟨w.heap.size, 3, none⟩ = some (.int .i64 c)) (go_keep)
    ((go_at_call 60; refine (HF.out _).mono ?_; rintro e w2 ⟨rfl, h2⟩; (try replace h2 := h2.of_drew); have hce := h2.cells.1; have hze : w.heap.size < w2.heap.size := Nat.lt_of_lt_of_le (by assumption) h2.sz))
  all_goals clear hq hr hr1 k1 k2 k3 k4
  all_goals go_wp2
  all_goals go_ret
  all_goals exact ⟨ret_int (by first | omega | (rw [IntWalk.i64_in _ (by omega)]; omega)), by (repeat' (first | exact Ext.refl _ | (with_reducible assumption) | (with_reducible refine Ext.alloc ?_ _) | (with_reducible refine Ext.setCell ?_ (by first | exact Nat.le_refl _ | (dsimp only; omega) | (simp; done) | (simp; omega)) _) | (with_reducible refine Ext.drew ?_) | (with_reducible refine Ext.drewN ?_ _) | (refine Ext.trans ?_ (by with_reducible assumption))))⟩

end Go.Proofs.Ythhcpcjmolbkdaa
