/-
  Tariffs and stays: both packages' TariffValid, StayValid, FeeSteps, FeeOf, StayDue, MayLeave compute the same plain functions. No condition.
-/
import Derived.Test.YtndcnflchkfaeaaBlk
import Derived.WalkLawsBesides
namespace Go.Proofs.Ytndcnflchkfaeaa
open Go.RowKit
set_option linter.unusedVariables false

def tariffOk (f s p c : Int) : Bool := decide (0 ≤ f ∧ f < 1440 ∧ 1 ≤ s ∧ s ≤ 1440 ∧ 0 ≤ p ∧ p ≤ 99 ∧ 0 ≤ c ∧ c ≤ 99)
def stayOk (i p a : Int) : Bool := decide (0 ≤ i ∧ i ≤ 9999 ∧ 0 ≤ p ∧ p ≤ 9999 ∧ i ≤ a ∧ a ≤ 9999)
def feeSteps (f s m : Int) : Int := if m ≤ f then 0 else (m - f + s - 1) / s
def feeOf (f s p c m : Int) : Int := m / 1440 * c + min (feeSteps f s (m % 1440) * p) c
def stayDue (f s p c i pd a now : Int) : Int := if tariffOk f s p c && stayOk i pd a && decide (a ≤ now ∧ now ≤ 9999) then max (feeOf f s p c (now - i) - pd) 0 else -1
def mayLeave (f s p c i pd a now : Int) : Bool :=
  decide (stayDue f s p c i pd a now = 0) || (decide (0 ≤ stayDue f s p c i pd a now) && decide (now - a ≤ 15) && decide (stayDue f s p c i pd a a = 0))

abbrev tariffV (f s p c : Int) : Value := .agg #[.int .i64 f, .int .i64 s, .int .i64 p, .int .i64 c]
abbrev stayV (i p a : Int) : Value := .agg #[.int .i64 i, .int .i64 p, .int .i64 a]

theorem tariff_parts {f s p c : Int} (h : tariffOk f s p c = true) : 0 ≤ f ∧ f < 1440 ∧ 1 ≤ s ∧ s ≤ 1440 ∧ 0 ≤ p ∧ p ≤ 99 ∧ 0 ≤ c ∧ c ≤ 99 := by simpa [tariffOk] using h
theorem stay_parts {i p a : Int} (h : stayOk i p a = true) : 0 ≤ i ∧ i ≤ 9999 ∧ 0 ≤ p ∧ p ≤ 9999 ∧ i ≤ a ∧ a ≤ 9999 := by simpa [stayOk] using h
theorem feeSteps_bd {f s m : Int} (h0 : 0 ≤ f) (h1 : 1 ≤ s) (hm : m ≤ 9999) : 0 ≤ feeSteps f s m ∧ feeSteps f s m ≤ 9999 := by
  unfold feeSteps
  split
  · omega
  · refine ⟨Int.ediv_nonneg (by omega) (by omega), ?_⟩
    have : (m - f + s - 1) / s ≤ m - f := by
      apply Int.ediv_le_of_le_mul (by omega)
      have : (m - f) * s ≥ (m - f) * 1 := Int.mul_le_mul_of_nonneg_left h1 (by omega)
      have h2 : (m - f) * s = (m - f - 1) * s + s := by rw [Int.sub_mul (m - f) 1 s]; omega
      have h3 : (m - f - 1) * s ≥ (m - f - 1) * 1 := Int.mul_le_mul_of_nonneg_left h1 (by omega)
      omega
    omega
theorem feeSteps_alt {f s m : Int} (h1 : 1 ≤ s) : (max (m - f) 0 + s - 1) / s = feeSteps f s m := by
  unfold feeSteps
  split
  · rw [show max (m - f) 0 = 0 by omega]
    exact Int.ediv_eq_zero_of_lt (by omega) (by omega)
  · rw [show max (m - f) 0 = m - f by omega]
theorem feeMul_bd {x p : Int} (hx : 0 ≤ x) (hx2 : x ≤ 9999) (h0 : 0 ≤ p) (h1 : p ≤ 99) : 0 ≤ x * p ∧ x * p ≤ 989901 := by
  refine ⟨Int.mul_nonneg hx h0, ?_⟩
  have := Int.mul_le_mul hx2 h1 h0 (by omega)
  omega
theorem feeOf_bd {f s p c m : Int} (h : tariffOk f s p c = true) (h0 : 0 ≤ m) (h1 : m ≤ 9999) : 0 ≤ feeOf f s p c m ∧ feeOf f s p c m ≤ 693 := by
  obtain ⟨a1, a2, a3, a4, a5, a6, a7, a8⟩ := tariff_parts h
  obtain ⟨b1, b2⟩ := feeSteps_bd (m := m % 1440) a1 a3 (by omega)
  obtain ⟨d1, d2⟩ := feeMul_bd b1 b2 a5 a6
  unfold feeOf
  have e1 : 0 ≤ m / 1440 * c := Int.mul_nonneg (by omega) a7
  have e2 : m / 1440 * c ≤ 6 * 99 := Int.mul_le_mul (by omega) a8 a7 (by omega)
  omega

end Go.Proofs.Ytndcnflchkfaeaa
