/-
  The reference's l1Has, l1In, HallValid; both packages' HallEmpty. Condition: slices read as lists.
-/
import Derived.Test.YtncfnlocdlhagaaDoorQ1
import Derived.WalkLawsBesides
import Derived.Maps.AppendAt
import Derived.Deep.AppendLies
import Derived.RegionTactic
import Derived.Deep.RegionLaw
import Derived.Test.YtncfnlocdlhagaaDoorShelf
import Derived.Sort.OwnSortedInts
namespace Go.Proofs.YtncfnlocdlhagaaDoor
open Go.RowKit
set_option linter.unusedVariables false

theorem quiet_l {f : FuncId} {args : Array Value} {w : World} {n : Nat} {v : Value} (h : Calls Tryd.prog f args (w.drewN n) fun e w' => e = .returned v ∧ w.drewN n = w') :
    Calls Tryd.prog f args (w.drewN n) fun e w' => e = .returned v ∧ ∃ m, w' = w.drewN m := h.mono fun _ _ ⟨he, hm⟩ => ⟨he, n, hm.symm⟩

set_option maxRecDepth 100000 in
set_option maxHeartbeats 1000000 in
theorem l1In_yes (n lo hi : Int) (w : World) (h : lo ≤ n) (h2 : n ≤ hi) : Calls Tryd.prog 67 #[.int .i64 n, .int .i64 lo, .int .i64 hi] w fun e w' => e = .returned (.bool true) ∧ w = w' := by
  go_enter Tryd.func67, Tryd.ntmps67
  go_wp2
  go_ret
  exact ⟨rfl, rfl⟩
set_option maxRecDepth 100000 in
set_option maxHeartbeats 1000000 in
theorem l1In_no (n lo hi : Int) (w : World) (h : n < lo ∨ lo ≤ n ∧ hi < n) : Calls Tryd.prog 67 #[.int .i64 n, .int .i64 lo, .int .i64 hi] w fun e w' => e = .returned (.bool false) ∧ w = w' := by
  rcases h with h | ⟨h, h2⟩
  all_goals
    go_enter Tryd.func67, Tryd.ntmps67
    go_wp2
    go_ret
    exact ⟨ret_bool (by first | rfl | (simp; omega)), rfl⟩

set_option maxRecDepth 100000 in
set_option maxHeartbeats 1000000 in
theorem l1Has_any (p : Option Addr) (n cap : Nat) (xs : List Int) (x : Int) (w : World) (hS : Sl w p n cap 1 (ivs xs)) :
    Calls Tryd.prog 99 #[.slice p n cap, .int .i64 x] w fun e w' => e = .returned (.bool (xs.contains x)) ∧ w = w' := by
  have hn := hS.bd
  have hl := Lib.hid hS.ilen
  have HS := Lib.hid hS
  clear hS
  go_enter Tryd.func99, Tryd.ntmps99
  go_wp2
  go_loop [5] (fun i => ∃ k : Nat, k ≤ n ∧ i = .int .i64 k ∧ (xs.take k).contains x = false) (fun i => n - (intOf i).toNat)
  case atStart => exact ⟨0, Nat.zero_le _, rfl, by simp⟩
  case round =>
    obtain ⟨k, hk, rfl, hc⟩ := hrel
    have HC := Lib.hid hc
    clear hc
    by_cases hlt : k < n
    · obtain ⟨b, off, y, rfl, hx, hb, hcell⟩ := HS.out.int_at hlt
      have HX := Lib.hid hx
      clear hx
      by_cases hy : y = x
      · have t1 : (y == x) = true := by simp [hy]
        have hfin : Hid (xs.contains x = true) := by show _ = _; rw [List.contains_eq_mem]; simp; rw [← hy]; exact List.mem_of_getElem? HX.out
        clear hy
        go_wp2
        go_ret
        exact ⟨ret_bool (by simpa using hfin.out.symm), rfl⟩
      · have t1 : (y == x) = false := by simp [hy]
        have hfin : Hid ((xs.take (k + 1)).contains x = false) := by
          have := HC.out
          show _ = _
          rw [take_snocL HX.out]
          simp only [List.contains_eq_mem, decide_eq_false_iff_not, List.mem_append, List.mem_singleton, not_or] at this ⊢
          exact ⟨this, fun e => hy e.symm⟩
        clear hy
        go_wp2
        go_round
        case rel => exact ⟨k + 1, by omega, by go_num, hfin.out⟩
        case measure => simp [intOf]; omega
    · have hfin : Hid (xs.contains x = false) := by
        have := HC.out
        rw [List.take_of_length_le (by rw [hl.out]; omega)] at this
        exact this
      go_wp2
      go_ret
      exact ⟨ret_bool (by simpa using hfin.out.symm), rfl⟩

set_option maxRecDepth 100000 in
set_option maxHeartbeats 1000000 in
theorem specHv_bad (wide deep : Int) (p : Option Addr) (n cap : Nat) (w : World) (hn : n ≤ 9223372036854775807)
    (h : wide < 2 ∨ 2 ≤ wide ∧ 4 < wide ∨ 2 ≤ wide ∧ wide ≤ 4 ∧ deep < 2 ∨ 2 ≤ wide ∧ wide ≤ 4 ∧ 2 ≤ deep ∧ 3 < deep ∨ 2 ≤ wide ∧ wide ≤ 4 ∧ 2 ≤ deep ∧ deep ≤ 3 ∧ 0 ≤ wide * deep ∧ wide * deep ≤ 12 ∧ ((n : Int) != wide * deep) = true) :
    Calls Tryd.prog 73 #[hallV wide deep p n cap] w fun e w' => e = .returned (.bool false) ∧ Ext w w' := by
  rcases h with h | ⟨h0, h⟩ | ⟨h0, h1, h⟩ | ⟨h0, h1, h2, h⟩ | ⟨h0, h1, h2, h3, h4, h5, h⟩
  all_goals
    go_enter Tryd.func73, Tryd.ntmps73
    go_wp2_with go_in
    go_ret
    exact ⟨rfl, by (repeat' (first | exact Ext.refl _ | (with_reducible assumption) | (with_reducible refine Ext.alloc ?_ _) | (with_reducible refine Ext.setCell ?_ (by first | exact Nat.le_refl _ | (dsimp only; omega) | (simp; done) | (simp; omega)) _) | (with_reducible refine Ext.drew ?_) | (with_reducible refine Ext.drewN ?_ _) | (refine Ext.trans ?_ (by with_reducible assumption))))⟩

set_option maxRecDepth 100000 in
set_option maxHeartbeats 1000000 in
theorem specHv_main (wide deep : Int) (p : Option Addr) (n cap : Nat) (xs : List Int) (w : World) (h0 : 2 ≤ wide) (h1 : wide ≤ 4) (h2 : 2 ≤ deep) (h3 : deep ≤ 3) (h4 : 0 ≤ wide * deep) (h5 : wide * deep ≤ 12) (h6 : ((n : Int) != wide * deep) = false) (hn : n ≤ 12)
    (HS : Hid (Sl w p n cap 1 (ivs xs))) :
    Calls Tryd.prog 73 #[hallV wide deep p n cap] w fun e w' => e = .returned (.bool (cellsOk [] xs)) ∧ Ext w w' := by
  have hncap := HS.out.le
  have hcapm := HS.out.mx
  unfold maxLen at hcapm
  go_enter Tryd.func73, Tryd.ntmps73
  go_wp2_with go_in
  clear h4 h5 h6
  go_loopw [3] (fun i wr => ∃ k : Nat, k ≤ n ∧ i = .int .i64 k ∧ cellsOk [] xs = cellsOk (xs.take k) (xs.drop k) ∧ Ext w wr ∧ w.heap.size < wr.heap.size ∧ wr.cell? ⟨w.heap.size, 2, none⟩ = some (.slice p n cap)) (fun i _ => n - (intOf i).toNat)
  case atStart => exact ⟨0, Nat.zero_le _, rfl, rfl, by (repeat' (first | exact Ext.refl _ | (with_reducible assumption) | (with_reducible refine Ext.alloc ?_ _) | (with_reducible refine Ext.setCell ?_ (by first | exact Nat.le_refl _ | (dsimp only; omega) | (simp; done) | (simp; omega)) _) | (with_reducible refine Ext.drew ?_) | (with_reducible refine Ext.drewN ?_ _) | (refine Ext.trans ?_ (by with_reducible assumption)))), by simp, by simp⟩
  case round =>
    obtain ⟨k, hk, rfl, hok, hE, hsz, hc2⟩ := hrel
    by_cases hlt : k < n
    · have hSk := sl_cutI (HS.out.ext hE) (m := k) hk
      obtain ⟨b, off, x, rfl, hx, hbs, hcell⟩ := (HS.out.ext hE).int_at hlt
      have hfin := Lib.hid (hok.trans (cellsOk_at hx))
      have i1 : (0 : Int) ≤ (k : Int) := by omega
      have i2 : (k : Int) < (n : Int) := by omega
      have i3 : (k : Int) ≤ (n : Int) := by omega
      have i4 : (k : Int) ≤ (cap : Int) := by omega
      have HX := Lib.hid hx
      have HK := Lib.hid hSk
      clear hok hx hSk
      by_cases hr : 0 ≤ x ∧ x ≤ 99
      · obtain ⟨hx0, hx1⟩ := hr
        have HI : Hid (∀ w, Calls Tryd.prog 67 #[.int .i64 x, .int .i64 0, .int .i64 99] w fun e w' => e = .returned (.bool true) ∧ w = w') := fun w => l1In_yes x 0 99 w hx0 hx1
        by_cases hp : 0 < x
        · have hd : decide (0 < x) = true := by simp [hp]
          cases hs : (xs.take k).contains x with
          | true =>
            have HH : Hid (∀ m, Calls Tryd.prog 99 #[.slice (some ⟨b, off, none⟩) k cap, .int .i64 x] (wr.drewN m) fun e w' => e = .returned (.bool true) ∧ wr.drewN m = w') := fun m => by
              have := l1Has_any (some ⟨b, off, none⟩) k cap (xs.take k) x (wr.drewN m) (HK.out.ext (Ext.drewN (Ext.refl _) _)); rwa [hs] at this
            have hf2 : Hid (cellsOk [] xs = false) := by show _ = _; rw [hfin.out, hs]; simp [hp]
            clear hs
            go_wp2
            go_quiet ((first | (go_at_call 67; exact quiet_l (HI.out _)) | (go_at_call 99; exact quiet_l (HH.out _))))
            go_wp2
            go_ret
            exact ⟨ret_bool hf2.out.symm, by (repeat' (first | exact Ext.refl _ | (with_reducible assumption) | (with_reducible refine Ext.alloc ?_ _) | (with_reducible refine Ext.setCell ?_ (by first | exact Nat.le_refl _ | (dsimp only; omega) | (simp; done) | (simp; omega)) _) | (with_reducible refine Ext.drew ?_) | (with_reducible refine Ext.drewN ?_ _) | (refine Ext.trans ?_ (by with_reducible assumption))))⟩
          | false =>
            have HH : Hid (∀ m, Calls Tryd.prog 99 #[.slice (some ⟨b, off, none⟩) k cap, .int .i64 x] (wr.drewN m) fun e w' => e = .returned (.bool false) ∧ wr.drewN m = w') := fun m => by
              have := l1Has_any (some ⟨b, off, none⟩) k cap (xs.take k) x (wr.drewN m) (HK.out.ext (Ext.drewN (Ext.refl _) _)); rwa [hs] at this
            have hf2 : Hid (cellsOk [] xs = cellsOk (xs.take (k + 1)) (xs.drop (k + 1))) := by show _ = _; rw [hfin.out, hs]; simp [hx0, hx1]
            clear hs
            go_wp2
            go_quiet ((first | (go_at_call 67; exact quiet_l (HI.out _)) | (go_at_call 99; exact quiet_l (HH.out _))))
            go_wp2
            go_roundw
            case rel => exact ⟨k + 1, by omega, by go_num, hf2.out, by (repeat' (first | exact Ext.refl _ | (with_reducible assumption) | (with_reducible refine Ext.alloc ?_ _) | (with_reducible refine Ext.setCell ?_ (by first | exact Nat.le_refl _ | (dsimp only; omega) | (simp; done) | (simp; omega)) _) | (with_reducible refine Ext.drew ?_) | (with_reducible refine Ext.drewN ?_ _) | (refine Ext.trans ?_ (by with_reducible assumption)))), hsz, hc2⟩
            case measure => simp [intOf]; omega
        · have hd : decide (0 < x) = false := by simp [hp]
          have hf2 : Hid (cellsOk [] xs = cellsOk (xs.take (k + 1)) (xs.drop (k + 1))) := by show _ = _; rw [hfin.out]; simp [hx0, hx1, hp]
          go_wp2
          go_quiet ((go_at_call 67; exact quiet_l (HI.out _)))
          go_wp2
          go_roundw
          case rel => first | exact ⟨k + 1, by omega, by go_num, hf2.out, by (repeat' (first | exact Ext.refl _ | (with_reducible assumption) | (with_reducible refine Ext.alloc ?_ _) | (with_reducible refine Ext.setCell ?_ (by first | exact Nat.le_refl _ | (dsimp only; omega) | (simp; done) | (simp; omega)) _) | (with_reducible refine Ext.drew ?_) | (with_reducible refine Ext.drewN ?_ _) | (refine Ext.trans ?_ (by with_reducible assumption)))), hsz, hc2⟩ | ((repeat apply Exists.intro); exact ⟨⟨k + 1, by omega, by go_num, hf2.out, by (repeat' (first | exact Ext.refl _ | (with_reducible assumption) | (with_reducible refine Ext.alloc ?_ _) | (with_reducible refine Ext.setCell ?_ (by first | exact Nat.le_refl _ | (dsimp only; omega) | (simp; done) | (simp; omega)) _) | (with_reducible refine Ext.drew ?_) | (with_reducible refine Ext.drewN ?_ _) | (refine Ext.trans ?_ (by with_reducible assumption)))), hsz, hc2⟩, rfl⟩)
          case measure => simp [intOf]; omega
      · have HI : Hid (∀ w, Calls Tryd.prog 67 #[.int .i64 x, .int .i64 0, .int .i64 99] w fun e w' => e = .returned (.bool false) ∧ w = w') := fun w => l1In_no x 0 99 w (by omega)
        have hf2 : Hid (cellsOk [] xs = false) := by show _ = _; rw [hfin.out]; simp [hr]
        clear hr
        go_wp2
        go_quiet ((go_at_call 67; exact quiet_l (HI.out _)))
        go_wp2
        go_ret
        exact ⟨ret_bool hf2.out.symm, by (repeat' (first | exact Ext.refl _ | (with_reducible assumption) | (with_reducible refine Ext.alloc ?_ _) | (with_reducible refine Ext.setCell ?_ (by first | exact Nat.le_refl _ | (dsimp only; omega) | (simp; done) | (simp; omega)) _) | (with_reducible refine Ext.drew ?_) | (with_reducible refine Ext.drewN ?_ _) | (refine Ext.trans ?_ (by with_reducible assumption))))⟩
    · have hfin := Lib.hid (hok.trans (cellsOk_end (by have := HS.out.ilen; omega)))
      clear hok
      go_wp2
      go_ret
      exact ⟨ret_bool hfin.out.symm, by (repeat' (first | exact Ext.refl _ | (with_reducible assumption) | (with_reducible refine Ext.alloc ?_ _) | (with_reducible refine Ext.setCell ?_ (by first | exact Nat.le_refl _ | (dsimp only; omega) | (simp; done) | (simp; omega)) _) | (with_reducible refine Ext.drew ?_) | (with_reducible refine Ext.drewN ?_ _) | (refine Ext.trans ?_ (by with_reducible assumption))))⟩

/-- spec.HallValid -/
theorem specHv (wide deep : Int) (p : Option Addr) (n cap : Nat) (xs : List Int) (w : World) (hS : Sl w p n cap 1 (ivs xs)) :
    Calls Tryd.prog 73 #[hallV wide deep p n cap] w fun e w' => e = .returned (.bool (hallOk wide deep xs)) ∧ Ext w w' := by
  have hl := hS.ilen
  unfold hallOk
  rw [hl]
  cases hs : shapeOk wide deep n with
  | true =>
    obtain ⟨h1, h2, h3, h4, h5, h6, h7⟩ := shape_bd hs
    rw [Bool.true_and]
    exact specHv_main wide deep p n cap xs w h1 h2 h3 h4 (by omega) (by omega) (by simp [h7]) h6 hS
  | false =>
    rw [Bool.false_and]
    exact specHv_bad wide deep p n cap w hS.bd (shape_bad hs)
end Go.Proofs.YtncfnlocdlhagaaDoor

/-
  Tariffs and stays: both packages' TariffValid, StayValid, FeeSteps, FeeOf, StayDue, MayLeave compute the same plain functions. No condition.
-/
namespace Go.Proofs.YtncfnlocdlhagaaDoor
open Go.RowKit
set_option linter.unusedVariables false

def tariffOk (f s p c : Int) : Bool := decide (0 ≤ f ∧ f < 1440 ∧ 1 ≤ s ∧ s ≤ 1440 ∧ 0 ≤ p ∧ p ≤ 99 ∧ 0 ≤ c ∧ c ≤ 99)
def stayOk (i p a : Int) : Bool := decide (0 ≤ i ∧ i ≤ 9999 ∧ 0 ≤ p ∧ p ≤ 9999 ∧ i ≤ a ∧ a ≤ 9999)
def feeSteps (f s m : Int) : Int := if m ≤ f then 0 else (m - f + s - 1) / s
def feeOf (f s p c m : Int) : Int := m / 1440 * c + min (feeSteps f s (m % 1440) * p) c
def stayDue (f s p c i pd a now : Int) : Int := if tariffOk f s p c && stayOk i pd a && decide (a ≤ now ∧ now ≤ 9999) then max (feeOf f s p c (now - i) - pd) 0 else -1
def mayLeave (f s p c i pd a now : Int) : Bool :=
  decide (stayDue f s p c i pd a now = 0) || (decide (0 ≤ stayDue f s p c i pd a now) && decide (now - a ≤ 15) && decide (stayDue f s p c i pd a a = 0))

abbrev tariffV (f s p c : Int) : Value := .agg #[.int .i64 f, .int .i64 s, .int .i64 p, .int .i64 c]
abbrev stayV (i p a : Int) : Value := .agg #[.int .i64 i, .int .i64 p, .int .i64 a]

theorem tariff_parts {f s p c : Int} (h : tariffOk f s p c = true) : 0 ≤ f ∧ f < 1440 ∧ 1 ≤ s ∧ s ≤ 1440 ∧ 0 ≤ p ∧ p ≤ 99 ∧ 0 ≤ c ∧ c ≤ 99 := by simpa [tariffOk] using h
theorem stay_parts {i p a : Int} (h : stayOk i p a = true) : 0 ≤ i ∧ i ≤ 9999 ∧ 0 ≤ p ∧ p ≤ 9999 ∧ i ≤ a ∧ a ≤ 9999 := by simpa [stayOk] using h
theorem feeSteps_bd {f s m : Int} (h0 : 0 ≤ f) (h1 : 1 ≤ s) (hm : m ≤ 9999) : 0 ≤ feeSteps f s m ∧ feeSteps f s m ≤ 9999 := by
  unfold feeSteps
  split
  · omega
  · refine ⟨Int.ediv_nonneg (by omega) (by omega), ?_⟩
    have : (m - f + s - 1) / s ≤ m - f := by
      apply Int.ediv_le_of_le_mul (by omega)
      have : (m - f) * s ≥ (m - f) * 1 := Int.mul_le_mul_of_nonneg_left h1 (by omega)
      have h2 : (m - f) * s = (m - f - 1) * s + s := by rw [Int.sub_mul (m - f) 1 s]; omega
      have h3 : (m - f - 1) * s ≥ (m - f - 1) * 1 := Int.mul_le_mul_of_nonneg_left h1 (by omega)
      omega
    omega
theorem feeSteps_alt {f s m : Int} (h1 : 1 ≤ s) : (max (m - f) 0 + s - 1) / s = feeSteps f s m := by
  unfold feeSteps
  split
  · rw [show max (m - f) 0 = 0 by omega]
    exact Int.ediv_eq_zero_of_lt (by omega) (by omega)
  · rw [show max (m - f) 0 = m - f by omega]
theorem feeMul_bd {x p : Int} (hx : 0 ≤ x) (hx2 : x ≤ 9999) (h0 : 0 ≤ p) (h1 : p ≤ 99) : 0 ≤ x * p ∧ x * p ≤ 989901 := by
  refine ⟨Int.mul_nonneg hx h0, ?_⟩
  have := Int.mul_le_mul hx2 h1 h0 (by omega)
  omega
theorem feeOf_bd {f s p c m : Int} (h : tariffOk f s p c = true) (h0 : 0 ≤ m) (h1 : m ≤ 9999) : 0 ≤ feeOf f s p c m ∧ feeOf f s p c m ≤ 693 := by
  obtain ⟨a1, a2, a3, a4, a5, a6, a7, a8⟩ := tariff_parts h
  obtain ⟨b1, b2⟩ := feeSteps_bd (m := m % 1440) a1 a3 (by omega)
  obtain ⟨d1, d2⟩ := feeMul_bd b1 b2 a5 a6
  unfold feeOf
  have e1 : 0 ≤ m / 1440 * c := Int.mul_nonneg (by omega) a7
  have e2 : m / 1440 * c ≤ 6 * 99 := Int.mul_le_mul (by omega) a8 a7 (by omega)
  omega

set_option maxRecDepth 100000 in
set_option maxHeartbeats 1000000 in
theorem implTv (f s p c : Int) (w : World) : Calls Tryd.prog 76 #[tariffV f s p c] w fun e w' => e = .returned (.bool (tariffOk f s p c)) ∧ Ext w w' := by
  by_cases c1 : 0 ≤ f
  · by_cases c2 : f < 1440
    · by_cases c3 : 1 ≤ s
      · by_cases c4 : s ≤ 1440
        · by_cases c5 : 0 ≤ p
          · by_cases c6 : p ≤ 99
            · by_cases c7 : 0 ≤ c
              · by_cases c8 : c ≤ 99
                · go_enter Tryd.func76, Tryd.ntmps76
                  go_wp2
                  go_ret
                  exact ⟨ret_bool (by simp [tariffOk]; omega), by (repeat' (first | exact Ext.refl _ | (with_reducible assumption) | (with_reducible refine Ext.alloc ?_ _) | (with_reducible refine Ext.setCell ?_ (by first | exact Nat.le_refl _ | (dsimp only; omega) | (simp; done) | (simp; omega)) _) | (with_reducible refine Ext.drew ?_) | (with_reducible refine Ext.drewN ?_ _) | (refine Ext.trans ?_ (by with_reducible assumption))))⟩
                · go_enter Tryd.func76, Tryd.ntmps76
                  go_wp2
                  go_ret
                  exact ⟨ret_bool (by simp [tariffOk]; omega), by (repeat' (first | exact Ext.refl _ | (with_reducible assumption) | (with_reducible refine Ext.alloc ?_ _) | (with_reducible refine Ext.setCell ?_ (by first | exact Nat.le_refl _ | (dsimp only; omega) | (simp; done) | (simp; omega)) _) | (with_reducible refine Ext.drew ?_) | (with_reducible refine Ext.drewN ?_ _) | (refine Ext.trans ?_ (by with_reducible assumption))))⟩
              · go_enter Tryd.func76, Tryd.ntmps76
                go_wp2
                go_ret
                exact ⟨ret_bool (by simp [tariffOk]; omega), by (repeat' (first | exact Ext.refl _ | (with_reducible assumption) | (with_reducible refine Ext.alloc ?_ _) | (with_reducible refine Ext.setCell ?_ (by first | exact Nat.le_refl _ | (dsimp only; omega) | (simp; done) | (simp; omega)) _) | (with_reducible refine Ext.drew ?_) | (with_reducible refine Ext.drewN ?_ _) | (refine Ext.trans ?_ (by with_reducible assumption))))⟩
            · go_enter Tryd.func76, Tryd.ntmps76
              go_wp2
              go_ret
              exact ⟨ret_bool (by simp [tariffOk]; omega), by (repeat' (first | exact Ext.refl _ | (with_reducible assumption) | (with_reducible refine Ext.alloc ?_ _) | (with_reducible refine Ext.setCell ?_ (by first | exact Nat.le_refl _ | (dsimp only; omega) | (simp; done) | (simp; omega)) _) | (with_reducible refine Ext.drew ?_) | (with_reducible refine Ext.drewN ?_ _) | (refine Ext.trans ?_ (by with_reducible assumption))))⟩
          · go_enter Tryd.func76, Tryd.ntmps76
            go_wp2
            go_ret
            exact ⟨ret_bool (by simp [tariffOk]; omega), by (repeat' (first | exact Ext.refl _ | (with_reducible assumption) | (with_reducible refine Ext.alloc ?_ _) | (with_reducible refine Ext.setCell ?_ (by first | exact Nat.le_refl _ | (dsimp only; omega) | (simp; done) | (simp; omega)) _) | (with_reducible refine Ext.drew ?_) | (with_reducible refine Ext.drewN ?_ _) | (refine Ext.trans ?_ (by with_reducible assumption))))⟩
        · go_enter Tryd.func76, Tryd.ntmps76
          go_wp2
          go_ret
          exact ⟨ret_bool (by simp [tariffOk]; omega), by (repeat' (first | exact Ext.refl _ | (with_reducible assumption) | (with_reducible refine Ext.alloc ?_ _) | (with_reducible refine Ext.setCell ?_ (by first | exact Nat.le_refl _ | (dsimp only; omega) | (simp; done) | (simp; omega)) _) | (with_reducible refine Ext.drew ?_) | (with_reducible refine Ext.drewN ?_ _) | (refine Ext.trans ?_ (by with_reducible assumption))))⟩
      · go_enter Tryd.func76, Tryd.ntmps76
        go_wp2
        go_ret
        exact ⟨ret_bool (by simp [tariffOk]; omega), by (repeat' (first | exact Ext.refl _ | (with_reducible assumption) | (with_reducible refine Ext.alloc ?_ _) | (with_reducible refine Ext.setCell ?_ (by first | exact Nat.le_refl _ | (dsimp only; omega) | (simp; done) | (simp; omega)) _) | (with_reducible refine Ext.drew ?_) | (with_reducible refine Ext.drewN ?_ _) | (refine Ext.trans ?_ (by with_reducible assumption))))⟩
    · go_enter Tryd.func76, Tryd.ntmps76
      go_wp2
      go_ret
      exact ⟨ret_bool (by simp [tariffOk]; omega), by (repeat' (first | exact Ext.refl _ | (with_reducible assumption) | (with_reducible refine Ext.alloc ?_ _) | (with_reducible refine Ext.setCell ?_ (by first | exact Nat.le_refl _ | (dsimp only; omega) | (simp; done) | (simp; omega)) _) | (with_reducible refine Ext.drew ?_) | (with_reducible refine Ext.drewN ?_ _) | (refine Ext.trans ?_ (by with_reducible assumption))))⟩
  · go_enter Tryd.func76, Tryd.ntmps76
    go_wp2
    go_ret
    exact ⟨ret_bool (by simp [tariffOk]; omega), by (repeat' (first | exact Ext.refl _ | (with_reducible assumption) | (with_reducible refine Ext.alloc ?_ _) | (with_reducible refine Ext.setCell ?_ (by first | exact Nat.le_refl _ | (dsimp only; omega) | (simp; done) | (simp; omega)) _) | (with_reducible refine Ext.drew ?_) | (with_reducible refine Ext.drewN ?_ _) | (refine Ext.trans ?_ (by with_reducible assumption))))⟩
set_option maxRecDepth 100000 in
set_option maxHeartbeats 1000000 in
theorem specTv (f s p c : Int) (w : World) : Calls Tryd.prog 74 #[tariffV f s p c] w fun e w' => e = .returned (.bool (tariffOk f s p c)) ∧ Ext w w' := by
  by_cases c1 : 0 ≤ f
  · by_cases c2 : f < 1440
    · by_cases c3 : 1 ≤ s
      · by_cases c4 : s ≤ 1440
        · by_cases c5 : 0 ≤ p
          · by_cases c6 : p ≤ 99
            · by_cases c7 : 0 ≤ c
              · by_cases c8 : c ≤ 99
                · go_enter Tryd.func74, Tryd.ntmps74
                  go_wp2_with go_in
                  go_ret
                  exact ⟨ret_bool (by simp [tariffOk]; omega), by (repeat' (first | exact Ext.refl _ | (with_reducible assumption) | (with_reducible refine Ext.alloc ?_ _) | (with_reducible refine Ext.setCell ?_ (by first | exact Nat.le_refl _ | (dsimp only; omega) | (simp; done) | (simp; omega)) _) | (with_reducible refine Ext.drew ?_) | (with_reducible refine Ext.drewN ?_ _) | (refine Ext.trans ?_ (by with_reducible assumption))))⟩
                · go_enter Tryd.func74, Tryd.ntmps74
                  go_wp2_with go_in
                  go_ret
                  exact ⟨ret_bool (by simp [tariffOk]; omega), by (repeat' (first | exact Ext.refl _ | (with_reducible assumption) | (with_reducible refine Ext.alloc ?_ _) | (with_reducible refine Ext.setCell ?_ (by first | exact Nat.le_refl _ | (dsimp only; omega) | (simp; done) | (simp; omega)) _) | (with_reducible refine Ext.drew ?_) | (with_reducible refine Ext.drewN ?_ _) | (refine Ext.trans ?_ (by with_reducible assumption))))⟩
              · go_enter Tryd.func74, Tryd.ntmps74
                go_wp2_with go_in
                go_ret
                exact ⟨ret_bool (by simp [tariffOk]; omega), by (repeat' (first | exact Ext.refl _ | (with_reducible assumption) | (with_reducible refine Ext.alloc ?_ _) | (with_reducible refine Ext.setCell ?_ (by first | exact Nat.le_refl _ | (dsimp only; omega) | (simp; done) | (simp; omega)) _) | (with_reducible refine Ext.drew ?_) | (with_reducible refine Ext.drewN ?_ _) | (refine Ext.trans ?_ (by with_reducible assumption))))⟩
            · go_enter Tryd.func74, Tryd.ntmps74
              go_wp2_with go_in
              go_ret
              exact ⟨ret_bool (by simp [tariffOk]; omega), by (repeat' (first | exact Ext.refl _ | (with_reducible assumption) | (with_reducible refine Ext.alloc ?_ _) | (with_reducible refine Ext.setCell ?_ (by first | exact Nat.le_refl _ | (dsimp only; omega) | (simp; done) | (simp; omega)) _) | (with_reducible refine Ext.drew ?_) | (with_reducible refine Ext.drewN ?_ _) | (refine Ext.trans ?_ (by with_reducible assumption))))⟩
          · go_enter Tryd.func74, Tryd.ntmps74
            go_wp2_with go_in
            go_ret
            exact ⟨ret_bool (by simp [tariffOk]; omega), by (repeat' (first | exact Ext.refl _ | (with_reducible assumption) | (with_reducible refine Ext.alloc ?_ _) | (with_reducible refine Ext.setCell ?_ (by first | exact Nat.le_refl _ | (dsimp only; omega) | (simp; done) | (simp; omega)) _) | (with_reducible refine Ext.drew ?_) | (with_reducible refine Ext.drewN ?_ _) | (refine Ext.trans ?_ (by with_reducible assumption))))⟩
        · go_enter Tryd.func74, Tryd.ntmps74
          go_wp2_with go_in
          go_ret
          exact ⟨ret_bool (by simp [tariffOk]; omega), by (repeat' (first | exact Ext.refl _ | (with_reducible assumption) | (with_reducible refine Ext.alloc ?_ _) | (with_reducible refine Ext.setCell ?_ (by first | exact Nat.le_refl _ | (dsimp only; omega) | (simp; done) | (simp; omega)) _) | (with_reducible refine Ext.drew ?_) | (with_reducible refine Ext.drewN ?_ _) | (refine Ext.trans ?_ (by with_reducible assumption))))⟩
      · go_enter Tryd.func74, Tryd.ntmps74
        go_wp2_with go_in
        go_ret
        exact ⟨ret_bool (by simp [tariffOk]; omega), by (repeat' (first | exact Ext.refl _ | (with_reducible assumption) | (with_reducible refine Ext.alloc ?_ _) | (with_reducible refine Ext.setCell ?_ (by first | exact Nat.le_refl _ | (dsimp only; omega) | (simp; done) | (simp; omega)) _) | (with_reducible refine Ext.drew ?_) | (with_reducible refine Ext.drewN ?_ _) | (refine Ext.trans ?_ (by with_reducible assumption))))⟩
    · go_enter Tryd.func74, Tryd.ntmps74
      go_wp2_with go_in
      go_ret
      exact ⟨ret_bool (by simp [tariffOk]; omega), by (repeat' (first | exact Ext.refl _ | (with_reducible assumption) | (with_reducible refine Ext.alloc ?_ _) | (with_reducible refine Ext.setCell ?_ (by first | exact Nat.le_refl _ | (dsimp only; omega) | (simp; done) | (simp; omega)) _) | (with_reducible refine Ext.drew ?_) | (with_reducible refine Ext.drewN ?_ _) | (refine Ext.trans ?_ (by with_reducible assumption))))⟩
  · go_enter Tryd.func74, Tryd.ntmps74
    go_wp2_with go_in
    go_ret
    exact ⟨ret_bool (by simp [tariffOk]; omega), by (repeat' (first | exact Ext.refl _ | (with_reducible assumption) | (with_reducible refine Ext.alloc ?_ _) | (with_reducible refine Ext.setCell ?_ (by first | exact Nat.le_refl _ | (dsimp only; omega) | (simp; done) | (simp; omega)) _) | (with_reducible refine Ext.drew ?_) | (with_reducible refine Ext.drewN ?_ _) | (refine Ext.trans ?_ (by with_reducible assumption))))⟩
set_option maxRecDepth 100000 in
set_option maxHeartbeats 1000000 in
theorem implSv (i p a : Int) (w : World) : Calls Tryd.prog 77 #[stayV i p a] w fun e w' => e = .returned (.bool (stayOk i p a)) ∧ Ext w w' := by
  by_cases c1 : 0 ≤ i
  · by_cases c2 : i ≤ 9999
    · by_cases c3 : 0 ≤ p
      · by_cases c4 : p ≤ 9999
        · by_cases c5 : i ≤ a
          · by_cases c6 : a ≤ 9999
            · go_enter Tryd.func77, Tryd.ntmps77
              go_wp2
              go_ret
              exact ⟨ret_bool (by simp [stayOk]; omega), by (repeat' (first | exact Ext.refl _ | (with_reducible assumption) | (with_reducible refine Ext.alloc ?_ _) | (with_reducible refine Ext.setCell ?_ (by first | exact Nat.le_refl _ | (dsimp only; omega) | (simp; done) | (simp; omega)) _) | (with_reducible refine Ext.drew ?_) | (with_reducible refine Ext.drewN ?_ _) | (refine Ext.trans ?_ (by with_reducible assumption))))⟩
            · go_enter Tryd.func77, Tryd.ntmps77
              go_wp2
              go_ret
              exact ⟨ret_bool (by simp [stayOk]; omega), by (repeat' (first | exact Ext.refl _ | (with_reducible assumption) | (with_reducible refine Ext.alloc ?_ _) | (with_reducible refine Ext.setCell ?_ (by first | exact Nat.le_refl _ | (dsimp only; omega) | (simp; done) | (simp; omega)) _) | (with_reducible refine Ext.drew ?_) | (with_reducible refine Ext.drewN ?_ _) | (refine Ext.trans ?_ (by with_reducible assumption))))⟩
          · go_enter Tryd.func77, Tryd.ntmps77
            go_wp2
            go_ret
            exact ⟨ret_bool (by simp [stayOk]; omega), by (repeat' (first | exact Ext.refl _ | (with_reducible assumption) | (with_reducible refine Ext.alloc ?_ _) | (with_reducible refine Ext.setCell ?_ (by first | exact Nat.le_refl _ | (dsimp only; omega) | (simp; done) | (simp; omega)) _) | (with_reducible refine Ext.drew ?_) | (with_reducible refine Ext.drewN ?_ _) | (refine Ext.trans ?_ (by with_reducible assumption))))⟩
        · go_enter Tryd.func77, Tryd.ntmps77
          go_wp2
          go_ret
          exact ⟨ret_bool (by simp [stayOk]; omega), by (repeat' (first | exact Ext.refl _ | (with_reducible assumption) | (with_reducible refine Ext.alloc ?_ _) | (with_reducible refine Ext.setCell ?_ (by first | exact Nat.le_refl _ | (dsimp only; omega) | (simp; done) | (simp; omega)) _) | (with_reducible refine Ext.drew ?_) | (with_reducible refine Ext.drewN ?_ _) | (refine Ext.trans ?_ (by with_reducible assumption))))⟩
      · go_enter Tryd.func77, Tryd.ntmps77
        go_wp2
        go_ret
        exact ⟨ret_bool (by simp [stayOk]; omega), by (repeat' (first | exact Ext.refl _ | (with_reducible assumption) | (with_reducible refine Ext.alloc ?_ _) | (with_reducible refine Ext.setCell ?_ (by first | exact Nat.le_refl _ | (dsimp only; omega) | (simp; done) | (simp; omega)) _) | (with_reducible refine Ext.drew ?_) | (with_reducible refine Ext.drewN ?_ _) | (refine Ext.trans ?_ (by with_reducible assumption))))⟩
    · go_enter Tryd.func77, Tryd.ntmps77
      go_wp2
      go_ret
      exact ⟨ret_bool (by simp [stayOk]; omega), by (repeat' (first | exact Ext.refl _ | (with_reducible assumption) | (with_reducible refine Ext.alloc ?_ _) | (with_reducible refine Ext.setCell ?_ (by first | exact Nat.le_refl _ | (dsimp only; omega) | (simp; done) | (simp; omega)) _) | (with_reducible refine Ext.drew ?_) | (with_reducible refine Ext.drewN ?_ _) | (refine Ext.trans ?_ (by with_reducible assumption))))⟩
  · go_enter Tryd.func77, Tryd.ntmps77
    go_wp2
    go_ret
    exact ⟨ret_bool (by simp [stayOk]; omega), by (repeat' (first | exact Ext.refl _ | (with_reducible assumption) | (with_reducible refine Ext.alloc ?_ _) | (with_reducible refine Ext.setCell ?_ (by first | exact Nat.le_refl _ | (dsimp only; omega) | (simp; done) | (simp; omega)) _) | (with_reducible refine Ext.drew ?_) | (with_reducible refine Ext.drewN ?_ _) | (refine Ext.trans ?_ (by with_reducible assumption))))⟩
set_option maxRecDepth 100000 in
set_option maxHeartbeats 1000000 in
theorem specSv (i p a : Int) (w : World) : Calls Tryd.prog 91 #[stayV i p a] w fun e w' => e = .returned (.bool (stayOk i p a)) ∧ Ext w w' := by
  by_cases c1 : 0 ≤ i
  · by_cases c2 : i ≤ 9999
    · by_cases c3 : 0 ≤ p
      · by_cases c4 : p ≤ 9999
        · by_cases c5 : i ≤ a
          · by_cases c6 : a ≤ 9999
            · go_enter Tryd.func91, Tryd.ntmps91
              go_wp2_with go_in
              go_ret
              exact ⟨ret_bool (by simp [stayOk]; omega), by (repeat' (first | exact Ext.refl _ | (with_reducible assumption) | (with_reducible refine Ext.alloc ?_ _) | (with_reducible refine Ext.setCell ?_ (by first | exact Nat.le_refl _ | (dsimp only; omega) | (simp; done) | (simp; omega)) _) | (with_reducible refine Ext.drew ?_) | (with_reducible refine Ext.drewN ?_ _) | (refine Ext.trans ?_ (by with_reducible assumption))))⟩
            · go_enter Tryd.func91, Tryd.ntmps91
              go_wp2_with go_in
              go_ret
              exact ⟨ret_bool (by simp [stayOk]; omega), by (repeat' (first | exact Ext.refl _ | (with_reducible assumption) | (with_reducible refine Ext.alloc ?_ _) | (with_reducible refine Ext.setCell ?_ (by first | exact Nat.le_refl _ | (dsimp only; omega) | (simp; done) | (simp; omega)) _) | (with_reducible refine Ext.drew ?_) | (with_reducible refine Ext.drewN ?_ _) | (refine Ext.trans ?_ (by with_reducible assumption))))⟩
          · go_enter Tryd.func91, Tryd.ntmps91
            go_wp2_with go_in
            go_ret
            exact ⟨ret_bool (by simp [stayOk]; omega), by (repeat' (first | exact Ext.refl _ | (with_reducible assumption) | (with_reducible refine Ext.alloc ?_ _) | (with_reducible refine Ext.setCell ?_ (by first | exact Nat.le_refl _ | (dsimp only; omega) | (simp; done) | (simp; omega)) _) | (with_reducible refine Ext.drew ?_) | (with_reducible refine Ext.drewN ?_ _) | (refine Ext.trans ?_ (by with_reducible assumption))))⟩
        · go_enter Tryd.func91, Tryd.ntmps91
          go_wp2_with go_in
          go_ret
          exact ⟨ret_bool (by simp [stayOk]; omega), by (repeat' (first | exact Ext.refl _ | (with_reducible assumption) | (with_reducible refine Ext.alloc ?_ _) | (with_reducible refine Ext.setCell ?_ (by first | exact Nat.le_refl _ | (dsimp only; omega) | (simp; done) | (simp; omega)) _) | (with_reducible refine Ext.drew ?_) | (with_reducible refine Ext.drewN ?_ _) | (refine Ext.trans ?_ (by with_reducible assumption))))⟩
      · go_enter Tryd.func91, Tryd.ntmps91
        go_wp2_with go_in
        go_ret
        exact ⟨ret_bool (by simp [stayOk]; omega), by (repeat' (first | exact Ext.refl _ | (with_reducible assumption) | (with_reducible refine Ext.alloc ?_ _) | (with_reducible refine Ext.setCell ?_ (by first | exact Nat.le_refl _ | (dsimp only; omega) | (simp; done) | (simp; omega)) _) | (with_reducible refine Ext.drew ?_) | (with_reducible refine Ext.drewN ?_ _) | (refine Ext.trans ?_ (by with_reducible assumption))))⟩
    · go_enter Tryd.func91, Tryd.ntmps91
      go_wp2_with go_in
      go_ret
      exact ⟨ret_bool (by simp [stayOk]; omega), by (repeat' (first | exact Ext.refl _ | (with_reducible assumption) | (with_reducible refine Ext.alloc ?_ _) | (with_reducible refine Ext.setCell ?_ (by first | exact Nat.le_refl _ | (dsimp only; omega) | (simp; done) | (simp; omega)) _) | (with_reducible refine Ext.drew ?_) | (with_reducible refine Ext.drewN ?_ _) | (refine Ext.trans ?_ (by with_reducible assumption))))⟩
  · go_enter Tryd.func91, Tryd.ntmps91
    go_wp2_with go_in
    go_ret
    exact ⟨ret_bool (by simp [stayOk]; omega), by (repeat' (first | exact Ext.refl _ | (with_reducible assumption) | (with_reducible refine Ext.alloc ?_ _) | (with_reducible refine Ext.setCell ?_ (by first | exact Nat.le_refl _ | (dsimp only; omega) | (simp; done) | (simp; omega)) _) | (with_reducible refine Ext.drew ?_) | (with_reducible refine Ext.drewN ?_ _) | (refine Ext.trans ?_ (by with_reducible assumption))))⟩

set_option maxRecDepth 100000 in
set_option maxHeartbeats 1000000 in
theorem implFs (f s p c m : Int) (w : World) (h : tariffOk f s p c = true) (h0 : 0 ≤ m) (h1 : m ≤ 9999) : Calls Tryd.prog 124 #[tariffV f s p c, .int .i64 m] w fun e w' => e = .returned (.int .i64 (feeSteps f s m)) ∧ Ext w w' := by
  obtain ⟨a1, a2, a3, a4, a5, a6, a7, a8⟩ := tariff_parts h
  have HT : Hid (∀ w, Calls Tryd.prog 76 #[tariffV f s p c] w fun e w' => e = .returned (.bool true) ∧ Ext w w') := fun w => by rw [← h]; exact implTv f s p c w
  have HB := Lib.hid (feeSteps_bd (m := m) a1 a3 h1)
  clear h
  by_cases hm : m ≤ f
  · have hf : Hid (feeSteps f s m = 0) := if_pos hm
    go_enter Tryd.func124, Tryd.ntmps124
    go_wp2_with fail
    refine (HT.out _).mono ?_
    rintro e w1 ⟨rfl, h1'⟩
    have hce := h1'.cells.1
    go_wp2
    go_ret
    exact ⟨ret_int hf.out.symm, by (repeat' (first | exact Ext.refl _ | (with_reducible assumption) | (with_reducible refine Ext.alloc ?_ _) | (with_reducible refine Ext.setCell ?_ (by first | exact Nat.le_refl _ | (dsimp only; omega) | (simp; done) | (simp; omega)) _) | (with_reducible refine Ext.drew ?_) | (with_reducible refine Ext.drewN ?_ _) | (refine Ext.trans ?_ (by with_reducible assumption))))⟩
  · have hf : Hid (feeSteps f s m = (m - f + s - 1) / s) := if_neg hm
    go_enter Tryd.func124, Tryd.ntmps124
    go_wp2_with fail
    refine (HT.out _).mono ?_
    rintro e w1 ⟨rfl, h1'⟩
    have hce := h1'.cells.1
    go_wp2
    go_ret
    exact ⟨ret_int hf.out.symm, by (repeat' (first | exact Ext.refl _ | (with_reducible assumption) | (with_reducible refine Ext.alloc ?_ _) | (with_reducible refine Ext.setCell ?_ (by first | exact Nat.le_refl _ | (dsimp only; omega) | (simp; done) | (simp; omega)) _) | (with_reducible refine Ext.drew ?_) | (with_reducible refine Ext.drewN ?_ _) | (refine Ext.trans ?_ (by with_reducible assumption))))⟩
set_option maxRecDepth 100000 in
set_option maxHeartbeats 1000000 in
theorem implFo (f s p c m : Int) (w : World) (h : tariffOk f s p c = true) (h0 : 0 ≤ m) (h1 : m ≤ 9999) : Calls Tryd.prog 102 #[tariffV f s p c, .int .i64 m] w fun e w' => e = .returned (.int .i64 (feeOf f s p c m)) ∧ Ext w w' := by
  obtain ⟨a1, a2, a3, a4, a5, a6, a7, a8⟩ := tariff_parts h
  have HT : Hid (∀ w, Calls Tryd.prog 76 #[tariffV f s p c] w fun e w' => e = .returned (.bool true) ∧ Ext w w') := fun w => by rw [← h]; exact implTv f s p c w
  obtain ⟨q, hq⟩ : ∃ q, q = feeSteps f s (m % 1440) := ⟨_, rfl⟩
  have hqb : 0 ≤ q ∧ q ≤ 9999 := by rw [hq]; exact feeSteps_bd a1 a3 (by omega)
  obtain ⟨q2, hq2⟩ : ∃ q, q = feeSteps f s m := ⟨_, rfl⟩
  have hqb2 : 0 ≤ q2 ∧ q2 ≤ 9999 := by rw [hq2]; exact feeSteps_bd a1 a3 (by omega)
  have HF : Hid (∀ w, Calls Tryd.prog 124 #[tariffV f s p c, .int .i64 (m % 1440)] w fun e w' => e = .returned (.int .i64 q) ∧ Ext w w') := fun w => by rw [hq]; exact implFs f s p c _ w h (by omega) (by omega)
  have HF2 : Hid (∀ w, Calls Tryd.prog 124 #[tariffV f s p c, .int .i64 m] w fun e w' => e = .returned (.int .i64 q2) ∧ Ext w w') := fun w => by rw [hq2]; exact implFs f s p c _ w h (by omega) (by omega)
  have hres : feeOf f s p c m = m / 1440 * c + min (q * p) c := by rw [hq]; rfl
  rw [hres]
  obtain ⟨b1, b2⟩ := feeMul_bd hqb.1 hqb.2 a5 a6
  have b3 : 0 ≤ m / 1440 * c := Int.mul_nonneg (by omega) a7
  have b4 : m / 1440 * c ≤ 6 * 99 := Int.mul_le_mul (by omega) a8 a7 (by omega)
  clear hq hq2 hres h
  go_enter Tryd.func102, Tryd.ntmps102
  go_wp2_with fail
  refine (HT.out _).mono ?_
  rintro e w1 ⟨rfl, h1'⟩
  have hz1 : w.heap.size < w1.heap.size := Nat.lt_of_lt_of_le (by simp) h1'.sz
  have e0 : w1.cell? ⟨w.heap.size, 0, none⟩ = some (.int .i64 f) := by rw [h1'.cells.1 _ _ (by simp)]; simp
  have e1 : w1.cell? ⟨w.heap.size, 1, none⟩ = some (.int .i64 s) := by rw [h1'.cells.1 _ _ (by simp)]; simp
  have e2 : w1.cell? ⟨w.heap.size, 2, none⟩ = some (.int .i64 p) := by rw [h1'.cells.1 _ _ (by simp)]; simp
  have e3 : w1.cell? ⟨w.heap.size, 3, none⟩ = some (.int .i64 c) := by rw [h1'.cells.1 _ _ (by simp)]; simp
  go_wp2_with fail
  have hq := IntWalk.i64_quo m 1440 ⟨h0, by omega, by omega⟩
  have hr := IntWalk.rem_in m 1440 h0
  have hr1 : IntKind.i64.wrap (m % 1440) = m % 1440 := IntWalk.i64_in _ (by omega)
  have k1 : IntKind.i64.wrap (q * p) = q * p := IntWalk.i64_in _ (by omega)
  have k2 : IntKind.i64.wrap (m / 1440 * c) = m / 1440 * c := IntWalk.i64_in _ (by omega)
  have k3 : IntKind.i64.wrap (m / 1440 * c + c) = m / 1440 * c + c := IntWalk.i64_in _ (by omega)
  have k4 : IntKind.i64.wrap (m / 1440 * c + q * p) = m / 1440 * c + q * p := IntWalk.i64_in _ (by omega)
  go_region_held3 (fun w' => w'.cell? ⟨w.heap.size, 0, none⟩ = some (.int .i64 f) ∧ w'.cell? ⟨w.heap.size, 1, none⟩ = some (.int .i64 s) ∧ w'.cell? ⟨w.heap.size, 2, none⟩ = some (.int .i64 p) ∧ w'.cell? ⟨w.heap.size, 3, none⟩ = some (.int .i64 c)) (go_keep)
    ((go_at_call 124; refine (HF.out _).mono ?_; rintro e w2 ⟨rfl, h2⟩; (try replace h2 := h2.of_drew); have hce := h2.cells.1; have hze : w.heap.size < w2.heap.size := Nat.lt_of_lt_of_le (by assumption) h2.sz))
  all_goals clear hq hr hr1 k1 k2 k3 k4
  all_goals go_wp2
  all_goals go_ret
  all_goals exact ⟨ret_int (by first | omega | (rw [IntWalk.i64_in _ (by omega)]; omega)), by (repeat' (first | exact Ext.refl _ | (with_reducible assumption) | (with_reducible refine Ext.alloc ?_ _) | (with_reducible refine Ext.setCell ?_ (by first | exact Nat.le_refl _ | (dsimp only; omega) | (simp; done) | (simp; omega)) _) | (with_reducible refine Ext.drew ?_) | (with_reducible refine Ext.drewN ?_ _) | (refine Ext.trans ?_ (by with_reducible assumption))))⟩

end Go.Proofs.YtncfnlocdlhagaaDoor

/-
  StayDue and MayLeave of both packages at valid stays. No condition beyond.
-/
namespace Go.Proofs.YtncfnlocdlhagaaDoor
open Go.RowKit
set_option linter.unusedVariables false

set_option maxRecDepth 100000 in
set_option maxHeartbeats 1000000 in
theorem implSd (f s p c i pd a now : Int) (w : World) (h : tariffOk f s p c = true) (h2 : stayOk i pd a = true) (h3 : a ≤ now) (h4 : now ≤ 9999) : Calls Tryd.prog 79 #[tariffV f s p c, stayV i pd a, .int .i64 now] w fun e w' => e = .returned (.int .i64 (stayDue f s p c i pd a now)) ∧ Ext w w' := by
  obtain ⟨b1, b2, b3, b4, b5, b6⟩ := stay_parts h2
  have HT : Hid (∀ w, Calls Tryd.prog 76 #[tariffV f s p c] w fun e w' => e = .returned (.bool true) ∧ Ext w w') := fun w => by rw [← h]; exact implTv f s p c w
  have HS : Hid (∀ w, Calls Tryd.prog 77 #[stayV i pd a] w fun e w' => e = .returned (.bool true) ∧ Ext w w') := fun w => by rw [← h2]; exact implSv i pd a w
  obtain ⟨q, hq⟩ : ∃ q, q = feeOf f s p c (now - i) := ⟨_, rfl⟩
  have hqb : 0 ≤ q ∧ q ≤ 693 := by rw [hq]; exact feeOf_bd h (by omega) (by omega)
  have HF : Hid (∀ w, Calls Tryd.prog 102 #[tariffV f s p c, .int .i64 (now - i)] w fun e w' => e = .returned (.int .i64 q) ∧ Ext w w') := fun w => by rw [hq]; exact implFo f s p c _ w h (by omega) (by omega)
  have hres : stayDue f s p c i pd a now = max (q - pd) 0 := by rw [hq]; simp [stayDue, h, h2, h3, h4]
  rw [hres]
  clear hq hres h h2
  go_enter Tryd.func79, Tryd.ntmps79
  go_wp2_with fail
  refine (HT.out _).mono ?_
  rintro e w1 ⟨rfl, h1'⟩
  have hz1 : w.heap.size < w1.heap.size := Nat.lt_of_lt_of_le (by simp; omega) h1'.sz
  have hz2 : w.heap.size + 1 < w1.heap.size := Nat.lt_of_lt_of_le (by simp) h1'.sz
  have e0 : w1.cell? ⟨w.heap.size, 0, none⟩ = some (.int .i64 f) := by rw [h1'.cells.1 _ _ (by simp; omega)]; simp
  have e1 : w1.cell? ⟨w.heap.size, 1, none⟩ = some (.int .i64 s) := by rw [h1'.cells.1 _ _ (by simp; omega)]; simp
  have e2 : w1.cell? ⟨w.heap.size, 2, none⟩ = some (.int .i64 p) := by rw [h1'.cells.1 _ _ (by simp; omega)]; simp
  have e3 : w1.cell? ⟨w.heap.size, 3, none⟩ = some (.int .i64 c) := by rw [h1'.cells.1 _ _ (by simp; omega)]; simp
  have g0 : w1.cell? ⟨w.heap.size + 1, 0, none⟩ = some (.int .i64 i) := by rw [h1'.cells.1 _ _ (by simp)]; simp
  have g1 : w1.cell? ⟨w.heap.size + 1, 1, none⟩ = some (.int .i64 pd) := by rw [h1'.cells.1 _ _ (by simp)]; simp
  have g2 : w1.cell? ⟨w.heap.size + 1, 2, none⟩ = some (.int .i64 a) := by rw [h1'.cells.1 _ _ (by simp)]; simp
  go_wp2_with (first | (go_at_call 77; refine (HS.out _).mono ?_; rintro e w2 ⟨rfl, h2'⟩; have hc2 := h2'.cells.1; have hz3 : w.heap.size < w2.heap.size := Nat.lt_of_lt_of_le hz1 h2'.sz; have hz4 : w.heap.size + 1 < w2.heap.size := Nat.lt_of_lt_of_le hz2 h2'.sz) | go_in)
  have k1 : IntKind.i64.wrap (now - i) = now - i := IntWalk.i64_in _ (by omega)
  have k2 : IntKind.i64.wrap (q - pd) = q - pd := IntWalk.i64_in _ (by omega)
  go_region_held3 (fun w' => w'.cell? ⟨w.heap.size, 0, none⟩ = some (.int .i64 f) ∧ w'.cell? ⟨w.heap.size, 1, none⟩ = some (.int .i64 s) ∧ w'.cell? ⟨w.heap.size, 2, none⟩ = some (.int .i64 p) ∧ w'.cell? ⟨w.heap.size, 3, none⟩ = some (.int .i64 c) ∧ w'.cell? ⟨w.heap.size + 1, 0, none⟩ = some (.int .i64 i) ∧ w'.cell? ⟨w.heap.size + 1, 1, none⟩ = some (.int .i64 pd)) (go_keep)
    ((go_at_call 102; refine (HF.out _).mono ?_; rintro e w3 ⟨rfl, h3'⟩; (try replace h3' := h3'.of_drew); have hc3 := h3'.cells.1; have hz5 : w.heap.size < w3.heap.size := Nat.lt_of_lt_of_le (by assumption) h3'.sz; have hz6 : w.heap.size + 1 < w3.heap.size := Nat.lt_of_lt_of_le (by assumption) h3'.sz))
  all_goals clear k1 k2
  all_goals go_wp2
  all_goals go_ret
  all_goals exact ⟨ret_int (by omega), by (repeat' (first | exact Ext.refl _ | (with_reducible assumption) | (with_reducible refine Ext.alloc ?_ _) | (with_reducible refine Ext.setCell ?_ (by first | exact Nat.le_refl _ | (dsimp only; omega) | (simp; done) | (simp; omega)) _) | (with_reducible refine Ext.drew ?_) | (with_reducible refine Ext.drewN ?_ _) | (refine Ext.trans ?_ (by with_reducible assumption))))⟩

end Go.Proofs.YtncfnlocdlhagaaDoor

/-
  Plain words on houses: the cars of a hall by ascending ids, valid houses, what is due, the order of the end, texts. Nothing of the program.
-/
namespace Go.Proofs.YtncfnlocdlhagaaDoor
open Go.RowKit
set_option linter.unusedVariables false

/-- a number at its place in an ascending list -/
def insL (x : Int) : List Int → List Int
  | [] => [x]
  | y :: ys => if y < x then y :: insL x ys else x :: y :: ys
def sortL (xs : List Int) : List Int := xs.foldl (fun acc x => insL x acc) []
def posOfL (xs : List Int) : List Int := xs.filter (fun x => decide (0 < x))
def carsOf (xs : List Int) : List Int := sortL (posOfL xs)

theorem insL_perm (x : Int) : ∀ xs, List.Perm (insL x xs) (x :: xs) := by
  intro xs
  induction xs with
  | nil => exact List.Perm.refl _
  | cons y ys ih =>
    unfold insL
    split
    · exact (List.Perm.cons y ih).trans (List.Perm.swap x y ys)
    · exact List.Perm.refl _
theorem insL_sorted (x : Int) : ∀ xs, xs.Pairwise (· ≤ ·) → (insL x xs).Pairwise (· ≤ ·) := by
  intro xs
  induction xs with
  | nil => intro _; simp [insL]
  | cons y ys ih =>
    intro h
    rw [List.pairwise_cons] at h
    unfold insL
    split
    · rename_i hlt
      rw [List.pairwise_cons]
      refine ⟨fun z hz => ?_, ih h.2⟩
      rcases List.mem_cons.1 ((insL_perm x ys).mem_iff.1 hz) with rfl | hz
      · omega
      · exact h.1 z hz
    · rename_i hge
      rw [List.pairwise_cons, List.pairwise_cons]
      refine ⟨fun z hz => ?_, h⟩
      rcases List.mem_cons.1 hz with rfl | hz
      · omega
      · have := h.1 z hz; omega
theorem sortL_snoc (xs : List Int) (x : Int) : sortL (xs ++ [x]) = insL x (sortL xs) := by simp [sortL, List.foldl_append]
theorem sortL_go (xs : List Int) : List.Perm (sortL xs) xs ∧ (sortL xs).Pairwise (· ≤ ·) := by
  suffices h : ∀ (n : Nat) (xs : List Int), xs.length = n → List.Perm (sortL xs) xs ∧ (sortL xs).Pairwise (· ≤ ·) from h _ xs rfl
  intro n
  induction n with
  | zero => intro xs h; obtain rfl := List.eq_nil_of_length_eq_zero h; simp [sortL]
  | succ n ih =>
    intro xs h
    have hne : xs ≠ [] := by intro e; rw [e] at h; simp at h
    rw [← List.dropLast_concat_getLast hne, sortL_snoc]
    obtain ⟨h1, h2⟩ := ih xs.dropLast (by simp [h])
    refine ⟨?_, insL_sorted _ _ h2⟩
    exact (insL_perm _ _).trans ((List.Perm.cons _ h1).trans (List.perm_append_singleton _ _).symm)
theorem sortL_perm (xs : List Int) : List.Perm (sortL xs) xs := (sortL_go xs).1
theorem sortL_sorted (xs : List Int) : (sortL xs).Pairwise (· ≤ ·) := (sortL_go xs).2
theorem sortL_len (xs : List Int) : (sortL xs).length = xs.length := (sortL_perm xs).length_eq
theorem posOfL_snoc (xs : List Int) (x : Int) : posOfL (xs ++ [x]) = posOfL xs ++ (if 0 < x then [x] else []) := by
  unfold posOfL; rw [List.filter_append]; congr 1
  by_cases h : 0 < x <;> simp [h]
theorem posOfL_le (xs : List Int) : (posOfL xs).length ≤ xs.length := List.length_filter_le _ _
theorem carsOf_len (xs : List Int) : (carsOf xs).length = (posOfL xs).length := sortL_len _
/-- an ascending list with the same members is the same -/
theorem sortL_uniq {xs ys : List Int} (h : List.Perm ys xs) (hs : ys.Pairwise (· ≤ ·)) : ys = sortL xs :=
  List.Perm.eq_of_pairwise (fun a b _ _ h1 h2 => Int.le_antisymm h1 h2) hs (sortL_sorted xs) (h.trans (sortL_perm xs).symm)

abbrev Visit4 := Int × Int × Int × Int
def visitCells (v : Visit4) : List Value := [.int .i64 v.1, .int .i64 v.2.1, .int .i64 v.2.2.1, .int .i64 v.2.2.2]

structure HouseD where
  wide : Int
  deep : Int
  cells : List Int
  free : Int
  step : Int
  price : Int
  capp : Int
  clock : Int
  bank : Int
  vs : List Visit4

def visitOk (clock : Int) (v : Visit4) : Bool := stayOk v.2.1 v.2.2.1 v.2.2.2 && decide (v.2.2.2 ≤ clock)
/-- the visits that are left are those of the cars that are left -/
def visitsOk (clock : Int) : List Int → List Visit4 → Bool
  | [], [] => true
  | c :: cs, v :: vs => decide (v.1 = c) && visitOk clock v && visitsOk clock cs vs
  | _, _ => false
def numsOk (h : HouseD) : Bool := decide (0 ≤ h.clock ∧ h.clock ≤ 9999 ∧ 0 ≤ h.bank ∧ h.bank ≤ 99999)
def houseOk (h : HouseD) : Bool := hallOk h.wide h.deep h.cells && tariffOk h.free h.step h.price h.capp && numsOk h && visitsOk h.clock (carsOf h.cells) h.vs
def houseZero : HouseD := ⟨0, 0, [], 0, 0, 0, 0, 0, 0, []⟩

theorem visitsOk_at {clock : Int} {cs : List Int} {vs : List Visit4} {k : Nat} {c : Int} {v : Visit4} (hc : cs[k]? = some c) (hv : vs[k]? = some v) :
    visitsOk clock (cs.drop k) (vs.drop k) = (decide (v.1 = c) && visitOk clock v && visitsOk clock (cs.drop (k + 1)) (vs.drop (k + 1))) := by
  rw [drop_cons hc, drop_cons hv]; rfl
theorem visitsOk_len {clock : Int} : ∀ {cs : List Int} {vs : List Visit4}, visitsOk clock cs vs = true → vs.map (·.1) = cs ∧ ∀ v ∈ vs, visitOk clock v = true := by
  intro cs
  induction cs with
  | nil => intro vs h; cases vs with
    | nil => simp
    | cons v vs => simp [visitsOk] at h
  | cons c cs ih =>
    intro vs h
    cases vs with
    | nil => simp [visitsOk] at h
    | cons v vs =>
      simp only [visitsOk, Bool.and_eq_true, decide_eq_true_eq] at h
      obtain ⟨⟨h1, h2⟩, h3⟩ := h
      obtain ⟨i1, i2⟩ := ih h3
      refine ⟨by simp [h1, i1], fun x hx => ?_⟩
      rcases List.mem_cons.1 hx with rfl | hx
      · exact h2
      · exact i2 x hx
theorem visitsOk_ne {clock : Int} {cs : List Int} {vs : List Visit4} (h : cs.length ≠ vs.length) : visitsOk clock cs vs = false := by
  cases hh : visitsOk clock cs vs with
  | false => rfl
  | true =>
    have := congrArg List.length (visitsOk_len hh).1
    simp at this
    omega

/-- the place of a car's visit -/
def visitAt (id : Int) (vs : List Visit4) : Option Visit4 := vs.find? (fun v => v.1 == id)
def houseStay (h : HouseD) (id : Int) : Option (Int × Int × Int) := if houseOk h then (visitAt id h.vs).map (·.2) else none
def houseDue (h : HouseD) (id : Int) : Int := match houseStay h id with
  | some s => stayDue h.free h.step h.price h.capp s.1 s.2.1 s.2.2 h.clock
  | none => -1
def houseMay (h : HouseD) (id : Int) : Bool := match houseStay h id with
  | some s => mayLeave h.free h.step h.price h.capp s.1 s.2.1 s.2.2 h.clock
  | none => false
def dueOf (h : HouseD) (v : Visit4) : Int := stayDue h.free h.step h.price h.capp v.2.1 v.2.2.1 v.2.2.2 h.clock
def owedSum (h : HouseD) (vs : List Visit4) : Int := vs.foldl (fun a v => a + dueOf h v) 0
def houseOwed (h : HouseD) : Int := if houseOk h then owedSum h h.vs else -1
def endOrder (h : HouseD) : List Int := if houseOk h then
    (if (0 : Int) ∈ h.cells then carsOf h.cells else h.cells.headD 0 :: (carsOf h.cells).filter (fun x => x != h.cells.headD 0)) else []
end Go.Proofs.YtncfnlocdlhagaaDoor

/-
  Both packages' HallEmpty, the reference's l1Sorted and HallCars. Conditions: slices read as lists.
-/
namespace Go.Proofs.YtncfnlocdlhagaaDoor
open Go.RowKit
set_option linter.unusedVariables false

abbrev TI : TypeId := 3
/-- a hall of the call's own -/
def RetHall (wide deep : Int) (xs : List Int) (w : World) (e : Ending) (w' : World) : Prop :=
  ∃ p cap, e = .returned (hallV wide deep p xs.length cap) ∧ w'.ownsRow w.heap.size TI 1 (.slice p xs.length cap) xs.length (ivs xs) ∧ Ext w w'
def emptyHall (wide deep : Int) : Int × Int × List Int := if 2 ≤ wide ∧ wide ≤ 4 ∧ 2 ≤ deep ∧ deep ≤ 3 then (wide, deep, List.replicate (wide * deep).toNat 0) else (0, 0, [])
theorem made_zero (n : Nat) : (madeCells (Value.int .i64 0).cells (n * 1)).toList = ivs (List.replicate n 0) := by
  apply List.ext_getElem <;> simp [madeCells, Value.cells, Nat.mod_one]

set_option maxRecDepth 100000 in
set_option maxHeartbeats 1000000 in
theorem implHe_bad (wide deep : Int) (w : World) (h : wide < 2 ∨ 2 ≤ wide ∧ 4 < wide ∨ 2 ≤ wide ∧ wide ≤ 4 ∧ deep < 2 ∨ 2 ≤ wide ∧ wide ≤ 4 ∧ 2 ≤ deep ∧ 3 < deep) :
    Calls Tryd.prog 70 #[.int .i64 wide, .int .i64 deep] w (RetHall 0 0 [] w) := by
  rcases h with h | ⟨h0, h⟩ | ⟨h0, h1, h⟩ | ⟨h0, h1, h2, h⟩
  all_goals
    go_enter Tryd.func70, Tryd.ntmps70
    go_wp2
    exact bodyPost_ret (v := hallV 0 0 none 0 0) (by simp [results, Tryd.results70, go_sem]) rfl ⟨none, 0, rfl, World.ownsRow_nil _ _ _ _, by (repeat' (first | exact Ext.refl _ | (with_reducible assumption) | (with_reducible refine Ext.alloc ?_ _) | (with_reducible refine Ext.setCell ?_ (by first | exact Nat.le_refl _ | (dsimp only; omega) | (simp; done) | (simp; omega)) _) | (with_reducible refine Ext.drew ?_) | (with_reducible refine Ext.drewN ?_ _) | (refine Ext.trans ?_ (by with_reducible assumption))))⟩
set_option maxRecDepth 100000 in
set_option maxHeartbeats 1000000 in
theorem specHe_bad (wide deep : Int) (w : World) (h : wide < 2 ∨ 2 ≤ wide ∧ 4 < wide ∨ 2 ≤ wide ∧ wide ≤ 4 ∧ deep < 2 ∨ 2 ≤ wide ∧ wide ≤ 4 ∧ 2 ≤ deep ∧ 3 < deep) :
    Calls Tryd.prog 72 #[.int .i64 wide, .int .i64 deep] w (RetHall 0 0 [] w) := by
  rcases h with h | ⟨h0, h⟩ | ⟨h0, h1, h⟩ | ⟨h0, h1, h2, h⟩
  all_goals
    (try (have hdd : decide (deep ≤ 3) = false := by simp; omega))
    (try (have hdd : decide (wide ≤ 4) = false := by simp; omega))
    go_enter Tryd.func72, Tryd.ntmps72
    go_wp2_with go_in
    exact bodyPost_ret (v := hallV 0 0 none 0 0) (by simp [results, Tryd.results72, go_sem]) rfl ⟨none, 0, rfl, World.ownsRow_nil _ _ _ _, by (repeat' (first | exact Ext.refl _ | (with_reducible assumption) | (with_reducible refine Ext.alloc ?_ _) | (with_reducible refine Ext.setCell ?_ (by first | exact Nat.le_refl _ | (dsimp only; omega) | (simp; done) | (simp; omega)) _) | (with_reducible refine Ext.drew ?_) | (with_reducible refine Ext.drewN ?_ _) | (refine Ext.trans ?_ (by with_reducible assumption))))⟩
theorem Blk.three {w : World} {g : Nat} {t : TypeId} {a b c : Value} (h : Blk w g t #[a, b, c]) : w.cell? ⟨g, 0, none⟩ = some a ∧ w.cell? ⟨g, 1, none⟩ = some b ∧ w.cell? ⟨g, 2, none⟩ = some c ∧ w.frozen? ⟨g, 0, none⟩ = false ∧ w.frozen? ⟨g, 1, none⟩ = false ∧ w.frozen? ⟨g, 2, none⟩ = false :=
  ⟨h.cell 0, h.cell 1, h.cell 2, h.frozen 0, h.frozen 1, h.frozen 2⟩
theorem ret_hall {wide deep : Int} {p : Option Addr} {n cap : Nat} {xs : List Int} {w w' : World} (hn : xs.length = n) (ho : w'.ownsRow w.heap.size TI 1 (.slice p n cap) n (ivs xs)) (hx : Ext w w') : RetHall wide deep xs w (.returned (hallV wide deep p n cap)) w' := by
  subst hn; exact ⟨p, cap, rfl, ho, hx⟩
theorem own_store3 {w : World} {B n : Nat} {xs : List Value} {c0 c1 c2 : Value} (h : w.ownsRow B TI 1 (.slice (some ⟨B + 1, 0, none⟩) n n) n xs) :
    (((w.setCell ⟨B, 0, none⟩ c0).setCell ⟨B, 1, none⟩ c1).setCell ⟨B, 2, none⟩ c2).ownsRow B TI 1 (.slice (some ⟨B + 1, 0, none⟩) n n) n xs := by
  have hx : ExtR B w (((w.setCell ⟨B, 0, none⟩ c0).setCell ⟨B, 1, none⟩ c1).setCell ⟨B, 2, none⟩ c2) := (((ExtR.refl B w).setCell (p := ⟨B, 0, none⟩) (.inl rfl) _).setCell (p := ⟨B, 1, none⟩) (.inl rfl) _).setCell (p := ⟨B, 2, none⟩) (.inl rfl) _
  exact h.kept hx (.inr (by simp [Value.ownBlock]))

set_option maxRecDepth 100000 in
set_option maxHeartbeats 1000000 in
theorem implHe_ok (wide deep : Int) (n : Nat) (w : World) (h0 : 2 ≤ wide) (h1 : wide ≤ 4) (h2 : 2 ≤ deep) (h3 : deep ≤ 3) (h4 : 0 ≤ wide * deep) (h5 : wide * deep ≤ 12) (h6 : wide * deep = (n : Int)) (h7 : n ≤ 12) :
    Calls Tryd.prog 70 #[.int .i64 wide, .int .i64 deep] w (RetHall wide deep (List.replicate n 0) w) := by
  obtain ⟨i0, hi, hz0, hz1, hz2⟩ := info_parts (show (Tryd.prog.info? 3).map (fun i => (i.zero, i.size, i.bytes)) = some (some (.int .i64 0), 1, 8) by kernel_rfl)
  have q1 : decide (wide ≤ 4) = true := by simp [h1]
  have q2 : decide (deep ≤ 3) = true := by simp [h3]
  go_enter Tryd.func70, Tryd.ntmps70
  go_wp2_with (first | go_in | (at_make; refine wpList_make_full _ rfl _ _ 38 rfl w.heap.size 3 i0 (.int .i64 0) 1 Tryd.underlying38 hi hz0 hz1 .i64 .i64 _ _ n rfl rfl (by first | rfl | exact h6) (by first | rfl | exact h6) (by rw [hz2]; omega) (by unfold maxLen; omega) (by simp) ?_; intro w0 hown0 hgrow0; have hE0 : Ext _ w0 := (Ext.refl _).grown hgrow0 (fun q hq => by cases hq); obtain ⟨p0, p1, p2, p3, p4, p5⟩ := ((Blk.new w 48 #[.int .i64 0, .int .i64 0, .slice none 0 0]).ext hE0).three; have hz : w.heap.size < w0.heap.size := Nat.lt_of_lt_of_le (by simp) hE0.sz; rw [made_zero] at hown0; have HO := Lib.hid hown0; have HE0 : Hid (Ext w w0) := ((Ext.refl w).alloc _).trans hE0; clear hown0 hgrow0 hE0))
  have hx : Ext w _ := (((HE0.out.setCell (p := ⟨w.heap.size, 0, none⟩) (Nat.le_refl _) (.int .i64 wide)).setCell (p := ⟨w.heap.size, 1, none⟩) (Nat.le_refl _) (.int .i64 deep)).setCell (p := ⟨w.heap.size, 2, none⟩) (Nat.le_refl _) (.slice (some ⟨w.heap.size + 1, 0, none⟩) n n))
  exact bodyPost_ret (v := hallV wide deep (some ⟨w.heap.size + 1, 0, none⟩) n n) (by simp [results, Tryd.results70, go_sem, *]) rfl (ret_hall (by simp) (own_store3 (by simpa using HO.out)) hx)

set_option maxRecDepth 100000 in
set_option maxHeartbeats 1000000 in
theorem specHe_ok (wide deep : Int) (n : Nat) (w : World) (h0 : 2 ≤ wide) (h1 : wide ≤ 4) (h2 : 2 ≤ deep) (h3 : deep ≤ 3) (h4 : 0 ≤ wide * deep) (h5 : wide * deep ≤ 12) (h6 : wide * deep = (n : Int)) (h7 : n ≤ 12) :
    Calls Tryd.prog 72 #[.int .i64 wide, .int .i64 deep] w (RetHall wide deep (List.replicate n 0) w) := by
  obtain ⟨i0, hi, hz0, hz1, hz2⟩ := info_parts (show (Tryd.prog.info? 3).map (fun i => (i.zero, i.size, i.bytes)) = some (some (.int .i64 0), 1, 8) by kernel_rfl)
  have q1 : decide (wide ≤ 4) = true := by simp [h1]
  have q2 : decide (deep ≤ 3) = true := by simp [h3]
  go_enter Tryd.func72, Tryd.ntmps72
  go_wp2_with (first | go_in | (at_make; refine wpList_make_full _ rfl _ _ 38 rfl w.heap.size 3 i0 (.int .i64 0) 1 Tryd.underlying38 hi hz0 hz1 .i64 .i64 _ _ n rfl rfl (by first | rfl | exact h6) (by first | rfl | exact h6) (by rw [hz2]; omega) (by unfold maxLen; omega) (by simp) ?_; intro w0 hown0 hgrow0; have hE0 : Ext _ w0 := (Ext.refl _).grown hgrow0 (fun q hq => by cases hq); obtain ⟨p0, p1, p2, p3, p4, p5⟩ := ((Blk.new w 48 #[.int .i64 0, .int .i64 0, .slice none 0 0]).ext hE0).three; have hz : w.heap.size < w0.heap.size := Nat.lt_of_lt_of_le (by simp) hE0.sz; rw [made_zero] at hown0; have HO := Lib.hid hown0; have HE0 : Hid (Ext w w0) := ((Ext.refl w).alloc _).trans hE0; clear hown0 hgrow0 hE0))
  have hx : Ext w _ := (((HE0.out.setCell (p := ⟨w.heap.size, 0, none⟩) (Nat.le_refl _) (.int .i64 wide)).setCell (p := ⟨w.heap.size, 1, none⟩) (Nat.le_refl _) (.int .i64 deep)).setCell (p := ⟨w.heap.size, 2, none⟩) (Nat.le_refl _) (.slice (some ⟨w.heap.size + 1, 0, none⟩) n n))
  exact bodyPost_ret (v := hallV wide deep (some ⟨w.heap.size + 1, 0, none⟩) n n) (by simp [results, Tryd.results72, go_sem, *]) rfl (ret_hall (by simp) (own_store3 (by simpa using HO.out)) hx)

end Go.Proofs.YtncfnlocdlhagaaDoor

/-
  Appending a slice that reads as a list to a slice of the call's own; both kinds of append as steps of a region that draws its order. No condition.
-/
namespace Go.Proofs.YtncfnlocdlhagaaDoor
open Go.RowKit
set_option linter.unusedVariables false

section
variable {P : Program} (w : World)
theorem run_append_sl {t e ty : TypeId} {sz : Nat} (E : ElT P t e sz) (base : Nat) (v : Value) (n : Nat) (xs : List Value) (hown : w.ownsRow base e sz v n xs) (p : Option Addr) (m c : Nat) (news : List Value) (hs : Sl w p m c sz news)
    (h1 : ∀ u ∈ news, u.oneCell' = true) (hn : n + m ≤ 1099511627776) (hbase : base ≤ w.heap.size) :
    ∃ p' cap' w', (Builtin.append_ #[t, t] ty #[v, .slice p m c]).run P w = .ok (.slice p' (n + m) cap') w' ∧ w'.ownsRow base e sz (.slice p' (n + m) cap') (n + m) (xs ++ news) ∧ w.grownBy w' v.ownBlock := by
  obtain ⟨i, z, hi, hz, hsz, hby, hzs⟩ := E.info
  cases p with
  | none =>
    have hm : m = 0 := by
      rcases Nat.eq_zero_or_pos m with h0 | h0
      · exact h0
      · obtain ⟨b, off, h, _⟩ := hs.rd h0; cases h
    subst hm
    have hnews : news = [] := List.eq_nil_of_length_eq_zero (by simpa using hs.len)
    subst hnews
    obtain ⟨q, cap, rfl⟩ := own_form hown
    refine ⟨q, cap, w, ?_, by simpa using hown, World.grownBy.refl w _⟩
    rcases hown.2 with ⟨h2, h3⟩ | ⟨g, cap', cur, h2, _, _, hnc, _⟩
    · injection h2 with e1 e2 e3
      subst e1 e2 e3
      simp [Builtin.append_, run_underlying E.ht, sizeOf, typeInfo, hi, Builtin.lenOf, Builtin.firstCells]
    · injection h2 with e1 e2 e3
      subst e1 e3
      simp [Builtin.append_, run_underlying E.ht, sizeOf, typeInfo, hi, Builtin.lenOf, Builtin.firstCells, hnc, storeCells]
  | some ad =>
    have hcells : ∀ j u, news[j]? = some u → w.cell? (ad.add j) = some u := by
      intro j u hu
      rcases Nat.eq_zero_or_pos m with h0 | h0
      · subst h0
        have hnews : news = [] := List.eq_nil_of_length_eq_zero (by simpa using hs.len)
        subst hnews
        simp at hu
      · obtain ⟨b, off, h, _, hc⟩ := hs.rd h0
        injection h with h
        subst h
        rw [addr_add, hc j (by rw [← hs.len]; exact (List.getElem?_eq_some_iff.1 hu).1)]
        exact hu
    have hbb : (n + m) * i.bytes ≤ 140737488355328 := by
      have : (n + m) * i.bytes ≤ (n + m) * 64 := Nat.mul_le_mul_left _ hby
      omega
    obtain ⟨v', w', hrun, h2, h3, _, _⟩ := run_append_own_at (P := P) w base t ty e i z sz i.bytes E.ht hi hz hsz rfl hzs E.pos v n xs hown ad m c news hs.len hcells h1 (by unfold maxLen; omega) hbb hbase
    obtain ⟨q, cap, rfl⟩ := own_form h2
    exact ⟨q, cap, w', hrun, h2, h3⟩

theorem wp_append_sl {o : Oper} {a : Act} {K : Act → World → Prop} {Q : Exit → Act → World → Prop} {t e : TypeId} {sz : Nat} (E : ElT P t e sz) (s x : Operand)
    (ho : o.op = .call { callee := .builtin .append, args := #[s, x], argTypes := #[t, t] })
    (base : Nat) (v : Value) (n : Nat) (xs : List Value) (hs : a.eval s = v) (hown : w.ownsRow base e sz v n xs)
    (p : Option Addr) (m c : Nat) (news : List Value) (hx : a.eval x = .slice p m c) (hr : Sl w p m c sz news) (h1 : ∀ u ∈ news, u.oneCell' = true)
    (hn : n + m ≤ 1099511627776) (hbase : base ≤ w.heap.size)
    (h : ∀ p' cap' w', w'.ownsRow base e sz (.slice p' (n + m) cap') (n + m) (xs ++ news) → w.grownBy w' v.ownBlock → K (a.put o.dst (.slice p' (n + m) cap')) w') : o.wp P a w K Q := by
  obtain ⟨p', cap', w', hrun, h2, h3⟩ := run_append_sl (ty := o.type) w E base v n xs hown p m c news hr h1 hn hbase
  unfold Oper.wp execOp
  simp only [ho, resolve, invoke, builtin, Sem.run_bind, Sem.run_pure, Result.andThen_ok, List.map_toArray, List.map_cons, List.map_nil, hs, hx, hrun]
  exact h p' cap' w' h2 h3

theorem wpList_append_sl {ops : Array Oper} {rest : List Oper} {o : Oper} {a : Act} {Q : Exit → Act → World → Prop} {t e : TypeId} {sz : Nat} (E : ElT P t e sz) (hgd : o.guard = none) (s x : Operand)
    (ho : o.op = .call { callee := .builtin .append, args := #[s, x], argTypes := #[t, t] })
    (base : Nat) (v : Value) (n : Nat) (xs : List Value) (hs : a.eval s = v) (hown : w.ownsRow base e sz v n xs)
    (p : Option Addr) (m c : Nat) (news : List Value) (hx : a.eval x = .slice p m c) (hr : Sl w p m c sz news) (h1 : ∀ u ∈ news, u.oneCell' = true)
    (hn : n + m ≤ 1099511627776) (hbase : base ≤ w.heap.size)
    (h : ∀ p' cap' w', w'.ownsRow base e sz (.slice p' (n + m) cap') (n + m) (xs ++ news) → w.grownBy w' v.ownBlock → wpList P ops Q rest (a.put o.dst (.slice p' (n + m) cap')) w') : wpList P ops Q (o :: rest) a w :=
  wpList_plain hgd fun _ hK => wp_append_sl w E s x ho base v n xs hs hown p m c news hx hr h1 hn hbase fun p' cap' w' h2 h3 => hK _ _ (h p' cap' w' h2 h3)

theorem step_append_sl {ops : Array Oper} {o : Oper} {a : Act} {K : Act → World → Prop} {Q : Exit → Act → World → Prop} {E0 : Prop} {t e : TypeId} {sz : Nat} (E : ElT P t e sz) (hgd : o.guard = none) (s x : Operand)
    (ho : o.op = .call { callee := .builtin .append, args := #[s, x], argTypes := #[t, t] })
    (base : Nat) (v : Value) (n : Nat) (xs : List Value) (hs : a.eval s = v) (hown : w.ownsRow base e sz v n xs)
    (p : Option Addr) (m c : Nat) (news : List Value) (hx : a.eval x = .slice p m c) (hr : Sl w p m c sz news) (h1 : ∀ u ∈ news, u.oneCell' = true)
    (hn : n + m ≤ 1099511627776) (hbase : base ≤ w.heap.size)
    (h : ∀ p' cap' w', w'.ownsRow base e sz (.slice p' (n + m) cap') (n + m) (xs ++ news) → w.grownBy w' v.ownBlock → K (a.put o.dst (.slice p' (n + m) cap')) w') :
    if Region.wanted o (yielded ops a.tmps) = true then Oper.wp P o a w K Q else E0 := by
  have hw : Region.wanted o (yielded ops a.tmps) = true := by simp [Region.wanted, hgd]
  rw [if_pos hw]
  exact wp_append_sl w E s x ho base v n xs hs hown p m c news hx hr h1 hn hbase h
end
theorem ivs_one (xs : List Int) : ∀ u ∈ ivs xs, u.oneCell' = true := by
  intro u hu
  obtain ⟨x, _, rfl⟩ := List.mem_map.1 hu
  rfl
end Go.Proofs.YtncfnlocdlhagaaDoor

/-
  The reference's l1Sorted and HallCars. Conditions: slices read as lists.
-/
namespace Go.Proofs.YtncfnlocdlhagaaDoor
open Go.RowKit
set_option linter.unusedVariables false

/-- ints in a slice of the call's own -/
def RetInts (xs : List Int) (w : World) (e : Ending) (w' : World) : Prop :=
  ∃ p cap, e = .returned (.slice p xs.length cap) ∧ w'.ownsRow w.heap.size TI 1 (.slice p xs.length cap) xs.length (ivs xs) ∧ Ext w w'
theorem ret_ints {p : Option Addr} {n cap : Nat} {xs : List Int} {w w' : World} (hn : xs.length = n) (ho : w'.ownsRow w.heap.size TI 1 (.slice p n cap) n (ivs xs)) (hx : Ext w w') : RetInts xs w (.returned (.slice p n cap)) w' := by
  subst hn; exact ⟨p, cap, rfl, ho, hx⟩
theorem insL_at : ∀ (xs : List Int) (k : Nat) (x : Int), (∀ y ∈ xs.take k, y < x) → (∀ y, xs[k]? = some y → ¬ y < x) → insL x xs = xs.take k ++ x :: xs.drop k := by
  intro xs
  induction xs with
  | nil => intro k x _ _; simp [insL]
  | cons y ys ih =>
    intro k x h1 h2
    cases k with
    | zero =>
      have := h2 y rfl
      simp [insL, this]
    | succ k =>
      have h3 : y < x := h1 y (by simp)
      rw [insL, if_pos h3, ih k x (fun z hz => h1 z (by simp [hz])) (fun z hz => h2 z (by simpa using hz))]
      simp
theorem insL_len (x : Int) (xs : List Int) : (insL x xs).length = xs.length + 1 := (insL_perm x xs).length_eq

theorem sl_drop {w : World} {b off n cap k : Nat} {xs : List Int} (h : Sl w (some ⟨b, off, none⟩) n cap 1 (ivs xs)) (hk : k ≤ n) : Sl w (some ⟨b, off + k, none⟩) (n - k) (cap - k) 1 (ivs (xs.drop k)) := by
  have hl := h.ilen
  have hle := h.le
  have hmx := h.mx
  refine ⟨by simp; omega, by omega, by omega, fun h0 => ?_⟩
  obtain ⟨b', off', e, hb, hc⟩ := h.rd (by omega)
  injection e with e; injection e with e1 e2
  subst e1 e2
  refine ⟨_, _, rfl, hb, fun j hj => ?_⟩
  rw [Nat.add_assoc, hc (k + j) (by omega)]
  simp
theorem sl_zero (w : World) (p : Option Addr) {c : Nat} (hc : c ≤ maxLen) : Sl w p 0 c 1 (ivs []) := ⟨by simp, Nat.zero_le _, hc, fun h => absurd h (by omega)⟩

set_option maxRecDepth 100000 in
set_option maxHeartbeats 1000000 in
theorem l1Sorted_any (p : Option Addr) (n cap : Nat) (xs : List Int) (x : Int) (w : World) (hn : n ≤ 1000000) (hS : Sl w p n cap 1 (ivs xs)) :
    Calls Tryd.prog 109 #[.slice p n cap, .int .i64 x] w (RetInts (insL x xs) w) := by
  have hl := Lib.hid hS.ilen
  have hncap := hS.le
  have hcm := hS.mx
  unfold maxLen at hcm
  have HS := Lib.hid hS
  clear hS
  go_enter Tryd.func109, Tryd.ntmps109
  go_wp2
  go_loopw [5, 6] (fun v i wr => ∃ (k : Nat) (q : Option Addr) (c : Nat), k ≤ n ∧ i = .int .i64 k ∧ v = .slice q k c ∧ wr.ownsRow w.heap.size TI 1 (.slice q k c) k (ivs (xs.take k)) ∧ (∀ y ∈ xs.take k, y < x) ∧ Ext w wr) (fun _ i _ => n - (intOf i).toNat)
  case atStart => exact ⟨0, _, 0, Nat.zero_le _, rfl, rfl, World.ownsRow_made _ #[] 0 (Nat.le_refl _) (by simp [maxLen]) rfl, by simp, by (repeat' (first | exact Ext.refl _ | (with_reducible assumption) | (with_reducible refine Ext.alloc ?_ _) | (with_reducible refine Ext.setCell ?_ (by first | exact Nat.le_refl _ | (dsimp only; omega) | (simp; done) | (simp; omega)) _) | (with_reducible refine Ext.drew ?_) | (with_reducible refine Ext.drewN ?_ _) | (refine Ext.trans ?_ (by with_reducible assumption))))⟩
  case round =>
    obtain ⟨k, q, c, hk, rfl, rfl, hown, hlt', hE⟩ := hrel
    have HO := Lib.hid hown
    have HL := Lib.hid hlt'
    have hsz := hE.sz
    clear hown hlt'
    by_cases hlt : k < n
    · obtain ⟨b, off, y, rfl, hx, hb, hcell⟩ := (HS.out.ext hE).int_at hlt
      have HX := Lib.hid hx
      clear hx
      by_cases hy : y < x
      · have hfin : Hid (∀ z ∈ xs.take (k + 1), z < x) := by
          show ∀ z ∈ xs.take (k + 1), z < x
          rw [take_snocL HX.out]
          intro z hz
          rcases List.mem_append.1 hz with h | h
          · exact HL.out z h
          · simp at h; omega
        go_wp2_with (at_builtin; refine wpList_append_int elInt rfl _ _ rfl w.heap.size _ _ _ rfl (HO.out.alloc _) _ _ y _ rfl (by simp) (by omega) (by simp; omega) ?_; intro p' cap' w1 hown1 hg1; have HO1 := Lib.hid hown1; have hE1 : Ext w w1 := Ext.own (hE.alloc _) (HO.out.alloc _) hg1 (Nat.le_refl _); clear hown1 hg1)
        go_roundw
        case rel => exact ⟨k + 1, p', cap', by omega, by go_num, rfl, by rw [take_snocL HX.out]; exact HO1.out, hfin.out, hE1⟩
        case measure => simp [intOf]; omega
      · have hfin : Hid (insL x xs = xs.take k ++ x :: xs.drop k) := insL_at xs k x HL.out (fun z hz => by rw [HX.out] at hz; injection hz with hz; subst hz; exact hy)
        have i1 : (0 : Int) ≤ (k : Int) := by omega
        have i2 : (k : Int) ≤ (n : Int) := by omega
        have hck : ¬ cap = k := by omega
        go_wp2
        go_region_law ((first
          | (refine step_append_sl _ elInt (by rfl) _ _ (by rfl) w.heap.size _ k (ivs (xs.take k)) (by rfl) (by first | exact HO.out | exact HO.out.alloc _ | exact (HO.out.alloc _).drew | exact (HO.out.drew).alloc _ | exact HO.out.drew) _ 1 1 [iv x] (by rfl) (by first | exact Sl.new wr #[iv x] _ 1 rfl (by decide) | exact (Sl.new wr #[iv x] _ 1 rfl (by decide)).ext (Ext.drew (Ext.refl _)) | exact Sl.new wr.drew #[iv x] _ 1 rfl (by decide)) (ivs_one [x]) (by omega) (by simp; omega) ?_
             intro p1 c1 w1 hown1 hg1
             have hE1 : Ext w w1 := Ext.own (by (repeat' (first | exact Ext.refl _ | (with_reducible assumption) | (with_reducible refine Ext.alloc ?_ _) | (with_reducible refine Ext.setCell ?_ (by first | exact Nat.le_refl _ | (dsimp only; omega) | (simp; done) | (simp; omega)) _) | (with_reducible refine Ext.drew ?_) | (with_reducible refine Ext.drewN ?_ _) | (refine Ext.trans ?_ (by with_reducible assumption))))) (by first | exact HO.out | exact HO.out.alloc _ | exact (HO.out.alloc _).drew | exact (HO.out.drew).alloc _ | exact HO.out.drew) hg1 (Nat.le_refl _)
             have HO1 := Lib.hid hown1
             have HS1 := Lib.hid (HS.out.ext hE1)
             have hz1 := hE1.sz
             clear hown1 hg1)
          | (refine step_append_sl _ elInt (by rfl) _ _ (by rfl) w.heap.size _ (k + 1) (ivs (xs.take k) ++ [iv x]) (by rfl) HO1.out _ (n - k) (cap - k) (ivs (xs.drop k)) (by rfl) (sl_drop HS1.out (by omega)) (ivs_one _) (by omega) (by omega) ?_
             intro p2 c2 w2 hown2 hg2
             have hE2 : Ext w w2 := Ext.own hE1 HO1.out hg2 (Nat.le_refl _)
             have HO2 := Lib.hid hown2
             clear hown2 hg2)))
        all_goals go_wp2
        all_goals go_ret
        all_goals exact ret_ints (by rw [hfin.out]; simp; rw [hl.out]; omega) (by rw [hfin.out]; simpa using HO2.out) hE2
    · obtain rfl : k = n := by omega
      have hfin : Hid (insL x xs = xs ++ [x]) := by
        have := insL_at xs k x HL.out (fun z hz => by rw [List.getElem?_eq_none (by rw [hl.out]; exact Nat.le_refl _)] at hz; cases hz)
        show _ = _
        rw [this, List.take_of_length_le (by rw [hl.out]; exact Nat.le_refl _), List.drop_eq_nil_of_le (by rw [hl.out]; exact Nat.le_refl _)]
      have i1 : (0 : Int) ≤ (k : Int) := by omega
      go_wp2
      go_region_law ((first
        | (refine step_append_sl _ elInt (by rfl) _ _ (by rfl) w.heap.size _ k (ivs (xs.take k)) (by rfl) (by first | exact HO.out | exact HO.out.alloc _ | exact (HO.out.alloc _).drew | exact (HO.out.drew).alloc _ | exact HO.out.drew) _ 1 1 [iv x] (by rfl) (by first | exact Sl.new wr #[iv x] _ 1 rfl (by decide) | exact (Sl.new wr #[iv x] _ 1 rfl (by decide)).ext (Ext.drew (Ext.refl _)) | exact Sl.new wr.drew #[iv x] _ 1 rfl (by decide)) (ivs_one [x]) (by omega) (by simp; omega) ?_
           intro p1 c1 w1 hown1 hg1
           have hE1 : Ext w w1 := Ext.own (by (repeat' (first | exact Ext.refl _ | (with_reducible assumption) | (with_reducible refine Ext.alloc ?_ _) | (with_reducible refine Ext.setCell ?_ (by first | exact Nat.le_refl _ | (dsimp only; omega) | (simp; done) | (simp; omega)) _) | (with_reducible refine Ext.drew ?_) | (with_reducible refine Ext.drewN ?_ _) | (refine Ext.trans ?_ (by with_reducible assumption))))) (by first | exact HO.out | exact HO.out.alloc _ | exact (HO.out.alloc _).drew | exact (HO.out.drew).alloc _ | exact HO.out.drew) hg1 (Nat.le_refl _)
           have HO1 := Lib.hid hown1
           have HS1 := Lib.hid (HS.out.ext hE1)
           have hz1 := hE1.sz
           clear hown1 hg1)
        | (refine step_append_sl _ elInt (by rfl) _ _ (by rfl) w.heap.size _ (k + 1) (ivs (xs.take k) ++ [iv x]) (by rfl) HO1.out _ 0 _ (ivs []) (by rfl) (sl_zero _ _ (by unfold maxLen; omega)) (ivs_one _) (by omega) (by omega) ?_
           intro p2 c2 w2 hown2 hg2
           have hE2 : Ext w w2 := Ext.own hE1 HO1.out hg2 (Nat.le_refl _)
           have HO2 := Lib.hid hown2
           clear hown2 hg2)))
      all_goals go_wp2
      all_goals go_ret
      all_goals exact ret_ints (by rw [hfin.out]; simp; rw [hl.out]) (by rw [hfin.out]; have := HO2.out; rw [List.take_of_length_le (by rw [hl.out]; exact Nat.le_refl _)] at this; simpa using this) hE2
end Go.Proofs.YtncfnlocdlhagaaDoor

/-
  slices.Sort on a slice of the call's own; both packages' HallCars. Conditions: slices read as lists.
-/
namespace Go.Proofs.YtncfnlocdlhagaaDoor
open Go.RowKit
set_option linter.unusedVariables false

theorem merge_sortL (xs : List Int) : (xs.mergeSort fun x y => decide (x ≤ y)) = sortL xs := by
  refine sortL_uniq (List.mergeSort_perm _ _) ?_
  have := List.pairwise_mergeSort (le := fun x y : Int => decide (x ≤ y)) (fun a b c h1 h2 => by simp at *; omega) (fun a b => by simp; omega) xs
  simpa using this

theorem sort_any (B : Nat) (p : Option Addr) (n cap : Nat) (xs : List Int) (w : World) (h : w.ownsRow B TI 1 (.slice p n cap) n (ivs xs)) (hn : n ≤ 1000000) :
    Calls Tryd.prog 78 #[.slice p n cap] w fun e w' => e = .returned (.tuple #[]) ∧ w'.ownsRow B TI 1 (.slice p n cap) n (ivs (sortL xs)) ∧ w.grownBy w' (Value.slice p n cap).ownBlock := by
  have hl : xs.length = n := by have := h.1; simpa using this
  subst hl
  by_cases h0 : xs.length = 0
  · obtain rfl : xs = [] := List.eq_nil_of_length_eq_zero h0
    refine (Tryd.slices_Sort_int_none p cap w).mono ?_
    rintro e w' ⟨rfl, rfl⟩
    exact ⟨rfl, h, World.grownBy.refl _ _⟩
  · rcases h.2 with ⟨h1, h2⟩ | ⟨g, cap', cur, h1, hb, hg, hnc, hm, hs, ht⟩
    · exact absurd h2 h0
    · injection h1 with e1 e2 e3
      subst e1 e3
      refine (Tryd.slices_Sort_int g 0 cap xs w (Go.holds_of_blockI hg (by simpa using ht)) (Array.getElem?_eq_some_iff.1 hg).1 (by omega)).mono ?_
      rintro e w' ⟨rfl, k, os, rfl⟩
      rw [merge_sortL]
      exact ⟨rfl, Go.ownsRow_sortedI (sortL_len xs) hb hg hnc hm hs, Go.grownBy_sortedI _⟩

theorem own_ext {w w' : World} {B n sz : Nat} {e : TypeId} {v : Value} {xs : List Value} (ho : w.ownsRow B e sz v n xs) (h : Ext w w') : w'.ownsRow B e sz v n xs :=
  ho.kept (row := none) ⟨h.os, h.tape, h.output, h.size, fun k hk _ => h.block k hk⟩ (by cases v.ownBlock <;> simp)
theorem own_base {w : World} {B B' n sz : Nat} {e : TypeId} {v : Value} {xs : List Value} (h : w.ownsRow B e sz v n xs) (hb : B' ≤ B) : w.ownsRow B' e sz v n xs := by
  refine ⟨h.1, ?_⟩
  rcases h.2 with h2 | ⟨g, cap', cur, e1, hb', r⟩
  · exact .inl h2
  · exact .inr ⟨g, cap', cur, e1, Nat.le_trans hb hb', r⟩

set_option maxRecDepth 100000 in
set_option maxHeartbeats 1000000 in
theorem specHc_bad (wide deep : Int) (p : Option Addr) (n cap : Nat) (w : World) (HV : Hid (∀ w', Ext w w' → Calls Tryd.prog 73 #[hallV wide deep p n cap] w' fun e w'' => e = .returned (.bool false) ∧ Ext w' w'')) :
    Calls Tryd.prog 90 #[hallV wide deep p n cap] w (RetInts [] w) := by
  go_enter Tryd.func90, Tryd.ntmps90
  go_wp2_with fail
  refine (HV.out _ (by (repeat' (first | exact Ext.refl _ | (with_reducible assumption) | (with_reducible refine Ext.alloc ?_ _) | (with_reducible refine Ext.setCell ?_ (by first | exact Nat.le_refl _ | (dsimp only; omega) | (simp; done) | (simp; omega)) _) | (with_reducible refine Ext.drew ?_) | (with_reducible refine Ext.drewN ?_ _) | (refine Ext.trans ?_ (by with_reducible assumption)))))).mono ?_
  rintro e w1 ⟨rfl, h1⟩
  go_wp2
  go_ret
  have ho : ((w.alloc (.cells #[.int .i64 wide, .int .i64 deep, .slice p n cap] 48)).alloc (.cells #[] TI)).ownsRow w.heap.size TI 1 (.slice (some ⟨(w.alloc (.cells #[.int .i64 wide, .int .i64 deep, .slice p n cap] 48)).heap.size, 0, none⟩) 0 0) 0 [] := World.ownsRow_made _ #[] 0 (by simp) (by simp [maxLen]) rfl
  exact ret_ints rfl (by simpa using own_ext ho h1) (by (repeat' (first | exact Ext.refl _ | (with_reducible assumption) | (with_reducible refine Ext.alloc ?_ _) | (with_reducible refine Ext.setCell ?_ (by first | exact Nat.le_refl _ | (dsimp only; omega) | (simp; done) | (simp; omega)) _) | (with_reducible refine Ext.drew ?_) | (with_reducible refine Ext.drewN ?_ _) | (refine Ext.trans ?_ (by with_reducible assumption)))))

set_option maxRecDepth 100000 in
set_option maxHeartbeats 1000000 in
theorem specHc_ok (wide deep : Int) (p : Option Addr) (n cap : Nat) (xs : List Int) (w : World) (hn : n ≤ 12) (HS : Hid (Sl w p n cap 1 (ivs xs))) (HV : Hid (∀ w', Ext w w' → Calls Tryd.prog 73 #[hallV wide deep p n cap] w' fun e w'' => e = .returned (.bool true) ∧ Ext w' w'')) :
    Calls Tryd.prog 90 #[hallV wide deep p n cap] w (RetInts (carsOf xs) w) := by
  have hl := Lib.hid HS.out.ilen
  go_enter Tryd.func90, Tryd.ntmps90
  go_wp2_with fail
  refine (HV.out _ (by (repeat' (first | exact Ext.refl _ | (with_reducible assumption) | (with_reducible refine Ext.alloc ?_ _) | (with_reducible refine Ext.setCell ?_ (by first | exact Nat.le_refl _ | (dsimp only; omega) | (simp; done) | (simp; omega)) _) | (with_reducible refine Ext.drew ?_) | (with_reducible refine Ext.drewN ?_ _) | (refine Ext.trans ?_ (by with_reducible assumption)))))).mono ?_
  rintro e w1 ⟨rfl, h1⟩
  have ho : ((w.alloc (.cells #[.int .i64 wide, .int .i64 deep, .slice p n cap] 48)).alloc (.cells #[] TI)).ownsRow w.heap.size TI 1 (.slice (some ⟨(w.alloc (.cells #[.int .i64 wide, .int .i64 deep, .slice p n cap] 48)).heap.size, 0, none⟩) 0 0) 0 [] := World.ownsRow_made _ #[] 0 (by simp) (by simp [maxLen]) rfl
  have HO0 := Lib.hid (own_ext ho h1)
  have hz1 : w.heap.size < w1.heap.size := Nat.lt_of_lt_of_le (by first | (simp; omega) | simp) h1.sz
  have eb : w1.cell? ⟨w.heap.size, 2, none⟩ = some (.slice p n cap) := by rw [h1.cells.1 _ _ (by simp; omega)]; simp
  have hx1 : Ext w w1 := by (repeat' (first | exact Ext.refl _ | (with_reducible assumption) | (with_reducible refine Ext.alloc ?_ _) | (with_reducible refine Ext.setCell ?_ (by first | exact Nat.le_refl _ | (dsimp only; omega) | (simp; done) | (simp; omega)) _) | (with_reducible refine Ext.drew ?_) | (with_reducible refine Ext.drewN ?_ _) | (refine Ext.trans ?_ (by with_reducible assumption))))
  clear ho
  go_wp2
  go_loopw [3, 4] (fun v i wr => ∃ (k : Nat) (q : Option Addr) (m c : Nat), k ≤ n ∧ i = .int .i64 k ∧ v = .slice q m c ∧ m ≤ k ∧ wr.ownsRow w.heap.size TI 1 (.slice q m c) m (ivs (sortL (posOfL (xs.take k)))) ∧ Ext w1 wr) (fun _ i _ => n - (intOf i).toNat)
  case atStart => exact ⟨0, _, 0, 0, Nat.zero_le _, rfl, rfl, Nat.le_refl _, by simpa [posOfL, sortL] using HO0.out, Ext.refl _⟩
  case round =>
    obtain ⟨k, q, m, c, hk, rfl, rfl, hmk, hown, hE⟩ := hrel
    have HO := Lib.hid hown
    have hEw := hx1.trans hE
    have hsz := hE.sz
    have ec : wr.cell? ⟨w.heap.size, 2, none⟩ = some (.slice p n cap) := (hE.cells.1 _ _ hz1).trans eb
    clear hown
    by_cases hlt : k < n
    · obtain ⟨b, off, x, rfl, hx, hb, hcell⟩ := (HS.out.ext hEw).int_at hlt
      have HX := Lib.hid hx
      clear hx
      by_cases hx0 : 0 < x
      · have hfin : Hid (sortL (posOfL (xs.take (k + 1))) = insL x (sortL (posOfL (xs.take k)))) := by
          show _ = _; rw [take_snocL HX.out, posOfL_snoc, if_pos hx0, sortL_snoc]
        have HC : Hid (∀ w', Ext wr w' → Calls Tryd.prog 109 #[.slice q m c, .int .i64 x] w' (RetInts (insL x (sortL (posOfL (xs.take k)))) w')) := fun w' hx => l1Sorted_any q m c _ x w' (by omega) ((Sl.own HO.out).ext hx)
        have hlen : (insL x (sortL (posOfL (xs.take k)))).length = m + 1 := by rw [insL_len]; have := HO.out.1; simp at this; omega
        have HLEN := Lib.hid hlen
        clear hlen
        go_wp2_with fail
        refine (HC.out _ (by (repeat' (first | exact Ext.refl _ | (with_reducible assumption) | (with_reducible refine Ext.alloc ?_ _) | (with_reducible refine Ext.setCell ?_ (by first | exact Nat.le_refl _ | (dsimp only; omega) | (simp; done) | (simp; omega)) _) | (with_reducible refine Ext.drew ?_) | (with_reducible refine Ext.drewN ?_ _) | (refine Ext.trans ?_ (by with_reducible assumption)))))).mono ?_
        rintro e w2 ⟨q2, c2, rfl, h2, h3⟩
        have HO2 : Hid (w2.ownsRow w.heap.size TI 1 (.slice q2 (m + 1) c2) (m + 1) (ivs (sortL (posOfL (xs.take (k + 1)))))) := by
          rw [hfin.out, ← HLEN.out]; exact own_base h2 hEw.sz
        rw [HLEN.out]
        clear h2
        go_wp2
        go_roundw
        case rel => exact ⟨k + 1, q2, m + 1, c2, by omega, by go_num, rfl, by omega, HO2.out, by (repeat' (first | exact Ext.refl _ | (with_reducible assumption) | (with_reducible refine Ext.alloc ?_ _) | (with_reducible refine Ext.setCell ?_ (by first | exact Nat.le_refl _ | (dsimp only; omega) | (simp; done) | (simp; omega)) _) | (with_reducible refine Ext.drew ?_) | (with_reducible refine Ext.drewN ?_ _) | (refine Ext.trans ?_ (by with_reducible assumption))))⟩
        case measure => simp [intOf]; omega
      · have hfin : Hid (sortL (posOfL (xs.take (k + 1))) = sortL (posOfL (xs.take k))) := by
          show _ = _; rw [take_snocL HX.out, posOfL_snoc, if_neg hx0, List.append_nil]
        go_wp2
        go_roundw
        case rel => exact ⟨k + 1, q, m, c, by omega, by go_num, rfl, by omega, by rw [hfin.out]; exact HO.out, hE⟩
        case measure => simp [intOf]; omega
    · have hfin : Hid (sortL (posOfL (xs.take k)) = carsOf xs) := by
        show _ = _; rw [List.take_of_length_le (by rw [hl.out]; omega)]; rfl
      go_wp2
      go_ret
      exact ret_ints (by rw [← hfin.out]; have := HO.out.1; simpa using this) (by rw [← hfin.out]; exact HO.out) hEw

set_option maxRecDepth 100000 in
set_option maxHeartbeats 1000000 in
theorem implHc_bad (wide deep : Int) (p : Option Addr) (n cap : Nat) (w : World) (HV : Hid (∀ w', Ext w w' → Calls Tryd.prog 75 #[hallV wide deep p n cap] w' fun e w'' => e = .returned (.bool false) ∧ Ext w' w'')) :
    Calls Tryd.prog 31 #[hallV wide deep p n cap] w (RetInts [] w) := by
  go_enter Tryd.func31, Tryd.ntmps31
  go_wp2_with fail
  refine (HV.out _ (by (repeat' (first | exact Ext.refl _ | (with_reducible assumption) | (with_reducible refine Ext.alloc ?_ _) | (with_reducible refine Ext.setCell ?_ (by first | exact Nat.le_refl _ | (dsimp only; omega) | (simp; done) | (simp; omega)) _) | (with_reducible refine Ext.drew ?_) | (with_reducible refine Ext.drewN ?_ _) | (refine Ext.trans ?_ (by with_reducible assumption)))))).mono ?_
  rintro e w1 ⟨rfl, h1⟩
  go_wp2
  go_ret
  exact ret_ints rfl (World.ownsRow_nil _ _ _ _) (by (repeat' (first | exact Ext.refl _ | (with_reducible assumption) | (with_reducible refine Ext.alloc ?_ _) | (with_reducible refine Ext.setCell ?_ (by first | exact Nat.le_refl _ | (dsimp only; omega) | (simp; done) | (simp; omega)) _) | (with_reducible refine Ext.drew ?_) | (with_reducible refine Ext.drewN ?_ _) | (refine Ext.trans ?_ (by with_reducible assumption)))))

set_option maxRecDepth 100000 in
set_option maxHeartbeats 1000000 in
theorem implHc_ok (wide deep : Int) (p : Option Addr) (n cap : Nat) (xs : List Int) (w : World) (hn : n ≤ 12) (HS : Hid (Sl w p n cap 1 (ivs xs))) (HV : Hid (∀ w', Ext w w' → Calls Tryd.prog 75 #[hallV wide deep p n cap] w' fun e w'' => e = .returned (.bool true) ∧ Ext w' w'')) :
    Calls Tryd.prog 31 #[hallV wide deep p n cap] w (RetInts (carsOf xs) w) := by
  have hl := Lib.hid HS.out.ilen
  go_enter Tryd.func31, Tryd.ntmps31
  go_wp2_with fail
  refine (HV.out _ (by (repeat' (first | exact Ext.refl _ | (with_reducible assumption) | (with_reducible refine Ext.alloc ?_ _) | (with_reducible refine Ext.setCell ?_ (by first | exact Nat.le_refl _ | (dsimp only; omega) | (simp; done) | (simp; omega)) _) | (with_reducible refine Ext.drew ?_) | (with_reducible refine Ext.drewN ?_ _) | (refine Ext.trans ?_ (by with_reducible assumption)))))).mono ?_
  rintro e w1 ⟨rfl, h1⟩
  have hz1 : w.heap.size < w1.heap.size := Nat.lt_of_lt_of_le (by first | (simp; omega) | simp) h1.sz
  have eb : w1.cell? ⟨w.heap.size, 2, none⟩ = some (.slice p n cap) := by rw [h1.cells.1 _ _ (by simp)]; simp
  have hx1 : Ext w w1 := by (repeat' (first | exact Ext.refl _ | (with_reducible assumption) | (with_reducible refine Ext.alloc ?_ _) | (with_reducible refine Ext.setCell ?_ (by first | exact Nat.le_refl _ | (dsimp only; omega) | (simp; done) | (simp; omega)) _) | (with_reducible refine Ext.drew ?_) | (with_reducible refine Ext.drewN ?_ _) | (refine Ext.trans ?_ (by with_reducible assumption))))
  go_wp2
  go_loopw [3, 12] (fun v i wr => ∃ (k : Nat) (q : Option Addr) (m c : Nat), k ≤ n ∧ i = .int .i64 k ∧ v = .slice q m c ∧ m ≤ k ∧ wr.ownsRow w1.heap.size TI 1 (.slice q m c) m (ivs (posOfL (xs.take k))) ∧ Ext w1 wr) (fun _ i _ => n - (intOf i).toNat)
  case atStart => exact ⟨0, none, 0, 0, Nat.zero_le _, rfl, rfl, Nat.le_refl _, World.ownsRow_nil _ _ _ _, Ext.refl _⟩
  case round =>
    obtain ⟨k, q, m, c, hk, rfl, rfl, hmk, hown, hE⟩ := hrel
    have HO := Lib.hid hown
    have hEw := hx1.trans hE
    have hsz := hE.sz
    have hszw := hx1.sz
    clear hown
    by_cases hlt : k < n
    · obtain ⟨b, off, x, rfl, hx, hb, hcell⟩ := (HS.out.ext hEw).int_at hlt
      have HX := Lib.hid hx
      clear hx
      by_cases hx0 : 0 < x
      · have hfin : Hid (posOfL (xs.take (k + 1)) = posOfL (xs.take k) ++ [x]) := by
          show _ = _; rw [take_snocL HX.out, posOfL_snoc, if_pos hx0]
        go_wp2_with (at_builtin; refine wpList_append_int elInt rfl _ _ rfl w1.heap.size _ _ _ rfl (HO.out.alloc _) _ _ x _ rfl (by simp) (by omega) (by simp; omega) ?_; intro p' cap' w2 hown1 hg1; have HO1 := Lib.hid hown1; have hE1 : Ext w1 w2 := Ext.own (hE.alloc _) (HO.out.alloc _) hg1 (Nat.le_refl _); clear hown1 hg1)
        go_roundw
        case rel => exact ⟨k + 1, p', m + 1, cap', by omega, by go_num, rfl, by omega, by rw [hfin.out]; exact HO1.out, hE1⟩
        case measure => simp [intOf]; omega
      · have hfin : Hid (posOfL (xs.take (k + 1)) = posOfL (xs.take k)) := by
          show _ = _; rw [take_snocL HX.out, posOfL_snoc, if_neg hx0, List.append_nil]
        go_wp2
        go_roundw
        case rel => exact ⟨k + 1, q, m, c, by omega, by go_num, rfl, by omega, by rw [hfin.out]; exact HO.out, hE⟩
        case measure => simp [intOf]; omega
    · have hfin : Hid (sortL (posOfL (xs.take k)) = carsOf xs) := by
        show _ = _; rw [List.take_of_length_le (by rw [hl.out]; omega)]; rfl
      go_wp2_with fail
      refine (sort_any w1.heap.size q m c _ _ HO.out (by omega)).mono ?_
      rintro e w2 ⟨rfl, h2, h3⟩
      have hE2 : Ext w w2 := hEw.own HO.out h3 (by omega)
      have HO2 := Lib.hid h2
      clear h2 h3
      go_wp2
      go_ret
      exact ret_ints (by rw [← hfin.out]; have := HO2.out.1; simpa using this) (by rw [← hfin.out]; exact own_base HO2.out hx1.sz) hE2

theorem specHc (wide deep : Int) (p : Option Addr) (n cap : Nat) (xs : List Int) (w : World) (hS : Sl w p n cap 1 (ivs xs)) : Calls Tryd.prog 90 #[hallV wide deep p n cap] w (RetInts (if hallOk wide deep xs then carsOf xs else []) w) := by
  have hl := hS.ilen
  cases h : hallOk wide deep xs with
  | true =>
    have h2 : shapeOk wide deep n = true := by simp only [hallOk, Bool.and_eq_true] at h; rw [← hl]; exact h.1
    rw [if_pos rfl]
    exact specHc_ok wide deep p n cap xs w (shape_bd h2).2.2.2.2.2.1 hS (fun w' hx => by rw [← h]; exact specHv wide deep p n cap xs w' (hS.ext hx))
  | false =>
    rw [if_neg (by simp)]
    exact specHc_bad wide deep p n cap w (fun w' hx => by rw [← h]; exact specHv wide deep p n cap xs w' (hS.ext hx))
theorem implHc (wide deep : Int) (p : Option Addr) (n cap : Nat) (xs : List Int) (w : World) (hS : Sl w p n cap 1 (ivs xs)) : Calls Tryd.prog 31 #[hallV wide deep p n cap] w (RetInts (if hallOk wide deep xs then carsOf xs else []) w) := by
  have hl := hS.ilen
  cases h : hallOk wide deep xs with
  | true =>
    have h2 : shapeOk wide deep n = true := by simp only [hallOk, Bool.and_eq_true] at h; rw [← hl]; exact h.1
    rw [if_pos rfl]
    exact implHc_ok wide deep p n cap xs w (shape_bd h2).2.2.2.2.2.1 hS (fun w' hx => by rw [← h]; exact implHv wide deep p n cap xs w' (hS.ext hx))
  | false =>
    rw [if_neg (by simp)]
    exact implHc_bad wide deep p n cap w (fun w' hx => by rw [← h]; exact implHv wide deep p n cap xs w' (hS.ext hx))
end Go.Proofs.YtncfnlocdlhagaaDoor
