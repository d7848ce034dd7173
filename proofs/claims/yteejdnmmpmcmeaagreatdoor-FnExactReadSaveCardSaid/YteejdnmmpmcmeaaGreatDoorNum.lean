/-
  The reference's decimal text of a number that is not negative is the library's list of digits. Condition: the number is an int64 from 0 on.
-/
import Derived.Test.YteejdnmmpmcmeaaGreatDoorEnv
namespace Go.Proofs.YteejdnmmpmcmeaaGreatDoor
open Go.RowKit
set_option maxRecDepth 100000 in
set_option maxHeartbeats 1000000 in
theorem l1Number_d (n : Int) (w : World) (h0 : 0 ≤ n) (h10 : n < 10) :
    Calls Tryz.prog 102 #[.int .i64 n] w fun e w' => e = .returned (str (Lib.decDigits n.toNat)) ∧ Ext w w' := by
  have hcv := conv1 (48 + n)
  have HD : Hid (Lib.decDigits n.toNat = [UInt8.ofNat (48 + n).toNat]) := by rw [decDigits_lt _ (by omega), show (48 + n).toNat = 48 + n.toNat by omega]; rfl
  go_enter Tryz.func102, Tryz.ntmps102
  go_wp2_with fail
  go_ret
  exact ⟨ret_str HD.out.symm, (Ext.refl _).alloc _⟩

set_option maxRecDepth 100000 in
set_option maxHeartbeats 1000000 in
theorem l1Number_s (n : Int) (w : World) (h0 : 0 ≤ n) (h10 : 10 ≤ n) (h : n ≤ 9223372036854775807) (ih : ∀ w,  Calls Tryz.prog 102 #[.int .i64 (n/10)] w fun e w' => e = .returned (str (Lib.decDigits (n/10).toNat)) ∧ Ext w w')  :
    Calls Tryz.prog 102 #[.int .i64 n] w fun e w' => e = .returned (str (Lib.decDigits n.toNat)) ∧ Ext w w' := by
  have hcv := conv1 (48 + n % 10)
  have IH : Hid (∀ w,  Calls Tryz.prog 102 #[.int .i64 (n/10)] w fun e w' => e = .returned (str (Lib.decDigits (n/10).toNat)) ∧ Ext w w') := ih
  have hq := IntWalk.i64_quo n 10 ⟨h0, h, by omega⟩
  have hr := IntWalk.rem_in n 10 h0
  have hr1 : IntKind.i64.wrap (n % 10) = n % 10 := IntWalk.i64_in _ (by omega)
  have hs : IntKind.i64.wrap (48 + n % 10) = 48 + n % 10 := IntWalk.i64_in _ (by omega)
  have hc : IntKind.u8.wrap (48 + n % 10) = 48 + n % 10 := IntWalk.u8_in _ (by omega)
  have hl : (Lib.decDigits (n/10).toNat).length ≤ 21 := decDigits_len _ (by omega)
  have HD : Hid (Lib.decDigits n.toNat = Lib.decDigits (n/10).toNat ++ [UInt8.ofNat (48 + n % 10).toNat]) := by
    show _ = _
    rw [decDigits_ge _ (by omega), show (48 + n % 10).toNat = 48 + n.toNat % 10 by omega, show (n/10).toNat = n.toNat / 10 by omega]
  clear ih
  go_enter Tryz.func102, Tryz.ntmps102
  go_wp2_with fail
  go_region_with (go_at_call 102; go_must (go_fit (IH.out _)); rintro e w' ⟨rfl, h1⟩; have hce := h1.cells.1)
  all_goals go_wp2
  all_goals go_ret
  all_goals exact ⟨ret_str HD.out.symm, by (repeat' (first | exact Ext.refl _ | (with_reducible assumption) | (with_reducible refine Ext.alloc ?_ _) | (with_reducible refine Ext.setCell ?_ (by first | exact Nat.le_refl _ | (dsimp only; omega) | (simp; done) | (simp; omega)) _) | (with_reducible refine Ext.drew ?_) | (with_reducible refine Ext.drewN ?_ _) | (refine Ext.trans ?_ (by with_reducible assumption))))⟩

/-- spec.l1Number -/
theorem l1Number_any (k : Nat) : ∀ (n : Int) (w : World), 0 ≤ n → n ≤ k → n ≤ 9223372036854775807 →
    Calls Tryz.prog 102 #[.int .i64 n] w fun e w' => e = .returned (str (Lib.decDigits n.toNat)) ∧ Ext w w' := by
  induction k with
  | zero => intro n w h0 hk h; exact l1Number_d n w h0 (by omega)
  | succ k ih =>
    intro n w h0 hk h
    by_cases h10 : n < 10
    · exact l1Number_d n w h0 h10
    · exact l1Number_s n w h0 (by omega) h (fun w => ih (n / 10) w (by omega) (by omega) (by omega))
theorem l1Num (n : Int) (w : World) (h0 : 0 ≤ n) (h : n ≤ 9223372036854775807) :
    Calls Tryz.prog 102 #[.int .i64 n] w fun e w' => e = .returned (str (Lib.decDigits n.toNat)) ∧ Ext w w' := l1Number_any n.toNat n w h0 (by omega) h
end Go.Proofs.YteejdnmmpmcmeaaGreatDoor
