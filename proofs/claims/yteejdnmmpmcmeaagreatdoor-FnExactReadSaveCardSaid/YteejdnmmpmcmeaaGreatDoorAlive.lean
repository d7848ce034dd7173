/-
  impl.HallText at every hall; laws.alive returns true. Condition: the library's table is laid.
-/
import Derived.Test.YteejdnmmpmcmeaaGreatDoorHallText
namespace Go.Proofs.YteejdnmmpmcmeaaGreatDoor
open Go.RowKit
set_option linter.unusedVariables false

theorem hallOk_parts {wide deep : Int} {xs : List Int} (h : hallOk wide deep xs = true) : 2 ≤ wide ∧ wide ≤ 4 ∧ 2 ≤ deep ∧ deep ≤ 3 ∧ 4 ≤ xs.length ∧ xs.length ≤ 12 ∧ (xs.length : Int) = wide * deep ∧ (∀ x ∈ xs, 0 ≤ x ∧ x ≤ 99) ∧ (xs.filter (fun x => decide (0 < x))).Nodup := by
  simp only [hallOk, Bool.and_eq_true] at h
  obtain ⟨h1, h2, h3, h4, h5, h6, h7⟩ := shape_bd h.1
  obtain ⟨q1, _, q3⟩ := (cellsOk_iff _ _).1 h.2
  exact ⟨h1, h2, h3, h4, h5, h6, h7, q1, q3⟩

/-- impl.HallText -/
theorem implHallText (wide deep : Int) (p : Option Addr) (n cap : Nat) (xs : List Int) (w : World) (hE : Env w) (hS : Sl w p n cap 1 (ivs xs)) :
    Calls Tryz.prog 68 #[hallV wide deep p n cap] w fun e w' => e = .returned (str (hallText wide deep xs)) ∧ Ext w w' := by
  have hl := hS.ilen
  cases h : hallOk wide deep xs with
  | true =>
    obtain ⟨h1, h2, h3, h4, h5, h6, h7, h8, h9⟩ := hallOk_parts h
    unfold hallText
    rw [if_pos h, hl]
    exact implHallText_ok wide deep p n cap xs w hE h1 h2 (by omega) h8 hS (fun w' hx => by rw [← h]; exact implHv wide deep p n cap xs w' (hS.ext hx))
  | false =>
    unfold hallText
    rw [if_neg (by simp [h])]
    exact implHallText_bad wide deep p n cap w (fun w' hx => by rw [← h]; exact implHv wide deep p n cap xs w' (hS.ext hx))

set_option maxRecDepth 100000 in
set_option maxHeartbeats 1000000 in
theorem alive_any (w : World) (hE : Env w) : Calls Tryz.prog 18 #[] w fun e w' => e = .returned (.bool true) ∧ Ext w w' := by
  have HE := Lib.hid hE
  have T1 : Hid (∀ w p, Env w → Sl w p 4 4 1 (ivs [0, 7, 0, 0]) → Calls Tryz.prog 68 #[hallV 2 2 p 4 4] w fun e w' => e = .returned (str [46, 44, 55, 47, 46, 44, 46]) ∧ Ext w w') := fun w p hE hS => by
    have := implHallText 2 2 p 4 4 [0, 7, 0, 0] w hE hS
    have e : hallText 2 2 [0, 7, 0, 0] = [46, 44, 55, 47, 46, 44, 46] := by
      simp [hallText, hallOk, shapeOk, cellsOk, hallTextN, cellSep, cellTok, decDigits_lt]
    rwa [e] at this
  have T2 : Hid (∀ w, Env w → Calls Tryz.prog 68 #[hallV 0 0 none 0 0] w fun e w' => e = .returned (str []) ∧ Ext w w') := fun w hE => by
    have := implHallText 0 0 none 0 0 [] w hE (Sl.nil w 1)
    have e : hallText 0 0 [] = [] := by simp [hallText, hallOk, shapeOk]
    rwa [e] at this
  clear hE
  go_enter Tryz.func18, Tryz.ntmps18
  go_wp2_with fail
  refine (T1.out _ _ (HE.out.ext (by (repeat' (first | exact Ext.refl _ | (with_reducible assumption) | (with_reducible refine Ext.alloc ?_ _) | (with_reducible refine Ext.setCell ?_ (by first | exact Nat.le_refl _ | (dsimp only; omega) | (simp; done) | (simp; omega)) _) | (with_reducible refine Ext.drew ?_) | (with_reducible refine Ext.drewN ?_ _) | (refine Ext.trans ?_ (by with_reducible assumption)))))) (Sl.new w #[iv 0, iv 7, iv 0, iv 0] _ 4 rfl (by unfold maxLen; omega))).mono ?_
  rintro e w1 ⟨rfl, h1⟩
  go_wp2_with fail
  refine (T2.out _ (HE.out.ext (by (repeat' (first | exact Ext.refl _ | (with_reducible assumption) | (with_reducible refine Ext.alloc ?_ _) | (with_reducible refine Ext.setCell ?_ (by first | exact Nat.le_refl _ | (dsimp only; omega) | (simp; done) | (simp; omega)) _) | (with_reducible refine Ext.drew ?_) | (with_reducible refine Ext.drewN ?_ _) | (refine Ext.trans ?_ (by with_reducible assumption))))))).mono ?_
  rintro e w2 ⟨rfl, h2⟩
  go_wp2
  go_ret
  exact ⟨rfl, by (repeat' (first | exact Ext.refl _ | (with_reducible assumption) | (with_reducible refine Ext.alloc ?_ _) | (with_reducible refine Ext.setCell ?_ (by first | exact Nat.le_refl _ | (dsimp only; omega) | (simp; done) | (simp; omega)) _) | (with_reducible refine Ext.drew ?_) | (with_reducible refine Ext.drewN ?_ _) | (refine Ext.trans ?_ (by with_reducible assumption))))⟩
end Go.Proofs.YteejdnmmpmcmeaaGreatDoor
