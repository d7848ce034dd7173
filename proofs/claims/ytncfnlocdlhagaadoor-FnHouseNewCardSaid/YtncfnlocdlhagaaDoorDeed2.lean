/-
  Both functions DeedText at valid deeds. Condition: the library's table of powers of ten is laid.
-/
import Derived.Test.YtncfnlocdlhagaaDoorDeed
namespace Go.Proofs.YtncfnlocdlhagaaDoor
open Go.RowKit
set_option linter.unusedVariables false

set_option maxRecDepth 100000 in
set_option maxHeartbeats 1000000 in
theorem implDeed_one (k a : Int) (w : World) (hE : Env w) (hk : k = 0 ∨ k = 2 ∨ k = 3) (h0 : 0 ≤ a) (h1 : a ≤ 9999) :
    Calls Tryd.prog 46 #[deedV k a 0] w fun e w' => e = .returned (str (deedName k ++ [32] ++ Lib.decDigits a.toNat)) ∧ Ext w w' := by
  have hl : (Lib.decDigits a.toNat).length ≤ 21 := decDigits_len _ (by omega)
  have HE := Lib.hid hE
  clear hE
  rcases hk with rfl | rfl | rfl
  all_goals
    go_enter Tryd.func46, Tryd.ntmps46
    go_wp2_with fail
    go_fit (itoaI a _ h0 (by omega) (HE.out.ext (by (repeat' (first | exact Ext.refl _ | (with_reducible assumption) | (with_reducible refine Ext.alloc ?_ _) | (with_reducible refine Ext.setCell ?_ (by first | exact Nat.le_refl _ | (dsimp only; omega) | (simp; done) | (simp; omega)) _) | (with_reducible refine Ext.drew ?_) | (with_reducible refine Ext.drewN ?_ _) | (refine Ext.trans ?_ (by with_reducible assumption)))))))
    rintro e w1 ⟨rfl, h1⟩
    go_wp2
    go_ret
    exact ⟨ret_str (by simp [deedName]), by (repeat' (first | exact Ext.refl _ | (with_reducible assumption) | (with_reducible refine Ext.alloc ?_ _) | (with_reducible refine Ext.setCell ?_ (by first | exact Nat.le_refl _ | (dsimp only; omega) | (simp; done) | (simp; omega)) _) | (with_reducible refine Ext.drew ?_) | (with_reducible refine Ext.drewN ?_ _) | (refine Ext.trans ?_ (by with_reducible assumption))))⟩

set_option maxRecDepth 100000 in
set_option maxHeartbeats 1000000 in
theorem implDeed_two (k a b : Int) (w : World) (hE : Env w) (hk : k = 1 ∨ k = 4) (h0 : 0 ≤ a) (h1 : a ≤ 9999) (h2 : 0 ≤ b) (h3 : b ≤ 9999) :
    Calls Tryd.prog 46 #[deedV k a b] w fun e w' => e = .returned (str (deedName k ++ [32] ++ Lib.decDigits a.toNat ++ ([32] ++ Lib.decDigits b.toNat))) ∧ Ext w w' := by
  have hl : (Lib.decDigits a.toNat).length ≤ 21 := decDigits_len _ (by omega)
  have hl2 : (Lib.decDigits b.toNat).length ≤ 21 := decDigits_len _ (by omega)
  have HE := Lib.hid hE
  clear hE
  rcases hk with rfl | rfl
  all_goals
    go_enter Tryd.func46, Tryd.ntmps46
    go_wp2_with fail
    go_fit (itoaI a _ h0 (by omega) (HE.out.ext (by (repeat' (first | exact Ext.refl _ | (with_reducible assumption) | (with_reducible refine Ext.alloc ?_ _) | (with_reducible refine Ext.setCell ?_ (by first | exact Nat.le_refl _ | (dsimp only; omega) | (simp; done) | (simp; omega)) _) | (with_reducible refine Ext.drew ?_) | (with_reducible refine Ext.drewN ?_ _) | (refine Ext.trans ?_ (by with_reducible assumption)))))))
    rintro e w1 ⟨rfl, h1⟩
    have hce := h1.cells.1
    go_wp2_with fail
    go_fit (itoaI b _ h2 (by omega) (HE.out.ext (by (repeat' (first | exact Ext.refl _ | (with_reducible assumption) | (with_reducible refine Ext.alloc ?_ _) | (with_reducible refine Ext.setCell ?_ (by first | exact Nat.le_refl _ | (dsimp only; omega) | (simp; done) | (simp; omega)) _) | (with_reducible refine Ext.drew ?_) | (with_reducible refine Ext.drewN ?_ _) | (refine Ext.trans ?_ (by with_reducible assumption)))))))
    rintro e w2 ⟨rfl, h2⟩
    go_wp2
    go_ret
    exact ⟨ret_str (by simp [deedName]), by (repeat' (first | exact Ext.refl _ | (with_reducible assumption) | (with_reducible refine Ext.alloc ?_ _) | (with_reducible refine Ext.setCell ?_ (by first | exact Nat.le_refl _ | (dsimp only; omega) | (simp; done) | (simp; omega)) _) | (with_reducible refine Ext.drew ?_) | (with_reducible refine Ext.drewN ?_ _) | (refine Ext.trans ?_ (by with_reducible assumption))))⟩
end Go.Proofs.YtncfnlocdlhagaaDoor
