/-
  Both functions DeedText return the text 'deedText' of a deed. Condition: the library's table of powers of ten is laid.
-/
import Derived.Test.YtncfnlocdlhagaaDoorNum
namespace Go.Proofs.YtncfnlocdlhagaaDoor
open Go.RowKit
set_option linter.unusedVariables false

def deedName (k : Int) : List UInt8 :=
  if k = 0 then [105, 110] else if k = 1 then [112, 97, 121] else if k = 2 then [111, 117, 116] else if k = 3 then [119, 97, 105, 116] else if k = 4 then [115, 108, 105, 100, 101] else []
def deedTwo (k : Int) : Bool := k == 1 || k == 4
def deedOk (k a b : Int) : Bool := decide (0 ≤ k ∧ k ≤ 4 ∧ 0 ≤ a ∧ a ≤ 9999 ∧ 0 ≤ b ∧ b ≤ 9999) && (deedTwo k || b == 0)
def deedText (k a b : Int) : List UInt8 :=
  if deedOk k a b then deedName k ++ [32] ++ Lib.decDigits a.toNat ++ (if deedTwo k then [32] ++ Lib.decDigits b.toNat else []) else []

abbrev deedV (k a b : Int) : Value := .agg #[.int .i64 k, .int .i64 a, .int .i64 b]

set_option maxRecDepth 100000 in
set_option maxHeartbeats 1000000 in
theorem implDeed_bad (k a b : Int) (w : World) (h : a < 0 ∨ 0 ≤ a ∧ 9999 < a ∨ 0 ≤ a ∧ a ≤ 9999 ∧ b < 0 ∨ 0 ≤ a ∧ a ≤ 9999 ∧ 0 ≤ b ∧ 9999 < b ∨ 0 ≤ a ∧ a ≤ 9999 ∧ 0 ≤ b ∧ b ≤ 9999 ∧ (k == 1) = false ∧ (k == 4) = false ∧ (b != 0) = true
    ∨ 0 ≤ a ∧ a ≤ 9999 ∧ 0 ≤ b ∧ b ≤ 9999 ∧ (k == 1) = false ∧ (k == 4) = false ∧ (b != 0) = false ∧ (k == 0) = false ∧ (k == 2) = false ∧ (k == 3) = false) :
    Calls Tryd.prog 46 #[deedV k a b] w fun e w' => e = .returned (str []) ∧ Ext w w' := by
  rcases h with h | ⟨h0, h⟩ | ⟨h0, h1, h⟩ | ⟨h0, h1, h2, h⟩ | ⟨h0, h1, h2, h3, h4, h5, h6⟩ | ⟨h0, h1, h2, h3, h4, h5, h6, h7, h8, h9⟩
  all_goals
    go_enter Tryd.func46, Tryd.ntmps46
    go_wp2
    go_ret
    exact ⟨rfl, by (repeat' (first | exact Ext.refl _ | (with_reducible assumption) | (with_reducible refine Ext.alloc ?_ _) | (with_reducible refine Ext.setCell ?_ (by first | exact Nat.le_refl _ | (dsimp only; omega) | (simp; done) | (simp; omega)) _) | (with_reducible refine Ext.drew ?_) | (with_reducible refine Ext.drewN ?_ _) | (refine Ext.trans ?_ (by with_reducible assumption))))⟩

set_option maxRecDepth 100000 in
set_option maxHeartbeats 1000000 in
theorem specDeed_bad (k a b : Int) (w : World) (h : (k == 0) = false ∧ (k == 1) = false ∧ (k == 2) = false ∧ (k == 3) = false ∧ (k == 4) = false) :
    Calls Tryd.prog 80 #[deedV k a b] w fun e w' => e = .returned (str []) ∧ Ext w w' := by
  obtain ⟨h0, h1, h2, h3, h4⟩ := h
  go_enter Tryd.func80, Tryd.ntmps80
  go_wp2
  go_ret
  exact ⟨rfl, by (repeat' (first | exact Ext.refl _ | (with_reducible assumption) | (with_reducible refine Ext.alloc ?_ _) | (with_reducible refine Ext.setCell ?_ (by first | exact Nat.le_refl _ | (dsimp only; omega) | (simp; done) | (simp; omega)) _) | (with_reducible refine Ext.drew ?_) | (with_reducible refine Ext.drewN ?_ _) | (refine Ext.trans ?_ (by with_reducible assumption))))⟩

set_option maxRecDepth 100000 in
set_option maxHeartbeats 1000000 in
theorem specDeed_bad2 (k a b : Int) (w : World) (hk : k = 0 ∨ k = 1 ∨ k = 2 ∨ k = 3 ∨ k = 4) (h : a < 0 ∨ 0 ≤ a ∧ 9999 < a ∨ 0 ≤ a ∧ a ≤ 9999 ∧ b < 0 ∨ 0 ≤ a ∧ a ≤ 9999 ∧ 0 ≤ b ∧ 9999 < b) :
    Calls Tryd.prog 80 #[deedV k a b] w fun e w' => e = .returned (str []) ∧ Ext w w' := by
  rcases hk with rfl | rfl | rfl | rfl | rfl
  all_goals
    rcases h with h | ⟨h0, h⟩ | ⟨h0, h1, h⟩ | ⟨h0, h1, h2, h⟩
    all_goals
      go_enter Tryd.func80, Tryd.ntmps80
      go_wp2
      go_ret
      exact ⟨rfl, by (repeat' (first | exact Ext.refl _ | (with_reducible assumption) | (with_reducible refine Ext.alloc ?_ _) | (with_reducible refine Ext.setCell ?_ (by first | exact Nat.le_refl _ | (dsimp only; omega) | (simp; done) | (simp; omega)) _) | (with_reducible refine Ext.drew ?_) | (with_reducible refine Ext.drewN ?_ _) | (refine Ext.trans ?_ (by with_reducible assumption))))⟩
set_option maxRecDepth 100000 in
set_option maxHeartbeats 1000000 in
theorem specDeed_bad3 (k a b : Int) (w : World) (hk : k = 0 ∨ k = 2 ∨ k = 3) (h0 : 0 ≤ a) (h1 : a ≤ 9999) (h2 : 0 ≤ b) (h3 : b ≤ 9999) (h4 : (b != 0) = true) :
    Calls Tryd.prog 80 #[deedV k a b] w fun e w' => e = .returned (str []) ∧ Ext w w' := by
  rcases hk with rfl | rfl | rfl
  all_goals
    go_enter Tryd.func80, Tryd.ntmps80
    go_wp2
    go_ret
    exact ⟨rfl, by (repeat' (first | exact Ext.refl _ | (with_reducible assumption) | (with_reducible refine Ext.alloc ?_ _) | (with_reducible refine Ext.setCell ?_ (by first | exact Nat.le_refl _ | (dsimp only; omega) | (simp; done) | (simp; omega)) _) | (with_reducible refine Ext.drew ?_) | (with_reducible refine Ext.drewN ?_ _) | (refine Ext.trans ?_ (by with_reducible assumption))))⟩
end Go.Proofs.YtncfnlocdlhagaaDoor
