/-
  The walks of the laws FnDeedText and FnReadDeed.
-/
import Derived.Test.YtgojmmhfablapaaDoorDrawB
import Derived.Test.YtgojmmhfablapaaDoorAlive
import Derived.Test.YtgojmmhfablapaaDoorSpecRead2
namespace Go.Proofs.YtgojmmhfablapaaDoor
open Go.RowKit
set_option linter.unusedVariables false


set_option maxRecDepth 100000 in
set_option maxHeartbeats 1000000 in
theorem fnDeedText_big (p : Option Addr) (n cap : Nat) (w : World) (h : (1048576 : Int) < n) :
    Calls Tryd.prog 8 #[.slice p n cap] w fun e w' => e = .returned (.bool true) ∧ Ext w w' := by
  go_enter Tryd.func8, Tryd.ntmps8
  go_wp2
  go_ret
  exact ⟨rfl, by (repeat' (first | exact Ext.refl _ | (with_reducible assumption) | (with_reducible refine Ext.alloc ?_ _) | (with_reducible refine Ext.setCell ?_ (by first | exact Nat.le_refl _ | (dsimp only; omega) | (simp; done) | (simp; omega)) _) | (with_reducible refine Ext.drew ?_) | (with_reducible refine Ext.drewN ?_ _) | (refine Ext.trans ?_ (by with_reducible assumption))))⟩

set_option maxRecDepth 100000 in
set_option maxHeartbeats 1000000 in
theorem fnDeedText_o (p : Option Addr) (n cap : Nat) (w : World) (hE : Hid (Env w)) (h : (n : Int) ≤ 1048576) (HD : Hid (Calls Tryd.prog 31 #[.slice p n cap] w (DrewDeed w))) :
    Calls Tryd.prog 8 #[.slice p n cap] w fun e w' => e = .returned (.bool true) ∧ Ext w w' := by
  go_enter Tryd.func8, Tryd.ntmps8
  go_wp2_with fail
  refine HD.out.mono ?_
  rintro e w1 ⟨k, a, b, rfl, h1⟩
  obtain ⟨t, ht⟩ : ∃ t, t = deedText k a b := ⟨_, rfl⟩
  have htl : t.length ≤ 60 := by rw [ht]; exact deedText_len k a b
  have HI : Hid (∀ w, Env w → Calls Tryd.prog 16 #[deedV k a b] w fun e w' => e = .returned (str t) ∧ Ext w w') := fun w hE => by rw [ht]; exact implDeed k a b w hE
  have HS : Hid (∀ w, Calls Tryd.prog 14 #[deedV k a b] w fun e w' => e = .returned (str t) ∧ Ext w w') := fun w => by rw [ht]; exact specDeed k a b w
  by_cases h0 : t = []
  · have hb0 : t.isEmpty = true := by simp [h0]
    clear ht h0
    go_wp2_with fail
    refine (HI.out _ (hE.out.ext (by (repeat' (first | exact Ext.refl _ | (with_reducible assumption) | (with_reducible refine Ext.alloc ?_ _) | (with_reducible refine Ext.setCell ?_ (by first | exact Nat.le_refl _ | (dsimp only; omega) | (simp; done) | (simp; omega)) _) | (with_reducible refine Ext.drew ?_) | (with_reducible refine Ext.drewN ?_ _) | (refine Ext.trans ?_ (by with_reducible assumption))))))).mono ?_
    rintro e w2 ⟨rfl, h2⟩
    have hc2 := h2.cells.1
    go_wp2_with fail
    refine (HS.out _).mono ?_
    rintro e w3 ⟨rfl, h3⟩
    go_wp2_with fail
    refine (alive_any _ (hE.out.ext (by (repeat' (first | exact Ext.refl _ | (with_reducible assumption) | (with_reducible refine Ext.alloc ?_ _) | (with_reducible refine Ext.setCell ?_ (by first | exact Nat.le_refl _ | (dsimp only; omega) | (simp; done) | (simp; omega)) _) | (with_reducible refine Ext.drew ?_) | (with_reducible refine Ext.drewN ?_ _) | (refine Ext.trans ?_ (by with_reducible assumption))))))).mono ?_
    rintro e w4 ⟨rfl, h4⟩
    go_wp2
    go_ret
    exact ⟨rfl, by (repeat' (first | exact Ext.refl _ | (with_reducible assumption) | (with_reducible refine Ext.alloc ?_ _) | (with_reducible refine Ext.setCell ?_ (by first | exact Nat.le_refl _ | (dsimp only; omega) | (simp; done) | (simp; omega)) _) | (with_reducible refine Ext.drew ?_) | (with_reducible refine Ext.drewN ?_ _) | (refine Ext.trans ?_ (by with_reducible assumption))))⟩
  · have hb0 : t.isEmpty = false := by simp [h0]
    have HR : Hid (∀ w, Env w → Calls Tryd.prog 29 #[str t] w fun e w' => e = .returned (.tuple #[deedV k a b, .bool true]) ∧ Ext w w') := fun w hE => by
      refine (implReadDeed t w (by omega) hE).mono ?_
      rintro e w' ⟨rfl, hx⟩
      rw [ht, readDeed_text (deedText_ok (by rw [← ht]; exact h0))]
      exact ⟨rfl, hx⟩
    clear ht h0
    go_wp2_with fail
    refine (HI.out _ (hE.out.ext (by (repeat' (first | exact Ext.refl _ | (with_reducible assumption) | (with_reducible refine Ext.alloc ?_ _) | (with_reducible refine Ext.setCell ?_ (by first | exact Nat.le_refl _ | (dsimp only; omega) | (simp; done) | (simp; omega)) _) | (with_reducible refine Ext.drew ?_) | (with_reducible refine Ext.drewN ?_ _) | (refine Ext.trans ?_ (by with_reducible assumption))))))).mono ?_
    rintro e w2 ⟨rfl, h2⟩
    have hc2 := h2.cells.1
    have hz2 : w1.heap.size < w2.heap.size := Nat.lt_of_lt_of_le (by simp) h2.sz
    go_wp2_with fail
    refine (HS.out _).mono ?_
    rintro e w3 ⟨rfl, h3⟩
    have hc3 := h3.cells.1
    have hz3 : w1.heap.size < w3.heap.size := Nat.lt_of_lt_of_le hz2 h3.sz
    go_wp2_with fail
    refine (HR.out _ (hE.out.ext (by (repeat' (first | exact Ext.refl _ | (with_reducible assumption) | (with_reducible refine Ext.alloc ?_ _) | (with_reducible refine Ext.setCell ?_ (by first | exact Nat.le_refl _ | (dsimp only; omega) | (simp; done) | (simp; omega)) _) | (with_reducible refine Ext.drew ?_) | (with_reducible refine Ext.drewN ?_ _) | (refine Ext.trans ?_ (by with_reducible assumption))))))).mono ?_
    rintro e w4 ⟨rfl, h4⟩
    have hc4 := h4.cells.1
    have hz4 : w1.heap.size < w4.heap.size := Nat.lt_of_lt_of_le hz3 h4.sz
    go_wp2
    go_ret
    exact ⟨rfl, by (repeat' (first | exact Ext.refl _ | (with_reducible assumption) | (with_reducible refine Ext.alloc ?_ _) | (with_reducible refine Ext.setCell ?_ (by first | exact Nat.le_refl _ | (dsimp only; omega) | (simp; done) | (simp; omega)) _) | (with_reducible refine Ext.drew ?_) | (with_reducible refine Ext.drewN ?_ _) | (refine Ext.trans ?_ (by with_reducible assumption))))⟩

theorem walk_FnDeedText (W : World) (v : Value) (u : Unit) (hc : Code W v) (hE : Env W) : Calls Tryd.prog 8 #[v] W fun e w' => e = .returned (.bool true) ∧ Ext W w' := by
  have hD := drawDeedText v W hc
  obtain ⟨p, n, cap, bs, rfl, h, hb⟩ := hc
  by_cases hn : (n : Int) ≤ 1048576
  · exact fnDeedText_o p n cap W hE hn hD
  · exact fnDeedText_big p n cap W (by omega)
end Go.Proofs.YtgojmmhfablapaaDoor
