/-
  Both functions EntryText return the text 'entryText' of an entry. Condition: the library's table of powers of ten is laid.
-/
import Derived.Test.YteejdnmmpmcmeaaGreatDoorDeed3
import Derived.Test.YteejdnmmpmcmeaaGreatDoorSumD
namespace Go.Proofs.YteejdnmmpmcmeaaGreatDoor
open Go.RowKit
set_option linter.unusedVariables false

def withSum (t : List UInt8) : List UInt8 := t ++ [35] ++ Lib.decDigits (sumL t).toNat
def entryOf (n : Int) (t : List UInt8) : List UInt8 := if 1 ≤ n ∧ n ≤ 99 ∧ t ≠ [] then withSum (Lib.decDigits n.toNat ++ [58] ++ t) ++ [59] else []
def entryText (n k a b : Int) : List UInt8 := entryOf n (deedText k a b)

theorem sum_len (t : List UInt8) : (Lib.decDigits (sumL t).toNat).length ≤ 21 := by
  have := sumL_bd t
  exact decDigits_len _ (by omega)

theorem deedText_len (k a b : Int) : (deedText k a b).length ≤ 60 := by
  unfold deedText
  split
  · rename_i h
    simp [deedOk] at h
    obtain ⟨⟨h1, h2, h3, h4, h5, h6⟩, _⟩ := h
    have e1 : (deedName k).length ≤ 5 := (deedName_emp k (by omega)).2
    have e2 := decDigits_len a.toNat (by omega)
    have e3 := decDigits_len b.toNat (by omega)
    split <;> simp <;> omega
  · simp

set_option maxRecDepth 100000 in
set_option maxHeartbeats 1000000 in
theorem implWithSum (t : List UInt8) (w : World) (ht : t.length ≤ 1000000) (hE : Env w) :
    Calls Tryz.prog 105 #[str t] w fun e w' => e = .returned (str (withSum t)) ∧ Ext w w' := by
  have hl := sum_len t
  have hb := sumL_bd t
  have HE := Lib.hid hE
  clear hE
  go_enter Tryz.func105, Tryz.ntmps105
  go_wp2_with fail
  refine (implSumStr t _ (by unfold maxLen; omega)).mono ?_
  rintro e w1 ⟨rfl, rfl⟩
  go_wp2_with fail
  refine (itoaI (sumL t) _ (by omega) (by omega) HE.out).mono ?_
  rintro e w1 ⟨rfl, h1⟩
  go_wp2
  go_ret
  exact ⟨ret_str rfl, by (repeat' (first | exact Ext.refl _ | (with_reducible assumption) | (with_reducible refine Ext.alloc ?_ _) | (with_reducible refine Ext.setCell ?_ (by first | exact Nat.le_refl _ | (dsimp only; omega) | (simp; done) | (simp; omega)) _) | (with_reducible refine Ext.drew ?_) | (with_reducible refine Ext.drewN ?_ _) | (refine Ext.trans ?_ (by with_reducible assumption))))⟩

end Go.Proofs.YteejdnmmpmcmeaaGreatDoor
