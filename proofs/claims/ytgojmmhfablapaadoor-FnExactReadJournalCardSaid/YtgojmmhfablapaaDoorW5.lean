/-
  The walk of the law FnExactJournalText.
-/
import Derived.Test.YtgojmmhfablapaaDoorSlDeed2
namespace Go.Proofs.YtgojmmhfablapaaDoor
open Go.RowKit
set_option linter.unusedVariables false

theorem rdz_form {w : World} {v : Value} {n sz : Nat} {cs : List Value} (h : RdZ w v n sz cs) : ∃ p cap, v = .slice p n cap ∧ n ≤ 9223372036854775807 := by
  rcases h with ⟨h0, hc, p, cap, rfl⟩ | ⟨h0, b, off, cap, rfl, hb, h⟩
  · exact ⟨p, cap, by rw [h0], by omega⟩
  · refine ⟨_, cap, rfl, ?_⟩
    rcases h.2 with ⟨_, h1⟩ | ⟨_, _, cap', h1, h2, h3, _⟩
    · omega
    · unfold maxLen at h3; omega

set_option maxRecDepth 100000 in
set_option maxHeartbeats 1000000 in
theorem exJournal_big (first : Int) (p : Option Addr) (n cap : Nat) (w : World) (h : (1048576 : Int) < n)
    (HZ : Hid (∀ w, Calls Tryd.prog 23 #[.slice p n cap, .int .i64 1048576] w fun e w' => e = .returned (.int .i64 (-1)) ∧ w = w')) :
    Calls Tryd.prog 6 #[.int .i64 first, .slice p n cap] w fun e w' => e = .returned (.bool true) ∧ Ext w w' := by
  go_enter Tryd.func6, Tryd.ntmps6
  go_wp2_with fail
  refine (HZ.out _).mono ?_
  rintro e w1 ⟨rfl, rfl⟩
  go_wp2
  go_ret
  exact ⟨rfl, by (repeat' (first | exact Ext.refl _ | (with_reducible assumption) | (with_reducible refine Ext.alloc ?_ _) | (with_reducible refine Ext.setCell ?_ (by first | exact Nat.le_refl _ | (dsimp only; omega) | (simp; done) | (simp; omega)) _) | (with_reducible refine Ext.drew ?_) | (with_reducible refine Ext.drewN ?_ _) | (refine Ext.trans ?_ (by with_reducible assumption))))⟩

set_option maxRecDepth 100000 in
set_option maxHeartbeats 1000000 in
theorem exJournal_small (first : Int) (v : Value) (n : Nat) (cs : List Value) (t : List UInt8) (w : World) (h : n ≤ 1048576)
    (HZ : Hid (∀ w, Calls Tryd.prog 23 #[v, .int .i64 1048576] w fun e w' => e = .returned (.int .i64 (1048576 - n)) ∧ w = w'))
    (HRv : Hid (RdZ w v n 3 cs))
    (HTo : Hid (∀ v w, RdZ w v n 3 cs → Calls Tryd.prog 25 #[v] w fun e w' => ∃ v', e = .returned v' ∧ RdZ w' v' n 3 cs ∧ Ext w w'))
    (HS : Hid (∀ v w, RdZ w v n 3 cs → Calls Tryd.prog 24 #[.int .i64 first, v] w fun e w' => e = .returned (str t) ∧ Ext w w'))
    (HI : Hid (∀ v w, Env w → RdZ w v n 3 cs → Calls Tryd.prog 26 #[.int .i64 first, v] w fun e w' => e = .returned (str t) ∧ Ext w w'))
    (HQ : Hid (∀ v1 v2 w, RdZ w v1 n 3 cs → RdZ w v2 n 3 cs → Calls Tryd.prog 27 #[v1, v2] w fun e w' => e = .returned (.bool true) ∧ Ext w w')) (HE : Hid (Env w)) :
    Calls Tryd.prog 6 #[.int .i64 first, v] w fun e w' => e = .returned (.bool true) ∧ Ext w w' := by
  go_enter Tryd.func6, Tryd.ntmps6
  go_wp2_with fail
  refine (HZ.out _).mono ?_
  rintro e w1 ⟨rfl, rfl⟩
  go_wp2_with fail
  refine (HTo.out v _ HRv.out).mono ?_
  rintro e w1 ⟨v1, rfl, r1, h1⟩
  have R1 := Lib.hid r1
  clear r1
  go_wp2_with fail
  refine (HS.out v1 _ R1.out).mono ?_
  rintro e w2 ⟨rfl, h2⟩
  replace h2 := h1.trans h2
  clear h1
  go_wp2_with fail
  refine (HTo.out v _ (HRv.out.ext h2)).mono ?_
  rintro e w3 ⟨v3, rfl, r3, h3⟩
  have R3 := Lib.hid r3
  clear r3
  replace h3 := h2.trans h3
  clear h2
  go_wp2_with fail
  refine (HI.out v3 _ (HE.out.ext h3) R3.out).mono ?_
  rintro e w4 ⟨rfl, h4⟩
  have R4 := Lib.hid (R3.out.ext h4)
  replace h4 := h3.trans h4
  clear h3
  go_wp2_with fail
  refine (HTo.out v _ (HRv.out.ext h4)).mono ?_
  rintro e w5 ⟨v5, rfl, r5, h5⟩
  have R5 := Lib.hid r5
  have R45 := Lib.hid (R4.out.ext h5)
  clear r5
  replace h5 := h4.trans h5
  clear h4
  go_wp2_with fail
  refine (HQ.out v3 v5 _ R45.out R5.out).mono ?_
  rintro e w6 ⟨rfl, h6⟩
  go_wp2
  go_ret
  exact ⟨rfl, by (repeat' (first | exact Ext.refl _ | (with_reducible assumption) | (with_reducible refine Ext.alloc ?_ _) | (with_reducible refine Ext.setCell ?_ (by first | exact Nat.le_refl _ | (dsimp only; omega) | (simp; done) | (simp; omega)) _) | (with_reducible refine Ext.drew ?_) | (with_reducible refine Ext.drewN ?_ _) | (refine Ext.trans ?_ (by with_reducible assumption))))⟩

theorem walk_FnExactJournalText (first : Int) (hB : B64 first) (W : World) (v : Value) (ds : List Deed3) (hf : RdZ W v ds.length 3 (ds.flatMap deedCells) ∧ ∀ a ∈ ds, goodDeed a) (hE : Env W) :
    Calls Tryd.prog 6 #[.int .i64 first, v] W fun e w' => e = .returned (.bool true) ∧ Ext W w' := by
  obtain ⟨hR, hg⟩ := hf
  obtain ⟨p, cap, hv, hn⟩ := rdz_form hR
  by_cases h : ds.length ≤ 1048576
  · have hz : ∀ w, Calls Tryd.prog 23 #[v, .int .i64 1048576] w fun e w' => e = .returned (.int .i64 (1048576 - ds.length)) ∧ w = w' := by
      intro w
      rw [hv]
      refine (szDeed p ds.length cap 1048576 w hn (by omega) (by omega)).mono ?_
      rintro e w' ⟨rfl, rfl⟩
      exact ⟨ret_int (if_neg (by omega)), rfl⟩
    refine exJournal_small first v ds.length (ds.flatMap deedCells) (journalText first ds) W h hz hR ?_ ?_ ?_ ?_ hE
    · intro v w hr
      refine (toDeedS v ds w hr (by omega)).mono ?_
      rintro e w' ⟨v', rfl, ho, hx⟩
      exact ⟨v', rfl, own_rdz (by omega) ho, hx⟩
    · intro v w hr; exact specJournal first v ds w hB hr (by omega)
    · intro v w hE hr; exact implJournal first v ds w hE hB hr (by omega)
    · intro v1 v2 w h1 h2; exact eqDeedS v1 v2 ds w h1 h2 (by omega)
  · subst hv
    refine exJournal_big first p ds.length cap W (by omega) ?_
    intro w
    refine (szDeed p ds.length cap 1048576 w hn (by omega) (by omega)).mono ?_
    rintro e w' ⟨rfl, rfl⟩
    exact ⟨ret_int (if_pos (by omega)), rfl⟩
end Go.Proofs.YtgojmmhfablapaaDoor
