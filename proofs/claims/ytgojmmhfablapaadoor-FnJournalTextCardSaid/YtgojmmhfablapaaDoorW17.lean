/-
  The walk of the law FnJournalText.
-/
import Derived.Test.YtgojmmhfablapaaDoorDrawE
import Derived.Test.YtgojmmhfablapaaDoorAlive
import Derived.Test.YtgojmmhfablapaaDoorSame
namespace Go.Proofs.YtgojmmhfablapaaDoor
open Go.RowKit
set_option linter.unusedVariables false

set_option maxRecDepth 100000 in
set_option maxHeartbeats 1000000 in
theorem fnJournalText_big (p : Option Addr) (n cap : Nat) (w : World) (h : (1048576 : Int) < n) :
    Calls Tryd.prog 13 #[.slice p n cap] w fun e w' => e = .returned (.bool true) ∧ Ext w w' := by
  go_enter Tryd.func13, Tryd.ntmps13
  go_wp2
  go_ret
  exact ⟨rfl, by (repeat' (first | exact Ext.refl _ | (with_reducible assumption) | (with_reducible refine Ext.alloc ?_ _) | (with_reducible refine Ext.setCell ?_ (by first | exact Nat.le_refl _ | (dsimp only; omega) | (simp; done) | (simp; omega)) _) | (with_reducible refine Ext.drew ?_) | (with_reducible refine Ext.drewN ?_ _) | (refine Ext.trans ?_ (by with_reducible assumption))))⟩
theorem same_own {w : World} {p q : Option Addr} {m n c1 c2 B : Nat} {ds : List Deed3} (h1 : Sl w p m c1 3 (ds.flatMap deedCells)) (h2 : w.ownsRow B TD 3 (.slice q n c2) n (ds.flatMap deedCells)) :
    Calls Tryd.prog 41 #[.slice p m c1, .slice q m c2] w fun e w' => e = .returned (.bool true) ∧ Ext w w' := by
  have e : n = m := by
    have a := h1.len
    have b := h2.1
    rw [a] at b
    omega
  subst e
  exact sameDeeds_any p q n c1 c2 ds w h1 (Sl.own h2)
theorem journalText_len (first : Int) (ds : List Deed3) : (journalText first ds).length ≤ 200 * ds.length := by
  unfold journalText
  cases h : jt first ds with
  | none => simp
  | some x => simpa using (jt_bd ds first x h).2

set_option maxRecDepth 100000 in
set_option maxHeartbeats 1000000 in
theorem fnJournalText_o (p : Option Addr) (n cap : Nat) (w : World) (hE : Hid (Env w)) (h : (n : Int) ≤ 1048576) (HD : Hid (Calls Tryd.prog 40 #[.slice p n cap] w (DrewLog w))) :
    Calls Tryd.prog 13 #[.slice p n cap] w fun e w' => e = .returned (.bool true) ∧ Ext w w' := by
  go_enter Tryd.func13, Tryd.ntmps13
  go_wp2_with fail
  refine HD.out.mono ?_
  rintro e w1 ⟨first, ds, v, rfl, ho, h6, f1, f2, h1⟩
  obtain ⟨pl, cl, rfl⟩ := own_len ho
  have hB : B64 first := by unfold B64; omega
  obtain ⟨t, ht⟩ : ∃ t, t = journalText first ds := ⟨_, rfl⟩
  have htl : t.length ≤ 1200 := by rw [ht]; have := journalText_len first ds; omega
  have HO1 := Lib.hid ho
  have HL : Hid (ds.length ≤ 1099511627776) := by show ds.length ≤ _; omega
  obtain ⟨m, hm⟩ : ∃ m, m = ds.length := ⟨_, rfl⟩
  have HI : Hid (∀ w', Ext w1 w' → Env w' → Calls Tryd.prog 26 #[.int .i64 first, .slice pl m cl] w' fun e w'' => e = .returned (str t) ∧ Ext w' w'') := fun w' hx hE => by
    rw [ht, hm]; exact implJournal first _ ds w' hE hB (own_rdz (by omega) (HO1.out.kept hx.gb (by cases Value.ownBlock _ <;> simp))) HL.out
  have HS : Hid (∀ w', Ext w1 w' → Calls Tryd.prog 24 #[.int .i64 first, .slice pl m cl] w' fun e w'' => e = .returned (str t) ∧ Ext w' w'') := fun w' hx => by
    rw [ht, hm]; exact specJournal first _ ds w' hB (own_rdz (by omega) (HO1.out.kept hx.gb (by cases Value.ownBlock _ <;> simp))) HL.out
  rw [← hm]
  by_cases h0 : t = []
  · have hb0 : t.isEmpty = true := by simp [h0]
    clear ht h0 ho hm
    go_wp2_with fail
    refine (HI.out _ (by (repeat' (first | exact Ext.refl _ | (with_reducible assumption) | (with_reducible refine Ext.alloc ?_ _) | (with_reducible refine Ext.setCell ?_ (by first | exact Nat.le_refl _ | (dsimp only; omega) | (simp; done) | (simp; omega)) _) | (with_reducible refine Ext.drew ?_) | (with_reducible refine Ext.drewN ?_ _) | (refine Ext.trans ?_ (by with_reducible assumption))))) (hE.out.ext (by (repeat' (first | exact Ext.refl _ | (with_reducible assumption) | (with_reducible refine Ext.alloc ?_ _) | (with_reducible refine Ext.setCell ?_ (by first | exact Nat.le_refl _ | (dsimp only; omega) | (simp; done) | (simp; omega)) _) | (with_reducible refine Ext.drew ?_) | (with_reducible refine Ext.drewN ?_ _) | (refine Ext.trans ?_ (by with_reducible assumption))))))).mono ?_
    rintro e w2 ⟨rfl, h2⟩
    go_wp2_with fail
    refine (HS.out _ (by (repeat' (first | exact Ext.refl _ | (with_reducible assumption) | (with_reducible refine Ext.alloc ?_ _) | (with_reducible refine Ext.setCell ?_ (by first | exact Nat.le_refl _ | (dsimp only; omega) | (simp; done) | (simp; omega)) _) | (with_reducible refine Ext.drew ?_) | (with_reducible refine Ext.drewN ?_ _) | (refine Ext.trans ?_ (by with_reducible assumption)))))).mono ?_
    rintro e w3 ⟨rfl, h3⟩
    go_wp2_with fail
    refine (alive_any _ (hE.out.ext (by (repeat' (first | exact Ext.refl _ | (with_reducible assumption) | (with_reducible refine Ext.alloc ?_ _) | (with_reducible refine Ext.setCell ?_ (by first | exact Nat.le_refl _ | (dsimp only; omega) | (simp; done) | (simp; omega)) _) | (with_reducible refine Ext.drew ?_) | (with_reducible refine Ext.drewN ?_ _) | (refine Ext.trans ?_ (by with_reducible assumption))))))).mono ?_
    rintro e w4 ⟨rfl, h4⟩
    go_wp2
    go_ret
    exact ⟨rfl, by (repeat' (first | exact Ext.refl _ | (with_reducible assumption) | (with_reducible refine Ext.alloc ?_ _) | (with_reducible refine Ext.setCell ?_ (by first | exact Nat.le_refl _ | (dsimp only; omega) | (simp; done) | (simp; omega)) _) | (with_reducible refine Ext.drew ?_) | (with_reducible refine Ext.drewN ?_ _) | (refine Ext.trans ?_ (by with_reducible assumption))))⟩
  · have hb0 : t.isEmpty = false := by simp [h0]
    have HR : Hid (∀ w, Env w → Calls Tryd.prog 37 #[.int .i64 first, str t] w fun e w' => ∃ p' c', e = .returned (.tuple #[.slice p' m c', .int .i64 t.length]) ∧ w'.ownsRow w.heap.size TD 3 (.slice p' m c') m (ds.flatMap deedCells) ∧ Ext w w') := fun w hE => by
      refine (implRJ first ⟨t.toArray⟩ w (by simp [ByteArray.size]; omega) hB hE).mono ?_
      rintro e w' ⟨v, rfl, ho', hx⟩
      have hj : rj first t = (ds, t.length) := by rw [ht]; exact journal_read (by rw [← ht]; exact h0)
      have e1 : (⟨t.toArray⟩ : ByteArray).data.toList = t := by simp
      rw [e1, hj] at ho' ⊢
      obtain ⟨p', c', rfl⟩ := own_len ho'
      rw [hm]
      exact ⟨p', c', rfl, ho', hx⟩
    clear ht h0 ho hm
    go_wp2_with fail
    refine (HI.out _ (by (repeat' (first | exact Ext.refl _ | (with_reducible assumption) | (with_reducible refine Ext.alloc ?_ _) | (with_reducible refine Ext.setCell ?_ (by first | exact Nat.le_refl _ | (dsimp only; omega) | (simp; done) | (simp; omega)) _) | (with_reducible refine Ext.drew ?_) | (with_reducible refine Ext.drewN ?_ _) | (refine Ext.trans ?_ (by with_reducible assumption))))) (hE.out.ext (by (repeat' (first | exact Ext.refl _ | (with_reducible assumption) | (with_reducible refine Ext.alloc ?_ _) | (with_reducible refine Ext.setCell ?_ (by first | exact Nat.le_refl _ | (dsimp only; omega) | (simp; done) | (simp; omega)) _) | (with_reducible refine Ext.drew ?_) | (with_reducible refine Ext.drewN ?_ _) | (refine Ext.trans ?_ (by with_reducible assumption))))))).mono ?_
    rintro e w2 ⟨rfl, h2⟩
    go_wp2_with fail
    refine (HS.out _ (by (repeat' (first | exact Ext.refl _ | (with_reducible assumption) | (with_reducible refine Ext.alloc ?_ _) | (with_reducible refine Ext.setCell ?_ (by first | exact Nat.le_refl _ | (dsimp only; omega) | (simp; done) | (simp; omega)) _) | (with_reducible refine Ext.drew ?_) | (with_reducible refine Ext.drewN ?_ _) | (refine Ext.trans ?_ (by with_reducible assumption)))))).mono ?_
    rintro e w3 ⟨rfl, h3⟩
    go_wp2_with fail
    refine (HR.out _ (hE.out.ext (by (repeat' (first | exact Ext.refl _ | (with_reducible assumption) | (with_reducible refine Ext.alloc ?_ _) | (with_reducible refine Ext.setCell ?_ (by first | exact Nat.le_refl _ | (dsimp only; omega) | (simp; done) | (simp; omega)) _) | (with_reducible refine Ext.drew ?_) | (with_reducible refine Ext.drewN ?_ _) | (refine Ext.trans ?_ (by with_reducible assumption))))))).mono ?_
    rintro e w4 ⟨p', c', rfl, ho', h4⟩
    have HO4 := Lib.hid (Sl.own ho')
    have X14 : Ext w1 w4 := by (repeat' (first | exact Ext.refl _ | (with_reducible assumption) | (with_reducible refine Ext.alloc ?_ _) | (with_reducible refine Ext.setCell ?_ (by first | exact Nat.le_refl _ | (dsimp only; omega) | (simp; done) | (simp; omega)) _) | (with_reducible refine Ext.drew ?_) | (with_reducible refine Ext.drewN ?_ _) | (refine Ext.trans ?_ (by with_reducible assumption))))
    have HO1' := Lib.hid (HO1.out.kept X14.gb (by cases Value.ownBlock _ <;> simp))
    clear ho'
    go_wp2_with fail
    refine (same_own HO4.out HO1'.out).mono ?_
    rintro e w5 ⟨rfl, h5⟩
    go_wp2
    go_ret
    exact ⟨rfl, by (repeat' (first | exact Ext.refl _ | (with_reducible assumption) | (with_reducible refine Ext.alloc ?_ _) | (with_reducible refine Ext.setCell ?_ (by first | exact Nat.le_refl _ | (dsimp only; omega) | (simp; done) | (simp; omega)) _) | (with_reducible refine Ext.drew ?_) | (with_reducible refine Ext.drewN ?_ _) | (refine Ext.trans ?_ (by with_reducible assumption))))⟩

theorem walk_FnJournalText (W : World) (v : Value) (u : Unit) (hc : Code W v) (hE : Env W) : Calls Tryd.prog 13 #[v] W fun e w' => e = .returned (.bool true) ∧ Ext W w' := by
  have hD := drawJournalText v W hc
  obtain ⟨p, n, cap, bs, rfl, h, hb⟩ := hc
  by_cases hn : (n : Int) ≤ 1048576
  · exact fnJournalText_o p n cap W hE hn hD
  · exact fnJournalText_big p n cap W (by omega)
end Go.Proofs.YtgojmmhfablapaaDoor
