/-
  Both functions JournalText return the text 'journalText' of a list of deeds. Conditions: the slice reads as the list, which has at most 2^40 deeds; the library's table is laid.
-/
import Derived.Test.YtncfnlocdlhagaaDoorJournal
namespace Go.Proofs.YtncfnlocdlhagaaDoor
open Go.RowKit
set_option linter.unusedVariables false

theorem jt_arg {first : Int} {ds : List Deed3} {k : Nat} {x : List UInt8} (hx : jt first (ds.take k) = some x) (hk : k < ds.length) (hB : -9223372036854775808 ≤ first ∧ first ≤ 9223372036854775807) :
    -9223372036854775808 ≤ first + k ∧ first + k ≤ 9223372036854775807 ∧ x.length ≤ 20000 := by
  have hl : (ds.take k).length = k := by simp; omega
  obtain ⟨h1, h2⟩ := jt_bd _ _ _ hx
  rw [hl] at h1 h2
  rcases h1 with h1 | h1
  · have := congrArg List.length h1
    rw [hl] at this; simp at this; subst this; simp; omega
  · omega

set_option maxRecDepth 100000 in
set_option maxHeartbeats 1000000 in
theorem specJournal_some (first : Int) (ds : List Deed3) (b off n cap : Nat) (w : World) (hB : -9223372036854775808 ≤ first ∧ first ≤ 9223372036854775807) (hn : ds.length = n) (hn2 : n ≤ 1099511627776) (hb : b < w.heap.size)
    (HR : Hid (Rd w (.slice (some ⟨b, off, none⟩) n cap) n 3 (ds.flatMap deedCells))) :
    Calls Tryd.prog 50 #[.int .i64 first, .slice (some ⟨b, off, none⟩) n cap] w fun e w' => e = .returned (str (journalText first ds)) ∧ Ext w w' := by
  have HN := Lib.hid hn
  clear hn
  go_enter Tryd.func50, Tryd.ntmps50
  go_wp2
  go_loopw [5, 6] (fun out i wr => ∃ (k : Nat) (acc : List UInt8), k ≤ n ∧ i = .int .i64 k ∧ out = str acc ∧ jt first (ds.take k) = some acc ∧ Ext w wr) (fun _ i _ => n - (intOf i).toNat)
  case atStart => exact ⟨0, [], Nat.zero_le _, rfl, rfl, rfl, Ext.refl _⟩
  case round =>
    obtain ⟨k, acc, hk, rfl, rfl, hj, hE⟩ := hrel
    have HJ := Lib.hid hj
    clear hj
    by_cases hlt : k < n
    · obtain ⟨d, hd⟩ : ∃ d, ds[k]? = some d := ⟨_, List.getElem?_eq_getElem (by rw [HN.out]; exact hlt)⟩
      have HD := Lib.hid hd
      obtain ⟨c0, c1, c2⟩ := RdDeeds.at HR.out HN.out hd
      have e0 := (hE.cells.1 _ _ hb).trans c0
      have e1 := (hE.cells.1 _ _ hb).trans c1
      have e2 := (hE.cells.1 _ _ hb).trans c2
      obtain ⟨q1, q2, q3⟩ := jt_arg HJ.out (by rw [HN.out]; exact hlt) hB
      have hsz := hE.sz
      clear c0 c1 c2 hd
      obtain ⟨d0, d1, d2⟩ := d
      obtain ⟨t, ht⟩ : ∃ t, entryText (first + k) d0 d1 d2 = t := ⟨_, rfl⟩
      have htl : t.length ≤ 200 := by rw [← ht]; exact entryText_len _ _ _ _
      have HS : Hid (∀ w, Calls Tryd.prog 34 #[.int .i64 (first + k), deedV d0 d1 d2] w fun e w' => e = .returned (str t) ∧ Ext w w') := fun w => by rw [← ht]; exact specEntry _ _ _ _ w
      have HT := Lib.hid ht
      clear ht
      by_cases h0 : t = []
      · have hb0 : t.isEmpty = true := by simp [h0]
        have hfin : Hid (journalText first ds = []) := by show _ = _; rw [journalText, jt_stop HD.out HJ.out (by rw [HT.out, h0])]; rfl
        clear h0
        go_wp2_with fail
        refine (HS.out _).mono ?_
        rintro e w1 ⟨rfl, h1⟩
        go_wp2
        go_ret
        exact ⟨ret_str hfin.out.symm, by (repeat' (first | exact Ext.refl _ | (with_reducible assumption) | (with_reducible refine Ext.alloc ?_ _) | (with_reducible refine Ext.setCell ?_ (by first | exact Nat.le_refl _ | (dsimp only; omega) | (simp; done) | (simp; omega)) _) | (with_reducible refine Ext.drew ?_) | (with_reducible refine Ext.drewN ?_ _) | (refine Ext.trans ?_ (by with_reducible assumption))))⟩
      · have hb0 : t.isEmpty = false := by simp [h0]
        have hfin : Hid (jt first (ds.take (k + 1)) = some (acc ++ t)) := by show _ = _; rw [jt_step HD.out HJ.out (by rw [HT.out]; exact h0), HT.out]
        clear h0
        go_wp2_with fail
        refine (HS.out _).mono ?_
        rintro e w1 ⟨rfl, h1⟩
        go_wp2
        go_roundw
        case rel => exact ⟨k + 1, acc ++ t, by omega, by go_num, rfl, hfin.out, by (repeat' (first | exact Ext.refl _ | (with_reducible assumption) | (with_reducible refine Ext.alloc ?_ _) | (with_reducible refine Ext.setCell ?_ (by first | exact Nat.le_refl _ | (dsimp only; omega) | (simp; done) | (simp; omega)) _) | (with_reducible refine Ext.drew ?_) | (with_reducible refine Ext.drewN ?_ _) | (refine Ext.trans ?_ (by with_reducible assumption))))⟩
        case measure => simp [intOf]; omega
    · have e : ds.take k = ds := List.take_of_length_le (by rw [HN.out]; omega)
      have hfin : Hid (journalText first ds = acc) := by show _ = _; rw [journalText, ← e, HJ.out]; rfl
      clear e
      go_wp2
      go_ret
      exact ⟨ret_str hfin.out.symm, by (repeat' (first | exact Ext.refl _ | (with_reducible assumption) | (with_reducible refine Ext.alloc ?_ _) | (with_reducible refine Ext.setCell ?_ (by first | exact Nat.le_refl _ | (dsimp only; omega) | (simp; done) | (simp; omega)) _) | (with_reducible refine Ext.drew ?_) | (with_reducible refine Ext.drewN ?_ _) | (refine Ext.trans ?_ (by with_reducible assumption))))⟩

theorem byteCells_append (a b : List UInt8) : Lib.byteCells (a ++ b) = Lib.byteCells a ++ Lib.strCells ⟨b.toArray⟩ := by
  simp [Lib.byteCells, Lib.strCells]

set_option maxRecDepth 100000 in
set_option maxHeartbeats 1000000 in
theorem implJournal_some (first : Int) (ds : List Deed3) (b off n cap : Nat) (w : World) (hE0 : Env w) (hB : -9223372036854775808 ≤ first ∧ first ≤ 9223372036854775807) (hn : ds.length = n) (hn2 : n ≤ 1099511627776) (hb : b < w.heap.size)
    (HR : Hid (Rd w (.slice (some ⟨b, off, none⟩) n cap) n 3 (ds.flatMap deedCells))) :
    Calls Tryd.prog 17 #[.int .i64 first, .slice (some ⟨b, off, none⟩) n cap] w fun e w' => e = .returned (str (journalText first ds)) ∧ Ext w w' := by
  have HN := Lib.hid hn
  have HE0 := Lib.hid hE0
  clear hn hE0
  go_enter Tryd.func17, Tryd.ntmps17
  go_wp2
  go_loopw [11] (fun i wr => ∃ (k : Nat) (acc : List UInt8), k ≤ n ∧ i = .int .i64 k ∧ jt first (ds.take k) = some acc ∧ Lib.IsBuilderF 87 5 w.heap.size w.heap.size (Lib.byteCells acc) wr ∧ Ext w wr) (fun i _ => n - (intOf i).toNat)
  case atStart => exact ⟨0, [], Nat.zero_le _, rfl, rfl, .inl ⟨Nat.le_refl _, .slice none 0 0, by rw [heap_alloc_new], World.ownsRowF_nil _ _ _ _, by simp [Value.ownBlock]⟩, (Ext.refl _).alloc _⟩
  case round =>
    obtain ⟨k, acc, hk, rfl, hj, hbu, hE⟩ := hrel
    have HJ := Lib.hid hj
    have HBU := Lib.hid hbu
    clear hj hbu
    by_cases hlt : k < n
    · obtain ⟨d, hd⟩ : ∃ d, ds[k]? = some d := ⟨_, List.getElem?_eq_getElem (by rw [HN.out]; exact hlt)⟩
      have HD := Lib.hid hd
      obtain ⟨c0, c1, c2⟩ := RdDeeds.at HR.out HN.out hd
      have e0 := (hE.cells.1 _ _ hb).trans c0
      have e1 := (hE.cells.1 _ _ hb).trans c1
      have e2 := (hE.cells.1 _ _ hb).trans c2
      obtain ⟨q1, q2, q3⟩ := jt_arg HJ.out (by rw [HN.out]; exact hlt) hB
      have hsz := hE.sz
      clear c0 c1 c2 hd
      obtain ⟨d0, d1, d2⟩ := d
      obtain ⟨t, ht⟩ : ∃ t, entryText (first + k) d0 d1 d2 = t := ⟨_, rfl⟩
      have htl : t.length ≤ 200 := by rw [← ht]; exact entryText_len _ _ _ _
      have HS : Hid (∀ w, Env w → Calls Tryd.prog 12 #[.int .i64 (first + k), deedV d0 d1 d2] w fun e w' => e = .returned (str t) ∧ Ext w w') := fun w hE => by rw [← ht]; exact implEntry _ _ _ _ w hE
      have HT := Lib.hid ht
      clear ht
      by_cases h0 : t = []
      · have hb0 : t.isEmpty = true := by simp [h0]
        have hfin : Hid (journalText first ds = []) := by show _ = _; rw [journalText, jt_stop HD.out HJ.out (by rw [HT.out, h0])]; rfl
        clear h0
        go_wp2_with fail
        refine (HS.out _ (HE0.out.ext (by (repeat' (first | exact Ext.refl _ | (with_reducible assumption) | (with_reducible refine Ext.alloc ?_ _) | (with_reducible refine Ext.setCell ?_ (by first | exact Nat.le_refl _ | (dsimp only; omega) | (simp; done) | (simp; omega)) _) | (with_reducible refine Ext.drew ?_) | (with_reducible refine Ext.drewN ?_ _) | (refine Ext.trans ?_ (by with_reducible assumption))))))).mono ?_
        rintro e w1 ⟨rfl, h1⟩
        go_wp2
        go_ret
        exact ⟨ret_str hfin.out.symm, by (repeat' (first | exact Ext.refl _ | (with_reducible assumption) | (with_reducible refine Ext.alloc ?_ _) | (with_reducible refine Ext.setCell ?_ (by first | exact Nat.le_refl _ | (dsimp only; omega) | (simp; done) | (simp; omega)) _) | (with_reducible refine Ext.drew ?_) | (with_reducible refine Ext.drewN ?_ _) | (refine Ext.trans ?_ (by with_reducible assumption))))⟩
      · have hb0 : t.isEmpty = false := by simp [h0]
        have hfin : Hid (jt first (ds.take (k + 1)) = some (acc ++ t)) := by show _ = _; rw [jt_step HD.out HJ.out (by rw [HT.out]; exact h0), HT.out]
        clear h0
        go_wp2_with fail
        refine (HS.out _ (HE0.out.ext (by (repeat' (first | exact Ext.refl _ | (with_reducible assumption) | (with_reducible refine Ext.alloc ?_ _) | (with_reducible refine Ext.setCell ?_ (by first | exact Nat.le_refl _ | (dsimp only; omega) | (simp; done) | (simp; omega)) _) | (with_reducible refine Ext.drew ?_) | (with_reducible refine Ext.drewN ?_ _) | (refine Ext.trans ?_ (by with_reducible assumption))))))).mono ?_
        rintro e w1 ⟨rfl, h1⟩
        have hb1 := builder_ext (HBU.out.alloc _) h1
        have hs1 := h1.sz
        simp only [World.size_alloc] at hs1
        have HB1 := Lib.hid hb1
        clear hb1
        go_wp2_with fail
        refine (WriteString_k w.heap.size w.heap.size (Lib.byteCells acc) ⟨t.toArray⟩ _ HB1.out (by simp [Lib.byteCells, ByteArray.size]; omega) (by omega)).mono ?_
        rintro e w2 ⟨rfl, h2, h3, _⟩
        have HB2 : Hid (Lib.IsBuilderF 87 5 w.heap.size w.heap.size (Lib.byteCells (acc ++ t)) w2) := by rw [byteCells_append]; exact .inr h2
        have hE2 : Ext w w2 := ext_below (by (repeat' (first | exact Ext.refl _ | (with_reducible assumption) | (with_reducible refine Ext.alloc ?_ _) | (with_reducible refine Ext.setCell ?_ (by first | exact Nat.le_refl _ | (dsimp only; omega) | (simp; done) | (simp; omega)) _) | (with_reducible refine Ext.drew ?_) | (with_reducible refine Ext.drewN ?_ _) | (refine Ext.trans ?_ (by with_reducible assumption))))) h3 (Nat.le_refl _)
        clear h2 h3
        go_wp2
        go_roundw
        case rel => exact ⟨k + 1, acc ++ t, by omega, by go_num, hfin.out, HB2.out, hE2⟩
        case measure => simp [intOf]; omega
    · have e : ds.take k = ds := List.take_of_length_le (by rw [HN.out]; omega)
      have hfin : Hid (journalText first ds = acc) := by show _ = _; rw [journalText, ← e, HJ.out]; rfl
      have hsz := hE.sz
      clear e
      go_wp2_with fail
      refine (Tryd.Builder_String_any_f w.heap.size w.heap.size acc _ HBU.out hsz).mono ?_
      rintro e w1 ⟨rfl, h2, h3⟩
      have hE2 : Ext w w1 := ext_below hE h3 (Nat.le_refl _)
      clear h2 h3
      go_wp2
      go_ret
      exact ⟨ret_str hfin.out.symm, by (repeat' (first | exact Ext.refl _ | (with_reducible assumption) | (with_reducible refine Ext.alloc ?_ _) | (with_reducible refine Ext.setCell ?_ (by first | exact Nat.le_refl _ | (dsimp only; omega) | (simp; done) | (simp; omega)) _) | (with_reducible refine Ext.drew ?_) | (with_reducible refine Ext.drewN ?_ _) | (refine Ext.trans ?_ (by with_reducible assumption))))⟩
end Go.Proofs.YtncfnlocdlhagaaDoor
