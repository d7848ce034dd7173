/-
  The walk of the law FnEntryText.
-/
import Derived.Test.YtgojmmhfablapaaDoorDrawD
import Derived.Test.YtgojmmhfablapaaDoorAlive
import Derived.Test.YtgojmmhfablapaaDoorReadEntry
namespace Go.Proofs.YtgojmmhfablapaaDoor
open Go.RowKit
set_option linter.unusedVariables false

set_option maxRecDepth 100000 in
set_option maxHeartbeats 1000000 in
theorem fnEntryText_big (p : Option Addr) (n cap : Nat) (w : World) (h : (1048576 : Int) < n) :
    Calls Tryd.prog 11 #[.slice p n cap] w fun e w' => e = .returned (.bool true) ∧ Ext w w' := by
  go_enter Tryd.func11, Tryd.ntmps11
  go_wp2
  go_ret
  exact ⟨rfl, by (repeat' (first | exact Ext.refl _ | (with_reducible assumption) | (with_reducible refine Ext.alloc ?_ _) | (with_reducible refine Ext.setCell ?_ (by first | exact Nat.le_refl _ | (dsimp only; omega) | (simp; done) | (simp; omega)) _) | (with_reducible refine Ext.drew ?_) | (with_reducible refine Ext.drewN ?_ _) | (refine Ext.trans ?_ (by with_reducible assumption))))⟩

set_option maxRecDepth 100000 in
set_option maxHeartbeats 1000000 in
theorem fnEntryText_o (p : Option Addr) (n cap : Nat) (w : World) (hE : Hid (Env w)) (h : (n : Int) ≤ 1048576) (HD : Hid (Calls Tryd.prog 35 #[.slice p n cap] w (DrewNumDeed w))) :
    Calls Tryd.prog 11 #[.slice p n cap] w fun e w' => e = .returned (.bool true) ∧ Ext w w' := by
  go_enter Tryd.func11, Tryd.ntmps11
  go_wp2_with fail
  refine HD.out.mono ?_
  rintro e w1 ⟨num, k, a, b, rfl, h1⟩
  obtain ⟨t, ht⟩ : ∃ t, t = entryText num k a b := ⟨_, rfl⟩
  have htl : t.length ≤ 200 := by rw [ht]; exact entryText_len num k a b
  obtain ⟨s, hs, hsz⟩ : ∃ s : ByteArray, s = ⟨t.toArray⟩ ∧ s.size = t.length := ⟨_, rfl, by simp [ByteArray.size]⟩
  have HI : Hid (∀ w, Env w → Calls Tryd.prog 18 #[.int .i64 num, deedV k a b] w fun e w' => e = .returned (.string s) ∧ Ext w w') := fun w hE => by rw [hs, ht]; exact implEntry num k a b w hE
  have HS : Hid (∀ w, Calls Tryd.prog 17 #[.int .i64 num, deedV k a b] w fun e w' => e = .returned (.string s) ∧ Ext w w') := fun w => by rw [hs, ht]; exact specEntry num k a b w
  by_cases h0 : t = []
  · have hb0 : s.toList.isEmpty = true := by rw [hs, h0]; simp
    clear ht h0 hs
    go_wp2_with fail
    refine (HI.out _ (hE.out.ext (by (repeat' (first | exact Ext.refl _ | (with_reducible assumption) | (with_reducible refine Ext.alloc ?_ _) | (with_reducible refine Ext.setCell ?_ (by first | exact Nat.le_refl _ | (dsimp only; omega) | (simp; done) | (simp; omega)) _) | (with_reducible refine Ext.drew ?_) | (with_reducible refine Ext.drewN ?_ _) | (refine Ext.trans ?_ (by with_reducible assumption))))))).mono ?_
    rintro e w2 ⟨rfl, h2⟩
    have B2 : Blk w2 w1.heap.size TD #[.int .i64 k, .int .i64 a, .int .i64 b] := (Blk.new w1 _ _).ext h2
    obtain ⟨p0, p1, p2, _, _, _⟩ := B2.three
    go_wp2_with fail
    refine (HS.out _).mono ?_
    rintro e w3 ⟨rfl, h3⟩
    go_wp2_with fail
    refine (alive_any _ (hE.out.ext (by (repeat' (first | exact Ext.refl _ | (with_reducible assumption) | (with_reducible refine Ext.alloc ?_ _) | (with_reducible refine Ext.setCell ?_ (by first | exact Nat.le_refl _ | (dsimp only; omega) | (simp; done) | (simp; omega)) _) | (with_reducible refine Ext.drew ?_) | (with_reducible refine Ext.drewN ?_ _) | (refine Ext.trans ?_ (by with_reducible assumption))))))).mono ?_
    rintro e w4 ⟨rfl, h4⟩
    go_wp2
    go_ret
    exact ⟨rfl, by (repeat' (first | exact Ext.refl _ | (with_reducible assumption) | (with_reducible refine Ext.alloc ?_ _) | (with_reducible refine Ext.setCell ?_ (by first | exact Nat.le_refl _ | (dsimp only; omega) | (simp; done) | (simp; omega)) _) | (with_reducible refine Ext.drew ?_) | (with_reducible refine Ext.drewN ?_ _) | (refine Ext.trans ?_ (by with_reducible assumption))))⟩
  · have hb0 : s.toList.isEmpty = false := by rw [hs]; simp [ByteArray.toList_eq, h0]
    have hne : entryText num k a b ≠ [] := by rw [← ht]; exact h0
    have HR : Hid (∀ (j : Nat) w, j < s.size → Env w → Calls Tryd.prog 33 #[.string (s.extract 0 j)] w fun e w' => e = .returned (.tuple #[.int .i64 0, deedV 0 0 0, .int .i64 0]) ∧ Ext w w') := fun j w hj hE => by
      have := implReadEntry (t.take j) w (by simp; omega) hE
      rw [ht, entry_short j (by rw [← ht]; omega)] at this
      rw [hs, extract_str0, ht]
      exact this
    have HF : Hid (∀ w, Env w → Calls Tryd.prog 33 #[.string (s ++ ⟨#[55, 58, 105, 110, 32, 51]⟩)] w fun e w' => e = .returned (.tuple #[.int .i64 num, deedV k a b, .int .i64 s.size]) ∧ Ext w w') := fun w hE => by
      have := implReadEntry (t ++ [55, 58, 105, 110, 32, 51]) w (by simp; omega) hE
      rw [ht, (readEntry_text hne _).1] at this
      rw [hsz, hs, bytes_app t [55, 58, 105, 110, 32, 51], ht]
      exact this
    clear ht h0 hs hne
    go_wp2_with fail
    refine (HI.out _ (hE.out.ext (by (repeat' (first | exact Ext.refl _ | (with_reducible assumption) | (with_reducible refine Ext.alloc ?_ _) | (with_reducible refine Ext.setCell ?_ (by first | exact Nat.le_refl _ | (dsimp only; omega) | (simp; done) | (simp; omega)) _) | (with_reducible refine Ext.drew ?_) | (with_reducible refine Ext.drewN ?_ _) | (refine Ext.trans ?_ (by with_reducible assumption))))))).mono ?_
    rintro e w2 ⟨rfl, h2⟩
    have B2 : Blk w2 w1.heap.size TD #[.int .i64 k, .int .i64 a, .int .i64 b] := (Blk.new w1 _ _).ext h2
    obtain ⟨p0, p1, p2, _, _, _⟩ := B2.three
    have HB2 := Lib.hid B2
    clear B2
    go_wp2_with fail
    clear p0 p1 p2
    refine (HS.out _).mono ?_
    rintro e w3 ⟨rfl, h3⟩
    have HB3 := Lib.hid (HB2.out.ext h3)
    have X3 : Ext w w3 := by (repeat' (first | exact Ext.refl _ | (with_reducible assumption) | (with_reducible refine Ext.alloc ?_ _) | (with_reducible refine Ext.setCell ?_ (by first | exact Nat.le_refl _ | (dsimp only; omega) | (simp; done) | (simp; omega)) _) | (with_reducible refine Ext.drew ?_) | (with_reducible refine Ext.drewN ?_ _) | (refine Ext.trans ?_ (by with_reducible assumption))))
    clear h1 h2 h3 HB2
    go_wp2
    go_loopw [6] (fun i wr => ∃ j : Nat, j ≤ s.size ∧ i = .int .i64 j ∧ Ext w wr ∧ Blk wr w1.heap.size TD #[.int .i64 k, .int .i64 a, .int .i64 b]) (fun i _ => s.size - (intOf i).toNat)
    case atStart => exact ⟨0, Nat.zero_le _, rfl, X3, HB3.out⟩
    case round =>
      obtain ⟨j, hj, rfl, hX, hB⟩ := hrel
      have HBr := Lib.hid hB
      have hzr : w1.heap.size < wr.heap.size := hB.lt
      clear hB X3 HB3
      by_cases hlt : j < s.size
      · go_wp2_with fail
        refine (HR.out j _ hlt (hE.out.ext hX)).mono ?_
        rintro e w4 ⟨rfl, h4⟩
        have HB4 := Lib.hid (HBr.out.ext h4)
        go_wp2
        go_roundw
        case rel => exact ⟨j + 1, by omega, by go_num, by (repeat' (first | exact Ext.refl _ | (with_reducible assumption) | (with_reducible refine Ext.alloc ?_ _) | (with_reducible refine Ext.setCell ?_ (by first | exact Nat.le_refl _ | (dsimp only; omega) | (simp; done) | (simp; omega)) _) | (with_reducible refine Ext.drew ?_) | (with_reducible refine Ext.drewN ?_ _) | (refine Ext.trans ?_ (by with_reducible assumption)))), HB4.out.alloc _⟩
        case measure => simp [intOf]; omega
      · go_wp2_with fail
        refine (HF.out _ (hE.out.ext hX)).mono ?_
        rintro e w4 ⟨rfl, h4⟩
        have B4 := HBr.out.ext h4
        obtain ⟨p0, p1, p2, _, _, _⟩ := B4.three
        have hz4 : w1.heap.size < w4.heap.size := B4.lt
        clear B4
        go_wp2
        go_ret
        exact ⟨rfl, by (repeat' (first | exact Ext.refl _ | (with_reducible assumption) | (with_reducible refine Ext.alloc ?_ _) | (with_reducible refine Ext.setCell ?_ (by first | exact Nat.le_refl _ | (dsimp only; omega) | (simp; done) | (simp; omega)) _) | (with_reducible refine Ext.drew ?_) | (with_reducible refine Ext.drewN ?_ _) | (refine Ext.trans ?_ (by with_reducible assumption))))⟩

theorem walk_FnEntryText (W : World) (v : Value) (u : Unit) (hc : Code W v) (hE : Env W) : Calls Tryd.prog 11 #[v] W fun e w' => e = .returned (.bool true) ∧ Ext W w' := by
  have hD := drawEntryText v W hc
  obtain ⟨p, n, cap, bs, rfl, h, hb⟩ := hc
  by_cases hn : (n : Int) ≤ 1048576
  · exact fnEntryText_o p n cap W hE hn hD
  · exact fnEntryText_big p n cap W (by omega)
end Go.Proofs.YtgojmmhfablapaaDoor
