/-
  spec.ReadEntry returns what 'readEntry' says. Condition: the text has at most 2^32 - 16 bytes.
-/
import Derived.Test.YtncfnlocdlhagaaDoorReadEntry
import Derived.Test.YtncfnlocdlhagaaDoorSpecRead2
namespace Go.Proofs.YtncfnlocdlhagaaDoor
open Go.RowKit
set_option linter.unusedVariables false

theorem byte_eq (x : UInt8) (c : UInt8) : ((x.toNat : Int) == (c.toNat : Int)) = decide (x = c) := by
  by_cases h : x = c
  · simp [h]
  · simp only [h, decide_false, beq_eq_false_iff_ne, ne_eq]
    intro q; exact h (UInt8.toNat_inj.1 (by omega))
theorem getElem_at (s : ByteArray) (k : Nat) (h : k < s.size) : s.data.toList[k]? = some s[k] := by
  rw [List.getElem?_eq_getElem (by simpa using h)]; rfl
theorem no_before {c : UInt8} {l : List UInt8} {e k : Nat} (h : posOf c l = some e) (hk : k < e) : l[k]? ≠ some c := by
  intro q
  have := (posOf_lt h).2.2
  exact this (by rw [List.mem_take_iff_getElem]; obtain ⟨h1, h2⟩ := List.getElem?_eq_some_iff.1 q; exact ⟨k, by omega, h2⟩)
theorem no_at_all {c : UInt8} {l : List UInt8} {k : Nat} (h : posOf c l = none) : l[k]? ≠ some c := by
  intro q
  have hm := List.mem_of_getElem? q
  unfold posOf at h; rw [if_pos hm] at h; simp at h

set_option maxRecDepth 100000 in
set_option maxHeartbeats 1000000 in
theorem specE_none (s : ByteArray) (w : World) (hs : s.size ≤ 4294967280) (hp : posOf 59 s.data.toList = none) :
    Calls Tryd.prog 10 #[.string s] w (RetRe none w) := by
  have HALL : Hid (∀ k (h : k < s.size), ((s[k].toNat : Int) != 59) = true) := by
    intro k h
    have := no_at_all (k := k) hp
    rw [getElem_at s k h] at this
    rw [bne, show (59 : Int) = ((59 : UInt8).toNat : Int) from rfl, byte_eq]
    simpa using this
  go_enter Tryd.func10, Tryd.ntmps10
  go_wp2
  go_loop [5] (fun i => ∃ k : Nat, k ≤ s.size ∧ i = .int .i64 k) (fun i => s.size - (intOf i).toNat)
  case atStart => exact ⟨0, Nat.zero_le _, rfl⟩
  case round =>
    obtain ⟨k, hk, rfl⟩ := hrel
    by_cases hlt : k < s.size
    · have hb := HALL.out k hlt
      go_wp2
      go_round
      case rel => exact ⟨k + 1, by omega, by go_num⟩
      case measure => simp [intOf]; omega
    · obtain rfl : k = s.size := by omega
      go_wp2
      exact bodyPost_ret (v := reV none) (by simp [results, Tryd.results10, go_sem]; rfl) rfl ⟨rfl, by (repeat' (first | exact Ext.refl _ | (with_reducible assumption) | (with_reducible refine Ext.alloc ?_ _) | (with_reducible refine Ext.setCell ?_ (by first | exact Nat.le_refl _ | (dsimp only; omega) | (simp; done) | (simp; omega)) _) | (with_reducible refine Ext.drew ?_) | (with_reducible refine Ext.drewN ?_ _) | (refine Ext.trans ?_ (by with_reducible assumption))))⟩

set_option maxRecDepth 100000 in
set_option maxHeartbeats 1000000 in
theorem specE_two (s : ByteArray) (e n1 n2 : Nat) (ps qs : List (List UInt8)) (b : List UInt8) (w : World) (hs : s.size ≤ 4294967280) (hp : posOf 59 s.data.toList = some e)
    (h1 : 1 ≤ n1) (hb : ps[0]? = some b) (h2 : 1 ≤ n2) (h22 : ((n2 : Int) != 2) = true) (hn2 : n2 ≤ 4294967281)
    (HC : Hid (∀ w, Calls Tryd.prog 42 #[.string (s.extract 0 e), .int .u8 35] w fun q w' => ∃ v, q = .returned v ∧ w'.ownsRow w.heap.size 9 1 v n1 (strs ps) ∧ Ext w w'))
    (HC2 : Hid (∀ w, Calls Tryd.prog 42 #[str b, .int .u8 58] w fun q w' => ∃ v, q = .returned v ∧ w'.ownsRow w.heap.size 9 1 v n2 (strs qs) ∧ Ext w w')) :
    Calls Tryd.prog 10 #[.string s] w (RetRe none w) := by
  have hel : e < s.size := by have := (posOf_lt hp).1; rwa [toList_length] at this
  have HALL : Hid (∀ k (h : k < e) (h2 : k < s.size), ((s[k].toNat : Int) != 59) = true) := by
    intro k h h2
    have := no_before hp h
    rw [getElem_at s k h2] at this
    rw [bne, show (59 : Int) = ((59 : UInt8).toNat : Int) from rfl, byte_eq]
    simpa using this
  have hat : ((s[e].toNat : Int) != 59) = false := by
    have := (posOf_lt hp).2.1
    rw [getElem_at s e hel] at this
    rw [bne, show (59 : Int) = ((59 : UInt8).toNat : Int) from rfl, byte_eq]
    simpa using this
  go_enter Tryd.func10, Tryd.ntmps10
  go_wp2
  go_loop [5] (fun i => ∃ k : Nat, k ≤ e ∧ i = .int .i64 k) (fun i => e - (intOf i).toNat)
  case atStart => exact ⟨0, Nat.zero_le _, rfl⟩
  case round =>
    obtain ⟨k, hk, rfl⟩ := hrel
    by_cases hlt : k < e
    · have hks : k < s.size := by omega
      have hb := HALL.out k hlt hks
      clear hat
      go_wp2
      go_round
      case rel => exact ⟨k + 1, by omega, by go_num⟩
      case measure => simp [intOf]; omega
    · obtain rfl : k = e := by omega
      have hne : ((k : Int) == (s.size : Int)) = false := by simp; omega
      go_wp2_with fail
      refine (HC.out _).mono ?_
      rintro q w1 ⟨v, rfl, hown, h1⟩
      obtain ⟨g, cap, rfl⟩ := Joins.ownsRow_form hown (by omega)
      have e0 := part_cell hown 0 (by omega) _ hb
      clear hown
      have hnN : 0 < n1 := by omega
      go_wp2_with fail
      refine (HC2.out _).mono ?_
      rintro q w2 ⟨v, rfl, hown, h2⟩
      obtain ⟨g2, cap2, rfl⟩ := Joins.ownsRow_form hown (by omega)
      clear hown
      replace h2 := h1.trans h2
      clear h1 e0
      obtain ⟨hc2, hf2⟩ := h2.cells
      go_wp2
      exact bodyPost_ret (v := reV none) (by simp [results, Tryd.results10, go_sem, *]; rfl) rfl ⟨rfl, by (repeat' (first | exact Ext.refl _ | (with_reducible assumption) | (with_reducible refine Ext.alloc ?_ _) | (with_reducible refine Ext.setCell ?_ (by first | exact Nat.le_refl _ | (dsimp only; omega) | (simp; done) | (simp; omega)) _) | (with_reducible refine Ext.drew ?_) | (with_reducible refine Ext.drewN ?_ _) | (refine Ext.trans ?_ (by with_reducible assumption))))⟩
set_option maxRecDepth 100000 in
set_option maxHeartbeats 1000000 in
theorem specE_deed (s : ByteArray) (e n1 : Nat) (ps : List (List UInt8)) (b : List UInt8) (w : World) (hs : s.size ≤ 4294967280) (hp : posOf 59 s.data.toList = some e)
    (h1 : 1 ≤ n1) (hb : ps[0]? = some b) (f r : List UInt8) (n : Int)
    (HC : Hid (∀ w, Calls Tryd.prog 42 #[.string (s.extract 0 e), .int .u8 35] w fun q w' => ∃ v, q = .returned v ∧ w'.ownsRow w.heap.size 9 1 v n1 (strs ps) ∧ Ext w w'))
    (HC2 : Hid (∀ w, Calls Tryd.prog 42 #[str b, .int .u8 58] w fun q w' => ∃ v, q = .returned v ∧ w'.ownsRow w.heap.size 9 1 v 2 (strs [f, r]) ∧ Ext w w'))
    (HR : Hid (∀ w, Calls Tryd.prog 43 #[str f] w fun q w' => q = .returned (.int .i64 n) ∧ w = w'))
    (HD : Hid (∀ w, Calls Tryd.prog 44 #[str r] w fun q w' => q = .returned (.tuple #[deedV 0 0 0, .bool false]) ∧ Ext w w')) :
    Calls Tryd.prog 10 #[.string s] w (RetRe (none) w) := by
  have hel : e < s.size := by have := (posOf_lt hp).1; rwa [toList_length] at this
  have HALL : Hid (∀ k (h : k < e) (h2 : k < s.size), ((s[k].toNat : Int) != 59) = true) := by
    intro k h h2
    have := no_before hp h
    rw [getElem_at s k h2] at this
    rw [bne, show (59 : Int) = ((59 : UInt8).toNat : Int) from rfl, byte_eq]
    simpa using this
  have hat : ((s[e].toNat : Int) != 59) = false := by
    have := (posOf_lt hp).2.1
    rw [getElem_at s e hel] at this
    rw [bne, show (59 : Int) = ((59 : UInt8).toNat : Int) from rfl, byte_eq]
    simpa using this
  go_enter Tryd.func10, Tryd.ntmps10
  go_wp2
  go_loop [5] (fun i => ∃ k : Nat, k ≤ e ∧ i = .int .i64 k) (fun i => e - (intOf i).toNat)
  case atStart => exact ⟨0, Nat.zero_le _, rfl⟩
  case round =>
    obtain ⟨k, hk, rfl⟩ := hrel
    by_cases hlt : k < e
    · have hks : k < s.size := by omega
      have hb := HALL.out k hlt hks
      clear hat
      go_wp2
      go_round
      case rel => exact ⟨k + 1, by omega, by go_num⟩
      case measure => simp [intOf]; omega
    · obtain rfl : k = e := by omega
      have hne : ((k : Int) == (s.size : Int)) = false := by simp; omega
      go_wp2_with fail
      refine (HC.out _).mono ?_
      rintro q w1 ⟨v, rfl, hown, h1⟩
      obtain ⟨g, cap, rfl⟩ := Joins.ownsRow_form hown (by omega)
      have e0 := part_cell hown 0 (by omega) _ hb
      clear hown
      have hnN : 0 < n1 := by omega
      go_wp2_with fail
      refine (HC2.out _).mono ?_
      rintro q w2 ⟨v, rfl, hown, h2⟩
      obtain ⟨g2, cap2, rfl⟩ := Joins.ownsRow_form hown (by omega)
      have e1 := part_cell hown 0 (by omega) _ rfl
      have e2 := part_cell hown 1 (by omega) _ rfl
      have hg2 := (hown.lt g2 rfl).2
      clear hown
      replace h2 := h1.trans h2
      clear h1 e0
      go_wp2_with fail
      refine (HR.out _).mono ?_
      rintro q w3 ⟨rfl, rfl⟩
      go_wp2_with fail
      refine (HD.out _).mono ?_
      rintro q w3 ⟨rfl, h3⟩
      clear e1 e2
      replace h3 := h2.trans h3
      clear h2
      obtain ⟨hc3, hf3⟩ := h3.cells
      have hz3 : w.heap.size < w3.heap.size := Nat.lt_of_lt_of_le (by simp) h3.sz
      go_wp2
      go_quiet (fail)
      go_wp2
      exact bodyPost_ret (v := reV none) (by simp [results, Tryd.results10, go_sem, *]; rfl) rfl ⟨rfl, by (repeat' (first | exact Ext.refl _ | (with_reducible assumption) | (with_reducible refine Ext.alloc ?_ _) | (with_reducible refine Ext.setCell ?_ (by first | exact Nat.le_refl _ | (dsimp only; omega) | (simp; done) | (simp; omega)) _) | (with_reducible refine Ext.drew ?_) | (with_reducible refine Ext.drewN ?_ _) | (refine Ext.trans ?_ (by with_reducible assumption))))⟩

set_option maxRecDepth 100000 in
set_option maxHeartbeats 1000000 in
theorem specE_no (s : ByteArray) (e n1 : Nat) (ps : List (List UInt8)) (b : List UInt8) (w : World) (hs : s.size ≤ 4294967280) (hp : posOf 59 s.data.toList = some e)
    (h1 : 1 ≤ n1) (hb : ps[0]? = some b) (f r t : List UInt8) (n k2 a b0 : Int)
    (HC : Hid (∀ w, Calls Tryd.prog 42 #[.string (s.extract 0 e), .int .u8 35] w fun q w' => ∃ v, q = .returned v ∧ w'.ownsRow w.heap.size 9 1 v n1 (strs ps) ∧ Ext w w'))
    (HC2 : Hid (∀ w, Calls Tryd.prog 42 #[str b, .int .u8 58] w fun q w' => ∃ v, q = .returned v ∧ w'.ownsRow w.heap.size 9 1 v 2 (strs [f, r]) ∧ Ext w w'))
    (HR : Hid (∀ w, Calls Tryd.prog 43 #[str f] w fun q w' => q = .returned (.int .i64 n) ∧ w = w'))
    (HD : Hid (∀ w, Calls Tryd.prog 44 #[str r] w fun q w' => q = .returned (.tuple #[deedV k2 a b0, .bool true]) ∧ Ext w w'))
    (HT : Hid (∀ w, Calls Tryd.prog 34 #[.int .i64 n, deedV k2 a b0] w fun q w' => q = .returned (str t) ∧ Ext w w')) (htl : t.length ≤ 200) (hcmp : (t == (s.extract 0 (e + 1)).toList) = false) :
    Calls Tryd.prog 10 #[.string s] w (RetRe (none) w) := by
  have hel : e < s.size := by have := (posOf_lt hp).1; rwa [toList_length] at this
  have HALL : Hid (∀ k (h : k < e) (h2 : k < s.size), ((s[k].toNat : Int) != 59) = true) := by
    intro k h h2
    have := no_before hp h
    rw [getElem_at s k h2] at this
    rw [bne, show (59 : Int) = ((59 : UInt8).toNat : Int) from rfl, byte_eq]
    simpa using this
  have hat : ((s[e].toNat : Int) != 59) = false := by
    have := (posOf_lt hp).2.1
    rw [getElem_at s e hel] at this
    rw [bne, show (59 : Int) = ((59 : UInt8).toNat : Int) from rfl, byte_eq]
    simpa using this
  go_enter Tryd.func10, Tryd.ntmps10
  go_wp2
  go_loop [5] (fun i => ∃ k : Nat, k ≤ e ∧ i = .int .i64 k) (fun i => e - (intOf i).toNat)
  case atStart => exact ⟨0, Nat.zero_le _, rfl⟩
  case round =>
    obtain ⟨k, hk, rfl⟩ := hrel
    by_cases hlt : k < e
    · have hks : k < s.size := by omega
      have hb := HALL.out k hlt hks
      clear hat
      go_wp2
      go_round
      case rel => exact ⟨k + 1, by omega, by go_num⟩
      case measure => simp [intOf]; omega
    · obtain rfl : k = e := by omega
      have hne : ((k : Int) == (s.size : Int)) = false := by simp; omega
      go_wp2_with fail
      refine (HC.out _).mono ?_
      rintro q w1 ⟨v, rfl, hown, h1⟩
      obtain ⟨g, cap, rfl⟩ := Joins.ownsRow_form hown (by omega)
      have e0 := part_cell hown 0 (by omega) _ hb
      clear hown
      have hnN : 0 < n1 := by omega
      go_wp2_with fail
      refine (HC2.out _).mono ?_
      rintro q w2 ⟨v, rfl, hown, h2⟩
      obtain ⟨g2, cap2, rfl⟩ := Joins.ownsRow_form hown (by omega)
      have e1 := part_cell hown 0 (by omega) _ rfl
      have e2 := part_cell hown 1 (by omega) _ rfl
      have hg2 := (hown.lt g2 rfl).2
      clear hown
      replace h2 := h1.trans h2
      clear h1 e0
      go_wp2_with fail
      refine (HR.out _).mono ?_
      rintro q w3 ⟨rfl, rfl⟩
      go_wp2_with fail
      refine (HD.out _).mono ?_
      rintro q w3 ⟨rfl, h3⟩
      clear e1 e2
      replace h3 := h2.trans h3
      clear h2
      obtain ⟨hc3, hf3⟩ := h3.cells
      have hz3 : w.heap.size < w3.heap.size := Nat.lt_of_lt_of_le (by simp) h3.sz
      go_wp2
      have q1 : IntKind.i64.wrap ((k : Int) + 1) = (k : Int) + 1 := IntWalk.i64_in _ (by omega)
      have q2 : 0 ≤ (k : Int) + 1 := by omega
      have q3 : ((k : Int) + 1).toNat = k + 1 := by omega
      have q4 : (k : Int) + 1 ≤ (s.size : Int) := by omega
      have q5 : k + 1 ≤ s.size := by omega
      go_region_held3 (fun w' => w'.cell? ⟨w3.heap.size, 0, none⟩ = some (.int .i64 k2) ∧ w'.cell? ⟨w3.heap.size, 1, none⟩ = some (.int .i64 a) ∧ w'.cell? ⟨w3.heap.size, 2, none⟩ = some (.int .i64 b0)) (go_keep)
        ((go_at_call 34; refine (HT.out _).mono ?_; rintro q w4 ⟨rfl, h4⟩; (try replace h4 := h4.of_drew); have hce := h4.cells.1))
      clear q1 q2 q3 q4 q5
      replace h4 := (h3.alloc (.cells #[.int .i64 k2, .int .i64 a, .int .i64 b0] 25)).trans h4
      obtain ⟨hc4, hf4⟩ := h4.cells
      have hz4 : w.heap.size < w4.heap.size := Nat.lt_of_lt_of_le (by simp) h4.sz
      go_wp2
      exact bodyPost_ret (v := reV none) (by simp [results, Tryd.results10, go_sem, *]; rfl) rfl ⟨rfl, by (repeat' (first | exact Ext.refl _ | (with_reducible assumption) | (with_reducible refine Ext.alloc ?_ _) | (with_reducible refine Ext.setCell ?_ (by first | exact Nat.le_refl _ | (dsimp only; omega) | (simp; done) | (simp; omega)) _) | (with_reducible refine Ext.drew ?_) | (with_reducible refine Ext.drewN ?_ _) | (refine Ext.trans ?_ (by with_reducible assumption))))⟩

set_option maxRecDepth 100000 in
set_option maxHeartbeats 1000000 in
theorem specE_ok (s : ByteArray) (e n1 : Nat) (ps : List (List UInt8)) (b : List UInt8) (w : World) (hs : s.size ≤ 4294967280) (hp : posOf 59 s.data.toList = some e)
    (h1 : 1 ≤ n1) (hb : ps[0]? = some b) (f r t : List UInt8) (n k2 a b0 : Int)
    (HC : Hid (∀ w, Calls Tryd.prog 42 #[.string (s.extract 0 e), .int .u8 35] w fun q w' => ∃ v, q = .returned v ∧ w'.ownsRow w.heap.size 9 1 v n1 (strs ps) ∧ Ext w w'))
    (HC2 : Hid (∀ w, Calls Tryd.prog 42 #[str b, .int .u8 58] w fun q w' => ∃ v, q = .returned v ∧ w'.ownsRow w.heap.size 9 1 v 2 (strs [f, r]) ∧ Ext w w'))
    (HR : Hid (∀ w, Calls Tryd.prog 43 #[str f] w fun q w' => q = .returned (.int .i64 n) ∧ w = w'))
    (HD : Hid (∀ w, Calls Tryd.prog 44 #[str r] w fun q w' => q = .returned (.tuple #[deedV k2 a b0, .bool true]) ∧ Ext w w'))
    (HT : Hid (∀ w, Calls Tryd.prog 34 #[.int .i64 n, deedV k2 a b0] w fun q w' => q = .returned (str t) ∧ Ext w w')) (htl : t.length ≤ 200) (hcmp : (t == (s.extract 0 (e + 1)).toList) = true) :
    Calls Tryd.prog 10 #[.string s] w (RetRe (some (n, (k2, a, b0), e + 1)) w) := by
  have hel : e < s.size := by have := (posOf_lt hp).1; rwa [toList_length] at this
  have HALL : Hid (∀ k (h : k < e) (h2 : k < s.size), ((s[k].toNat : Int) != 59) = true) := by
    intro k h h2
    have := no_before hp h
    rw [getElem_at s k h2] at this
    rw [bne, show (59 : Int) = ((59 : UInt8).toNat : Int) from rfl, byte_eq]
    simpa using this
  have hat : ((s[e].toNat : Int) != 59) = false := by
    have := (posOf_lt hp).2.1
    rw [getElem_at s e hel] at this
    rw [bne, show (59 : Int) = ((59 : UInt8).toNat : Int) from rfl, byte_eq]
    simpa using this
  go_enter Tryd.func10, Tryd.ntmps10
  go_wp2
  go_loop [5] (fun i => ∃ k : Nat, k ≤ e ∧ i = .int .i64 k) (fun i => e - (intOf i).toNat)
  case atStart => exact ⟨0, Nat.zero_le _, rfl⟩
  case round =>
    obtain ⟨k, hk, rfl⟩ := hrel
    by_cases hlt : k < e
    · have hks : k < s.size := by omega
      have hb := HALL.out k hlt hks
      clear hat
      go_wp2
      go_round
      case rel => exact ⟨k + 1, by omega, by go_num⟩
      case measure => simp [intOf]; omega
    · obtain rfl : k = e := by omega
      have hne : ((k : Int) == (s.size : Int)) = false := by simp; omega
      go_wp2_with fail
      refine (HC.out _).mono ?_
      rintro q w1 ⟨v, rfl, hown, h1⟩
      obtain ⟨g, cap, rfl⟩ := Joins.ownsRow_form hown (by omega)
      have e0 := part_cell hown 0 (by omega) _ hb
      clear hown
      have hnN : 0 < n1 := by omega
      go_wp2_with fail
      refine (HC2.out _).mono ?_
      rintro q w2 ⟨v, rfl, hown, h2⟩
      obtain ⟨g2, cap2, rfl⟩ := Joins.ownsRow_form hown (by omega)
      have e1 := part_cell hown 0 (by omega) _ rfl
      have e2 := part_cell hown 1 (by omega) _ rfl
      have hg2 := (hown.lt g2 rfl).2
      clear hown
      replace h2 := h1.trans h2
      clear h1 e0
      go_wp2_with fail
      refine (HR.out _).mono ?_
      rintro q w3 ⟨rfl, rfl⟩
      go_wp2_with fail
      refine (HD.out _).mono ?_
      rintro q w3 ⟨rfl, h3⟩
      clear e1 e2
      replace h3 := h2.trans h3
      clear h2
      obtain ⟨hc3, hf3⟩ := h3.cells
      have hz3 : w.heap.size < w3.heap.size := Nat.lt_of_lt_of_le (by simp) h3.sz
      go_wp2
      have q1 : IntKind.i64.wrap ((k : Int) + 1) = (k : Int) + 1 := IntWalk.i64_in _ (by omega)
      have q2 : 0 ≤ (k : Int) + 1 := by omega
      have q3 : ((k : Int) + 1).toNat = k + 1 := by omega
      have q4 : (k : Int) + 1 ≤ (s.size : Int) := by omega
      have q5 : k + 1 ≤ s.size := by omega
      go_region_held3 (fun w' => w'.cell? ⟨w3.heap.size, 0, none⟩ = some (.int .i64 k2) ∧ w'.cell? ⟨w3.heap.size, 1, none⟩ = some (.int .i64 a) ∧ w'.cell? ⟨w3.heap.size, 2, none⟩ = some (.int .i64 b0)) (go_keep)
        ((go_at_call 34; refine (HT.out _).mono ?_; rintro q w4 ⟨rfl, h4⟩; (try replace h4 := h4.of_drew); have hce := h4.cells.1))
      clear q1 q2 q3 q4 q5
      replace h4 := (h3.alloc (.cells #[.int .i64 k2, .int .i64 a, .int .i64 b0] 25)).trans h4
      obtain ⟨hc4, hf4⟩ := h4.cells
      have hz4 : w.heap.size < w4.heap.size := Nat.lt_of_lt_of_le (by simp) h4.sz
      go_wp2
      go_region
      all_goals go_wp2
      all_goals exact bodyPost_ret (v := reV (some (n, (k2, a, b0), k + 1))) (by simp [results, Tryd.results10, go_sem, *]; rfl) rfl ⟨rfl, by (repeat' (first | exact Ext.refl _ | (with_reducible assumption) | (with_reducible refine Ext.alloc ?_ _) | (with_reducible refine Ext.setCell ?_ (by first | exact Nat.le_refl _ | (dsimp only; omega) | (simp; done) | (simp; omega)) _) | (with_reducible refine Ext.drew ?_) | (with_reducible refine Ext.drewN ?_ _) | (refine Ext.trans ?_ (by with_reducible assumption))))⟩

theorem extract_takeS (s : ByteArray) (n : Nat) : (s.extract 0 n).toList = s.data.toList.take n := by
  rw [Lib.toList_data, Lib.extract_data]; simp
theorem extract_strS (s : ByteArray) (n : Nat) : Value.string (s.extract 0 n) = str (s.data.toList.take n) := by
  rw [string_str, ← Lib.toList_data, extract_takeS]

/-- spec.ReadEntry -/
theorem specReadEntryB (s : ByteArray) (w : World) (hs : s.size ≤ 4294967280) : Calls Tryd.prog 10 #[.string s] w (RetRe (readEntry s.data.toList) w) := by
  rw [← specEntryRead_eq]
  unfold specEntryRead
  cases hp : posOf 59 s.data.toList with
  | none => exact specE_none s w hs hp
  | some e =>
    simp only
    have hel : e < s.size := by have := (posOf_lt hp).1; rwa [toList_length] at this
    have htk : (s.data.toList.take e).length ≤ s.size := by simp; omega
    have hC : ∀ w, Calls Tryd.prog 42 #[.string (s.extract 0 e), .int .u8 35] w fun q w' => ∃ v, q = .returned v ∧ w'.ownsRow w.heap.size 9 1 v (cutL 35 (s.data.toList.take e)).length (strs (cutL 35 (s.data.toList.take e))) ∧ Ext w w' := by
      intro w; rw [extract_strS]
      exact l1Cut_any ⟨(s.data.toList.take e).toArray⟩ 35 35 rfl w (by simp only [ByteArray.size, List.size_toArray]; omega)
    have hb0 := cutL_head 35 (s.data.toList.take e)
    have hb1 := (cutFst_len 35 (s.data.toList.take e)).1
    have hC2 : ∀ w, Calls Tryd.prog 42 #[str (cutFst 35 (s.data.toList.take e)), .int .u8 58] w fun q w' => ∃ v, q = .returned v ∧ w'.ownsRow w.heap.size 9 1 v (cutL 58 (cutFst 35 (s.data.toList.take e))).length (strs (cutL 58 (cutFst 35 (s.data.toList.take e)))) ∧ Ext w w' := by
      intro w
      exact l1Cut_any ⟨(cutFst 35 (s.data.toList.take e)).toArray⟩ 58 58 rfl w (by simp only [ByteArray.size, List.size_toArray]; omega)
    have hn1 : 1 ≤ (cutL 35 (s.data.toList.take e)).length := by
      cases hq : cutL 35 (s.data.toList.take e) with
      | nil => exact absurd hq (cutL_ne _ _)
      | cons a b => simp
    generalize hb : cutFst 35 (s.data.toList.take e) = b at *
    have hlen := cutL_len 58 b
    have hbad : (cutL 58 b).length ≠ 2 → Calls Tryd.prog 10 #[.string s] w (RetRe none w) := by
      intro h
      have hn2 : 1 ≤ (cutL 58 b).length := by
        cases hq : cutL 58 b with
        | nil => exact absurd hq (cutL_ne _ _)
        | cons a c => simp
      exact specE_two s e _ _ _ (cutL 58 b) b w hs hp hn1 hb0 hn2 (by simp; omega) (by omega) hC hC2
    rcases hc : cutL 58 b with _ | ⟨f, _ | ⟨r, _ | ⟨x, rest⟩⟩⟩
    · exact hbad (by simp [hc])
    · exact hbad (by simp [hc])
    · simp only
      rw [hc] at hC2
      have hf := hlen.1 f (by simp [hc])
      have hr := hlen.1 r (by simp [hc])
      have hR : ∀ w, Calls Tryd.prog 43 #[str f] w fun q w' => q = .returned (.int .i64 ((readL 4 f).getD (-1))) ∧ w = w' := fun w => l1Read_str f (by unfold maxLen; omega) w
      have hD : ∀ o, readDeed r = o → ∀ w, Calls Tryd.prog 44 #[str r] w fun q w' => q = .returned (rdV o) ∧ Ext w w' := by
        intro o ho w; subst ho; exact specReadDeed r w (by omega)
      cases hd : readDeed r with
      | none => exact specE_deed s e _ _ b w hs hp hn1 hb0 f r _ hC hC2 hR (hD _ hd)
      | some d =>
        obtain ⟨k, a, b0⟩ := d
        have hT : ∀ w, Calls Tryd.prog 34 #[.int .i64 ((readL 4 f).getD (-1)), deedV k a b0] w fun q w' => q = .returned (str (entryText ((readL 4 f).getD (-1)) k a b0)) ∧ Ext w w' := fun w => specEntry _ k a b0 w
        by_cases ht : entryText ((readL 4 f).getD (-1)) k a b0 = s.data.toList.take (e + 1)
        · simp only [ht, if_true]
          exact specE_ok s e _ _ b w hs hp hn1 hb0 f r _ _ k a b0 hC hC2 hR (hD _ hd) hT (entryText_len _ k a b0) (by rw [extract_takeS, ht]; simp)
        · simp only [ht, if_false]
          exact specE_no s e _ _ b w hs hp hn1 hb0 f r _ _ k a b0 hC hC2 hR (hD _ hd) hT (entryText_len _ k a b0) (by rw [extract_takeS]; simpa using ht)
    · exact hbad (by simp [hc])
theorem specReadEntry (l : List UInt8) (w : World) (hs : l.length ≤ 4294967280) : Calls Tryd.prog 10 #[str l] w (RetRe (readEntry l) w) :=
  specReadEntryB ⟨l.toArray⟩ w (by simpa [ByteArray.size] using hs)
end Go.Proofs.YtncfnlocdlhagaaDoor
