/-
  The two functions SumOf return the fold 'sumL' of the text's bytes and write nothing. Conditions: the text has at most maxLen bytes.
-/
import Derived.Test.YtncfnlocdlhagaaDoorQ3
import Derived.Test.YtncfnlocdlhagaaDoorQ4
import Derived.Lib.SplitLaws
import Derived.Lib.CountLaws
namespace Go.Proofs.YtncfnlocdlhagaaDoor
open Go.RowKit
set_option linter.unusedVariables false

def sumL (l : List UInt8) : Int := l.foldl (fun s c => (7 * s + (c.toNat : Int)) % 97) 1

theorem sumL_bd (l : List UInt8) : 0 ≤ sumL l ∧ sumL l < 97 := by
  unfold sumL
  have : ∀ (l : List UInt8) (s : Int), 0 ≤ s ∧ s < 97 → 0 ≤ l.foldl (fun s c => (7 * s + (c.toNat : Int)) % 97) s ∧ l.foldl (fun s c => (7 * s + (c.toNat : Int)) % 97) s < 97 := by
    intro l
    induction l with
    | nil => intro s h; exact h
    | cons c l ih => intro s h; simp only [List.foldl_cons]; apply ih; omega
  exact this l 1 (by omega)

theorem take_snoc (s : ByteArray) (k : Nat) (h : k < s.size) : s.data.toList.take (k + 1) = s.data.toList.take k ++ [s[k]] := by
  rw [List.take_succ_eq_append_getElem (by simpa using h)]; rfl
theorem sumL_snoc (l : List UInt8) (c : UInt8) : sumL (l ++ [c]) = (7 * sumL l + (c.toNat : Int)) % 97 := by
  unfold sumL; rw [List.foldl_append]; rfl

set_option maxHeartbeats 400000 in
theorem specSumOf (s : ByteArray) (w : World) (hs : s.size ≤ maxLen) :
    Calls Tryd.prog 68 #[.string s] w fun e w' => e = .returned (.int .i64 (sumL s.data.toList)) ∧ w = w' := by
  unfold maxLen at hs
  go_enter Tryd.func68, Tryd.ntmps68
  go_wp2
  go_loop [3, 4] (fun n i => ∃ k : Nat, k ≤ s.size ∧ i = .int .i64 k ∧ n = .int .i64 (sumL (s.data.toList.take k))) (fun _ i => s.size - (intOf i).toNat)
  case atStart => exact ⟨0, Nat.zero_le _, rfl, rfl⟩
  case round =>
    obtain ⟨k, hk, rfl, rfl⟩ := hrel
    have hd := sumL_bd (s.data.toList.take k)
    by_cases hlt : k < s.size
    · have hc : (s[k].toNat : Int) < 256 := by have := s[k].toNat_lt; omega
      have HS : Hid (sumL (s.data.toList.take (k + 1)) = (7 * sumL (s.data.toList.take k) + (s[k].toNat : Int)) % 97) := by rw [take_snoc s k hlt]; exact sumL_snoc _ _
      go_wp2
      go_round
      case rel => exact ⟨k + 1, by omega, by go_num, by rw [HS.out]⟩
      case measure => simp [intOf]; omega
    · go_wp2
      go_ret
      exact ⟨ret_int (by rw [List.take_of_length_le (by simp; omega)]), rfl⟩

set_option maxHeartbeats 400000 in
theorem implSumOf (s : ByteArray) (w : World) (hs : s.size ≤ maxLen) :
    Calls Tryd.prog 86 #[.string s] w fun e w' => e = .returned (.int .i64 (sumL s.data.toList)) ∧ w = w' := by
  unfold maxLen at hs
  go_enter Tryd.func86, Tryd.ntmps86
  go_wp2
  go_loop [3, 4] (fun n i => ∃ k : Nat, k ≤ s.size ∧ i = .int .i64 k ∧ n = .int .i64 (sumL (s.data.toList.take k))) (fun _ i => s.size - (intOf i).toNat)
  case atStart => exact ⟨0, Nat.zero_le _, rfl, rfl⟩
  case round =>
    obtain ⟨k, hk, rfl, rfl⟩ := hrel
    have hd := sumL_bd (s.data.toList.take k)
    by_cases hlt : k < s.size
    · have hc : (s[k].toNat : Int) < 256 := by have := s[k].toNat_lt; omega
      have HS : Hid (sumL (s.data.toList.take (k + 1)) = (7 * sumL (s.data.toList.take k) + (s[k].toNat : Int)) % 97) := by rw [take_snoc s k hlt]; exact sumL_snoc _ _
      go_wp2
      go_round
      case rel => exact ⟨k + 1, by omega, by go_num, by rw [HS.out]⟩
      case measure => simp [intOf]; omega
    · go_wp2
      go_ret
      exact ⟨ret_int (by rw [List.take_of_length_le (by simp; omega)]), rfl⟩

theorem specSumStr (l : List UInt8) (w : World) (hl : l.length ≤ maxLen) :
    Calls Tryd.prog 68 #[str l] w fun e w' => e = .returned (.int .i64 (sumL l)) ∧ w = w' := specSumOf ⟨l.toArray⟩ w (by simpa [ByteArray.size] using hl)
theorem implSumStr (l : List UInt8) (w : World) (hl : l.length ≤ maxLen) :
    Calls Tryd.prog 86 #[str l] w fun e w' => e = .returned (.int .i64 (sumL l)) ∧ w = w' := implSumOf ⟨l.toArray⟩ w (by simpa [ByteArray.size] using hl)
end Go.Proofs.YtncfnlocdlhagaaDoor

/-
  Both functions EntryText return the text 'entryText' of an entry. Condition: the library's table of powers of ten is laid.
-/
namespace Go.Proofs.YtncfnlocdlhagaaDoor
open Go.RowKit
set_option linter.unusedVariables false

def withSum (t : List UInt8) : List UInt8 := t ++ [35] ++ Lib.decDigits (sumL t).toNat
def entryOf (n : Int) (t : List UInt8) : List UInt8 := if 1 ≤ n ∧ n ≤ 99 ∧ t ≠ [] then withSum (Lib.decDigits n.toNat ++ [58] ++ t) ++ [59] else []
def entryText (n k a b : Int) : List UInt8 := entryOf n (deedText k a b)

theorem sum_len (t : List UInt8) : (Lib.decDigits (sumL t).toNat).length ≤ 21 := by
  have := sumL_bd t
  exact decDigits_len _ (by omega)

theorem deedText_len (k a b : Int) : (deedText k a b).length ≤ 60 := by
  unfold deedText
  split
  · rename_i h
    simp [deedOk] at h
    obtain ⟨⟨h1, h2, h3, h4, h5, h6⟩, _⟩ := h
    have e1 : (deedName k).length ≤ 5 := (deedName_emp k (by omega)).2
    have e2 := decDigits_len a.toNat (by omega)
    have e3 := decDigits_len b.toNat (by omega)
    split <;> simp <;> omega
  · simp

set_option maxRecDepth 100000 in
set_option maxHeartbeats 1000000 in
theorem implWithSum (t : List UInt8) (w : World) (ht : t.length ≤ 1000000) (hE : Env w) :
    Calls Tryd.prog 47 #[str t] w fun e w' => e = .returned (str (withSum t)) ∧ Ext w w' := by
  have hl := sum_len t
  have hb := sumL_bd t
  have HE := Lib.hid hE
  clear hE
  go_enter Tryd.func47, Tryd.ntmps47
  go_wp2_with fail
  refine (implSumStr t _ (by unfold maxLen; omega)).mono ?_
  rintro e w1 ⟨rfl, rfl⟩
  go_wp2_with fail
  refine (itoaI (sumL t) _ (by omega) (by omega) HE.out).mono ?_
  rintro e w1 ⟨rfl, h1⟩
  go_wp2
  go_ret
  exact ⟨ret_str rfl, by (repeat' (first | exact Ext.refl _ | (with_reducible assumption) | (with_reducible refine Ext.alloc ?_ _) | (with_reducible refine Ext.setCell ?_ (by first | exact Nat.le_refl _ | (dsimp only; omega) | (simp; done) | (simp; omega)) _) | (with_reducible refine Ext.drew ?_) | (with_reducible refine Ext.drewN ?_ _) | (refine Ext.trans ?_ (by with_reducible assumption))))⟩

set_option maxRecDepth 100000 in
set_option maxHeartbeats 1000000 in
theorem implEntry_of (n k a b : Int) (t : List UInt8) (w : World) (hE : Env w) (hD : ∀ w, Env w → Calls Tryd.prog 46 #[deedV k a b] w fun e w' => e = .returned (str t) ∧ Ext w w') (htl : t.length ≤ 60)
    (h : n < 1 ∨ 1 ≤ n ∧ 99 < n ∨ 1 ≤ n ∧ n ≤ 99 ∧ t.isEmpty = true) :
    Calls Tryd.prog 12 #[.int .i64 n, deedV k a b] w fun e w' => e = .returned (str []) ∧ Ext w w' := by
  have HE := Lib.hid hE
  have HD := Lib.hid hD
  clear hE hD
  rcases h with h | ⟨h0, h⟩ | ⟨h0, h1, h⟩
  all_goals
    go_enter Tryd.func12, Tryd.ntmps12
    go_wp2_with fail
    refine (HD.out _ (HE.out.ext (by (repeat' (first | exact Ext.refl _ | (with_reducible assumption) | (with_reducible refine Ext.alloc ?_ _) | (with_reducible refine Ext.setCell ?_ (by first | exact Nat.le_refl _ | (dsimp only; omega) | (simp; done) | (simp; omega)) _) | (with_reducible refine Ext.drew ?_) | (with_reducible refine Ext.drewN ?_ _) | (refine Ext.trans ?_ (by with_reducible assumption))))))).mono ?_
    rintro e w1 ⟨rfl, h1⟩
    go_wp2
    go_ret
    exact ⟨rfl, by (repeat' (first | exact Ext.refl _ | (with_reducible assumption) | (with_reducible refine Ext.alloc ?_ _) | (with_reducible refine Ext.setCell ?_ (by first | exact Nat.le_refl _ | (dsimp only; omega) | (simp; done) | (simp; omega)) _) | (with_reducible refine Ext.drew ?_) | (with_reducible refine Ext.drewN ?_ _) | (refine Ext.trans ?_ (by with_reducible assumption))))⟩

set_option maxRecDepth 100000 in
set_option maxHeartbeats 1000000 in
theorem implEntry_ok (n k a b : Int) (t : List UInt8) (w : World) (hE : Env w) (hD : ∀ w, Env w → Calls Tryd.prog 46 #[deedV k a b] w fun e w' => e = .returned (str t) ∧ Ext w w') (htl : t.length ≤ 60)
    (h0 : 1 ≤ n) (h1 : n ≤ 99) (h : t.isEmpty = false) :
    Calls Tryd.prog 12 #[.int .i64 n, deedV k a b] w fun e w' => e = .returned (str (withSum (Lib.decDigits n.toNat ++ [58] ++ t) ++ [59])) ∧ Ext w w' := by
  have HE := Lib.hid hE
  have HD := Lib.hid hD
  clear hE hD
  have hl := decDigits_len n.toNat (by omega)
  have hl2 := sum_len (Lib.decDigits n.toNat ++ [58] ++ t)
  obtain ⟨r, hr⟩ : ∃ r, r = withSum (Lib.decDigits n.toNat ++ [58] ++ t) := ⟨_, rfl⟩
  have hl3 : r.length ≤ 200 := by rw [hr]; simp only [withSum, List.length_append, List.length_cons, List.length_nil]; omega
  have HW : Hid (∀ w, Env w → Calls Tryd.prog 47 #[.string (⟨(Lib.decDigits n.toNat).toArray⟩ ++ ⟨#[58]⟩ ++ ⟨t.toArray⟩)] w fun e w' => e = .returned (str r) ∧ Ext w w') := by
    intro w hE; rw [hr]; exact implWithSum (Lib.decDigits n.toNat ++ [58] ++ t) w (by simp; omega) hE
  rw [← hr]
  clear hl2 hr
  go_enter Tryd.func12, Tryd.ntmps12
  go_wp2_with fail
  refine (HD.out _ (HE.out.ext (by (repeat' (first | exact Ext.refl _ | (with_reducible assumption) | (with_reducible refine Ext.alloc ?_ _) | (with_reducible refine Ext.setCell ?_ (by first | exact Nat.le_refl _ | (dsimp only; omega) | (simp; done) | (simp; omega)) _) | (with_reducible refine Ext.drew ?_) | (with_reducible refine Ext.drewN ?_ _) | (refine Ext.trans ?_ (by with_reducible assumption))))))).mono ?_
  rintro e w1 ⟨rfl, h1⟩
  go_wp2_with fail
  refine (itoaI n _ (by omega) (by omega) (HE.out.ext (by (repeat' (first | exact Ext.refl _ | (with_reducible assumption) | (with_reducible refine Ext.alloc ?_ _) | (with_reducible refine Ext.setCell ?_ (by first | exact Nat.le_refl _ | (dsimp only; omega) | (simp; done) | (simp; omega)) _) | (with_reducible refine Ext.drew ?_) | (with_reducible refine Ext.drewN ?_ _) | (refine Ext.trans ?_ (by with_reducible assumption))))))).mono ?_
  rintro e w2 ⟨rfl, h2⟩
  go_wp2_with fail
  refine (HW.out _ (HE.out.ext (by (repeat' (first | exact Ext.refl _ | (with_reducible assumption) | (with_reducible refine Ext.alloc ?_ _) | (with_reducible refine Ext.setCell ?_ (by first | exact Nat.le_refl _ | (dsimp only; omega) | (simp; done) | (simp; omega)) _) | (with_reducible refine Ext.drew ?_) | (with_reducible refine Ext.drewN ?_ _) | (refine Ext.trans ?_ (by with_reducible assumption))))))).mono ?_
  rintro e w3 ⟨rfl, h3⟩
  go_wp2
  go_ret
  exact ⟨ret_str rfl, by (repeat' (first | exact Ext.refl _ | (with_reducible assumption) | (with_reducible refine Ext.alloc ?_ _) | (with_reducible refine Ext.setCell ?_ (by first | exact Nat.le_refl _ | (dsimp only; omega) | (simp; done) | (simp; omega)) _) | (with_reducible refine Ext.drew ?_) | (with_reducible refine Ext.drewN ?_ _) | (refine Ext.trans ?_ (by with_reducible assumption))))⟩

/-- impl.EntryText -/
theorem implEntry (n k a b : Int) (w : World) (hE : Env w) : Calls Tryd.prog 12 #[.int .i64 n, deedV k a b] w fun e w' => e = .returned (str (entryText n k a b)) ∧ Ext w w' := by
  unfold entryText entryOf
  split
  · rename_i h
    exact implEntry_ok n k a b _ w hE (fun w h => implDeed k a b w h) (deedText_len k a b) h.1 h.2.1 (by simpa using h.2.2)
  · rename_i h
    refine implEntry_of n k a b _ w hE (fun w h => implDeed k a b w h) (deedText_len k a b) ?_
    by_cases e : deedText k a b = [] <;> simp [e] at h ⊢ <;> omega

set_option maxRecDepth 100000 in
set_option maxHeartbeats 1000000 in
theorem specEntry_of (n k a b : Int) (t : List UInt8) (w : World) (hD : ∀ w, Calls Tryd.prog 80 #[deedV k a b] w fun e w' => e = .returned (str t) ∧ Ext w w') (htl : t.length ≤ 60)
    (h : n < 1 ∨ 1 ≤ n ∧ 99 < n ∨ 1 ≤ n ∧ n ≤ 99 ∧ t.isEmpty = true) :
    Calls Tryd.prog 34 #[.int .i64 n, deedV k a b] w fun e w' => e = .returned (str []) ∧ Ext w w' := by
  have HD := Lib.hid hD
  clear hD
  rcases h with h | ⟨h0, h⟩ | ⟨h0, h1, h⟩
  all_goals
    go_enter Tryd.func34, Tryd.ntmps34
    go_wp2_with (first | (go_at_call 80; refine (HD.out _).mono ?_; rintro e w1 ⟨rfl, h1⟩) | go_in)
    go_ret
    exact ⟨rfl, by (repeat' (first | exact Ext.refl _ | (with_reducible assumption) | (with_reducible refine Ext.alloc ?_ _) | (with_reducible refine Ext.setCell ?_ (by first | exact Nat.le_refl _ | (dsimp only; omega) | (simp; done) | (simp; omega)) _) | (with_reducible refine Ext.drew ?_) | (with_reducible refine Ext.drewN ?_ _) | (refine Ext.trans ?_ (by with_reducible assumption))))⟩

set_option maxRecDepth 100000 in
set_option maxHeartbeats 1000000 in
theorem specEntry_ok (n k a b : Int) (t : List UInt8) (w : World) (hD : ∀ w, Calls Tryd.prog 80 #[deedV k a b] w fun e w' => e = .returned (str t) ∧ Ext w w') (htl : t.length ≤ 60)
    (h0 : 1 ≤ n) (h1 : n ≤ 99) (h : t.isEmpty = false) :
    Calls Tryd.prog 34 #[.int .i64 n, deedV k a b] w fun e w' => e = .returned (str (withSum (Lib.decDigits n.toNat ++ [58] ++ t) ++ [59])) ∧ Ext w w' := by
  have HD := Lib.hid hD
  clear hD
  have hl := decDigits_len n.toNat (by omega)
  have hl2 := sum_len (Lib.decDigits n.toNat ++ [58] ++ t)
  have hb := sumL_bd (Lib.decDigits n.toNat ++ [58] ++ t)
  have hs1 : ¬ 9223372036854775807 < (Lib.decDigits n.toNat).length + 1 := by omega
  have hs2 : ¬ 9223372036854775807 < (Lib.decDigits n.toNat).length + 1 + t.length := by omega
  obtain ⟨q, hq⟩ : ∃ q, q = Lib.decDigits n.toNat ++ [58] ++ t := ⟨_, rfl⟩
  have hql : q.length ≤ 100 := by rw [hq]; simp; omega
  rw [← hq] at hl2 hb ⊢
  have HQ := Lib.hid hq
  clear hq
  go_enter Tryd.func34, Tryd.ntmps34
  go_wp2_with (first | (go_at_call 80; refine (HD.out _).mono ?_; rintro e w1 ⟨rfl, h1⟩; have hc1 := h1.cells.1) | go_in)
  go_upto_region 3 with fail
  go_cut [5] (fun s5 wx => s5 = str q ∧ Ext w wx)
  case first =>
    have hz1 : w.heap.size < w1.heap.size := Nat.lt_of_lt_of_le (by simp) h1.sz
    have e0 : w1.cell? ⟨w.heap.size, 0, none⟩ = some (.int .i64 k) := by rw [h1.cells.1 _ _ (by simp)]; simp
    have e1 : w1.cell? ⟨w.heap.size, 1, none⟩ = some (.int .i64 a) := by rw [h1.cells.1 _ _ (by simp)]; simp
    have e2 : w1.cell? ⟨w.heap.size, 2, none⟩ = some (.int .i64 b) := by rw [h1.cells.1 _ _ (by simp)]; simp
    go_region_held3 (fun w' => w'.cell? ⟨w.heap.size, 0, none⟩ = some (.int .i64 k) ∧ w'.cell? ⟨w.heap.size, 1, none⟩ = some (.int .i64 a) ∧ w'.cell? ⟨w.heap.size, 2, none⟩ = some (.int .i64 b)) (go_keep)
      (first | (go_at_call 80; refine (HD.out _).mono ?_; rintro e w2 ⟨rfl, h2⟩; (try replace h2 := h2.of_drew); have hce := h2.cells.1; have hze : w.heap.size < w2.heap.size := Nat.lt_of_lt_of_le (by assumption) h2.sz) | (go_at_call 58; refine (l1Num n _ (by omega) (by omega)).mono ?_; rintro e w2 ⟨rfl, h2⟩; (try replace h2 := h2.of_drew); have hce := h2.cells.1; have hze : w.heap.size < w2.heap.size := Nat.lt_of_lt_of_le (by assumption) h2.sz))
    all_goals (go_wp2_with fail; go_meet; exact ⟨by rw [HQ.out]; rfl, by (repeat' (first | exact Ext.refl _ | (with_reducible assumption) | (with_reducible refine Ext.alloc ?_ _) | (with_reducible refine Ext.setCell ?_ (by first | exact Nat.le_refl _ | (dsimp only; omega) | (simp; done) | (simp; omega)) _) | (with_reducible refine Ext.drew ?_) | (with_reducible refine Ext.drewN ?_ _) | (refine Ext.trans ?_ (by with_reducible assumption))))⟩)
  case rest =>
    obtain ⟨rfl, hx⟩ := hcut
    go_wp2_with fail
    refine (specSumStr q _ (by unfold maxLen; omega)).mono ?_
    rintro e w1 ⟨rfl, rfl⟩
    go_wp2_with fail
    refine (l1Num (sumL q) _ (by omega) (by omega)).mono ?_
    rintro e w1 ⟨rfl, h1⟩
    go_wp2
    go_ret
    exact ⟨ret_str rfl, by (repeat' (first | exact Ext.refl _ | (with_reducible assumption) | (with_reducible refine Ext.alloc ?_ _) | (with_reducible refine Ext.setCell ?_ (by first | exact Nat.le_refl _ | (dsimp only; omega) | (simp; done) | (simp; omega)) _) | (with_reducible refine Ext.drew ?_) | (with_reducible refine Ext.drewN ?_ _) | (refine Ext.trans ?_ (by with_reducible assumption))))⟩

/-- spec.EntryText -/
theorem specEntry (n k a b : Int) (w : World) : Calls Tryd.prog 34 #[.int .i64 n, deedV k a b] w fun e w' => e = .returned (str (entryText n k a b)) ∧ Ext w w' := by
  unfold entryText entryOf
  split
  · rename_i h
    exact specEntry_ok n k a b _ w (fun w => specDeed k a b w) (deedText_len k a b) h.1 h.2.1 (by simpa using h.2.2)
  · rename_i h
    refine specEntry_of n k a b _ w (fun w => specDeed k a b w) (deedText_len k a b) ?_
    by_cases e : deedText k a b = [] <;> simp [e] at h ⊢ <;> omega
end Go.Proofs.YtncfnlocdlhagaaDoor

/-
  spec.l1Read and impl.readNumber return the number that a text is ('readL'). Condition: the text has at most maxLen bytes.
-/
namespace Go.Proofs.YtncfnlocdlhagaaDoor
open Go.RowKit
set_option linter.unusedVariables false

def isDig (c : UInt8) : Bool := decide (48 ≤ (c.toNat : Int) ∧ (c.toNat : Int) ≤ 57)
def numL (l : List UInt8) : Int := l.foldl (fun n c => 10 * n + ((c.toNat : Int) - 48)) 0
def readL (m : Nat) (l : List UInt8) : Option Int :=
  if 1 ≤ l.length ∧ l.length ≤ m ∧ (l.length ≤ 1 ∨ l.head? ≠ some 48) ∧ l.all isDig = true then some (numL l) else none

theorem numL_snoc (l : List UInt8) (c : UInt8) : numL (l ++ [c]) = 10 * numL l + ((c.toNat : Int) - 48) := by
  unfold numL; rw [List.foldl_append]; rfl
theorem numL_bd5 (l : List UInt8) (h : l.all isDig = true) (hl : l.length ≤ 5) : 0 ≤ numL l ∧ numL l ≤ 99999 := by
  match l, hl with
  | [], _ => simp [numL]
  | [a], _ => simp [numL, isDig] at h ⊢; omega
  | [a, b], _ => simp [numL, isDig] at h ⊢; omega
  | [a, b, c], _ => simp [numL, isDig] at h ⊢; omega
  | [a, b, c, d], _ => simp [numL, isDig] at h ⊢; omega
  | [a, b, c, d, e], _ => simp [numL, isDig] at h ⊢; omega
  | _ :: _ :: _ :: _ :: _ :: _ :: _, hl => simp at hl

theorem all_take_snoc (s : ByteArray) (k : Nat) (h : k < s.size) (ha : (s.data.toList.take k).all isDig = true) (hc : isDig s[k] = true) : (s.data.toList.take (k + 1)).all isDig = true := by
  rw [take_snoc s k h]; simp [ha, hc]
theorem not_all (s : ByteArray) (k : Nat) (h : k < s.size) (hc : isDig s[k] = false) : s.data.toList.all isDig = false := by
  rw [List.all_eq_false]
  exact ⟨s[k], by rw [Array.mem_toList_iff]; exact Array.getElem_mem (xs := s.data) (i := k) h, by simp [hc]⟩
theorem head_size (s : ByteArray) (h : 0 < s.size) : s.data.toList.head? = some s[0] := by
  obtain ⟨⟨l⟩⟩ := s
  cases l with
  | nil => simp [ByteArray.size] at h
  | cons a l => rfl

theorem readL_none_len {m : Nat} {l : List UInt8} (h : l.length < 1 ∨ m < l.length) : readL m l = none := by
  unfold readL; rw [if_neg]; omega
theorem readL_none_zero {m : Nat} {l : List UInt8} (h : 1 < l.length) (h0 : l.head? = some 48) : readL m l = none := by
  unfold readL; rw [if_neg]; rintro ⟨_, _, h1 | h1, _⟩
  · omega
  · exact h1 h0
theorem readL_none_dig {m : Nat} {l : List UInt8} (h : l.all isDig = false) : readL m l = none := by
  unfold readL; rw [if_neg]; simp [h]

theorem readL_some {m : Nat} {l : List UInt8} (h1 : 1 ≤ l.length) (h2 : l.length ≤ m) (h3 : l.length ≤ 1 ∨ l.head? ≠ some 48) (h4 : l.all isDig = true) : readL m l = some (numL l) := by
  unfold readL; rw [if_pos ⟨h1, h2, h3, h4⟩]

theorem isDig_of {c : UInt8} (h0 : 48 ≤ (c.toNat : Int)) (h1 : (c.toNat : Int) ≤ 57) : isDig c = true := by simp [isDig]; omega
theorem notDig_of {c : UInt8} (h : (c.toNat : Int) < 48 ∨ 57 < (c.toNat : Int)) : isDig c = false := by simp [isDig]; omega

def digVal (l : List UInt8) : Int := if l.all isDig then numL l else -1
theorem digVal_yes {l : List UInt8} (h : l.all isDig = true) : digVal l = numL l := if_pos h
theorem digVal_no {l : List UInt8} (h : l.all isDig = false) : digVal l = -1 := if_neg (by simp [h])

set_option maxRecDepth 100000 in
set_option maxHeartbeats 1000000 in
theorem l1Read_short (s : ByteArray) (w : World) (h : s.size < 1 ∨ 4 < s.size ∧ s.size ≤ 9223372036854775807 ∨ 1 < s.size ∧ s.size ≤ 4 ∧ ∀ h : 0 < s.size, ((s[0].toNat : Int) == 48) = true) :
    Calls Tryd.prog 43 #[.string s] w fun e w' => e = .returned (.int .i64 (-1)) ∧ w = w' := by
  rcases h with h | ⟨h, h'⟩ | ⟨h, h', h0⟩
  · go_enter Tryd.func43, Tryd.ntmps43
    go_wp2
    go_ret
    exact ⟨rfl, rfl⟩
  · go_enter Tryd.func43, Tryd.ntmps43
    go_wp2
    go_ret
    exact ⟨rfl, rfl⟩
  · have hp : 0 < s.size := by omega
    have h00 := h0 hp
    clear h0
    go_enter Tryd.func43, Tryd.ntmps43
    go_wp2
    go_ret
    exact ⟨rfl, rfl⟩

set_option maxRecDepth 100000 in
set_option maxHeartbeats 1000000 in
theorem l1Read_loop (s : ByteArray) (w : World) (h1 : 1 ≤ s.size) (h4 : s.size ≤ 4) (hz : s.size ≤ 1 ∨ 1 < s.size ∧ ∀ h : 0 < s.size, ((s[0].toNat : Int) == 48) = false) :
    Calls Tryd.prog 43 #[.string s] w fun e w' => e = .returned (.int .i64 (digVal s.data.toList)) ∧ w = w' := by
  have hp : 0 < s.size := by omega
  rcases hz with hz | ⟨hz, h0⟩
  all_goals
    try (have h00 := h0 hp)
    try clear h0
    go_enter Tryd.func43, Tryd.ntmps43
    go_wp2
    go_loop [3, 4] (fun n i => ∃ k : Nat, k ≤ s.size ∧ i = .int .i64 k ∧ n = .int .i64 (numL (s.data.toList.take k)) ∧ (s.data.toList.take k).all isDig = true) (fun _ i => s.size - (intOf i).toNat)
    case atStart => exact ⟨0, Nat.zero_le _, rfl, rfl, by simp⟩
    case round =>
      obtain ⟨k, hk, rfl, rfl, had⟩ := hrel
      have hb := numL_bd5 _ had (by simp; omega)
      have HA := Lib.hid had
      clear had
      by_cases hlt : k < s.size
      · have HS : Hid (numL (s.data.toList.take (k + 1)) = 10 * numL (s.data.toList.take k) + ((s[k].toNat : Int) - 48)) := by rw [take_snoc s k hlt]; exact numL_snoc _ _
        rcases (show (s[k].toNat : Int) < 48 ∨ 48 ≤ (s[k].toNat : Int) ∧ 57 < (s[k].toNat : Int) ∨ 48 ≤ (s[k].toNat : Int) ∧ (s[k].toNat : Int) ≤ 57 by omega) with hc | ⟨hc0, hc⟩ | ⟨hc0, hc⟩
        · go_wp2
          go_ret
          exact ⟨ret_int (digVal_no (not_all s k hlt (notDig_of (.inl hc)))).symm, rfl⟩
        · go_wp2
          go_ret
          exact ⟨ret_int (digVal_no (not_all s k hlt (notDig_of (.inr hc)))).symm, rfl⟩
        · go_wp2
          go_round
          case rel => exact ⟨k + 1, by omega, by go_num, by rw [HS.out], all_take_snoc s k hlt HA.out (isDig_of hc0 hc)⟩
          case measure => simp [intOf]; omega
      · have e : s.data.toList.take k = s.data.toList := List.take_of_length_le (by simp; omega)
        have HE := Lib.hid e
        clear e
        go_wp2
        go_ret
        exact ⟨ret_int (by rw [digVal_yes (by rw [← HE.out]; exact HA.out), HE.out]), rfl⟩

theorem head_ne (s : ByteArray) (h : 0 < s.size) : s.data.toList.head? = some 48 ↔ ((s[0].toNat : Int) == 48) = true := by
  rw [head_size s h]
  simp only [Option.some.injEq, beq_iff_eq]
  constructor
  · intro e; rw [e]; rfl
  · intro e; exact UInt8.toNat_inj.1 (by show _ = 48; omega)
theorem toList_length (s : ByteArray) : s.data.toList.length = s.size := by simp

/-- spec.l1Read -/
theorem l1Read_any (s : ByteArray) (w : World) (hs : s.size ≤ maxLen) :
    Calls Tryd.prog 43 #[.string s] w fun e w' => e = .returned (.int .i64 ((readL 4 s.data.toList).getD (-1))) ∧ w = w' := by
  unfold maxLen at hs
  by_cases h1 : s.size < 1
  · rw [readL_none_len (by rw [toList_length]; omega)]; exact l1Read_short s w (.inl h1)
  by_cases h4 : 4 < s.size
  · rw [readL_none_len (by rw [toList_length]; omega)]; exact l1Read_short s w (.inr (.inl ⟨h4, hs⟩))
  by_cases h0 : 1 < s.size ∧ s.data.toList.head? = some 48
  · rw [readL_none_zero (by rw [toList_length]; omega) h0.2]; exact l1Read_short s w (.inr (.inr ⟨h0.1, by omega, fun h => (head_ne s h).1 h0.2⟩))
  · refine (l1Read_loop s w (by omega) (by omega) ?_).mono ?_
    · by_cases hq : s.size ≤ 1
      · exact .inl hq
      · refine .inr ⟨by omega, fun h => ?_⟩
        rw [← Bool.not_eq_true, ← head_ne s h]
        intro e; exact h0 ⟨by omega, e⟩
    · rintro e w' ⟨rfl, rfl⟩
      refine ⟨ret_int ?_, rfl⟩
      cases ha : s.data.toList.all isDig with
      | true =>
        rw [digVal_yes ha, readL_some (by rw [toList_length]; omega) (by rw [toList_length]; omega) (by rw [toList_length]; by_cases hq : s.size ≤ 1; exact .inl hq; exact .inr (fun e => h0 ⟨by omega, e⟩)) ha]; rfl
      | false => rw [digVal_no ha, readL_none_dig ha]; rfl
end Go.Proofs.YtncfnlocdlhagaaDoor

/-
  impl.readNumber returns the number that a text is ('readL'), and whether there is one. Condition: the text has at most maxLen bytes, at most five digits are asked.
-/
namespace Go.Proofs.YtncfnlocdlhagaaDoor
open Go.RowKit
set_option linter.unusedVariables false

def digOk (l : List UInt8) : Bool := l.all isDig
def digVal0 (l : List UInt8) : Int := if l.all isDig then numL l else 0
theorem digVal0_yes {l : List UInt8} (h : l.all isDig = true) : digVal0 l = numL l := if_pos h
theorem digVal0_no {l : List UInt8} (h : l.all isDig = false) : digVal0 l = 0 := if_neg (by simp [h])
theorem ret_ib {a b : Int} {c d : Bool} (h : a = b) (k : c = d) : Ending.returned (.tuple #[.int .i64 a, .bool c]) = .returned (.tuple #[.int .i64 b, .bool d]) := by rw [h, k]

set_option maxRecDepth 100000 in
set_option maxHeartbeats 1000000 in
theorem readNumber_short (s : ByteArray) (m : Int) (w : World) (hm : 1 ≤ m ∧ m ≤ 5) (h : s.size < 1 ∨ 1 ≤ s.size ∧ m < (s.size : Int) ∧ s.size ≤ 9223372036854775807 ∨ 1 < s.size ∧ (s.size : Int) ≤ m ∧ ∀ h : 0 < s.size, ((s[0].toNat : Int) == 48) = true) :
    Calls Tryd.prog 40 #[.string s, .int .i64 m] w fun e w' => e = .returned (.tuple #[.int .i64 0, .bool false]) ∧ w = w' := by
  rcases h with h | ⟨h, h', h2⟩ | ⟨h, h', h0⟩
  · go_enter Tryd.func40, Tryd.ntmps40
    go_wp2
    go_ret2
    exact ⟨rfl, rfl⟩
  · go_enter Tryd.func40, Tryd.ntmps40
    go_wp2
    go_ret2
    exact ⟨rfl, rfl⟩
  · have hp : 0 < s.size := by omega
    have h00 := h0 hp
    clear h0
    go_enter Tryd.func40, Tryd.ntmps40
    go_wp2
    go_ret2
    exact ⟨rfl, rfl⟩

set_option maxRecDepth 100000 in
set_option maxHeartbeats 1000000 in
theorem readNumber_loop (s : ByteArray) (m : Int) (w : World) (hm : 1 ≤ m ∧ m ≤ 5) (h1 : 1 ≤ s.size) (h4 : (s.size : Int) ≤ m) (hz : s.size ≤ 1 ∨ 1 < s.size ∧ ∀ h : 0 < s.size, ((s[0].toNat : Int) == 48) = false) :
    Calls Tryd.prog 40 #[.string s, .int .i64 m] w fun e w' => e = .returned (.tuple #[.int .i64 (digVal0 s.data.toList), .bool (digOk s.data.toList)]) ∧ w = w' := by
  have hp : 0 < s.size := by omega
  rcases hz with hz | ⟨hz, h0⟩
  all_goals
    try (have h00 := h0 hp)
    try clear h0
    go_enter Tryd.func40, Tryd.ntmps40
    go_wp2
    go_loop [6, 7] (fun n i => ∃ k : Nat, k ≤ s.size ∧ i = .int .i64 k ∧ n = .int .i64 (numL (s.data.toList.take k)) ∧ (s.data.toList.take k).all isDig = true) (fun _ i => s.size - (intOf i).toNat)
    case atStart => exact ⟨0, Nat.zero_le _, rfl, rfl, by simp⟩
    case round =>
      obtain ⟨k, hk, rfl, rfl, had⟩ := hrel
      have hb := numL_bd5 _ had (by simp; omega)
      have HA := Lib.hid had
      clear had
      by_cases hlt : k < s.size
      · have HS : Hid (numL (s.data.toList.take (k + 1)) = numL (s.data.toList.take k) * 10 + ((s[k].toNat : Int) - 48)) := by rw [take_snoc s k hlt, numL_snoc]; show _ = _; omega
        rcases (show (s[k].toNat : Int) < 48 ∨ 48 ≤ (s[k].toNat : Int) ∧ 57 < (s[k].toNat : Int) ∨ 48 ≤ (s[k].toNat : Int) ∧ (s[k].toNat : Int) ≤ 57 by omega) with hc | ⟨hc0, hc⟩ | ⟨hc0, hc⟩
        · go_wp2
          go_ret2
          exact ⟨ret_ib (digVal0_no (not_all s k hlt (notDig_of (.inl hc)))).symm (not_all s k hlt (notDig_of (.inl hc))).symm, rfl⟩
        · go_wp2
          go_ret2
          exact ⟨ret_ib (digVal0_no (not_all s k hlt (notDig_of (.inr hc)))).symm (not_all s k hlt (notDig_of (.inr hc))).symm, rfl⟩
        · go_wp2
          go_round
          case rel => exact ⟨k + 1, by omega, by go_num, by rw [HS.out], all_take_snoc s k hlt HA.out (isDig_of hc0 hc)⟩
          case measure => simp [intOf]; omega
      · have e : s.data.toList.take k = s.data.toList := List.take_of_length_le (by simp; omega)
        have HE := Lib.hid e
        clear e
        go_wp2
        go_ret2
        exact ⟨ret_ib (by rw [digVal0_yes (by rw [← HE.out]; exact HA.out), HE.out]) (by rw [digOk, ← HE.out]; exact HA.out.symm), rfl⟩

/-- impl.readNumber -/
theorem readNumber_any (s : ByteArray) (m : Nat) (w : World) (hm : 1 ≤ m ∧ m ≤ 5) (hs : s.size ≤ maxLen) :
    Calls Tryd.prog 40 #[.string s, .int .i64 m] w fun e w' => e = .returned (.tuple #[.int .i64 ((readL m s.data.toList).getD 0), .bool (readL m s.data.toList).isSome]) ∧ w = w' := by
  unfold maxLen at hs
  by_cases h1 : s.size < 1
  · rw [readL_none_len (by rw [toList_length]; omega)]; exact readNumber_short s m w (by omega) (.inl h1)
  by_cases h4 : m < s.size
  · rw [readL_none_len (by rw [toList_length]; omega)]; exact readNumber_short s m w (by omega) (.inr (.inl ⟨by omega, by omega, hs⟩))
  by_cases h0 : 1 < s.size ∧ s.data.toList.head? = some 48
  · rw [readL_none_zero (by rw [toList_length]; omega) h0.2]; exact readNumber_short s m w (by omega) (.inr (.inr ⟨h0.1, by omega, fun h => (head_ne s h).1 h0.2⟩))
  · refine (readNumber_loop s m w (by omega) (by omega) (by omega) ?_).mono ?_
    · by_cases hq : s.size ≤ 1
      · exact .inl hq
      · refine .inr ⟨by omega, fun h => ?_⟩
        rw [← Bool.not_eq_true, ← head_ne s h]
        intro e; exact h0 ⟨by omega, e⟩
    · rintro e w' ⟨rfl, rfl⟩
      cases ha : s.data.toList.all isDig with
      | true =>
        rw [digVal0_yes ha, readL_some (by rw [toList_length]; omega) (by rw [toList_length]; omega) (by rw [toList_length]; by_cases hq : s.size ≤ 1; exact .inl hq; exact .inr (fun e => h0 ⟨by omega, e⟩)) ha, digOk, ha]
        exact ⟨rfl, rfl⟩
      | false => rw [digVal0_no ha, readL_none_dig ha, digOk, ha]; exact ⟨rfl, rfl⟩
end Go.Proofs.YtncfnlocdlhagaaDoor

/-
  spec.l1Cut returns what stands between the bytes sep of a text ('cutL'), in a slice of its own. Condition: the text has at most 2^40 bytes.
-/
namespace Go.Proofs.YtncfnlocdlhagaaDoor
open Go.RowKit
set_option linter.unusedVariables false

/-- the parts of a text between the bytes c -/
def cutL (c : UInt8) : List UInt8 → List (List UInt8)
  | [] => [[]]
  | x :: xs => if x = c then [] :: cutL c xs else match cutL c xs with
    | [] => [[x]]
    | p :: ps => (x :: p) :: ps
theorem cutL_ne (c : UInt8) (l : List UInt8) : cutL c l ≠ [] := by
  cases l with
  | nil => simp [cutL]
  | cons x xs => unfold cutL; split
                 · simp
                 · split <;> simp
/-- at the end: the byte sep opens a new part, another byte goes into the last one -/
theorem cutL_snoc_sep (c : UInt8) : ∀ (l : List UInt8), cutL c (l ++ [c]) = cutL c l ++ [[]] := by
  intro l
  induction l with
  | nil => simp [cutL]
  | cons x xs ih =>
    rw [List.cons_append]
    unfold cutL
    by_cases h : x = c
    · rw [if_pos h, if_pos h, ih]; rfl
    · rw [if_neg h, if_neg h, ih]
      cases hq : cutL c xs with
      | nil => exact absurd hq (cutL_ne c xs)
      | cons p ps => rfl
theorem cutL_snoc_other (c : UInt8) (x : UInt8) (hx : x ≠ c) : ∀ (l : List UInt8) (A : List (List UInt8)) (p : List UInt8), cutL c l = A ++ [p] → cutL c (l ++ [x]) = A ++ [p ++ [x]] := by
  intro l
  induction l with
  | nil =>
    intro A p h
    simp only [cutL, List.nil_append] at h ⊢
    have : A = [] ∧ p = [] := by
      cases A with
      | nil => simpa using h.symm
      | cons a A => simp at h
    obtain ⟨rfl, rfl⟩ := this
    simp [hx]
  | cons y ys ih =>
    intro A p h
    rw [List.cons_append]
    unfold cutL at h ⊢
    by_cases hy : y = c
    · rw [if_pos hy] at h ⊢
      cases A with
      | nil =>
        simp at h
        exact absurd h.2 (cutL_ne c ys)
      | cons a A =>
        simp only [List.cons_append, List.cons.injEq] at h
        rw [ih A p h.2, ← h.1]; rfl
    · rw [if_neg hy] at h ⊢
      cases hq : cutL c ys with
      | nil => exact absurd hq (cutL_ne c ys)
      | cons q qs =>
        rw [hq] at h
        simp only at h
        cases A with
        | nil =>
          simp only [List.nil_append, List.cons.injEq] at h
          obtain ⟨rfl, rfl⟩ := h
          rw [ih [] q (by simpa using hq)]; rfl
        | cons a A =>
          simp only [List.cons_append, List.cons.injEq] at h
          obtain ⟨rfl, rfl⟩ := h
          rw [ih (q :: A) p (by simpa using hq)]; rfl

abbrev strs (ls : List (List UInt8)) : List Value := ls.map str

theorem extract_str (s : ByteArray) (a b : Nat) (l : List UInt8) (h : (s.data.toList.take b).drop a = l) : Value.string (s.extract a b) = str l := by
  have : s.extract a b = ⟨l.toArray⟩ := by
    apply ByteArray.ext
    apply Array.toList_inj.1
    rw [Lib.extract_data]
    show _ = l
    rw [← h, List.drop_take]
  rw [this]

theorem infoStr : (Tryd.prog.info? 9).map (fun i => (i.zero, i.size, i.bytes)) = some (some (.string ⟨#[]⟩), 1, 16) := by kernel_rfl

set_option maxRecDepth 100000 in
set_option maxHeartbeats 1000000 in
theorem l1Cut_any (s : ByteArray) (c : UInt8) (ci : Int) (hci : ci = (c.toNat : Int)) (w : World) (hs : s.size ≤ 1099511627776) :
    Calls Tryd.prog 42 #[.string s, .int .u8 ci] w fun e w' => ∃ v, e = .returned v ∧ w'.ownsRow w.heap.size 9 1 v (cutL c s.data.toList).length (strs (cutL c s.data.toList)) ∧ Ext w w' := by
  obtain ⟨i0, hi, hz0, hz1, hz2⟩ := info_parts infoStr
  have HC := Lib.hid hci
  clear hci
  go_enter Tryd.func42, Tryd.ntmps42
  go_wp2
  go_loopw [5, 6, 7] (fun v fr i wr => ∃ (k f : Nat) (A : List (List UInt8)) (p : List UInt8), k ≤ s.size ∧ f ≤ k ∧ A.length ≤ k ∧ fr = .int .i64 f ∧ i = .int .i64 k ∧ cutL c (s.data.toList.take k) = A ++ [p] ∧ p = (s.data.toList.take k).drop f ∧
      wr.ownsRow w.heap.size 9 1 v A.length (strs A) ∧ Ext w wr) (fun _ _ i _ => s.size - (intOf i).toNat)
  case atStart => exact ⟨0, 0, [], [], Nat.zero_le _, Nat.le_refl _, Nat.le_refl _, rfl, rfl, by simp [cutL], by simp, World.ownsRow_made _ #[] 0 (Nat.le_refl _) (by simp [maxLen]) rfl, (Ext.refl _).alloc _⟩
  case round =>
    obtain ⟨k, f, A, p, hk, hf, hAk, rfl, rfl, hcut, hp, hown, hE⟩ := hrel
    have HCUT := Lib.hid hcut
    have HP := Lib.hid hp
    have hsz := hE.sz
    clear hcut hp
    by_cases hlt : k < s.size
    · by_cases hc : s[k] = c
      · have hb : ((s[k].toNat : Int) == ci) = true := by rw [HC.out, hc]; simp
        have HCC := Lib.hid hc
        clear hc
        go_wp2_with (at_builtin; refine wpList_append_own _ rfl _ _ 68 rfl w.heap.size 9 i0 (.string ⟨#[]⟩) 1 16 Tryd.underlying68 hi hz0 hz1 hz2 rfl (by decide) _ _ _ rfl (hown.alloc _) ⟨wr.heap.size, 0, none⟩ 1 1 [.string (s.extract f k)] rfl rfl ?c1 ?c2 ?c3 ?c4 ?c5 ?_)
        case c1 => exact cell_one_new _ _ _
        case c2 => intro u hu; simp at hu; subst hu; rfl
        case c3 => unfold maxLen; omega
        case c4 => omega
        case c5 => simp; omega
        intro v' w1 hown' hgrow _
        have hE' : Ext w w1 := (hE.alloc _).grown hgrow (fun q hq => (hown.lt q hq).1)
        clear hgrow hown
        go_wp2
        go_roundw
        case rel =>
          refine ⟨k + 1, k + 1, A ++ [p], [], by omega, Nat.le_refl _, by simp; omega, by go_num, by go_num, ?_, ?_, ?_, hE'⟩
          · rw [take_snoc s k hlt, HCC.out, cutL_snoc_sep, HCUT.out]
          · rw [List.drop_eq_nil_of_le (by simp; omega)]
          · have := hown'
            rw [extract_str s f k p HP.out.symm] at this
            simpa [strs] using this
        case measure => simp [intOf]; omega
      · have hb : ((s[k].toNat : Int) == ci) = false := by
          rw [HC.out, beq_eq_false_iff_ne]; intro e; exact hc (UInt8.toNat_inj.1 (by omega))
        go_wp2
        go_roundw
        case rel =>
          refine ⟨k + 1, f, A, p ++ [s[k]], by omega, by omega, by omega, by go_num, by go_num, ?_, ?_, hown, hE⟩
          · rw [take_snoc s k hlt]; exact cutL_snoc_other c _ hc _ A p HCUT.out
          · rw [take_snoc s k hlt, HP.out, List.drop_append_of_le_length (by simp; omega)]
        case measure => simp [intOf]; omega
    · obtain rfl : k = s.size := by omega
      have e : s.data.toList.take s.size = s.data.toList := List.take_of_length_le (by simp)
      have HE := Lib.hid e
      clear e
      go_wp2_with (at_builtin; refine wpList_append_own _ rfl _ _ 68 rfl w.heap.size 9 i0 (.string ⟨#[]⟩) 1 16 Tryd.underlying68 hi hz0 hz1 hz2 rfl (by decide) _ _ _ rfl (hown.alloc _) ⟨wr.heap.size, 0, none⟩ 1 1 [.string (s.extract f s.size)] rfl rfl ?d1 ?d2 ?d3 ?d4 ?d5 ?_)
      case d1 => exact cell_one_new _ _ _
      case d2 => intro u hu; simp at hu; subst hu; rfl
      case d3 => unfold maxLen; omega
      case d4 => omega
      case d5 => simp; omega
      intro v' w1 hown' hgrow _
      have hE' : Ext w w1 := (hE.alloc _).grown hgrow (fun q hq => (hown.lt q hq).1)
      clear hgrow hown
      go_wp2
      go_ret
      refine ⟨_, rfl, ?_, hE'⟩
      have := hown'
      rw [extract_str s f s.size p HP.out.symm] at this
      rw [← HE.out, HCUT.out]
      simpa [strs] using this
end Go.Proofs.YtncfnlocdlhagaaDoor

/-
  strings.Split at one byte returns the parts 'cutL' of a text in a slice of its own; strings.Cut and strings.IndexByte in the same words. Condition: the text is shorter than 2^32 - 15 bytes.
-/
namespace Go.Proofs.YtncfnlocdlhagaaDoor
open Go.RowKit
set_option linter.unusedVariables false

theorem index_one (c : UInt8) : ∀ l : List UInt8, (Lib.index l [c] = -1 ∧ cutL c l = [l] ∧ c ∉ l) ∨ ∃ i : Nat, Lib.index l [c] = i ∧ i < l.length ∧ cutL c l = l.take i :: cutL c (l.drop (i + 1)) ∧ c ∉ l.take i := by
  intro l
  induction l with
  | nil => exact .inl ⟨rfl, rfl, by simp⟩
  | cons b l ih =>
    by_cases hb : b = c
    · subst hb
      refine .inr ⟨0, ?_, by simp, by simp [cutL], by simp⟩
      unfold Lib.index
      rw [if_pos (by simp [List.isPrefixOf])]; rfl
    · have hp : ([c] : List UInt8).isPrefixOf (b :: l) = false := by simp [List.isPrefixOf]; exact fun e => hb e.symm
      rcases ih with ⟨h1, h2, h3⟩ | ⟨i, h1, h2, h3, h4⟩
      · refine .inl ⟨?_, ?_, ?_⟩
        · unfold Lib.index; rw [hp, h1]; rfl
        · unfold cutL; rw [if_neg hb, h2]
        · simp [h3]; exact fun e => hb e.symm
      · refine .inr ⟨i + 1, ?_, by simp; omega, ?_, ?_⟩
        · unfold Lib.index; rw [hp, h1]
          simp only [Bool.false_eq_true, if_false]
          rw [if_neg (by simp)]; rfl
        · have e : cutL c (b :: l) = match cutL c l with | [] => [[b]] | p :: ps => (b :: p) :: ps := by
            rw [cutL, if_neg hb]; rfl
          rw [e, h3]; rfl
        · simp [h4]; exact fun e => hb e.symm

theorem split_cut (c : UInt8) : ∀ (k : Nat) (s : ByteArray), Lib.countB s ⟨#[c]⟩ = k → (Lib.splitB ⟨#[c]⟩ 0 k s).map (fun b => b.data.toList) = cutL c s.data.toList := by
  intro k
  induction k with
  | zero =>
    intro s hk
    rw [Lib.splitB_zero]
    rcases index_one c s.data.toList with ⟨h1, h2, h3⟩ | ⟨i, h1, h2, h3, h4⟩
    · rw [h2]; rfl
    · have := Lib.countB_hit s ⟨#[c]⟩ i (Nat.le_refl 1) h1
      omega
  | succ k ih =>
    intro s hk
    rcases index_one c s.data.toList with ⟨h1, h2, h3⟩ | ⟨i, h1, h2, h3, h4⟩
    · have := Lib.countB_miss s ⟨#[c]⟩ h1
      omega
    · have hc := Lib.countB_hit s ⟨#[c]⟩ i (Nat.le_refl 1) h1
      have hr := ih (s.extract (i + 1) s.size) (by
        have e : s.extract (i + 1) s.size = s.extract (i + (⟨#[c]⟩ : ByteArray).size) s.size := rfl
        rw [e]; omega)
      rw [Lib.splitB_hit ⟨#[c]⟩ 0 k s i h1, List.map_cons]
      have e2 : s.extract (i + (⟨#[c]⟩ : ByteArray).size) s.size = s.extract (i + 1) s.size := rfl
      rw [e2, hr, h3]
      congr 1
      · rw [Lib.extract_data]; simp
      · congr 1
        rw [Lib.extract_data]
        rw [List.take_of_length_le (by simp)]

theorem string_str (b : ByteArray) : Value.string b = str b.data.toList := rfl

/-- strings.Split at a separator of one byte -/
theorem split_any (s : ByteArray) (c : UInt8) (w : World) (hs : s.size < 4294967281) (hE : Env w) :
    Calls Tryd.prog 83 #[.string s, .string ⟨#[c]⟩] w fun e w' => ∃ v, e = .returned v ∧ w'.ownsRow w.heap.size 9 1 v (cutL c s.data.toList).length (strs (cutL c s.data.toList)) ∧ Ext w w' := by
  obtain ⟨m, hm⟩ := hE.mx
  refine (Tryd.strings_Split s ⟨#[c]⟩ m w hs hm (Nat.le_refl 1)).mono ?_
  rintro e w' ⟨rfl, rfl⟩
  have hq := split_cut c _ s rfl
  have hl : (cutL c s.data.toList).length = Lib.countB s ⟨#[c]⟩ + 1 := by
    rw [← hq, List.length_map]; exact Lib.splitB_all ⟨#[c]⟩ (Nat.le_refl 1) 0 _ s rfl
  have hv : (Lib.splitB ⟨#[c]⟩ 0 (Lib.countB s ⟨#[c]⟩) s).map Value.string = strs (cutL c s.data.toList) := by
    rw [← hq, strs, List.map_map]; rfl
  refine ⟨_, rfl, ?_, (Ext.refl _).alloc _⟩
  rw [hv, ← hl]
  have := Lib.countB_le ⟨#[c]⟩ (Nat.le_refl 1) _ s (Nat.le_refl _)
  have h2 := World.ownsRow_lit (e := 9) (size := 1) (base := w.heap.size) w (strs (cutL c s.data.toList)).toArray (cutL c s.data.toList).length (Nat.le_refl _) (by unfold maxLen; omega) (by simp [strs])
  simpa using h2
end Go.Proofs.YtncfnlocdlhagaaDoor

/-
  Plain laws on the texts of deeds: what is read is the deed whose text it is, and every deed's text is read. No condition; nothing of the program.
-/
namespace Go.Proofs.YtncfnlocdlhagaaDoor
open Go.RowKit
set_option linter.unusedVariables false

theorem dd_all : ∀ (k n : Nat), n ≤ k → (Lib.decDigits n).all isDig = true ∧ (n ≤ 9223372036854775807 → numL (Lib.decDigits n) = n) ∧ (1 ≤ n → (Lib.decDigits n).head? ≠ some 48) := by
  intro k
  induction k with
  | zero =>
    intro n h
    obtain rfl : n = 0 := by omega
    rw [decDigits_lt 0 (by omega)]
    exact ⟨by decide, fun _ => by decide, fun h => by omega⟩
  | succ k ih =>
    intro n h
    by_cases h10 : n < 10
    · rw [decDigits_lt n h10]
      have e : (UInt8.ofNat (48 + n)).toNat = 48 + n := by simp; omega
      refine ⟨?_, fun _ => ?_, fun h1 hh => ?_⟩
      · simp [isDig]; omega
      · simp [numL]; omega
      · simp at hh
        have := congrArg UInt8.toNat hh
        simp at this; omega
    · obtain ⟨i1, i2, i3⟩ := ih (n / 10) (by omega)
      rw [decDigits_ge n h10]
      have e : (UInt8.ofNat (48 + n % 10)).toNat = 48 + n % 10 := by simp; omega
      refine ⟨?_, fun hb => ?_, fun h1 => ?_⟩
      · simp only [List.all_append, i1, List.all_cons, List.all_nil, Bool.and_true, Bool.true_and, isDig, e]; simp; omega
      · rw [numL_snoc, i2 (by omega), e]; omega
      · have hp := decDigits_pos (n / 10)
        cases hd : Lib.decDigits (n / 10) with
        | nil => rw [hd] at hp; simp at hp
        | cons x xs =>
          have := i3 (by omega)
          rw [hd] at this
          simpa using this
theorem dd_len : ∀ (k n : Nat), n < 10 ^ (k + 1) → (Lib.decDigits n).length ≤ k + 1 := by
  intro k
  induction k with
  | zero => intro n h; rw [decDigits_lt n (by simpa using h)]; simp
  | succ k ih =>
    intro n h
    by_cases h10 : n < 10
    · rw [decDigits_lt n h10]; simp
    · rw [decDigits_ge n h10, List.length_append]
      have := ih (n / 10) (by rw [Nat.pow_succ] at h; omega)
      simp; omega
/-- a number is read out of its digits -/
theorem readL_digits (m n : Nat) (h : n < 10 ^ m) (hm : 1 ≤ m) (hm2 : m ≤ 5) : readL m (Lib.decDigits n) = some (n : Int) := by
  obtain ⟨k, rfl⟩ : ∃ k, m = k + 1 := ⟨m - 1, by omega⟩
  have hb : n ≤ 99999 := by
    have : 10 ^ (k + 1) ≤ 10 ^ 5 := Nat.pow_le_pow_right (by omega) hm2
    omega
  obtain ⟨a1, a2, a3⟩ := dd_all n n (Nat.le_refl _)
  rw [readL_some (decDigits_pos n) (dd_len k n h) ?_ a1, a2 (by omega)]
  by_cases h0 : n = 0
  · left; subst h0; rw [decDigits_lt 0 (by omega)]; simp
  · right; exact a3 (by omega)
theorem dig_not (n : Nat) (c : UInt8) (hc : isDig c = false) : c ∉ Lib.decDigits n := by
  intro h
  have := (dd_all n n (Nat.le_refl _)).1
  rw [List.all_eq_true] at this
  rw [this c h] at hc; simp at hc

theorem cutL_none (c : UInt8) : ∀ l : List UInt8, c ∉ l → cutL c l = [l] := by
  intro l
  induction l with
  | nil => intro _; rfl
  | cons x xs ih =>
    intro h
    have e : cutL c (x :: xs) = match cutL c xs with | [] => [[x]] | p :: ps => (x :: p) :: ps := by
      rw [cutL, if_neg (by intro e; exact h (by simp [e]))]; rfl
    rw [e, ih (by intro q; exact h (by simp [q]))]
theorem cutL_append (c : UInt8) : ∀ (a b : List UInt8), c ∉ a → cutL c (a ++ c :: b) = a :: cutL c b := by
  intro a b
  induction a with
  | nil => intro _; simp [cutL]
  | cons x xs ih =>
    intro h
    have e : cutL c (x :: (xs ++ c :: b)) = match cutL c (xs ++ c :: b) with | [] => [[x]] | p :: ps => (x :: p) :: ps := by
      rw [cutL, if_neg (by intro e; exact h (by simp [e]))]; rfl
    rw [List.cons_append, e, ih (by intro q; exact h (by simp [q]))]

def kindOf (p : List UInt8) : Option Int :=
  if p = [105, 110] then some 0 else if p = [112, 97, 121] then some 1 else if p = [111, 117, 116] then some 2 else if p = [119, 97, 105, 116] then some 3 else if p = [115, 108, 105, 100, 101] then some 4 else none
theorem kindOf_some {p : List UInt8} {k : Int} (h : kindOf p = some k) : 0 ≤ k ∧ k ≤ 4 ∧ p = deedName k := by
  unfold kindOf at h
  repeat' split at h
  all_goals simp at h
  all_goals subst h; simp_all [deedName]
theorem kindOf_name (k : Int) (h : 0 ≤ k ∧ k ≤ 4) : kindOf (deedName k) = some k := by
  rcases (show k = 0 ∨ k = 1 ∨ k = 2 ∨ k = 3 ∨ k = 4 by omega) with rfl | rfl | rfl | rfl | rfl <;> decide

/-- the deed that impl.ReadDeed reads -/
def readDeed (l : List UInt8) : Option (Int × Int × Int) :=
  match cutL 32 l with
  | [p, q] => match kindOf p, readL 4 q with
    | some k, some a => if deedText k a 0 = l then some (k, a, 0) else none
    | _, _ => none
  | [p, q, r] => match kindOf p, readL 4 q, readL 4 r with
    | some k, some a, some b => if deedText k a b = l then some (k, a, b) else none
    | _, _, _ => none
  | _ => none
/-- the deed that spec.ReadDeed reads -/
def specParse (ps : List (List UInt8)) : Int × Int × Int :=
  match ps with
  | [] => (-1, 0, 0)
  | [p] => ((kindOf p).getD (-1), 0, 0)
  | [p, q] => ((kindOf p).getD (-1), (readL 4 q).getD (-1), 0)
  | p :: q :: r :: _ => ((kindOf p).getD (-1), (readL 4 q).getD (-1), (readL 4 r).getD (-1))
def specRead (l : List UInt8) : Option (Int × Int × Int) :=
  if l ≠ [] ∧ deedText (specParse (cutL 32 l)).1 (specParse (cutL 32 l)).2.1 (specParse (cutL 32 l)).2.2 = l then some (specParse (cutL 32 l)) else none

theorem deedOk_parts {k a b : Int} (h : deedOk k a b = true) : 0 ≤ k ∧ k ≤ 4 ∧ 0 ≤ a ∧ a ≤ 9999 ∧ 0 ≤ b ∧ b ≤ 9999 ∧ (deedTwo k = true ∨ b = 0) := by
  simp [deedOk] at h
  obtain ⟨⟨h1, h2, h3, h4, h5, h6⟩, h7⟩ := h
  exact ⟨h1, h2, h3, h4, h5, h6, by cases hk : deedTwo k <;> simp_all⟩
theorem deedText_ok {k a b : Int} (h : deedText k a b ≠ []) : deedOk k a b = true := by
  unfold deedText at h
  split at h
  · assumption
  · simp at h
theorem name_no32 (k : Int) : (32 : UInt8) ∉ deedName k := by
  unfold deedName
  repeat' split
  all_goals decide
theorem cut_text {k a b : Int} (h : deedOk k a b = true) : cutL 32 (deedText k a b) = if deedTwo k then [deedName k, Lib.decDigits a.toNat, Lib.decDigits b.toNat] else [deedName k, Lib.decDigits a.toNat] := by
  unfold deedText
  rw [if_pos h]
  split
  · have e : deedName k ++ [32] ++ Lib.decDigits a.toNat ++ ([32] ++ Lib.decDigits b.toNat) = deedName k ++ 32 :: (Lib.decDigits a.toNat ++ 32 :: Lib.decDigits b.toNat) := by simp
    rw [e, cutL_append _ _ _ (name_no32 k), cutL_append _ _ _ (dig_not _ _ (by decide)), cutL_none _ _ (dig_not _ _ (by decide))]
  · have e : deedName k ++ [32] ++ Lib.decDigits a.toNat ++ [] = deedName k ++ 32 :: Lib.decDigits a.toNat := by simp
    rw [e, cutL_append _ _ _ (name_no32 k), cutL_none _ _ (dig_not _ _ (by decide))]
theorem readL4 {a : Int} (h0 : 0 ≤ a) (h1 : a ≤ 9999) : readL 4 (Lib.decDigits a.toNat) = some a := by
  rw [readL_digits 4 a.toNat (by omega) (by omega) (by omega)]; congr 1; omega

theorem readDeed_text {k a b : Int} (h : deedOk k a b = true) : readDeed (deedText k a b) = some (k, a, b) := by
  obtain ⟨h1, h2, h3, h4, h5, h6, h7⟩ := deedOk_parts h
  unfold readDeed
  rw [cut_text h]
  cases hk : deedTwo k with
  | true => simp [kindOf_name k ⟨h1, h2⟩, readL4 h3 h4, readL4 h5 h6]
  | false =>
    obtain rfl : b = 0 := by simpa [hk] using h7
    simp [kindOf_name k ⟨h1, h2⟩, readL4 h3 h4]
theorem deedText_ne {k a b : Int} (h : deedOk k a b = true) : deedText k a b ≠ [] := by
  unfold deedText; rw [if_pos h]
  simp
theorem specRead_text {k a b : Int} (h : deedOk k a b = true) : specRead (deedText k a b) = some (k, a, b) := by
  obtain ⟨h1, h2, h3, h4, h5, h6, h7⟩ := deedOk_parts h
  have e : specParse (cutL 32 (deedText k a b)) = (k, a, b) := by
    rw [cut_text h]
    cases hk : deedTwo k with
    | true => simp [specParse, kindOf_name k ⟨h1, h2⟩, readL4 h3 h4, readL4 h5 h6]
    | false =>
      obtain rfl : b = 0 := by simpa [hk] using h7
      simp [specParse, kindOf_name k ⟨h1, h2⟩, readL4 h3 h4]
  unfold specRead
  rw [e, if_pos ⟨deedText_ne h, rfl⟩]
theorem readDeed_some {l : List UInt8} {k a b : Int} (h : readDeed l = some (k, a, b)) : deedText k a b = l ∧ deedOk k a b = true := by
  have key : deedText k a b = l ∧ 0 ≤ k ∧ k ≤ 4 ∧ l ≠ [] := by
    have hne : ∀ p q, cutL 32 l = p :: q :: [] ∨ (∃ r, cutL 32 l = [p, q, r]) → l ≠ [] := by
      rintro p q h rfl
      rcases h with h | ⟨r, h⟩ <;> simp [cutL] at h
    unfold readDeed at h
    split at h
    · rename_i p q hc
      have := hne p q (.inl hc)
      split at h
      · rename_i k' a' hk ha
        split at h
        · rename_i ht
          simp only [Option.some.injEq, Prod.mk.injEq] at h
          obtain ⟨rfl, rfl, rfl⟩ := h
          exact ⟨ht, (kindOf_some hk).1, (kindOf_some hk).2.1, this⟩
        · simp at h
      · simp at h
    · rename_i p q r hc
      have := hne p q (.inr ⟨r, hc⟩)
      split at h
      · rename_i k' a' b' hk ha hb
        split at h
        · rename_i ht
          simp only [Option.some.injEq, Prod.mk.injEq] at h
          obtain ⟨rfl, rfl, rfl⟩ := h
          exact ⟨ht, (kindOf_some hk).1, (kindOf_some hk).2.1, this⟩
        · simp at h
      · simp at h
    · simp at h
  exact ⟨key.1, deedText_ok (by rw [key.1]; exact key.2.2.2)⟩
/-- both read the same -/
theorem specRead_eq (l : List UInt8) : specRead l = readDeed l := by
  cases h : specRead l with
  | some d =>
    obtain ⟨k, a, b⟩ := d
    unfold specRead at h
    split at h
    · rename_i hc
      simp only [Option.some.injEq] at h
      rw [h] at hc
      have ho := deedText_ok (by rw [hc.2]; exact hc.1)
      rw [← hc.2, readDeed_text ho]
    · simp at h
  | none =>
    cases h2 : readDeed l with
    | none => rfl
    | some d =>
      obtain ⟨k, a, b⟩ := d
      obtain ⟨e, ho⟩ := readDeed_some h2
      rw [← e, specRead_text ho] at h
      simp at h
end Go.Proofs.YtncfnlocdlhagaaDoor

/-
  Plain laws on the texts of entries: what is read at the beginning of a text is the entry whose text it begins with. No condition; nothing of the program.
-/
namespace Go.Proofs.YtncfnlocdlhagaaDoor
open Go.RowKit
set_option linter.unusedVariables false

/-- what stands ahead of the first byte c, and behind it -/
def cutFst (c : UInt8) : List UInt8 → List UInt8
  | [] => []
  | x :: xs => if x = c then [] else x :: cutFst c xs
def cutSnd (c : UInt8) : List UInt8 → List UInt8
  | [] => []
  | x :: xs => if x = c then xs else cutSnd c xs
theorem cutFst_append (c : UInt8) : ∀ (a b : List UInt8), c ∉ a → cutFst c (a ++ c :: b) = a ∧ cutSnd c (a ++ c :: b) = b := by
  intro a b
  induction a with
  | nil => intro _; simp [cutFst, cutSnd]
  | cons x xs ih =>
    intro h
    obtain ⟨i1, i2⟩ := ih (fun q => h (by simp [q]))
    have hx : x ≠ c := fun q => h (by simp [q])
    simp [cutFst, cutSnd, hx, i1, i2]
theorem cutL_head (c : UInt8) : ∀ (l : List UInt8), (cutL c l)[0]? = some (cutFst c l) := by
  intro l
  induction l with
  | nil => rfl
  | cons x xs ih =>
    by_cases h : x = c
    · rw [cutL, if_pos h, cutFst, if_pos h]; rfl
    · have e : cutL c (x :: xs) = match cutL c xs with | [] => [[x]] | p :: ps => (x :: p) :: ps := by rw [cutL, if_neg h]; rfl
      rw [e, cutFst, if_neg h]
      cases hq : cutL c xs with
      | nil => exact absurd hq (cutL_ne c xs)
      | cons p ps => rw [hq] at ih; simpa using ih
theorem cutFst_len (c : UInt8) : ∀ (l : List UInt8), (cutFst c l).length ≤ l.length ∧ (cutSnd c l).length ≤ l.length := by
  intro l
  induction l with
  | nil => simp [cutFst, cutSnd]
  | cons x xs ih =>
    simp only [cutFst, cutSnd]
    split <;> simp <;> omega

/-- where the first byte c stands -/
def posOf (c : UInt8) (l : List UInt8) : Option Nat := if c ∈ l then some (cutFst c l).length else none
theorem posOf_append (c : UInt8) (a b : List UInt8) (h : c ∉ a) : posOf c (a ++ c :: b) = some a.length := by
  unfold posOf; rw [if_pos (by simp), (cutFst_append c a b h).1]
theorem cut_first (c : UInt8) : ∀ (l : List UInt8), c ∈ l → ∃ a b, l = a ++ c :: b ∧ c ∉ a := by
  intro l
  induction l with
  | nil => intro h; simp at h
  | cons x xs ih =>
    intro h
    by_cases hx : x = c
    · exact ⟨[], xs, by simp [hx], by simp⟩
    · obtain ⟨a, b, e, ha⟩ := ih (by rcases List.mem_cons.1 h with h | h; exact absurd h.symm hx; exact h)
      exact ⟨x :: a, b, by simp [e], by simp [ha]; exact fun q => hx q.symm⟩
theorem posOf_lt {c : UInt8} {l : List UInt8} {e : Nat} (h : posOf c l = some e) : e < l.length ∧ l[e]? = some c ∧ c ∉ l.take e := by
  unfold posOf at h
  split at h
  · rename_i hm
    obtain ⟨a, b, rfl, ha⟩ := cut_first c l hm
    rw [(cutFst_append c a b ha).1] at h
    simp only [Option.some.injEq] at h
    subst h
    simp [ha]
  · simp at h

abbrev Deed3 := Int × Int × Int
/-- what impl.ReadEntry reads: number, deed, how many bytes -/
def readEntry (l : List UInt8) : Option (Int × Deed3 × Nat) :=
  match posOf 59 l with
  | none => none
  | some e =>
    match readL 2 (cutFst 58 (cutFst 35 (l.take e))), readDeed (cutSnd 58 (cutFst 35 (l.take e))) with
    | some n, some d => if entryText n d.1 d.2.1 d.2.2 = l.take (e + 1) then some (n, d, e + 1) else none
    | _, _ => none
/-- what spec.ReadEntry reads -/
def specEntryRead (l : List UInt8) : Option (Int × Deed3 × Nat) :=
  match posOf 59 l with
  | none => none
  | some e =>
    match cutL 58 (cutFst 35 (l.take e)) with
    | [f, r] => match readDeed r with
      | some d => if entryText ((readL 4 f).getD (-1)) d.1 d.2.1 d.2.2 = l.take (e + 1) then some ((readL 4 f).getD (-1), d, e + 1) else none
      | none => none
    | _ => none

theorem deed_bytes {k a b : Int} (h : deedOk k a b = true) : (35 : UInt8) ∉ deedText k a b ∧ (58 : UInt8) ∉ deedText k a b ∧ (59 : UInt8) ∉ deedText k a b := by
  have hn : ∀ c : UInt8, c = 35 ∨ c = 58 ∨ c = 59 → c ∉ deedName k := by
    intro c hc; unfold deedName
    repeat' split
    all_goals rcases hc with rfl | rfl | rfl <;> decide
  have hd : ∀ c : UInt8, c = 35 ∨ c = 58 ∨ c = 59 → ∀ n, c ∉ Lib.decDigits n := by
    intro c hc n; exact dig_not n c (by rcases hc with rfl | rfl | rfl <;> decide)
  have key : ∀ c : UInt8, c = 35 ∨ c = 58 ∨ c = 59 → c ∉ deedText k a b := by
    intro c hc
    have h1 := hn c hc
    have h2 := hd c hc
    have h3 : c ≠ 32 := by rcases hc with rfl | rfl | rfl <;> decide
    unfold deedText; rw [if_pos h]
    split
    · simp [h1, h2, h3]
    · simp [h1, h2, h3]
  exact ⟨key _ (by simp), key _ (by simp), key _ (by simp)⟩

theorem entryText_form {n k a b : Int} (h : entryText n k a b ≠ []) : 1 ≤ n ∧ n ≤ 99 ∧ deedOk k a b = true ∧
    entryText n k a b = Lib.decDigits n.toNat ++ 58 :: deedText k a b ++ 35 :: Lib.decDigits (sumL (Lib.decDigits n.toNat ++ [58] ++ deedText k a b)).toNat ++ [59] := by
  unfold entryText entryOf at h ⊢
  split at h
  · rename_i hc
    refine ⟨hc.1, hc.2.1, deedText_ok hc.2.2, ?_⟩
    rw [if_pos hc]; simp [withSum]
  · simp at h

theorem entry_front {n k a b : Int} (h : entryText n k a b ≠ []) : ∃ F : List UInt8, entryText n k a b = F ++ [59] ∧ (59 : UInt8) ∉ F ∧ cutFst 35 F = Lib.decDigits n.toNat ++ 58 :: deedText k a b := by
  obtain ⟨h1, h2, ho, e⟩ := entryText_form h
  obtain ⟨d1, d2, d3⟩ := deed_bytes ho
  refine ⟨Lib.decDigits n.toNat ++ 58 :: deedText k a b ++ 35 :: Lib.decDigits (sumL (Lib.decDigits n.toNat ++ [58] ++ deedText k a b)).toNat, e, ?_, ?_⟩
  · have q1 := dig_not n.toNat 59 (by decide)
    have q2 := dig_not (sumL (Lib.decDigits n.toNat ++ [58] ++ deedText k a b)).toNat 59 (by decide)
    simp only [List.mem_append, List.mem_cons, not_or]
    exact ⟨⟨q1, by decide, d3⟩, by decide, q2⟩
  · refine (cutFst_append 35 _ _ ?_).1
    have q1 := dig_not n.toNat 35 (by decide)
    simp only [List.mem_append, List.mem_cons, not_or]
    exact ⟨q1, by decide, d1⟩

theorem readL_num (m : Nat) (hm : 2 ≤ m) (hm2 : m ≤ 5) {n : Int} (h0 : 1 ≤ n) (h1 : n ≤ 99) : readL m (Lib.decDigits n.toNat) = some n := by
  have : n.toNat < 10 ^ m := by
    have : 10 ^ 2 ≤ 10 ^ m := Nat.pow_le_pow_right (by omega) hm
    omega
  rw [readL_digits m n.toNat this (by omega) hm2]; congr 1; omega

theorem readEntry_text {n k a b : Int} (h : entryText n k a b ≠ []) (R : List UInt8) : readEntry (entryText n k a b ++ R) = some (n, (k, a, b), (entryText n k a b).length) ∧
    specEntryRead (entryText n k a b ++ R) = some (n, (k, a, b), (entryText n k a b).length) := by
  obtain ⟨h1, h2, ho, _⟩ := entryText_form h
  obtain ⟨F, e, hF, hc⟩ := entry_front h
  obtain ⟨d1, d2, d3⟩ := deed_bytes ho
  have hp : posOf 59 (entryText n k a b ++ R) = some F.length := by
    rw [e]; simp only [List.append_assoc, List.singleton_append]; exact posOf_append 59 F R hF
  have ht : (entryText n k a b ++ R).take F.length = F := by rw [e]; simp
  have ht1 : (entryText n k a b ++ R).take (F.length + 1) = entryText n k a b := by
    have : F.length + 1 = (entryText n k a b).length := by rw [e]; simp
    rw [this]; simp
  have hl : F.length + 1 = (entryText n k a b).length := by rw [e]; simp
  have hdig := dig_not n.toNat 58 (by decide)
  constructor
  · unfold readEntry
    rw [hp]
    simp only [ht, ht1, hc]
    rw [(cutFst_append 58 _ _ hdig).1, (cutFst_append 58 _ _ hdig).2, readL_num 2 (by omega) (by omega) h1 h2, readDeed_text ho]
    simp [hl]
  · unfold specEntryRead
    rw [hp]
    simp only [ht, ht1, hc]
    rw [cutL_append 58 _ _ hdig, cutL_none 58 _ d2]
    simp only [readDeed_text ho, readL_num 4 (by omega) (by omega) h1 h2]
    simp [hl]

theorem take_ne {l : List UInt8} {e : Nat} (h : posOf 59 l = some e) : l.take (e + 1) ≠ [] := by
  have := posOf_lt h
  intro q
  have := congrArg List.length q
  rw [List.length_take, List.length_nil] at this
  omega
theorem readEntry_some {l : List UInt8} {n k a b : Int} {m : Nat} (h : readEntry l = some (n, (k, a, b), m)) : entryText n k a b ≠ [] ∧ l = entryText n k a b ++ l.drop m ∧ m = (entryText n k a b).length := by
  unfold readEntry at h
  split at h
  · simp at h
  · rename_i e hp
    split at h
    · rename_i n' d hn hd
      split at h
      · rename_i ht
        simp only [Option.some.injEq, Prod.mk.injEq] at h
        obtain ⟨rfl, rfl, rfl⟩ := h
        have := posOf_lt hp
        refine ⟨by rw [ht]; exact take_ne hp, by rw [ht]; simp, by rw [ht]; simp; omega⟩
      · simp at h
    · simp at h
theorem specEntryRead_some {l : List UInt8} {n k a b : Int} {m : Nat} (h : specEntryRead l = some (n, (k, a, b), m)) : entryText n k a b ≠ [] ∧ l = entryText n k a b ++ l.drop m ∧ m = (entryText n k a b).length := by
  unfold specEntryRead at h
  split at h
  · simp at h
  · rename_i e hp
    split at h
    · split at h
      · split at h
        · rename_i ht
          simp only [Option.some.injEq, Prod.mk.injEq] at h
          obtain ⟨rfl, rfl, rfl⟩ := h
          have := posOf_lt hp
          refine ⟨by rw [ht]; exact take_ne hp, by rw [ht]; simp, by rw [ht]; simp; omega⟩
        · simp at h
      · simp at h
    · simp at h
/-- both read the same -/
theorem specEntryRead_eq (l : List UInt8) : specEntryRead l = readEntry l := by
  cases h : specEntryRead l with
  | some x =>
    obtain ⟨n, ⟨k, a, b⟩, m⟩ := x
    obtain ⟨h1, h2, h3⟩ := specEntryRead_some h
    rw [h2, (readEntry_text h1 _).1, h3]
  | none =>
    cases h2 : readEntry l with
    | none => rfl
    | some x =>
      obtain ⟨n, ⟨k, a, b⟩, m⟩ := x
      obtain ⟨q1, q2, q3⟩ := readEntry_some h2
      rw [q2, (readEntry_text q1 _).2] at h
      simp at h
end Go.Proofs.YtncfnlocdlhagaaDoor
