/-
  Both functions EntryText return the text 'entryText' of an entry. Condition: the library's table of powers of ten is laid.
-/
import Derived.Test.YtncfnlocdlhagaaDoorDeed3
import Derived.Test.YtncfnlocdlhagaaDoorSumD
namespace Go.Proofs.YtncfnlocdlhagaaDoor
open Go.RowKit
set_option linter.unusedVariables false

def withSum (t : List UInt8) : List UInt8 := t ++ [35] ++ Lib.decDigits (sumL t).toNat
def entryOf (n : Int) (t : List UInt8) : List UInt8 := if 1 ≤ n ∧ n ≤ 99 ∧ t ≠ [] then withSum (Lib.decDigits n.toNat ++ [58] ++ t) ++ [59] else []
def entryText (n k a b : Int) : List UInt8 := entryOf n (deedText k a b)

theorem sum_len (t : List UInt8) : (Lib.decDigits (sumL t).toNat).length ≤ 21 := by
  have := sumL_bd t
  exact decDigits_len _ (by omega)

theorem deedText_len (k a b : Int) : (deedText k a b).length ≤ 60 := by
  unfold deedText
  split
  · rename_i h
    simp [deedOk] at h
    obtain ⟨⟨h1, h2, h3, h4, h5, h6⟩, _⟩ := h
    have e1 : (deedName k).length ≤ 5 := (deedName_emp k (by omega)).2
    have e2 := decDigits_len a.toNat (by omega)
    have e3 := decDigits_len b.toNat (by omega)
    split <;> simp <;> omega
  · simp

set_option maxRecDepth 100000 in
set_option maxHeartbeats 1000000 in
theorem implWithSum (t : List UInt8) (w : World) (ht : t.length ≤ 1000000) (hE : Env w) :
    Calls Tryd.prog 47 #[str t] w fun e w' => e = .returned (str (withSum t)) ∧ Ext w w' := by
  have hl := sum_len t
  have hb := sumL_bd t
  have HE := Lib.hid hE
  clear hE
  go_enter Tryd.func47, Tryd.ntmps47
  go_wp2_with fail
  refine (implSumStr t _ (by unfold maxLen; omega)).mono ?_
  rintro e w1 ⟨rfl, rfl⟩
  go_wp2_with fail
  refine (itoaI (sumL t) _ (by omega) (by omega) HE.out).mono ?_
  rintro e w1 ⟨rfl, h1⟩
  go_wp2
  go_ret
  exact ⟨ret_str rfl, by (repeat' (first | exact Ext.refl _ | (with_reducible assumption) | (with_reducible refine Ext.alloc ?_ _) | (with_reducible refine Ext.setCell ?_ (by first | exact Nat.le_refl _ | (dsimp only; omega) | (simp; done) | (simp; omega)) _) | (with_reducible refine Ext.drew ?_) | (with_reducible refine Ext.drewN ?_ _) | (refine Ext.trans ?_ (by with_reducible assumption))))⟩

set_option maxRecDepth 100000 in
set_option maxHeartbeats 1000000 in
theorem implEntry_of (n k a b : Int) (t : List UInt8) (w : World) (hE : Env w) (hD : ∀ w, Env w → Calls Tryd.prog 46 #[deedV k a b] w fun e w' => e = .returned (str t) ∧ Ext w w') (htl : t.length ≤ 60)
    (h : n < 1 ∨ 1 ≤ n ∧ 99 < n ∨ 1 ≤ n ∧ n ≤ 99 ∧ t.isEmpty = true) :
    Calls Tryd.prog 12 #[.int .i64 n, deedV k a b] w fun e w' => e = .returned (str []) ∧ Ext w w' := by
  have HE := Lib.hid hE
  have HD := Lib.hid hD
  clear hE hD
  rcases h with h | ⟨h0, h⟩ | ⟨h0, h1, h⟩
  all_goals
    go_enter Tryd.func12, Tryd.ntmps12
    go_wp2_with fail
    refine (HD.out _ (HE.out.ext (by (repeat' (first | exact Ext.refl _ | (with_reducible assumption) | (with_reducible refine Ext.alloc ?_ _) | (with_reducible refine Ext.setCell ?_ (by first | exact Nat.le_refl _ | (dsimp only; omega) | (simp; done) | (simp; omega)) _) | (with_reducible refine Ext.drew ?_) | (with_reducible refine Ext.drewN ?_ _) | (refine Ext.trans ?_ (by with_reducible assumption))))))).mono ?_
    rintro e w1 ⟨rfl, h1⟩
    go_wp2
    go_ret
    exact ⟨rfl, by (repeat' (first | exact Ext.refl _ | (with_reducible assumption) | (with_reducible refine Ext.alloc ?_ _) | (with_reducible refine Ext.setCell ?_ (by first | exact Nat.le_refl _ | (dsimp only; omega) | (simp; done) | (simp; omega)) _) | (with_reducible refine Ext.drew ?_) | (with_reducible refine Ext.drewN ?_ _) | (refine Ext.trans ?_ (by with_reducible assumption))))⟩

set_option maxRecDepth 100000 in
set_option maxHeartbeats 1000000 in
theorem implEntry_ok (n k a b : Int) (t : List UInt8) (w : World) (hE : Env w) (hD : ∀ w, Env w → Calls Tryd.prog 46 #[deedV k a b] w fun e w' => e = .returned (str t) ∧ Ext w w') (htl : t.length ≤ 60)
    (h0 : 1 ≤ n) (h1 : n ≤ 99) (h : t.isEmpty = false) :
    Calls Tryd.prog 12 #[.int .i64 n, deedV k a b] w fun e w' => e = .returned (str (withSum (Lib.decDigits n.toNat ++ [58] ++ t) ++ [59])) ∧ Ext w w' := by
  have HE := Lib.hid hE
  have HD := Lib.hid hD
  clear hE hD
  have hl := decDigits_len n.toNat (by omega)
  have hl2 := sum_len (Lib.decDigits n.toNat ++ [58] ++ t)
  obtain ⟨r, hr⟩ : ∃ r, r = withSum (Lib.decDigits n.toNat ++ [58] ++ t) := ⟨_, rfl⟩
  have hl3 : r.length ≤ 200 := by rw [hr]; simp only [withSum, List.length_append, List.length_cons, List.length_nil]; omega
  have HW : Hid (∀ w, Env w → Calls Tryd.prog 47 #[.string (⟨(Lib.decDigits n.toNat).toArray⟩ ++ ⟨#[58]⟩ ++ ⟨t.toArray⟩)] w fun e w' => e = .returned (str r) ∧ Ext w w') := by
    intro w hE; rw [hr]; exact implWithSum (Lib.decDigits n.toNat ++ [58] ++ t) w (by simp; omega) hE
  rw [← hr]
  clear hl2 hr
  go_enter Tryd.func12, Tryd.ntmps12
  go_wp2_with fail
  refine (HD.out _ (HE.out.ext (by (repeat' (first | exact Ext.refl _ | (with_reducible assumption) | (with_reducible refine Ext.alloc ?_ _) | (with_reducible refine Ext.setCell ?_ (by first | exact Nat.le_refl _ | (dsimp only; omega) | (simp; done) | (simp; omega)) _) | (with_reducible refine Ext.drew ?_) | (with_reducible refine Ext.drewN ?_ _) | (refine Ext.trans ?_ (by with_reducible assumption))))))).mono ?_
  rintro e w1 ⟨rfl, h1⟩
  go_wp2_with fail
  refine (itoaI n _ (by omega) (by omega) (HE.out.ext (by (repeat' (first | exact Ext.refl _ | (with_reducible assumption) | (with_reducible refine Ext.alloc ?_ _) | (with_reducible refine Ext.setCell ?_ (by first | exact Nat.le_refl _ | (dsimp only; omega) | (simp; done) | (simp; omega)) _) | (with_reducible refine Ext.drew ?_) | (with_reducible refine Ext.drewN ?_ _) | (refine Ext.trans ?_ (by with_reducible assumption))))))).mono ?_
  rintro e w2 ⟨rfl, h2⟩
  go_wp2_with fail
  refine (HW.out _ (HE.out.ext (by (repeat' (first | exact Ext.refl _ | (with_reducible assumption) | (with_reducible refine Ext.alloc ?_ _) | (with_reducible refine Ext.setCell ?_ (by first | exact Nat.le_refl _ | (dsimp only; omega) | (simp; done) | (simp; omega)) _) | (with_reducible refine Ext.drew ?_) | (with_reducible refine Ext.drewN ?_ _) | (refine Ext.trans ?_ (by with_reducible assumption))))))).mono ?_
  rintro e w3 ⟨rfl, h3⟩
  go_wp2
  go_ret
  exact ⟨ret_str rfl, by (repeat' (first | exact Ext.refl _ | (with_reducible assumption) | (with_reducible refine Ext.alloc ?_ _) | (with_reducible refine Ext.setCell ?_ (by first | exact Nat.le_refl _ | (dsimp only; omega) | (simp; done) | (simp; omega)) _) | (with_reducible refine Ext.drew ?_) | (with_reducible refine Ext.drewN ?_ _) | (refine Ext.trans ?_ (by with_reducible assumption))))⟩

/-- impl.EntryText -/
theorem implEntry (n k a b : Int) (w : World) (hE : Env w) : Calls Tryd.prog 12 #[.int .i64 n, deedV k a b] w fun e w' => e = .returned (str (entryText n k a b)) ∧ Ext w w' := by
  unfold entryText entryOf
  split
  · rename_i h
    exact implEntry_ok n k a b _ w hE (fun w h => implDeed k a b w h) (deedText_len k a b) h.1 h.2.1 (by simpa using h.2.2)
  · rename_i h
    refine implEntry_of n k a b _ w hE (fun w h => implDeed k a b w h) (deedText_len k a b) ?_
    by_cases e : deedText k a b = [] <;> simp [e] at h ⊢ <;> omega

set_option maxRecDepth 100000 in
set_option maxHeartbeats 1000000 in
theorem specEntry_of (n k a b : Int) (t : List UInt8) (w : World) (hD : ∀ w, Calls Tryd.prog 80 #[deedV k a b] w fun e w' => e = .returned (str t) ∧ Ext w w') (htl : t.length ≤ 60)
    (h : n < 1 ∨ 1 ≤ n ∧ 99 < n ∨ 1 ≤ n ∧ n ≤ 99 ∧ t.isEmpty = true) :
    Calls Tryd.prog 34 #[.int .i64 n, deedV k a b] w fun e w' => e = .returned (str []) ∧ Ext w w' := by
  have HD := Lib.hid hD
  clear hD
  rcases h with h | ⟨h0, h⟩ | ⟨h0, h1, h⟩
  all_goals
    go_enter Tryd.func34, Tryd.ntmps34
    go_wp2_with (first | (go_at_call 80; refine (HD.out _).mono ?_; rintro e w1 ⟨rfl, h1⟩) | go_in)
    go_ret
    exact ⟨rfl, by (repeat' (first | exact Ext.refl _ | (with_reducible assumption) | (with_reducible refine Ext.alloc ?_ _) | (with_reducible refine Ext.setCell ?_ (by first | exact Nat.le_refl _ | (dsimp only; omega) | (simp; done) | (simp; omega)) _) | (with_reducible refine Ext.drew ?_) | (with_reducible refine Ext.drewN ?_ _) | (refine Ext.trans ?_ (by with_reducible assumption))))⟩

set_option maxRecDepth 100000 in
set_option maxHeartbeats 1000000 in
theorem specEntry_ok (n k a b : Int) (t : List UInt8) (w : World) (hD : ∀ w, Calls Tryd.prog 80 #[deedV k a b] w fun e w' => e = .returned (str t) ∧ Ext w w') (htl : t.length ≤ 60)
    (h0 : 1 ≤ n) (h1 : n ≤ 99) (h : t.isEmpty = false) :
    Calls Tryd.prog 34 #[.int .i64 n, deedV k a b] w fun e w' => e = .returned (str (withSum (Lib.decDigits n.toNat ++ [58] ++ t) ++ [59])) ∧ Ext w w' := by
  have HD := Lib.hid hD
  clear hD
  have hl := decDigits_len n.toNat (by omega)
  have hl2 := sum_len (Lib.decDigits n.toNat ++ [58] ++ t)
  have hb := sumL_bd (Lib.decDigits n.toNat ++ [58] ++ t)
  have hs1 : ¬ 9223372036854775807 < (Lib.decDigits n.toNat).length + 1 := by omega
  have hs2 : ¬ 9223372036854775807 < (Lib.decDigits n.toNat).length + 1 + t.length := by omega
  obtain ⟨q, hq⟩ : ∃ q, q = Lib.decDigits n.toNat ++ [58] ++ t := ⟨_, rfl⟩
  have hql : q.length ≤ 100 := by rw [hq]; simp; omega
  rw [← hq] at hl2 hb ⊢
  have HQ := Lib.hid hq
  clear hq
  go_enter Tryd.func34, Tryd.ntmps34
  go_wp2_with (first | (go_at_call 80; refine (HD.out _).mono ?_; rintro e w1 ⟨rfl, h1⟩; have hc1 := h1.cells.1) | go_in)
  go_upto_region 3 with fail
  go_cut [5] (fun s5 wx => s5 = str q ∧ Ext w wx)
  case first =>
    have hz1 : w.heap.size < w1.heap.size := Nat.lt_of_lt_of_le (by simp) h1.sz
    have e0 : w1.cell? ⟨w.heap.size, 0, none⟩ = some (.int .i64 k) := by rw [h1.cells.1 _ _ (by simp)]; simp
    have e1 : w1.cell? ⟨w.heap.size, 1, none⟩ = some (.int .i64 a) := by rw [h1.cells.1 _ _ (by simp)]; simp
    have e2 : w1.cell? ⟨w.heap.size, 2, none⟩ = some (.int .i64 b) := by rw [h1.cells.1 _ _ (by simp)]; simp
    go_region_held3 (fun w' => w'.cell? ⟨w.heap.size, 0, none⟩ = some (.int .i64 k) ∧ w'.cell? ⟨w.heap.size, 1, none⟩ = some (.int .i64 a) ∧ w'.cell? ⟨w.heap.size, 2, none⟩ = some (.int .i64 b)) (go_keep)
      (first | (go_at_call 80; refine (HD.out _).mono ?_; rintro e w2 ⟨rfl, h2⟩; (try replace h2 := h2.of_drew); have hce := h2.cells.1; have hze : w.heap.size < w2.heap.size := Nat.lt_of_lt_of_le (by assumption) h2.sz) | (go_at_call 58; refine (l1Num n _ (by omega) (by omega)).mono ?_; rintro e w2 ⟨rfl, h2⟩; (try replace h2 := h2.of_drew); have hce := h2.cells.1; have hze : w.heap.size < w2.heap.size := Nat.lt_of_lt_of_le (by assumption) h2.sz))
    all_goals (go_wp2_with fail; go_meet; exact ⟨by rw [HQ.out]; rfl, by (repeat' (first | exact Ext.refl _ | (with_reducible assumption) | (with_reducible refine Ext.alloc ?_ _) | (with_reducible refine Ext.setCell ?_ (by first | exact Nat.le_refl _ | (dsimp only; omega) | (simp; done) | (simp; omega)) _) | (with_reducible refine Ext.drew ?_) | (with_reducible refine Ext.drewN ?_ _) | (refine Ext.trans ?_ (by with_reducible assumption))))⟩)
  case rest =>
    obtain ⟨rfl, hx⟩ := hcut
    go_wp2_with fail
    refine (specSumStr q _ (by unfold maxLen; omega)).mono ?_
    rintro e w1 ⟨rfl, rfl⟩
    go_wp2_with fail
    refine (l1Num (sumL q) _ (by omega) (by omega)).mono ?_
    rintro e w1 ⟨rfl, h1⟩
    go_wp2
    go_ret
    exact ⟨ret_str rfl, by (repeat' (first | exact Ext.refl _ | (with_reducible assumption) | (with_reducible refine Ext.alloc ?_ _) | (with_reducible refine Ext.setCell ?_ (by first | exact Nat.le_refl _ | (dsimp only; omega) | (simp; done) | (simp; omega)) _) | (with_reducible refine Ext.drew ?_) | (with_reducible refine Ext.drewN ?_ _) | (refine Ext.trans ?_ (by with_reducible assumption))))⟩

/-- spec.EntryText -/
theorem specEntry (n k a b : Int) (w : World) : Calls Tryd.prog 34 #[.int .i64 n, deedV k a b] w fun e w' => e = .returned (str (entryText n k a b)) ∧ Ext w w' := by
  unfold entryText entryOf
  split
  · rename_i h
    exact specEntry_ok n k a b _ w (fun w => specDeed k a b w) (deedText_len k a b) h.1 h.2.1 (by simpa using h.2.2)
  · rename_i h
    refine specEntry_of n k a b _ w (fun w => specDeed k a b w) (deedText_len k a b) ?_
    by_cases e : deedText k a b = [] <;> simp [e] at h ⊢ <;> omega
end Go.Proofs.YtncfnlocdlhagaaDoor
