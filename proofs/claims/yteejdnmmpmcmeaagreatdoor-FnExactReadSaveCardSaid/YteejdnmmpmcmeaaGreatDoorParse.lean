/-
  Plain laws on the texts of deeds: what is read is the deed whose text it is, and every deed's text is read. No condition; nothing of the program.
-/
import Derived.Test.YteejdnmmpmcmeaaGreatDoorEntry
import Derived.Test.YteejdnmmpmcmeaaGreatDoorRead2
import Derived.Test.YteejdnmmpmcmeaaGreatDoorSplit
namespace Go.Proofs.YteejdnmmpmcmeaaGreatDoor
open Go.RowKit
set_option linter.unusedVariables false

theorem dd_all : ∀ (k n : Nat), n ≤ k → (Lib.decDigits n).all isDig = true ∧ (n ≤ 9223372036854775807 → numL (Lib.decDigits n) = n) ∧ (1 ≤ n → (Lib.decDigits n).head? ≠ some 48) := by
  intro k
  induction k with
  | zero =>
    intro n h
    obtain rfl : n = 0 := by omega
    rw [decDigits_lt 0 (by omega)]
    exact ⟨by decide, fun _ => by decide, fun h => by omega⟩
  | succ k ih =>
    intro n h
    by_cases h10 : n < 10
    · rw [decDigits_lt n h10]
      have e : (UInt8.ofNat (48 + n)).toNat = 48 + n := by simp; omega
      refine ⟨?_, fun _ => ?_, fun h1 hh => ?_⟩
      · simp [isDig]; omega
      · simp [numL]; omega
      · simp at hh
        have := congrArg UInt8.toNat hh
        simp at this; omega
    · obtain ⟨i1, i2, i3⟩ := ih (n / 10) (by omega)
      rw [decDigits_ge n h10]
      have e : (UInt8.ofNat (48 + n % 10)).toNat = 48 + n % 10 := by simp; omega
      refine ⟨?_, fun hb => ?_, fun h1 => ?_⟩
      · simp only [List.all_append, i1, List.all_cons, List.all_nil, Bool.and_true, Bool.true_and, isDig, e]; simp; omega
      · rw [numL_snoc, i2 (by omega), e]; omega
      · have hp := decDigits_pos (n / 10)
        cases hd : Lib.decDigits (n / 10) with
        | nil => rw [hd] at hp; simp at hp
        | cons x xs =>
          have := i3 (by omega)
          rw [hd] at this
          simpa using this
theorem dd_len : ∀ (k n : Nat), n < 10 ^ (k + 1) → (Lib.decDigits n).length ≤ k + 1 := by
  intro k
  induction k with
  | zero => intro n h; rw [decDigits_lt n (by simpa using h)]; simp
  | succ k ih =>
    intro n h
    by_cases h10 : n < 10
    · rw [decDigits_lt n h10]; simp
    · rw [decDigits_ge n h10, List.length_append]
      have := ih (n / 10) (by rw [Nat.pow_succ] at h; omega)
      simp; omega
/-- a number is read out of its digits -/
theorem readL_digits (m n : Nat) (h : n < 10 ^ m) (hm : 1 ≤ m) (hm2 : m ≤ 5) : readL m (Lib.decDigits n) = some (n : Int) := by
  obtain ⟨k, rfl⟩ : ∃ k, m = k + 1 := ⟨m - 1, by omega⟩
  have hb : n ≤ 99999 := by
    have : 10 ^ (k + 1) ≤ 10 ^ 5 := Nat.pow_le_pow_right (by omega) hm2
    omega
  obtain ⟨a1, a2, a3⟩ := dd_all n n (Nat.le_refl _)
  rw [readL_some (decDigits_pos n) (dd_len k n h) ?_ a1, a2 (by omega)]
  by_cases h0 : n = 0
  · left; subst h0; rw [decDigits_lt 0 (by omega)]; simp
  · right; exact a3 (by omega)
theorem dig_not (n : Nat) (c : UInt8) (hc : isDig c = false) : c ∉ Lib.decDigits n := by
  intro h
  have := (dd_all n n (Nat.le_refl _)).1
  rw [List.all_eq_true] at this
  rw [this c h] at hc; simp at hc

theorem cutL_none (c : UInt8) : ∀ l : List UInt8, c ∉ l → cutL c l = [l] := by
  intro l
  induction l with
  | nil => intro _; rfl
  | cons x xs ih =>
    intro h
    have e : cutL c (x :: xs) = match cutL c xs with | [] => [[x]] | p :: ps => (x :: p) :: ps := by
      rw [cutL, if_neg (by intro e; exact h (by simp [e]))]; rfl
    rw [e, ih (by intro q; exact h (by simp [q]))]
theorem cutL_append (c : UInt8) : ∀ (a b : List UInt8), c ∉ a → cutL c (a ++ c :: b) = a :: cutL c b := by
  intro a b
  induction a with
  | nil => intro _; simp [cutL]
  | cons x xs ih =>
    intro h
    have e : cutL c (x :: (xs ++ c :: b)) = match cutL c (xs ++ c :: b) with | [] => [[x]] | p :: ps => (x :: p) :: ps := by
      rw [cutL, if_neg (by intro e; exact h (by simp [e]))]; rfl
    rw [List.cons_append, e, ih (by intro q; exact h (by simp [q]))]

def kindOf (p : List UInt8) : Option Int :=
  if p = [105, 110] then some 0 else if p = [112, 97, 121] then some 1 else if p = [111, 117, 116] then some 2 else if p = [119, 97, 105, 116] then some 3 else if p = [115, 108, 105, 100, 101] then some 4 else none
theorem kindOf_some {p : List UInt8} {k : Int} (h : kindOf p = some k) : 0 ≤ k ∧ k ≤ 4 ∧ p = deedName k := by
  unfold kindOf at h
  repeat' split at h
  all_goals simp at h
  all_goals subst h; simp_all [deedName]
theorem kindOf_name (k : Int) (h : 0 ≤ k ∧ k ≤ 4) : kindOf (deedName k) = some k := by
  rcases (show k = 0 ∨ k = 1 ∨ k = 2 ∨ k = 3 ∨ k = 4 by omega) with rfl | rfl | rfl | rfl | rfl <;> decide

/-- the deed that impl.ReadDeed reads -/
def readDeed (l : List UInt8) : Option (Int × Int × Int) :=
  match cutL 32 l with
  | [p, q] => match kindOf p, readL 4 q with
    | some k, some a => if deedText k a 0 = l then some (k, a, 0) else none
    | _, _ => none
  | [p, q, r] => match kindOf p, readL 4 q, readL 4 r with
    | some k, some a, some b => if deedText k a b = l then some (k, a, b) else none
    | _, _, _ => none
  | _ => none
/-- the deed that spec.ReadDeed reads -/
def specParse (ps : List (List UInt8)) : Int × Int × Int :=
  match ps with
  | [] => (-1, 0, 0)
  | [p] => ((kindOf p).getD (-1), 0, 0)
  | [p, q] => ((kindOf p).getD (-1), (readL 4 q).getD (-1), 0)
  | p :: q :: r :: _ => ((kindOf p).getD (-1), (readL 4 q).getD (-1), (readL 4 r).getD (-1))
def specRead (l : List UInt8) : Option (Int × Int × Int) :=
  if l ≠ [] ∧ deedText (specParse (cutL 32 l)).1 (specParse (cutL 32 l)).2.1 (specParse (cutL 32 l)).2.2 = l then some (specParse (cutL 32 l)) else none

theorem deedOk_parts {k a b : Int} (h : deedOk k a b = true) : 0 ≤ k ∧ k ≤ 4 ∧ 0 ≤ a ∧ a ≤ 9999 ∧ 0 ≤ b ∧ b ≤ 9999 ∧ (deedTwo k = true ∨ b = 0) := by
  simp [deedOk] at h
  obtain ⟨⟨h1, h2, h3, h4, h5, h6⟩, h7⟩ := h
  exact ⟨h1, h2, h3, h4, h5, h6, by cases hk : deedTwo k <;> simp_all⟩
theorem deedText_ok {k a b : Int} (h : deedText k a b ≠ []) : deedOk k a b = true := by
  unfold deedText at h
  split at h
  · assumption
  · simp at h
theorem name_no32 (k : Int) : (32 : UInt8) ∉ deedName k := by
  unfold deedName
  repeat' split
  all_goals decide
theorem cut_text {k a b : Int} (h : deedOk k a b = true) : cutL 32 (deedText k a b) = if deedTwo k then [deedName k, Lib.decDigits a.toNat, Lib.decDigits b.toNat] else [deedName k, Lib.decDigits a.toNat] := by
  unfold deedText
  rw [if_pos h]
  split
  · have e : deedName k ++ [32] ++ Lib.decDigits a.toNat ++ ([32] ++ Lib.decDigits b.toNat) = deedName k ++ 32 :: (Lib.decDigits a.toNat ++ 32 :: Lib.decDigits b.toNat) := by simp
    rw [e, cutL_append _ _ _ (name_no32 k), cutL_append _ _ _ (dig_not _ _ (by decide)), cutL_none _ _ (dig_not _ _ (by decide))]
  · have e : deedName k ++ [32] ++ Lib.decDigits a.toNat ++ [] = deedName k ++ 32 :: Lib.decDigits a.toNat := by simp
    rw [e, cutL_append _ _ _ (name_no32 k), cutL_none _ _ (dig_not _ _ (by decide))]
theorem readL4 {a : Int} (h0 : 0 ≤ a) (h1 : a ≤ 9999) : readL 4 (Lib.decDigits a.toNat) = some a := by
  rw [readL_digits 4 a.toNat (by omega) (by omega) (by omega)]; congr 1; omega

theorem readDeed_text {k a b : Int} (h : deedOk k a b = true) : readDeed (deedText k a b) = some (k, a, b) := by
  obtain ⟨h1, h2, h3, h4, h5, h6, h7⟩ := deedOk_parts h
  unfold readDeed
  rw [cut_text h]
  cases hk : deedTwo k with
  | true => simp [kindOf_name k ⟨h1, h2⟩, readL4 h3 h4, readL4 h5 h6]
  | false =>
    obtain rfl : b = 0 := by simpa [hk] using h7
    simp [kindOf_name k ⟨h1, h2⟩, readL4 h3 h4]
theorem deedText_ne {k a b : Int} (h : deedOk k a b = true) : deedText k a b ≠ [] := by
  unfold deedText; rw [if_pos h]
  simp
theorem specRead_text {k a b : Int} (h : deedOk k a b = true) : specRead (deedText k a b) = some (k, a, b) := by
  obtain ⟨h1, h2, h3, h4, h5, h6, h7⟩ := deedOk_parts h
  have e : specParse (cutL 32 (deedText k a b)) = (k, a, b) := by
    rw [cut_text h]
    cases hk : deedTwo k with
    | true => simp [specParse, kindOf_name k ⟨h1, h2⟩, readL4 h3 h4, readL4 h5 h6]
    | false =>
      obtain rfl : b = 0 := by simpa [hk] using h7
      simp [specParse, kindOf_name k ⟨h1, h2⟩, readL4 h3 h4]
  unfold specRead
  rw [e, if_pos ⟨deedText_ne h, rfl⟩]
theorem readDeed_some {l : List UInt8} {k a b : Int} (h : readDeed l = some (k, a, b)) : deedText k a b = l ∧ deedOk k a b = true := by
  have key : deedText k a b = l ∧ 0 ≤ k ∧ k ≤ 4 ∧ l ≠ [] := by
    have hne : ∀ p q, cutL 32 l = p :: q :: [] ∨ (∃ r, cutL 32 l = [p, q, r]) → l ≠ [] := by
      rintro p q h rfl
      rcases h with h | ⟨r, h⟩ <;> simp [cutL] at h
    unfold readDeed at h
    split at h
    · rename_i p q hc
      have := hne p q (.inl hc)
      split at h
      · rename_i k' a' hk ha
        split at h
        · rename_i ht
          simp only [Option.some.injEq, Prod.mk.injEq] at h
          obtain ⟨rfl, rfl, rfl⟩ := h
          exact ⟨ht, (kindOf_some hk).1, (kindOf_some hk).2.1, this⟩
        · simp at h
      · simp at h
    · rename_i p q r hc
      have := hne p q (.inr ⟨r, hc⟩)
      split at h
      · rename_i k' a' b' hk ha hb
        split at h
        · rename_i ht
          simp only [Option.some.injEq, Prod.mk.injEq] at h
          obtain ⟨rfl, rfl, rfl⟩ := h
          exact ⟨ht, (kindOf_some hk).1, (kindOf_some hk).2.1, this⟩
        · simp at h
      · simp at h
    · simp at h
  exact ⟨key.1, deedText_ok (by rw [key.1]; exact key.2.2.2)⟩
/-- both read the same -/
theorem specRead_eq (l : List UInt8) : specRead l = readDeed l := by
  cases h : specRead l with
  | some d =>
    obtain ⟨k, a, b⟩ := d
    unfold specRead at h
    split at h
    · rename_i hc
      simp only [Option.some.injEq] at h
      rw [h] at hc
      have ho := deedText_ok (by rw [hc.2]; exact hc.1)
      rw [← hc.2, readDeed_text ho]
    · simp at h
  | none =>
    cases h2 : readDeed l with
    | none => rfl
    | some d =>
      obtain ⟨k, a, b⟩ := d
      obtain ⟨e, ho⟩ := readDeed_some h2
      rw [← e, specRead_text ho] at h
      simp at h
end Go.Proofs.YteejdnmmpmcmeaaGreatDoor
