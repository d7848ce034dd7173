/-
  Plain laws on the texts of journals: one byte that is another one turns the sum; texts that are cut; texts that are read again. No condition; nothing of the program.
-/
import Derived.Test.YtncfnlocdlhagaaDoorRJ
namespace Go.Proofs.YtncfnlocdlhagaaDoor
open Go.RowKit
set_option linter.unusedVariables false

def sumStep (s : Int) (c : UInt8) : Int := (7 * s + (c.toNat : Int)) % 97
theorem sumL_fold (l : List UInt8) : sumL l = l.foldl sumStep 1 := rfl
theorem sumStep_bd (s : Int) (c : UInt8) : 0 ≤ sumStep s c ∧ sumStep s c < 97 := by unfold sumStep; omega
theorem fold_inj : ∀ (B : List UInt8) (s t : Int), 0 ≤ s → s < 97 → 0 ≤ t → t < 97 → B.foldl sumStep s = B.foldl sumStep t → s = t := by
  intro B
  induction B with
  | nil => intro s t _ _ _ _ h; exact h
  | cons c B ih =>
    intro s t h1 h2 h3 h4 h
    have := ih _ _ (sumStep_bd s c).1 (sumStep_bd s c).2 (sumStep_bd t c).1 (sumStep_bd t c).2 h
    unfold sumStep at this
    omega
/-- with one byte that is another one, by less than 97, the sum is another one -/
theorem sum_one (A B : List UInt8) (c x : UInt8) (h1 : (c.toNat : Int) - x.toNat < 97) (h2 : (x.toNat : Int) - c.toNat < 97) (h : sumL (A ++ x :: B) = sumL (A ++ c :: B)) : x = c := by
  rw [sumL_fold, sumL_fold, List.foldl_append, List.foldl_append, List.foldl_cons, List.foldl_cons] at h
  have hb := sumL_bd A
  rw [sumL_fold] at hb
  have := fold_inj B _ _ (sumStep_bd _ _).1 (sumStep_bd _ _).2 (sumStep_bd _ _).1 (sumStep_bd _ _).2 h
  unfold sumStep at this
  have e : x.toNat = c.toNat := by omega
  exact UInt8.toNat_inj.1 e

theorem split_at {l : List UInt8} {k : Nat} {c : UInt8} (h : l[k]? = some c) : l = l.take k ++ c :: l.drop (k + 1) := by
  obtain ⟨hk, rfl⟩ := List.getElem?_eq_some_iff.1 h
  rw [← List.drop_eq_getElem_cons hk, List.take_append_drop]
/-- the sum with a digit at place k is the same only if it was that digit -/
theorem sum_digit {l : List UInt8} {k : Nat} {c x : UInt8} (h : l[k]? = some c) (hc : c.toNat < 128) (hx : 48 ≤ x.toNat ∧ x.toNat ≤ 57) : (sumL (l.take k ++ x :: l.drop (k + 1)) = sumL l) ↔ (l.take k ++ x :: l.drop (k + 1) = l) := by
  constructor
  · intro e
    have e2 : sumL (l.take k ++ x :: l.drop (k + 1)) = sumL (l.take k ++ c :: l.drop (k + 1)) := by rw [← split_at h]; exact e
    have := sum_one _ _ c x (by omega) (by omega) e2
    subst this
    exact (split_at h).symm
  · intro e; rw [e]

/-- texts of deeds: bytes below 128, the last one no space -/
theorem dec_bytes (n : Nat) (c : UInt8) (h : c ∈ Lib.decDigits n) : 48 ≤ c.toNat ∧ c.toNat ≤ 57 := by
  have := (dd_all n n (Nat.le_refl _)).1
  rw [List.all_eq_true] at this
  have := this c h
  simp [isDig] at this
  omega
theorem deed_low (k a b : Int) : ∀ c ∈ deedText k a b, c.toNat < 128 := by
  intro c hc
  by_cases h : deedOk k a b = true
  · unfold deedText at hc
    rw [if_pos h] at hc
    have hn : ∀ c ∈ deedName k, c.toNat < 128 := by
      intro c hc
      unfold deedName at hc
      repeat' split at hc
      all_goals simp at hc
      all_goals (try rcases hc with rfl | rfl | rfl | rfl | rfl)
      all_goals (try rcases hc with rfl | rfl | rfl | rfl)
      all_goals (try rcases hc with rfl | rfl | rfl)
      all_goals (try rcases hc with rfl | rfl)
      all_goals decide
    split at hc
    · simp only [List.mem_append, List.mem_singleton] at hc
      rcases hc with ((hc | rfl) | hc) | (rfl | hc)
      · exact hn c hc
      · decide
      · have := dec_bytes _ _ hc; omega
      · decide
      · have := dec_bytes _ _ hc; omega
    · simp only [List.mem_append, List.mem_singleton, List.append_nil] at hc
      rcases hc with (hc | rfl) | hc
      · exact hn c hc
      · decide
      · have := dec_bytes _ _ hc; omega
  · unfold deedText at hc
    rw [if_neg h] at hc
    simp at hc
theorem dec_last (n : Nat) : (Lib.decDigits n).getLast? ≠ some 32 := by
  intro h
  have := dec_bytes n 32 (List.mem_of_getLast? h)
  simp at this
theorem dec_ne (n : Nat) : Lib.decDigits n ≠ [] := by have := decDigits_pos n; intro h; rw [h] at this; simp at this
theorem deed_last (k a b : Int) : (deedText k a b).getLast? ≠ some 32 := by
  by_cases h : deedOk k a b = true
  · unfold deedText
    rw [if_pos h]
    split
    · rw [← List.append_assoc, List.getLast?_append]
      intro e
      have hn := dec_ne b.toNat
      have hl := dec_last b.toNat
      cases hq : (Lib.decDigits b.toNat).getLast? with
      | none => rw [List.getLast?_eq_none_iff] at hq; exact hn hq
      | some y => rw [hq] at e hl; simp at e; exact hl (by rw [e])
    · rw [List.append_nil, List.getLast?_append]
      intro e
      have hn := dec_ne a.toNat
      have hl := dec_last a.toNat
      cases hq : (Lib.decDigits a.toNat).getLast? with
      | none => rw [List.getLast?_eq_none_iff] at hq; exact hn hq
      | some y => rw [hq] at e hl; simp at e; exact hl (by rw [e])
  · unfold deedText
    rw [if_neg h]
    simp
theorem readDeed_space (l : List UInt8) : readDeed (l ++ [32]) = none := by
  cases h : readDeed (l ++ [32]) with
  | none => rfl
  | some d =>
    have := (readDeed_some h).1
    have q := deed_last d.1 d.2.1 d.2.2
    rw [this] at q
    simp at q

/-- entries: no beginning that is shorter is read -/
theorem entry_short {n k a b : Int} (j : Nat) (h : j < (entryText n k a b).length) : readEntry ((entryText n k a b).take j) = none := by
  have hne : entryText n k a b ≠ [] := by intro e; rw [e] at h; simp at h
  obtain ⟨F, e, hF, hc⟩ := entry_front hne
  cases hr : readEntry ((entryText n k a b).take j) with
  | none => rfl
  | some x =>
    exfalso
    obtain ⟨n', ⟨k', a', b'⟩, m⟩ := x
    obtain ⟨q1, q2, q3⟩ := readEntry_some hr
    obtain ⟨F', e', hF', _⟩ := entry_front q1
    have hm : (59 : UInt8) ∈ (entryText n k a b).take j := by rw [q2, e']; simp
    rw [e] at hm h
    simp at h
    rw [List.take_append_of_le_length (by omega)] at hm
    exact hF (List.mem_of_mem_take hm)

/-- the text of a journal is read whole -/
theorem jt_read : ∀ (ds : List Deed3) (first : Int) (x R : List UInt8), jt first ds = some x → rj first (x ++ R) = (ds ++ (rj (first + ds.length) R).1, x.length + (rj (first + ds.length) R).2) := by
  intro ds
  induction ds with
  | nil => intro first x R h; simp [jt] at h; subst h; simp
  | cons d ds ih =>
    intro first x R h
    unfold jt at h
    split at h
    · simp at h
    · rename_i hne
      obtain ⟨y, hy, rfl⟩ := Option.map_eq_some_iff.1 h
      obtain ⟨k, a, b⟩ := d
      rw [List.append_assoc, rj_step (readEntry_text hne (y ++ R)).1]
      simp only [List.drop_left, List.length_append, List.length_cons]
      rw [ih (first + 1) y R hy]
      have e : first + 1 + (ds.length : Int) = first + ((ds.length + 1 : Nat) : Int) := by omega
      rw [e]
      simp [Nat.add_assoc]
theorem journal_read {first : Int} {ds : List Deed3} (h : journalText first ds ≠ []) : rj first (journalText first ds) = (ds, (journalText first ds).length) := by
  unfold journalText at h ⊢
  cases hx : jt first ds with
  | none => rw [hx] at h; simp at h
  | some x =>
    have := jt_read ds first x [] hx
    have q : ∀ first, rj first ([] : List UInt8) = ([], 0) := fun first => rj_none readEntry_nil
    rw [List.append_nil, q] at this
    simpa using this

/-- what is read of a text is the text of what was read -/
theorem rj_text : ∀ (f : Nat) (first : Int) (l : List UInt8), l.length ≤ f → jt first (rj first l).1 = some (l.take (rj first l).2) ∧ (rj first l).2 ≤ l.length := by
  intro f
  induction f with
  | zero =>
    intro first l h
    obtain rfl : l = [] := List.eq_nil_of_length_eq_zero (by omega)
    rw [rj_none readEntry_nil]; simp [jt]
  | succ f ih =>
    intro first l h
    cases hr : readEntry l with
    | none => rw [rj_none hr]; simp [jt]
    | some x =>
      obtain ⟨n, d, m⟩ := x
      obtain ⟨h1, h2, h3, h4⟩ := readEntry_pos hr
      by_cases hn : n = first
      · subst hn
        obtain ⟨k, a, b⟩ := d
        obtain ⟨q1, q2, q3⟩ := readEntry_some hr
        rw [rj_step hr]
        obtain ⟨i1, i2⟩ := ih (n + 1) (l.drop m) (by simp; omega)
        refine ⟨?_, by simp at i2 ⊢; omega⟩
        simp only [jt, if_neg q1, i1, Option.map_some]
        have e : l.take m = entryText n k a b := by
          have e2 : (entryText n k a b ++ l.drop m).take m = entryText n k a b := by rw [q3]; simp
          rw [← q2] at e2
          exact e2
        rw [List.take_add, e]
      · rw [rj_other hr hn]; simp [jt]

/-- a cut text has the first entries -/
theorem rj_cut : ∀ (f : Nat) (first : Int) (l : List UInt8) (j : Nat), l.length ≤ f → (rj first (l.take j)).1 = (rj first l).1.take (rj first (l.take j)).1.length ∧ (rj first (l.take j)).2 ≤ j ∧ (rj first (l.take j)).1.length ≤ (rj first l).1.length := by
  intro f
  induction f with
  | zero =>
    intro first l j h
    obtain rfl : l = [] := List.eq_nil_of_length_eq_zero (by omega)
    simp [rj_none readEntry_nil]
  | succ f ih =>
    intro first l j h
    cases hr : readEntry (l.take j) with
    | none => rw [rj_none hr]; simp
    | some x =>
      obtain ⟨n, ⟨k, a, b⟩, m⟩ := x
      obtain ⟨h1, h2, h3, h4⟩ := readEntry_pos hr
      obtain ⟨q1, q2, q3⟩ := readEntry_some hr
      by_cases hn : n = first
      · subst hn
        rw [List.length_take] at h2
        have hl : l = entryText n k a b ++ l.drop m := by
          have e : l = (l.take j).take m ++ l.drop m := by rw [List.take_take, Nat.min_eq_left (by omega), List.take_append_drop]
          have e2 : (l.take j).take m = entryText n k a b := by rw [q2, q3]; simp
          rw [← e2]; exact e
        have hr2 : readEntry l = some (n, (k, a, b), m) := by
          rw [hl, (readEntry_text q1 _).1, q3]
        rw [rj_step hr, rj_step hr2]
        obtain ⟨i1, i2, i3⟩ := ih (n + 1) (l.drop m) (j - m) (by simp; omega)
        have e3 : (l.take j).drop m = (l.drop m).take (j - m) := List.drop_take ..
        rw [e3]
        refine ⟨?_, by simp only; omega, by simp; omega⟩
        simp only [List.length_cons, List.take_succ_cons]
        rw [← i1]
      · rw [rj_other hr hn]; simp
end Go.Proofs.YtncfnlocdlhagaaDoor
