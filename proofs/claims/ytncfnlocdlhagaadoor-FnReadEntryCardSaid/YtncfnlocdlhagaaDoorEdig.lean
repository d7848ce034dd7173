/-
  Plain law: an entry of which one digit is another one is not read. No condition; nothing of the program.
-/
import Derived.Test.YtncfnlocdlhagaaDoorTextLaws
namespace Go.Proofs.YtncfnlocdlhagaaDoor
open Go.RowKit
set_option linter.unusedVariables false
set_option linter.unusedSimpArgs false

theorem first_split {α : Type} (c : α) : ∀ (A B A' B' : List α), c ∉ A → c ∉ A' → A ++ c :: B = A' ++ c :: B' → A = A' ∧ B = B' := by
  intro A
  induction A with
  | nil =>
    intro B A' B' _ h2 h
    cases A' with
    | nil => simpa using h
    | cons a A' => simp at h; exact absurd h.1 (fun e => h2 (by simp [e]))
  | cons a A ih =>
    intro B A' B' h1 h2 h
    cases A' with
    | nil => simp at h; exact absurd h.1.symm (fun e => h1 (by simp [e]))
    | cons a' A' =>
      simp only [List.cons_append, List.cons.injEq] at h
      obtain ⟨e1, e2⟩ := ih B A' B' (fun hh => h1 (by simp [hh])) (fun hh => h2 (by simp [hh])) h.2
      exact ⟨by rw [h.1, e1], e2⟩
theorem not_set {α : Type} {c x : α} {l : List α} {j : Nat} (h : c ∉ l) (hx : c ≠ x) : c ∉ l.set j x := by
  intro hm
  rcases List.mem_or_eq_of_mem_set hm with h2 | h2
  · exact h h2
  · exact hx h2
theorem put_set {α : Type} {l : List α} {j : Nat} {x : α} (h : j < l.length) : l.take j ++ x :: l.drop (j + 1) = l.set j x := by
  rw [List.set_eq_take_append_cons_drop]; simp [h]
theorem dec_sum_inj {s t : Int} (h0 : 0 ≤ s) (h1 : s < 97) (h2 : 0 ≤ t) (h3 : t < 97) (h : Lib.decDigits s.toNat = Lib.decDigits t.toNat) : s = t := by
  have a := readL_digits 2 s.toNat (by omega) (by omega) (by omega)
  have b := readL_digits 2 t.toNat (by omega) (by omega) (by omega)
  rw [h, b] at a
  simp at a
  omega
/-- an entry's text: the part that is summed, a hash sign, the sum, a semicolon -/
theorem entry_parts {n k a b : Int} (h : entryText n k a b ≠ []) : ∃ P : List UInt8, (35 : UInt8) ∉ P ∧ (59 : UInt8) ∉ P ∧ entryText n k a b = (P ++ 35 :: Lib.decDigits (sumL P).toNat) ++ [59] ∧ (59 : UInt8) ∉ P ++ 35 :: Lib.decDigits (sumL P).toNat := by
  obtain ⟨h1, h2, ho, e⟩ := entryText_form h
  obtain ⟨d1, d2, d3⟩ := deed_bytes ho
  refine ⟨Lib.decDigits n.toNat ++ [58] ++ deedText k a b, ?_, ?_, ?_, ?_⟩
  · have q := dig_not n.toNat 35 (by decide)
    simp only [List.mem_append, List.mem_singleton, not_or]
    exact ⟨⟨q, by decide⟩, d1⟩
  · have q := dig_not n.toNat 59 (by decide)
    simp only [List.mem_append, List.mem_singleton, not_or]
    exact ⟨⟨q, by decide⟩, d3⟩
  · rw [e]; simp
  · have q := dig_not n.toNat 59 (by decide)
    have q2 := dig_not (sumL (Lib.decDigits n.toNat ++ [58] ++ deedText k a b)).toNat 59 (by decide)
    simp only [List.mem_append, List.mem_singleton, List.mem_cons, not_or]
    exact ⟨⟨⟨q, by decide⟩, d3⟩, by decide, by simpa using q2⟩

theorem entry_digit {l : List UInt8} {n k a b : Int} {m j : Nat} {c x : UInt8} (h : readEntry l = some (n, (k, a, b), m)) (hj : j < m) (hc : l[j]? = some c) (hcd : 48 ≤ c.toNat ∧ c.toNat ≤ 57) (hxd : 48 ≤ x.toNat ∧ x.toNat ≤ 57) (hne : x ≠ c) :
    readEntry (l.take j ++ x :: l.drop (j + 1)) = none := by
  cases hr : readEntry (l.take j ++ x :: l.drop (j + 1)) with
  | none => rfl
  | some y =>
    exfalso
    obtain ⟨n', ⟨k', a', b'⟩, m'⟩ := y
    obtain ⟨q1, q2, q3⟩ := readEntry_some h
    obtain ⟨r1, r2, r3⟩ := readEntry_some hr
    obtain ⟨P, p1, p2, p3, p4⟩ := entry_parts q1
    obtain ⟨P', s1, s2, s3, s4⟩ := entry_parts r1
    have hjl : j < l.length := (List.getElem?_eq_some_iff.1 hc).1
    rw [put_set hjl] at r2
    generalize hR : l.drop m = R at q2
    generalize (l.set j x).drop m' = R' at r2
    have hx59 : (59 : UInt8) ≠ x := by rintro rfl; simp at hxd
    have hx35 : (35 : UInt8) ≠ x := by rintro rfl; simp at hxd
    have hF : j < (P ++ 35 :: Lib.decDigits (sumL P).toNat).length := by
      rw [q3, p3] at hj
      rw [List.length_append] at hj
      simp only [List.length_singleton] at hj
      by_cases e : j < (P ++ 35 :: Lib.decDigits (sumL P).toNat).length
      · exact e
      · exfalso
        have e2 : j = (P ++ 35 :: Lib.decDigits (sumL P).toNat).length := by omega
        rw [q2, p3, List.append_assoc, List.getElem?_append_right (by omega), e2] at hc
        simp at hc
        rw [← hc] at hcd
        simp at hcd
    have hlset : l.set j x = (P ++ 35 :: Lib.decDigits (sumL P).toNat).set j x ++ 59 :: R := by
      have e : l = (P ++ 35 :: Lib.decDigits (sumL P).toNat) ++ 59 :: R := by
        have := q2; rw [p3] at this; simpa using this
      rw [e, List.set_append_left _ _ hF]
    rw [hlset, s3] at r2
    have r4 : (P ++ 35 :: Lib.decDigits (sumL P).toNat).set j x ++ 59 :: R = (P' ++ 35 :: Lib.decDigits (sumL P').toNat) ++ 59 :: R' := by simpa using r2
    obtain ⟨e1, -⟩ := first_split 59 _ _ _ _ (not_set p4 hx59) s4 r4
    have hcF : (P ++ 35 :: Lib.decDigits (sumL P).toNat)[j]? = some c := by
      have := hc
      rw [q2, p3, List.append_assoc, List.getElem?_append_left hF] at this
      exact this
    have b1 := sumL_bd P
    have b2 := sumL_bd P'
    by_cases hjP : j < P.length
    · rw [List.set_append_left _ _ hjP] at e1
      obtain ⟨e2, e3⟩ := first_split 35 _ _ _ _ (not_set p1 hx35) s1 e1
      have hs := dec_sum_inj b1.1 b1.2 b2.1 b2.2 e3
      rw [List.getElem?_append_left hjP] at hcF
      rw [← e2, ← put_set hjP] at hs
      have hsp := split_at hcF
      rw [hsp] at hs
      rw [← hsp] at hs
      have := sum_one (P.take j) (P.drop (j + 1)) c x (by omega) (by omega) (by rw [← hsp]; exact hs.symm)
      exact hne this
    · by_cases hjE : j = P.length
      · rw [hjE, List.getElem?_append_right (Nat.le_refl _)] at hcF
        simp at hcF
        rw [← hcF] at hcd
        simp at hcd
      · rw [List.set_append_right _ _ (by omega)] at e1
        obtain ⟨i, hi⟩ : ∃ i, j - P.length = i + 1 := ⟨j - P.length - 1, by omega⟩
        rw [hi, List.set_cons_succ] at e1
        obtain ⟨e2, e3⟩ := first_split 35 _ _ _ _ p1 s1 e1
        rw [← e2] at e3
        rw [List.getElem?_append_right (by omega), hi, List.getElem?_cons_succ] at hcF
        rw [← e3] at hcF
        have hil : i < (Lib.decDigits (sumL P).toNat).length := by
          have := (List.getElem?_eq_some_iff.1 hcF).1
          simpa using this
        rw [List.getElem?_set_self hil] at hcF
        simp at hcF
        exact hne hcF
end Go.Proofs.YtncfnlocdlhagaaDoor
