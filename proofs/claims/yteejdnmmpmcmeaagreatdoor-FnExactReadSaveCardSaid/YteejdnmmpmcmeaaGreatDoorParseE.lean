/-
  Plain laws on the texts of entries: what is read at the beginning of a text is the entry whose text it begins with. No condition; nothing of the program.
-/
import Derived.Test.YteejdnmmpmcmeaaGreatDoorParse
namespace Go.Proofs.YteejdnmmpmcmeaaGreatDoor
open Go.RowKit
set_option linter.unusedVariables false

/-- what stands ahead of the first byte c, and behind it -/
def cutFst (c : UInt8) : List UInt8 → List UInt8
  | [] => []
  | x :: xs => if x = c then [] else x :: cutFst c xs
def cutSnd (c : UInt8) : List UInt8 → List UInt8
  | [] => []
  | x :: xs => if x = c then xs else cutSnd c xs
theorem cutFst_append (c : UInt8) : ∀ (a b : List UInt8), c ∉ a → cutFst c (a ++ c :: b) = a ∧ cutSnd c (a ++ c :: b) = b := by
  intro a b
  induction a with
  | nil => intro _; simp [cutFst, cutSnd]
  | cons x xs ih =>
    intro h
    obtain ⟨i1, i2⟩ := ih (fun q => h (by simp [q]))
    have hx : x ≠ c := fun q => h (by simp [q])
    simp [cutFst, cutSnd, hx, i1, i2]
theorem cutL_head (c : UInt8) : ∀ (l : List UInt8), (cutL c l)[0]? = some (cutFst c l) := by
  intro l
  induction l with
  | nil => rfl
  | cons x xs ih =>
    by_cases h : x = c
    · rw [cutL, if_pos h, cutFst, if_pos h]; rfl
    · have e : cutL c (x :: xs) = match cutL c xs with | [] => [[x]] | p :: ps => (x :: p) :: ps := by rw [cutL, if_neg h]; rfl
      rw [e, cutFst, if_neg h]
      cases hq : cutL c xs with
      | nil => exact absurd hq (cutL_ne c xs)
      | cons p ps => rw [hq] at ih; simpa using ih
theorem cutFst_len (c : UInt8) : ∀ (l : List UInt8), (cutFst c l).length ≤ l.length ∧ (cutSnd c l).length ≤ l.length := by
  intro l
  induction l with
  | nil => simp [cutFst, cutSnd]
  | cons x xs ih =>
    simp only [cutFst, cutSnd]
    split <;> simp <;> omega

/-- where the first byte c stands -/
def posOf (c : UInt8) (l : List UInt8) : Option Nat := if c ∈ l then some (cutFst c l).length else none
theorem posOf_append (c : UInt8) (a b : List UInt8) (h : c ∉ a) : posOf c (a ++ c :: b) = some a.length := by
  unfold posOf; rw [if_pos (by simp), (cutFst_append c a b h).1]
theorem cut_first (c : UInt8) : ∀ (l : List UInt8), c ∈ l → ∃ a b, l = a ++ c :: b ∧ c ∉ a := by
  intro l
  induction l with
  | nil => intro h; simp at h
  | cons x xs ih =>
    intro h
    by_cases hx : x = c
    · exact ⟨[], xs, by simp [hx], by simp⟩
    · obtain ⟨a, b, e, ha⟩ := ih (by rcases List.mem_cons.1 h with h | h; exact absurd h.symm hx; exact h)
      exact ⟨x :: a, b, by simp [e], by simp [ha]; exact fun q => hx q.symm⟩
theorem posOf_lt {c : UInt8} {l : List UInt8} {e : Nat} (h : posOf c l = some e) : e < l.length ∧ l[e]? = some c ∧ c ∉ l.take e := by
  unfold posOf at h
  split at h
  · rename_i hm
    obtain ⟨a, b, rfl, ha⟩ := cut_first c l hm
    rw [(cutFst_append c a b ha).1] at h
    simp only [Option.some.injEq] at h
    subst h
    simp [ha]
  · simp at h

abbrev Deed3 := Int × Int × Int
/-- what impl.ReadEntry reads: number, deed, how many bytes -/
def readEntry (l : List UInt8) : Option (Int × Deed3 × Nat) :=
  match posOf 59 l with
  | none => none
  | some e =>
    match readL 2 (cutFst 58 (cutFst 35 (l.take e))), readDeed (cutSnd 58 (cutFst 35 (l.take e))) with
    | some n, some d => if entryText n d.1 d.2.1 d.2.2 = l.take (e + 1) then some (n, d, e + 1) else none
    | _, _ => none
/-- what spec.ReadEntry reads -/
def specEntryRead (l : List UInt8) : Option (Int × Deed3 × Nat) :=
  match posOf 59 l with
  | none => none
  | some e =>
    match cutL 58 (cutFst 35 (l.take e)) with
    | [f, r] => match readDeed r with
      | some d => if entryText ((readL 4 f).getD (-1)) d.1 d.2.1 d.2.2 = l.take (e + 1) then some ((readL 4 f).getD (-1), d, e + 1) else none
      | none => none
    | _ => none

theorem deed_bytes {k a b : Int} (h : deedOk k a b = true) : (35 : UInt8) ∉ deedText k a b ∧ (58 : UInt8) ∉ deedText k a b ∧ (59 : UInt8) ∉ deedText k a b := by
  have hn : ∀ c : UInt8, c = 35 ∨ c = 58 ∨ c = 59 → c ∉ deedName k := by
    intro c hc; unfold deedName
    repeat' split
    all_goals rcases hc with rfl | rfl | rfl <;> decide
  have hd : ∀ c : UInt8, c = 35 ∨ c = 58 ∨ c = 59 → ∀ n, c ∉ Lib.decDigits n := by
    intro c hc n; exact dig_not n c (by rcases hc with rfl | rfl | rfl <;> decide)
  have key : ∀ c : UInt8, c = 35 ∨ c = 58 ∨ c = 59 → c ∉ deedText k a b := by
    intro c hc
    have h1 := hn c hc
    have h2 := hd c hc
    have h3 : c ≠ 32 := by rcases hc with rfl | rfl | rfl <;> decide
    unfold deedText; rw [if_pos h]
    split
    · simp [h1, h2, h3]
    · simp [h1, h2, h3]
  exact ⟨key _ (by simp), key _ (by simp), key _ (by simp)⟩

theorem entryText_form {n k a b : Int} (h : entryText n k a b ≠ []) : 1 ≤ n ∧ n ≤ 99 ∧ deedOk k a b = true ∧
    entryText n k a b = Lib.decDigits n.toNat ++ 58 :: deedText k a b ++ 35 :: Lib.decDigits (sumL (Lib.decDigits n.toNat ++ [58] ++ deedText k a b)).toNat ++ [59] := by
  unfold entryText entryOf at h ⊢
  split at h
  · rename_i hc
    refine ⟨hc.1, hc.2.1, deedText_ok hc.2.2, ?_⟩
    rw [if_pos hc]; simp [withSum]
  · simp at h

theorem entry_front {n k a b : Int} (h : entryText n k a b ≠ []) : ∃ F : List UInt8, entryText n k a b = F ++ [59] ∧ (59 : UInt8) ∉ F ∧ cutFst 35 F = Lib.decDigits n.toNat ++ 58 :: deedText k a b := by
  obtain ⟨h1, h2, ho, e⟩ := entryText_form h
  obtain ⟨d1, d2, d3⟩ := deed_bytes ho
  refine ⟨Lib.decDigits n.toNat ++ 58 :: deedText k a b ++ 35 :: Lib.decDigits (sumL (Lib.decDigits n.toNat ++ [58] ++ deedText k a b)).toNat, e, ?_, ?_⟩
  · have q1 := dig_not n.toNat 59 (by decide)
    have q2 := dig_not (sumL (Lib.decDigits n.toNat ++ [58] ++ deedText k a b)).toNat 59 (by decide)
    simp only [List.mem_append, List.mem_cons, not_or]
    exact ⟨⟨q1, by decide, d3⟩, by decide, q2⟩
  · refine (cutFst_append 35 _ _ ?_).1
    have q1 := dig_not n.toNat 35 (by decide)
    simp only [List.mem_append, List.mem_cons, not_or]
    exact ⟨q1, by decide, d1⟩

theorem readL_num (m : Nat) (hm : 2 ≤ m) (hm2 : m ≤ 5) {n : Int} (h0 : 1 ≤ n) (h1 : n ≤ 99) : readL m (Lib.decDigits n.toNat) = some n := by
  have : n.toNat < 10 ^ m := by
    have : 10 ^ 2 ≤ 10 ^ m := Nat.pow_le_pow_right (by omega) hm
    omega
  rw [readL_digits m n.toNat this (by omega) hm2]; congr 1; omega

theorem readEntry_text {n k a b : Int} (h : entryText n k a b ≠ []) (R : List UInt8) : readEntry (entryText n k a b ++ R) = some (n, (k, a, b), (entryText n k a b).length) ∧
    specEntryRead (entryText n k a b ++ R) = some (n, (k, a, b), (entryText n k a b).length) := by
  obtain ⟨h1, h2, ho, _⟩ := entryText_form h
  obtain ⟨F, e, hF, hc⟩ := entry_front h
  obtain ⟨d1, d2, d3⟩ := deed_bytes ho
  have hp : posOf 59 (entryText n k a b ++ R) = some F.length := by
    rw [e]; simp only [List.append_assoc, List.singleton_append]; exact posOf_append 59 F R hF
  have ht : (entryText n k a b ++ R).take F.length = F := by rw [e]; simp
  have ht1 : (entryText n k a b ++ R).take (F.length + 1) = entryText n k a b := by
    have : F.length + 1 = (entryText n k a b).length := by rw [e]; simp
    rw [this]; simp
  have hl : F.length + 1 = (entryText n k a b).length := by rw [e]; simp
  have hdig := dig_not n.toNat 58 (by decide)
  constructor
  · unfold readEntry
    rw [hp]
    simp only [ht, ht1, hc]
    rw [(cutFst_append 58 _ _ hdig).1, (cutFst_append 58 _ _ hdig).2, readL_num 2 (by omega) (by omega) h1 h2, readDeed_text ho]
    simp [hl]
  · unfold specEntryRead
    rw [hp]
    simp only [ht, ht1, hc]
    rw [cutL_append 58 _ _ hdig, cutL_none 58 _ d2]
    simp only [readDeed_text ho, readL_num 4 (by omega) (by omega) h1 h2]
    simp [hl]

theorem take_ne {l : List UInt8} {e : Nat} (h : posOf 59 l = some e) : l.take (e + 1) ≠ [] := by
  have := posOf_lt h
  intro q
  have := congrArg List.length q
  rw [List.length_take, List.length_nil] at this
  omega
theorem readEntry_some {l : List UInt8} {n k a b : Int} {m : Nat} (h : readEntry l = some (n, (k, a, b), m)) : entryText n k a b ≠ [] ∧ l = entryText n k a b ++ l.drop m ∧ m = (entryText n k a b).length := by
  unfold readEntry at h
  split at h
  · simp at h
  · rename_i e hp
    split at h
    · rename_i n' d hn hd
      split at h
      · rename_i ht
        simp only [Option.some.injEq, Prod.mk.injEq] at h
        obtain ⟨rfl, rfl, rfl⟩ := h
        have := posOf_lt hp
        refine ⟨by rw [ht]; exact take_ne hp, by rw [ht]; simp, by rw [ht]; simp; omega⟩
      · simp at h
    · simp at h
theorem specEntryRead_some {l : List UInt8} {n k a b : Int} {m : Nat} (h : specEntryRead l = some (n, (k, a, b), m)) : entryText n k a b ≠ [] ∧ l = entryText n k a b ++ l.drop m ∧ m = (entryText n k a b).length := by
  unfold specEntryRead at h
  split at h
  · simp at h
  · rename_i e hp
    split at h
    · split at h
      · split at h
        · rename_i ht
          simp only [Option.some.injEq, Prod.mk.injEq] at h
          obtain ⟨rfl, rfl, rfl⟩ := h
          have := posOf_lt hp
          refine ⟨by rw [ht]; exact take_ne hp, by rw [ht]; simp, by rw [ht]; simp; omega⟩
        · simp at h
      · simp at h
    · simp at h
/-- both read the same -/
theorem specEntryRead_eq (l : List UInt8) : specEntryRead l = readEntry l := by
  cases h : specEntryRead l with
  | some x =>
    obtain ⟨n, ⟨k, a, b⟩, m⟩ := x
    obtain ⟨h1, h2, h3⟩ := specEntryRead_some h
    rw [h2, (readEntry_text h1 _).1, h3]
  | none =>
    cases h2 : readEntry l with
    | none => rfl
    | some x =>
      obtain ⟨n, ⟨k, a, b⟩, m⟩ := x
      obtain ⟨q1, q2, q3⟩ := readEntry_some h2
      rw [q2, (readEntry_text q1 _).2] at h
      simp at h
end Go.Proofs.YteejdnmmpmcmeaaGreatDoor
