/-
  impl.ReadEntry returns what 'readEntry' says. Conditions: the text is shorter than 2^32 - 15 bytes, the library's table is laid.
-/
import Derived.Test.YteejdnmmpmcmeaaGreatDoorParseE
import Derived.Test.YteejdnmmpmcmeaaGreatDoorReadDeed2
import Derived.RegionTactic
namespace Go.Proofs.YteejdnmmpmcmeaaGreatDoor
open Go.RowKit
set_option linter.unusedVariables false

theorem cutFst_none (c : UInt8) : ∀ l : List UInt8, c ∉ l → cutFst c l = l ∧ cutSnd c l = [] := by
  intro l
  induction l with
  | nil => intro _; exact ⟨rfl, rfl⟩
  | cons x xs ih =>
    intro h
    have hx : x ≠ c := fun q => h (by simp [q])
    obtain ⟨i1, i2⟩ := ih (fun q => h (by simp [q]))
    simp [cutFst, cutSnd, hx, i1, i2]
theorem index_first (c : UInt8) (a b : List UInt8) (h : c ∉ a) : Lib.index (a ++ c :: b) [c] = a.length := by
  rcases index_one c (a ++ c :: b) with ⟨h1, h2, h3⟩ | ⟨i, h1, h2, h3, h4⟩
  · exact absurd (by simp) h3
  · have e := cutL_head c (a ++ c :: b)
    rw [h3, (cutFst_append c a b h).1] at e
    simp only [List.getElem?_cons_zero, Option.some.injEq] at e
    have := congrArg List.length e
    simp at this h2
    rw [h1]; omega
theorem libCut (c : UInt8) (l : List UInt8) : (Lib.cut l [c]).1 = cutFst c l ∧ (Lib.cut l [c]).2.1 = cutSnd c l := by
  by_cases h : c ∈ l
  · obtain ⟨a, b, rfl, ha⟩ := cut_first c l h
    unfold Lib.cut
    rw [index_first c a b ha, if_pos (by omega), (cutFst_append c a b ha).1, (cutFst_append c a b ha).2]
    simp
  · have e : Lib.index l [c] = -1 := by
      rcases index_one c l with ⟨h1, _⟩ | ⟨i, h1, h2, h3, h4⟩
      · exact h1
      · exfalso
        have e2 := cutL_none c l h
        rw [h3] at e2
        have := congrArg List.length e2
        simp at this
        exact absurd this (cutL_ne c _)
    unfold Lib.cut
    rw [e, if_neg (by omega), (cutFst_none c l h).1, (cutFst_none c l h).2]
    exact ⟨rfl, rfl⟩
theorem indexByte_pos (c : UInt8) (l : List UInt8) : Lib.indexByte l c = match posOf c l with | some e => (e : Int) | none => -1 := by
  by_cases h : c ∈ l
  · obtain ⟨a, b, rfl, ha⟩ := cut_first c l h
    rw [posOf_append c a b ha]
    have hg := Lib.indexByte_ge (a ++ c :: b) c
    by_cases h1 : Lib.indexByte (a ++ c :: b) c = -1
    · exact absurd (by simp) (Lib.indexByte_none h1 a.length)
    · obtain ⟨o, ho⟩ := Int.eq_ofNat_of_zero_le (show 0 ≤ Lib.indexByte (a ++ c :: b) c by omega)
      obtain ⟨s1, s2⟩ := Lib.indexByte_some ho
      have : o = a.length := by
        rcases Nat.lt_trichotomy o a.length with q | q | q
        · rw [List.getElem?_append_left q] at s1
          exact absurd (List.mem_of_getElem? s1) ha
        · exact q
        · exact absurd (by simp) (s2 a.length q)
      rw [ho, this]
  · have e : posOf c l = none := by unfold posOf; rw [if_neg h]
    rw [e]
    by_cases h1 : Lib.indexByte l c = -1
    · exact h1
    · have hg := Lib.indexByte_ge l c
      obtain ⟨o, ho⟩ := Int.eq_ofNat_of_zero_le (show 0 ≤ Lib.indexByte l c by omega)
      exact absurd (List.mem_of_getElem? (Lib.indexByte_some ho).1) h

theorem cut_any' (l : List UInt8) (c : UInt8) (w : World) (hs : l.length < 4294967281) (hE : Env w) :
    Calls Tryz.prog 96 #[str l, .string ⟨#[c]⟩] w fun e w' => e = .returned (.tuple #[str (cutFst c l), str (cutSnd c l), .bool (Lib.cut l [c]).2.2]) ∧ Ext w w' := by
  obtain ⟨m, hm⟩ := hE.mx
  refine (Tryz.strings_Cut ⟨l.toArray⟩ ⟨#[c]⟩ m w (by simpa [ByteArray.size] using hs) hm).mono ?_
  rintro e w' ⟨rfl, n, rfl⟩
  obtain ⟨c1, c2⟩ := libCut c l
  refine ⟨?_, (Ext.refl _).drewN _⟩
  show Ending.returned (.tuple #[.string ⟨(Lib.cut l [c]).1.toArray⟩, .string ⟨(Lib.cut l [c]).2.1.toArray⟩, .bool (Lib.cut l [c]).2.2]) = _
  rw [c1, c2]

theorem entryText_len (n k a b : Int) : (entryText n k a b).length ≤ 200 := by
  by_cases h : entryText n k a b = []
  · rw [h]; simp
  · obtain ⟨h1, h2, ho, e⟩ := entryText_form h
    rw [e]
    have e1 := decDigits_len n.toNat (by omega)
    have e2 := deedText_len k a b
    have e3 := sum_len (Lib.decDigits n.toNat ++ [58] ++ deedText k a b)
    simp only [List.length_append, List.length_cons, List.length_nil] at e3 ⊢
    omega

/-- what ReadEntry returns -/
def reV : Option (Int × Deed3 × Nat) → Value
  | some (n, (k, a, b), m) => .tuple #[.int .i64 n, deedV k a b, .int .i64 m]
  | none => .tuple #[.int .i64 0, deedV 0 0 0, .int .i64 0]
def RetRe (o : Option (Int × Deed3 × Nat)) (w : World) (e : Ending) (w' : World) : Prop := e = .returned (reV o) ∧ Ext w w'

theorem extract_take (l : List UInt8) (n : Nat) : (((⟨l.toArray⟩ : ByteArray).extract 0 n).toList) = l.take n := by
  rw [Lib.toList_data, Lib.extract_data]; simp
theorem extract_str0 (l : List UInt8) (n : Nat) : Value.string ((⟨l.toArray⟩ : ByteArray).extract 0 n) = str (l.take n) := by
  rw [string_str, ← Lib.toList_data, extract_take]

end Go.Proofs.YteejdnmmpmcmeaaGreatDoor
