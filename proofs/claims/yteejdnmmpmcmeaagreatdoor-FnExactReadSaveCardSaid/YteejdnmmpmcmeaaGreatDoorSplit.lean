/-
  strings.Split at one byte returns the parts 'cutL' of a text in a slice of its own; strings.Cut and strings.IndexByte in the same words. Condition: the text is shorter than 2^32 - 15 bytes.
-/
import Derived.Test.YteejdnmmpmcmeaaGreatDoorCut
import Derived.Lib.SplitLaws
import Derived.Lib.CountLaws
namespace Go.Proofs.YteejdnmmpmcmeaaGreatDoor
open Go.RowKit
set_option linter.unusedVariables false

theorem index_one (c : UInt8) : ∀ l : List UInt8, (Lib.index l [c] = -1 ∧ cutL c l = [l] ∧ c ∉ l) ∨ ∃ i : Nat, Lib.index l [c] = i ∧ i < l.length ∧ cutL c l = l.take i :: cutL c (l.drop (i + 1)) ∧ c ∉ l.take i := by
  intro l
  induction l with
  | nil => exact .inl ⟨rfl, rfl, by simp⟩
  | cons b l ih =>
    by_cases hb : b = c
    · subst hb
      refine .inr ⟨0, ?_, by simp, by simp [cutL], by simp⟩
      unfold Lib.index
      rw [if_pos (by simp [List.isPrefixOf])]; rfl
    · have hp : ([c] : List UInt8).isPrefixOf (b :: l) = false := by simp [List.isPrefixOf]; exact fun e => hb e.symm
      rcases ih with ⟨h1, h2, h3⟩ | ⟨i, h1, h2, h3, h4⟩
      · refine .inl ⟨?_, ?_, ?_⟩
        · unfold Lib.index; rw [hp, h1]; rfl
        · unfold cutL; rw [if_neg hb, h2]
        · simp [h3]; exact fun e => hb e.symm
      · refine .inr ⟨i + 1, ?_, by simp; omega, ?_, ?_⟩
        · unfold Lib.index; rw [hp, h1]
          simp only [Bool.false_eq_true, if_false]
          rw [if_neg (by simp)]; rfl
        · have e : cutL c (b :: l) = match cutL c l with | [] => [[b]] | p :: ps => (b :: p) :: ps := by
            rw [cutL, if_neg hb]; rfl
          rw [e, h3]; rfl
        · simp [h4]; exact fun e => hb e.symm

theorem split_cut (c : UInt8) : ∀ (k : Nat) (s : ByteArray), Lib.countB s ⟨#[c]⟩ = k → (Lib.splitB ⟨#[c]⟩ 0 k s).map (fun b => b.data.toList) = cutL c s.data.toList := by
  intro k
  induction k with
  | zero =>
    intro s hk
    rw [Lib.splitB_zero]
    rcases index_one c s.data.toList with ⟨h1, h2, h3⟩ | ⟨i, h1, h2, h3, h4⟩
    · rw [h2]; rfl
    · have := Lib.countB_hit s ⟨#[c]⟩ i (Nat.le_refl 1) h1
      omega
  | succ k ih =>
    intro s hk
    rcases index_one c s.data.toList with ⟨h1, h2, h3⟩ | ⟨i, h1, h2, h3, h4⟩
    · have := Lib.countB_miss s ⟨#[c]⟩ h1
      omega
    · have hc := Lib.countB_hit s ⟨#[c]⟩ i (Nat.le_refl 1) h1
      have hr := ih (s.extract (i + 1) s.size) (by
        have e : s.extract (i + 1) s.size = s.extract (i + (⟨#[c]⟩ : ByteArray).size) s.size := rfl
        rw [e]; omega)
      rw [Lib.splitB_hit ⟨#[c]⟩ 0 k s i h1, List.map_cons]
      have e2 : s.extract (i + (⟨#[c]⟩ : ByteArray).size) s.size = s.extract (i + 1) s.size := rfl
      rw [e2, hr, h3]
      congr 1
      · rw [Lib.extract_data]; simp
      · congr 1
        rw [Lib.extract_data]
        rw [List.take_of_length_le (by simp)]

theorem string_str (b : ByteArray) : Value.string b = str b.data.toList := rfl

/-- strings.Split at a separator of one byte -/
theorem split_any (s : ByteArray) (c : UInt8) (w : World) (hs : s.size < 4294967281) (hE : Env w) :
    Calls Tryz.prog 85 #[.string s, .string ⟨#[c]⟩] w fun e w' => ∃ v, e = .returned v ∧ w'.ownsRow w.heap.size 9 1 v (cutL c s.data.toList).length (strs (cutL c s.data.toList)) ∧ Ext w w' := by
  obtain ⟨m, hm⟩ := hE.mx
  refine (Tryz.strings_Split s ⟨#[c]⟩ m w hs hm (Nat.le_refl 1)).mono ?_
  rintro e w' ⟨rfl, rfl⟩
  have hq := split_cut c _ s rfl
  have hl : (cutL c s.data.toList).length = Lib.countB s ⟨#[c]⟩ + 1 := by
    rw [← hq, List.length_map]; exact Lib.splitB_all ⟨#[c]⟩ (Nat.le_refl 1) 0 _ s rfl
  have hv : (Lib.splitB ⟨#[c]⟩ 0 (Lib.countB s ⟨#[c]⟩) s).map Value.string = strs (cutL c s.data.toList) := by
    rw [← hq, strs, List.map_map]; rfl
  refine ⟨_, rfl, ?_, (Ext.refl _).alloc _⟩
  rw [hv, ← hl]
  have := Lib.countB_le ⟨#[c]⟩ (Nat.le_refl 1) _ s (Nat.le_refl _)
  have h2 := World.ownsRow_lit (e := 9) (size := 1) (base := w.heap.size) w (strs (cutL c s.data.toList)).toArray (cutL c s.data.toList).length (Nat.le_refl _) (by unfold maxLen; omega) (by simp [strs])
  simpa using h2
end Go.Proofs.YteejdnmmpmcmeaaGreatDoor
