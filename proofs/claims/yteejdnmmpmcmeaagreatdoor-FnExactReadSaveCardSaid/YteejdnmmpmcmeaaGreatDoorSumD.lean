/-
  The two functions SumOf return the fold 'sumL' of the text's bytes and write nothing. Conditions: the text has at most maxLen bytes.
-/
import Derived.Test.YteejdnmmpmcmeaaGreatDoorEnv
namespace Go.Proofs.YteejdnmmpmcmeaaGreatDoor
open Go.RowKit
set_option linter.unusedVariables false

def sumL (l : List UInt8) : Int := l.foldl (fun s c => (7 * s + (c.toNat : Int)) % 97) 1

theorem sumL_bd (l : List UInt8) : 0 ≤ sumL l ∧ sumL l < 97 := by
  unfold sumL
  have : ∀ (l : List UInt8) (s : Int), 0 ≤ s ∧ s < 97 → 0 ≤ l.foldl (fun s c => (7 * s + (c.toNat : Int)) % 97) s ∧ l.foldl (fun s c => (7 * s + (c.toNat : Int)) % 97) s < 97 := by
    intro l
    induction l with
    | nil => intro s h; exact h
    | cons c l ih => intro s h; simp only [List.foldl_cons]; apply ih; omega
  exact this l 1 (by omega)

theorem take_snoc (s : ByteArray) (k : Nat) (h : k < s.size) : s.data.toList.take (k + 1) = s.data.toList.take k ++ [s[k]] := by
  rw [List.take_succ_eq_append_getElem (by simpa using h)]; rfl
theorem sumL_snoc (l : List UInt8) (c : UInt8) : sumL (l ++ [c]) = (7 * sumL l + (c.toNat : Int)) % 97 := by
  unfold sumL; rw [List.foldl_append]; rfl

set_option maxHeartbeats 400000 in
theorem specSumOf (s : ByteArray) (w : World) (hs : s.size ≤ maxLen) :
    Calls Tryz.prog 107 #[.string s] w fun e w' => e = .returned (.int .i64 (sumL s.data.toList)) ∧ w = w' := by
  unfold maxLen at hs
  go_enter Tryz.func107, Tryz.ntmps107
  go_wp2
  go_loop [3, 4] (fun n i => ∃ k : Nat, k ≤ s.size ∧ i = .int .i64 k ∧ n = .int .i64 (sumL (s.data.toList.take k))) (fun _ i => s.size - (intOf i).toNat)
  case atStart => exact ⟨0, Nat.zero_le _, rfl, rfl⟩
  case round =>
    obtain ⟨k, hk, rfl, rfl⟩ := hrel
    have hd := sumL_bd (s.data.toList.take k)
    by_cases hlt : k < s.size
    · have hc : (s[k].toNat : Int) < 256 := by have := s[k].toNat_lt; omega
      have HS : Hid (sumL (s.data.toList.take (k + 1)) = (7 * sumL (s.data.toList.take k) + (s[k].toNat : Int)) % 97) := by rw [take_snoc s k hlt]; exact sumL_snoc _ _
      go_wp2
      go_round
      case rel => exact ⟨k + 1, by omega, by go_num, by rw [HS.out]⟩
      case measure => simp [intOf]; omega
    · go_wp2
      go_ret
      exact ⟨ret_int (by rw [List.take_of_length_le (by simp; omega)]), rfl⟩

set_option maxHeartbeats 400000 in
theorem implSumOf (s : ByteArray) (w : World) (hs : s.size ≤ maxLen) :
    Calls Tryz.prog 135 #[.string s] w fun e w' => e = .returned (.int .i64 (sumL s.data.toList)) ∧ w = w' := by
  unfold maxLen at hs
  go_enter Tryz.func135, Tryz.ntmps135
  go_wp2
  go_loop [3, 4] (fun n i => ∃ k : Nat, k ≤ s.size ∧ i = .int .i64 k ∧ n = .int .i64 (sumL (s.data.toList.take k))) (fun _ i => s.size - (intOf i).toNat)
  case atStart => exact ⟨0, Nat.zero_le _, rfl, rfl⟩
  case round =>
    obtain ⟨k, hk, rfl, rfl⟩ := hrel
    have hd := sumL_bd (s.data.toList.take k)
    by_cases hlt : k < s.size
    · have hc : (s[k].toNat : Int) < 256 := by have := s[k].toNat_lt; omega
      have HS : Hid (sumL (s.data.toList.take (k + 1)) = (7 * sumL (s.data.toList.take k) + (s[k].toNat : Int)) % 97) := by rw [take_snoc s k hlt]; exact sumL_snoc _ _
      go_wp2
      go_round
      case rel => exact ⟨k + 1, by omega, by go_num, by rw [HS.out]⟩
      case measure => simp [intOf]; omega
    · go_wp2
      go_ret
      exact ⟨ret_int (by rw [List.take_of_length_le (by simp; omega)]), rfl⟩

theorem specSumStr (l : List UInt8) (w : World) (hl : l.length ≤ maxLen) :
    Calls Tryz.prog 107 #[str l] w fun e w' => e = .returned (.int .i64 (sumL l)) ∧ w = w' := specSumOf ⟨l.toArray⟩ w (by simpa [ByteArray.size] using hl)
theorem implSumStr (l : List UInt8) (w : World) (hl : l.length ≤ maxLen) :
    Calls Tryz.prog 135 #[str l] w fun e w' => e = .returned (.int .i64 (sumL l)) ∧ w = w' := implSumOf ⟨l.toArray⟩ w (by simpa [ByteArray.size] using hl)
end Go.Proofs.YteejdnmmpmcmeaaGreatDoor
