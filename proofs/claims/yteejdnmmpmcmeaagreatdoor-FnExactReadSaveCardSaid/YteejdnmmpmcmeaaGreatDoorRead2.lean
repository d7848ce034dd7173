/-
  impl.readNumber returns the number that a text is ('readL'), and whether there is one. Condition: the text has at most maxLen bytes, at most five digits are asked.
-/
import Derived.Test.YteejdnmmpmcmeaaGreatDoorRead
namespace Go.Proofs.YteejdnmmpmcmeaaGreatDoor
open Go.RowKit
set_option linter.unusedVariables false

def digOk (l : List UInt8) : Bool := l.all isDig
def digVal0 (l : List UInt8) : Int := if l.all isDig then numL l else 0
theorem digVal0_yes {l : List UInt8} (h : l.all isDig = true) : digVal0 l = numL l := if_pos h
theorem digVal0_no {l : List UInt8} (h : l.all isDig = false) : digVal0 l = 0 := if_neg (by simp [h])
theorem ret_ib {a b : Int} {c d : Bool} (h : a = b) (k : c = d) : Ending.returned (.tuple #[.int .i64 a, .bool c]) = .returned (.tuple #[.int .i64 b, .bool d]) := by rw [h, k]

set_option maxRecDepth 100000 in
set_option maxHeartbeats 1000000 in
theorem readNumber_short (s : ByteArray) (m : Int) (w : World) (hm : 1 ≤ m ∧ m ≤ 5) (h : s.size < 1 ∨ 1 ≤ s.size ∧ m < (s.size : Int) ∧ s.size ≤ 9223372036854775807 ∨ 1 < s.size ∧ (s.size : Int) ≤ m ∧ ∀ h : 0 < s.size, ((s[0].toNat : Int) == 48) = true) :
    Calls Tryz.prog 97 #[.string s, .int .i64 m] w fun e w' => e = .returned (.tuple #[.int .i64 0, .bool false]) ∧ w = w' := by
  rcases h with h | ⟨h, h', h2⟩ | ⟨h, h', h0⟩
  · go_enter Tryz.func97, Tryz.ntmps97
    go_wp2
    go_ret2
    exact ⟨rfl, rfl⟩
  · go_enter Tryz.func97, Tryz.ntmps97
    go_wp2
    go_ret2
    exact ⟨rfl, rfl⟩
  · have hp : 0 < s.size := by omega
    have h00 := h0 hp
    clear h0
    go_enter Tryz.func97, Tryz.ntmps97
    go_wp2
    go_ret2
    exact ⟨rfl, rfl⟩

set_option maxRecDepth 100000 in
set_option maxHeartbeats 1000000 in
theorem readNumber_loop (s : ByteArray) (m : Int) (w : World) (hm : 1 ≤ m ∧ m ≤ 5) (h1 : 1 ≤ s.size) (h4 : (s.size : Int) ≤ m) (hz : s.size ≤ 1 ∨ 1 < s.size ∧ ∀ h : 0 < s.size, ((s[0].toNat : Int) == 48) = false) :
    Calls Tryz.prog 97 #[.string s, .int .i64 m] w fun e w' => e = .returned (.tuple #[.int .i64 (digVal0 s.data.toList), .bool (digOk s.data.toList)]) ∧ w = w' := by
  have hp : 0 < s.size := by omega
  rcases hz with hz | ⟨hz, h0⟩
  all_goals
    try (have h00 := h0 hp)
    try clear h0
    go_enter Tryz.func97, Tryz.ntmps97
    go_wp2
    go_loop [6, 7] (fun n i => ∃ k : Nat, k ≤ s.size ∧ i = .int .i64 k ∧ n = .int .i64 (numL (s.data.toList.take k)) ∧ (s.data.toList.take k).all isDig = true) (fun _ i => s.size - (intOf i).toNat)
    case atStart => exact ⟨0, Nat.zero_le _, rfl, rfl, by simp⟩
    case round =>
      obtain ⟨k, hk, rfl, rfl, had⟩ := hrel
      have hb := numL_bd5 _ had (by simp; omega)
      have HA := Lib.hid had
      clear had
      by_cases hlt : k < s.size
      · have HS : Hid (numL (s.data.toList.take (k + 1)) = numL (s.data.toList.take k) * 10 + ((s[k].toNat : Int) - 48)) := by rw [take_snoc s k hlt, numL_snoc]; show _ = _; omega
        rcases (show (s[k].toNat : Int) < 48 ∨ 48 ≤ (s[k].toNat : Int) ∧ 57 < (s[k].toNat : Int) ∨ 48 ≤ (s[k].toNat : Int) ∧ (s[k].toNat : Int) ≤ 57 by omega) with hc | ⟨hc0, hc⟩ | ⟨hc0, hc⟩
        · go_wp2
          go_ret2
          exact ⟨ret_ib (digVal0_no (not_all s k hlt (notDig_of (.inl hc)))).symm (not_all s k hlt (notDig_of (.inl hc))).symm, rfl⟩
        · go_wp2
          go_ret2
          exact ⟨ret_ib (digVal0_no (not_all s k hlt (notDig_of (.inr hc)))).symm (not_all s k hlt (notDig_of (.inr hc))).symm, rfl⟩
        · go_wp2
          go_round
          case rel => exact ⟨k + 1, by omega, by go_num, by rw [HS.out], all_take_snoc s k hlt HA.out (isDig_of hc0 hc)⟩
          case measure => simp [intOf]; omega
      · have e : s.data.toList.take k = s.data.toList := List.take_of_length_le (by simp; omega)
        have HE := Lib.hid e
        clear e
        go_wp2
        go_ret2
        exact ⟨ret_ib (by rw [digVal0_yes (by rw [← HE.out]; exact HA.out), HE.out]) (by rw [digOk, ← HE.out]; exact HA.out.symm), rfl⟩

/-- impl.readNumber -/
theorem readNumber_any (s : ByteArray) (m : Nat) (w : World) (hm : 1 ≤ m ∧ m ≤ 5) (hs : s.size ≤ maxLen) :
    Calls Tryz.prog 97 #[.string s, .int .i64 m] w fun e w' => e = .returned (.tuple #[.int .i64 ((readL m s.data.toList).getD 0), .bool (readL m s.data.toList).isSome]) ∧ w = w' := by
  unfold maxLen at hs
  by_cases h1 : s.size < 1
  · rw [readL_none_len (by rw [toList_length]; omega)]; exact readNumber_short s m w (by omega) (.inl h1)
  by_cases h4 : m < s.size
  · rw [readL_none_len (by rw [toList_length]; omega)]; exact readNumber_short s m w (by omega) (.inr (.inl ⟨by omega, by omega, hs⟩))
  by_cases h0 : 1 < s.size ∧ s.data.toList.head? = some 48
  · rw [readL_none_zero (by rw [toList_length]; omega) h0.2]; exact readNumber_short s m w (by omega) (.inr (.inr ⟨h0.1, by omega, fun h => (head_ne s h).1 h0.2⟩))
  · refine (readNumber_loop s m w (by omega) (by omega) (by omega) ?_).mono ?_
    · by_cases hq : s.size ≤ 1
      · exact .inl hq
      · refine .inr ⟨by omega, fun h => ?_⟩
        rw [← Bool.not_eq_true, ← head_ne s h]
        intro e; exact h0 ⟨by omega, e⟩
    · rintro e w' ⟨rfl, rfl⟩
      cases ha : s.data.toList.all isDig with
      | true =>
        rw [digVal0_yes ha, readL_some (by rw [toList_length]; omega) (by rw [toList_length]; omega) (by rw [toList_length]; by_cases hq : s.size ≤ 1; exact .inl hq; exact .inr (fun e => h0 ⟨by omega, e⟩)) ha, digOk, ha]
        exact ⟨rfl, rfl⟩
      | false => rw [digVal0_no ha, readL_none_dig ha, digOk, ha]; exact ⟨rfl, rfl⟩
end Go.Proofs.YteejdnmmpmcmeaaGreatDoor
