/-
  spec.l1Read and impl.readNumber return the number that a text is ('readL'). Condition: the text has at most maxLen bytes.
-/
import Derived.Test.YteejdnmmpmcmeaaGreatDoorSumD
namespace Go.Proofs.YteejdnmmpmcmeaaGreatDoor
open Go.RowKit
set_option linter.unusedVariables false

def isDig (c : UInt8) : Bool := decide (48 ≤ (c.toNat : Int) ∧ (c.toNat : Int) ≤ 57)
def numL (l : List UInt8) : Int := l.foldl (fun n c => 10 * n + ((c.toNat : Int) - 48)) 0
def readL (m : Nat) (l : List UInt8) : Option Int :=
  if 1 ≤ l.length ∧ l.length ≤ m ∧ (l.length ≤ 1 ∨ l.head? ≠ some 48) ∧ l.all isDig = true then some (numL l) else none

theorem numL_snoc (l : List UInt8) (c : UInt8) : numL (l ++ [c]) = 10 * numL l + ((c.toNat : Int) - 48) := by
  unfold numL; rw [List.foldl_append]; rfl
theorem numL_bd5 (l : List UInt8) (h : l.all isDig = true) (hl : l.length ≤ 5) : 0 ≤ numL l ∧ numL l ≤ 99999 := by
  match l, hl with
  | [], _ => simp [numL]
  | [a], _ => simp [numL, isDig] at h ⊢; omega
  | [a, b], _ => simp [numL, isDig] at h ⊢; omega
  | [a, b, c], _ => simp [numL, isDig] at h ⊢; omega
  | [a, b, c, d], _ => simp [numL, isDig] at h ⊢; omega
  | [a, b, c, d, e], _ => simp [numL, isDig] at h ⊢; omega
  | _ :: _ :: _ :: _ :: _ :: _ :: _, hl => simp at hl

theorem all_take_snoc (s : ByteArray) (k : Nat) (h : k < s.size) (ha : (s.data.toList.take k).all isDig = true) (hc : isDig s[k] = true) : (s.data.toList.take (k + 1)).all isDig = true := by
  rw [take_snoc s k h]; simp [ha, hc]
theorem not_all (s : ByteArray) (k : Nat) (h : k < s.size) (hc : isDig s[k] = false) : s.data.toList.all isDig = false := by
  rw [List.all_eq_false]
  exact ⟨s[k], by rw [Array.mem_toList_iff]; exact Array.getElem_mem (xs := s.data) (i := k) h, by simp [hc]⟩
theorem head_size (s : ByteArray) (h : 0 < s.size) : s.data.toList.head? = some s[0] := by
  obtain ⟨⟨l⟩⟩ := s
  cases l with
  | nil => simp [ByteArray.size] at h
  | cons a l => rfl

theorem readL_none_len {m : Nat} {l : List UInt8} (h : l.length < 1 ∨ m < l.length) : readL m l = none := by
  unfold readL; rw [if_neg]; omega
theorem readL_none_zero {m : Nat} {l : List UInt8} (h : 1 < l.length) (h0 : l.head? = some 48) : readL m l = none := by
  unfold readL; rw [if_neg]; rintro ⟨_, _, h1 | h1, _⟩
  · omega
  · exact h1 h0
theorem readL_none_dig {m : Nat} {l : List UInt8} (h : l.all isDig = false) : readL m l = none := by
  unfold readL; rw [if_neg]; simp [h]

theorem readL_some {m : Nat} {l : List UInt8} (h1 : 1 ≤ l.length) (h2 : l.length ≤ m) (h3 : l.length ≤ 1 ∨ l.head? ≠ some 48) (h4 : l.all isDig = true) : readL m l = some (numL l) := by
  unfold readL; rw [if_pos ⟨h1, h2, h3, h4⟩]

theorem isDig_of {c : UInt8} (h0 : 48 ≤ (c.toNat : Int)) (h1 : (c.toNat : Int) ≤ 57) : isDig c = true := by simp [isDig]; omega
theorem notDig_of {c : UInt8} (h : (c.toNat : Int) < 48 ∨ 57 < (c.toNat : Int)) : isDig c = false := by simp [isDig]; omega

def digVal (l : List UInt8) : Int := if l.all isDig then numL l else -1
theorem digVal_yes {l : List UInt8} (h : l.all isDig = true) : digVal l = numL l := if_pos h
theorem digVal_no {l : List UInt8} (h : l.all isDig = false) : digVal l = -1 := if_neg (by simp [h])

set_option maxRecDepth 100000 in
set_option maxHeartbeats 1000000 in
theorem l1Read_short (s : ByteArray) (w : World) (h : s.size < 1 ∨ 4 < s.size ∧ s.size ≤ 9223372036854775807 ∨ 1 < s.size ∧ s.size ≤ 4 ∧ ∀ h : 0 < s.size, ((s[0].toNat : Int) == 48) = true) :
    Calls Tryz.prog 95 #[.string s] w fun e w' => e = .returned (.int .i64 (-1)) ∧ w = w' := by
  rcases h with h | ⟨h, h'⟩ | ⟨h, h', h0⟩
  · go_enter Tryz.func95, Tryz.ntmps95
    go_wp2
    go_ret
    exact ⟨rfl, rfl⟩
  · go_enter Tryz.func95, Tryz.ntmps95
    go_wp2
    go_ret
    exact ⟨rfl, rfl⟩
  · have hp : 0 < s.size := by omega
    have h00 := h0 hp
    clear h0
    go_enter Tryz.func95, Tryz.ntmps95
    go_wp2
    go_ret
    exact ⟨rfl, rfl⟩

set_option maxRecDepth 100000 in
set_option maxHeartbeats 1000000 in
theorem l1Read_loop (s : ByteArray) (w : World) (h1 : 1 ≤ s.size) (h4 : s.size ≤ 4) (hz : s.size ≤ 1 ∨ 1 < s.size ∧ ∀ h : 0 < s.size, ((s[0].toNat : Int) == 48) = false) :
    Calls Tryz.prog 95 #[.string s] w fun e w' => e = .returned (.int .i64 (digVal s.data.toList)) ∧ w = w' := by
  have hp : 0 < s.size := by omega
  rcases hz with hz | ⟨hz, h0⟩
  all_goals
    try (have h00 := h0 hp)
    try clear h0
    go_enter Tryz.func95, Tryz.ntmps95
    go_wp2
    go_loop [3, 4] (fun n i => ∃ k : Nat, k ≤ s.size ∧ i = .int .i64 k ∧ n = .int .i64 (numL (s.data.toList.take k)) ∧ (s.data.toList.take k).all isDig = true) (fun _ i => s.size - (intOf i).toNat)
    case atStart => exact ⟨0, Nat.zero_le _, rfl, rfl, by simp⟩
    case round =>
      obtain ⟨k, hk, rfl, rfl, had⟩ := hrel
      have hb := numL_bd5 _ had (by simp; omega)
      have HA := Lib.hid had
      clear had
      by_cases hlt : k < s.size
      · have HS : Hid (numL (s.data.toList.take (k + 1)) = 10 * numL (s.data.toList.take k) + ((s[k].toNat : Int) - 48)) := by rw [take_snoc s k hlt]; exact numL_snoc _ _
        rcases (show (s[k].toNat : Int) < 48 ∨ 48 ≤ (s[k].toNat : Int) ∧ 57 < (s[k].toNat : Int) ∨ 48 ≤ (s[k].toNat : Int) ∧ (s[k].toNat : Int) ≤ 57 by omega) with hc | ⟨hc0, hc⟩ | ⟨hc0, hc⟩
        · go_wp2
          go_ret
          exact ⟨ret_int (digVal_no (not_all s k hlt (notDig_of (.inl hc)))).symm, rfl⟩
        · go_wp2
          go_ret
          exact ⟨ret_int (digVal_no (not_all s k hlt (notDig_of (.inr hc)))).symm, rfl⟩
        · go_wp2
          go_round
          case rel => exact ⟨k + 1, by omega, by go_num, by rw [HS.out], all_take_snoc s k hlt HA.out (isDig_of hc0 hc)⟩
          case measure => simp [intOf]; omega
      · have e : s.data.toList.take k = s.data.toList := List.take_of_length_le (by simp; omega)
        have HE := Lib.hid e
        clear e
        go_wp2
        go_ret
        exact ⟨ret_int (by rw [digVal_yes (by rw [← HE.out]; exact HA.out), HE.out]), rfl⟩

theorem head_ne (s : ByteArray) (h : 0 < s.size) : s.data.toList.head? = some 48 ↔ ((s[0].toNat : Int) == 48) = true := by
  rw [head_size s h]
  simp only [Option.some.injEq, beq_iff_eq]
  constructor
  · intro e; rw [e]; rfl
  · intro e; exact UInt8.toNat_inj.1 (by show _ = 48; omega)
theorem toList_length (s : ByteArray) : s.data.toList.length = s.size := by simp

/-- spec.l1Read -/
theorem l1Read_any (s : ByteArray) (w : World) (hs : s.size ≤ maxLen) :
    Calls Tryz.prog 95 #[.string s] w fun e w' => e = .returned (.int .i64 ((readL 4 s.data.toList).getD (-1))) ∧ w = w' := by
  unfold maxLen at hs
  by_cases h1 : s.size < 1
  · rw [readL_none_len (by rw [toList_length]; omega)]; exact l1Read_short s w (.inl h1)
  by_cases h4 : 4 < s.size
  · rw [readL_none_len (by rw [toList_length]; omega)]; exact l1Read_short s w (.inr (.inl ⟨h4, hs⟩))
  by_cases h0 : 1 < s.size ∧ s.data.toList.head? = some 48
  · rw [readL_none_zero (by rw [toList_length]; omega) h0.2]; exact l1Read_short s w (.inr (.inr ⟨h0.1, by omega, fun h => (head_ne s h).1 h0.2⟩))
  · refine (l1Read_loop s w (by omega) (by omega) ?_).mono ?_
    · by_cases hq : s.size ≤ 1
      · exact .inl hq
      · refine .inr ⟨by omega, fun h => ?_⟩
        rw [← Bool.not_eq_true, ← head_ne s h]
        intro e; exact h0 ⟨by omega, e⟩
    · rintro e w' ⟨rfl, rfl⟩
      refine ⟨ret_int ?_, rfl⟩
      cases ha : s.data.toList.all isDig with
      | true =>
        rw [digVal_yes ha, readL_some (by rw [toList_length]; omega) (by rw [toList_length]; omega) (by rw [toList_length]; by_cases hq : s.size ≤ 1; exact .inl hq; exact .inr (fun e => h0 ⟨by omega, e⟩)) ha]; rfl
      | false => rw [digVal_no ha, readL_none_dig ha]; rfl
end Go.Proofs.YteejdnmmpmcmeaaGreatDoor
