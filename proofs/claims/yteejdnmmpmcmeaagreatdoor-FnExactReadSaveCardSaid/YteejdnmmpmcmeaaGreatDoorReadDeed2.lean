/-
  impl.ReadDeed at every text. Conditions: the text is shorter than 2^32 - 15 bytes, the library's table is laid.
-/
import Derived.Test.YteejdnmmpmcmeaaGreatDoorReadDeed
namespace Go.Proofs.YteejdnmmpmcmeaaGreatDoor
open Go.RowKit
set_option linter.unusedVariables false

theorem cutL_len (c : UInt8) : ∀ (l : List UInt8), (∀ p ∈ cutL c l, p.length ≤ l.length) ∧ (cutL c l).length ≤ l.length + 1 := by
  intro l
  induction l with
  | nil => simp [cutL]
  | cons x xs ih =>
    by_cases h : x = c
    · have e : cutL c (x :: xs) = [] :: cutL c xs := by rw [cutL, if_pos h]
      rw [e]
      refine ⟨fun p hp => ?_, by simp; exact ih.2⟩
      rcases List.mem_cons.1 hp with rfl | hp
      · simp
      · have := ih.1 p hp; simp; omega
    · have e : cutL c (x :: xs) = match cutL c xs with | [] => [[x]] | p :: ps => (x :: p) :: ps := by rw [cutL, if_neg h]; rfl
      rw [e]
      cases hq : cutL c xs with
      | nil => exact absurd hq (cutL_ne c xs)
      | cons q qs =>
        rw [hq] at ih
        refine ⟨fun p hp => ?_, by have := ih.2; simp at this ⊢; omega⟩
        rcases List.mem_cons.1 hp with rfl | hp
        · have := ih.1 q (by simp); simp; omega
        · have := ih.1 p (by simp [hp]); simp; omega

theorem kindOf_none {p : List UInt8} (h : kindOf p = none) : (p == [105, 110]) = false ∧ (p == [112, 97, 121]) = false ∧ (p == [111, 117, 116]) = false ∧ (p == [119, 97, 105, 116]) = false ∧ (p == [115, 108, 105, 100, 101]) = false := by
  unfold kindOf at h
  repeat' split at h
  all_goals simp_all
theorem kindOf_cases {p : List UInt8} {k : Int} (h : kindOf p = some k) : p = [105, 110] ∧ k = 0 ∨ p = [112, 97, 121] ∧ k = 1 ∨ p = [111, 117, 116] ∧ k = 2 ∨ p = [119, 97, 105, 116] ∧ k = 3 ∨ p = [115, 108, 105, 100, 101] ∧ k = 4 := by
  unfold kindOf at h
  repeat' split at h
  all_goals simp_all

theorem readNum_str (q : List UInt8) (m : Nat) (hm : 1 ≤ m ∧ m ≤ 5) (hq : q.length ≤ maxLen) (w : World) : Calls Tryz.prog 97 #[str q, .int .i64 m] w fun e w' => e = .returned (.tuple #[.int .i64 ((readL m q).getD 0), .bool (readL m q).isSome]) ∧ w = w' :=
  readNumber_any ⟨q.toArray⟩ m w hm (by simpa [ByteArray.size] using hq)

end Go.Proofs.YteejdnmmpmcmeaaGreatDoor
