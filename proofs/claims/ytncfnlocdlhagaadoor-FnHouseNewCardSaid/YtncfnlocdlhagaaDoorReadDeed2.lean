/-
  impl.ReadDeed at every text. Conditions: the text is shorter than 2^32 - 15 bytes, the library's table is laid.
-/
import Derived.Test.YtncfnlocdlhagaaDoorReadDeed
namespace Go.Proofs.YtncfnlocdlhagaaDoor
open Go.RowKit
set_option linter.unusedVariables false

theorem cutL_len (c : UInt8) : ∀ (l : List UInt8), (∀ p ∈ cutL c l, p.length ≤ l.length) ∧ (cutL c l).length ≤ l.length + 1 := by
  intro l
  induction l with
  | nil => simp [cutL]
  | cons x xs ih =>
    by_cases h : x = c
    · have e : cutL c (x :: xs) = [] :: cutL c xs := by rw [cutL, if_pos h]
      rw [e]
      refine ⟨fun p hp => ?_, by simp; exact ih.2⟩
      rcases List.mem_cons.1 hp with rfl | hp
      · simp
      · have := ih.1 p hp; simp; omega
    · have e : cutL c (x :: xs) = match cutL c xs with | [] => [[x]] | p :: ps => (x :: p) :: ps := by rw [cutL, if_neg h]; rfl
      rw [e]
      cases hq : cutL c xs with
      | nil => exact absurd hq (cutL_ne c xs)
      | cons q qs =>
        rw [hq] at ih
        refine ⟨fun p hp => ?_, by have := ih.2; simp at this ⊢; omega⟩
        rcases List.mem_cons.1 hp with rfl | hp
        · have := ih.1 q (by simp); simp; omega
        · have := ih.1 p (by simp [hp]); simp; omega

theorem kindOf_none {p : List UInt8} (h : kindOf p = none) : (p == [105, 110]) = false ∧ (p == [112, 97, 121]) = false ∧ (p == [111, 117, 116]) = false ∧ (p == [119, 97, 105, 116]) = false ∧ (p == [115, 108, 105, 100, 101]) = false := by
  unfold kindOf at h
  repeat' split at h
  all_goals simp_all
theorem kindOf_cases {p : List UInt8} {k : Int} (h : kindOf p = some k) : p = [105, 110] ∧ k = 0 ∨ p = [112, 97, 121] ∧ k = 1 ∨ p = [111, 117, 116] ∧ k = 2 ∨ p = [119, 97, 105, 116] ∧ k = 3 ∨ p = [115, 108, 105, 100, 101] ∧ k = 4 := by
  unfold kindOf at h
  repeat' split at h
  all_goals simp_all

theorem readNum_str (q : List UInt8) (m : Nat) (hm : 1 ≤ m ∧ m ≤ 5) (hq : q.length ≤ maxLen) (w : World) : Calls Tryd.prog 40 #[str q, .int .i64 m] w fun e w' => e = .returned (.tuple #[.int .i64 ((readL m q).getD 0), .bool (readL m q).isSome]) ∧ w = w' :=
  readNumber_any ⟨q.toArray⟩ m w hm (by simpa [ByteArray.size] using hq)

/-- impl.ReadDeed -/
theorem implReadDeed (l : List UInt8) (w : World) (hs : l.length < 4294967281) (hE : Env w) : Calls Tryd.prog 41 #[str l] w (RetRd (readDeed l) w) := by
  have hS : ∀ w, Env w → Calls Tryd.prog 83 #[str l, .string ⟨#[32]⟩] w fun e w' => ∃ v, e = .returned v ∧ w'.ownsRow w.heap.size 9 1 v (cutL 32 l).length (strs (cutL 32 l)) ∧ Ext w w' :=
    fun w hE => split_any ⟨l.toArray⟩ 32 w (by simpa [ByteArray.size] using hs) hE
  have hlen := cutL_len 32 l
  have hq4 : ∀ q ∈ cutL 32 l, ∀ o, readL 4 q = o → Hid (∀ w, Calls Tryd.prog 40 #[str q, .int .i64 4] w fun e w' => e = .returned (.tuple #[.int .i64 (o.getD 0), .bool o.isSome]) ∧ w = w') := by
    intro q hq o ho w
    subst ho
    exact readNum_str q 4 (by omega) (by have := hlen.1 q hq; unfold maxLen; omega) w
  rcases hc : cutL 32 l with _ | ⟨p, _ | ⟨q, _ | ⟨r, _ | ⟨x, rest⟩⟩⟩⟩
  · exact absurd hc (cutL_ne 32 l)
  · rw [hc] at hS
    have e : readDeed l = none := by unfold readDeed; rw [hc]
    rw [e]
    exact implRead_len l w [p] (by simp) (.inl (by simp)) hS hE
  · rw [hc] at hS hq4
    cases hk : kindOf p with
    | none =>
      obtain ⟨n1, n2, n3, n4, n5⟩ := kindOf_none hk
      have e : readDeed l = none := by unfold readDeed; rw [hc]; simp [hk]
      rw [e]
      exact implRead_name2 l w p q n1 n2 n3 n4 n5 hS hE
    | some k =>
      cases hq : readL 4 q with
      | none =>
        have e : readDeed l = none := by unfold readDeed; rw [hc]; simp [hk, hq]
        rw [e]
        exact implRead_q2 l w p q k (kindOf_cases hk) hS hE (hq4 q (by simp) _ hq)
      | some a =>
        by_cases ht : deedText k a 0 = l
        · skip
          have e : readDeed l = some (k, a, 0) := by unfold readDeed; rw [hc]; simp [hk, hq, ht]
          rw [e]
          exact implRead_ok2 l w p q (deedText k a 0) k a (kindOf_cases hk) (by simp [ht]) hS hE (hq4 q (by simp) _ hq) (fun w h => implDeed k a 0 w h)
        · skip
          have e : readDeed l = none := by unfold readDeed; rw [hc]; simp [hk, hq, ht]
          rw [e]
          exact implRead_no2 l w p q (deedText k a 0) k a (kindOf_cases hk) (by simp [ht]) hS hE (hq4 q (by simp) _ hq) (fun w h => implDeed k a 0 w h)
  · rw [hc] at hS hq4
    cases hk : kindOf p with
    | none =>
      obtain ⟨n1, n2, n3, n4, n5⟩ := kindOf_none hk
      have e : readDeed l = none := by unfold readDeed; rw [hc]; simp [hk]
      rw [e]
      exact implRead_name3 l w p q r n1 n2 n3 n4 n5 hS hE
    | some k =>
      cases hq : readL 4 q with
      | none =>
        have e : readDeed l = none := by unfold readDeed; rw [hc]; simp [hk, hq]
        rw [e]
        exact implRead_q3 l w p q r k (kindOf_cases hk) hS hE (hq4 q (by simp) _ hq)
      | some a =>
        cases hr : readL 4 r with
        | none =>
          have e : readDeed l = none := by unfold readDeed; rw [hc]; simp [hk, hq, hr]
          rw [e]
          exact implRead_r3 l w p q r k a (kindOf_cases hk) hS hE (hq4 q (by simp) _ hq) (hq4 r (by simp) _ hr)
        | some b =>
          by_cases ht : deedText k a b = l
          · skip
            have e : readDeed l = some (k, a, b) := by unfold readDeed; rw [hc]; simp [hk, hq, hr, ht]
            rw [e]
            exact implRead_ok3 l w p q r (deedText k a b) k a b (kindOf_cases hk) (by simp [ht]) hS hE (hq4 q (by simp) _ hq) (hq4 r (by simp) _ hr) (fun w h => implDeed k a b w h)
          · skip
            have e : readDeed l = none := by unfold readDeed; rw [hc]; simp [hk, hq, hr, ht]
            rw [e]
            exact implRead_no3 l w p q r (deedText k a b) k a b (kindOf_cases hk) (by simp [ht]) hS hE (hq4 q (by simp) _ hq) (hq4 r (by simp) _ hr) (fun w h => implDeed k a b w h)
  · rw [hc] at hS
    have e : readDeed l = none := by unfold readDeed; rw [hc]
    rw [e]
    exact implRead_len l w (p :: q :: r :: x :: rest) (by simp) (.inr (by simp)) hS hE
end Go.Proofs.YtncfnlocdlhagaaDoor
