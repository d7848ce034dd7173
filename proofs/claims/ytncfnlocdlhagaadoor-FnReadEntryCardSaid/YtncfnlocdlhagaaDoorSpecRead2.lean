/-
  spec.ReadDeed at every text returns the same deed. Condition: the text has at most 2^40 bytes.
-/
import Derived.Test.YtncfnlocdlhagaaDoorSpecRead
namespace Go.Proofs.YtncfnlocdlhagaaDoor
open Go.RowKit
set_option linter.unusedVariables false

theorem l1Read_str (q : List UInt8) (hq : q.length ≤ maxLen) (w : World) : Calls Tryd.prog 43 #[str q] w fun e w' => e = .returned (.int .i64 ((readL 4 q).getD (-1))) ∧ w = w' :=
  l1Read_any ⟨q.toArray⟩ w (by simpa [ByteArray.size] using hq)

theorem specRead_val (l : List UInt8) (d : Int × Int × Int) (h : specParse (cutL 32 l) = d) : specRead l = if l ≠ [] ∧ deedText d.1 d.2.1 d.2.2 = l then some d else none := by
  unfold specRead; rw [h]

theorem specReadDeed (l : List UInt8) (w : World) (hs : l.length ≤ 1099511627776) : Calls Tryd.prog 44 #[str l] w (RetRd (readDeed l) w) := by
  rw [← specRead_eq]
  have hS : ∀ w, Calls Tryd.prog 42 #[str l, .int .u8 32] w fun e w' => ∃ v, e = .returned v ∧ w'.ownsRow w.heap.size 9 1 v (cutL 32 l).length (strs (cutL 32 l)) ∧ Ext w w' :=
    fun w => l1Cut_any ⟨l.toArray⟩ 32 32 rfl w (by simpa [ByteArray.size] using hs)
  have hlen := cutL_len 32 l
  have hlen2 : (cutL 32 l).length ≤ 1099511627777 := by omega
  have hq4 : ∀ q ∈ cutL 32 l, Hid (∀ w, Calls Tryd.prog 43 #[str q] w fun e w' => e = .returned (.int .i64 ((readL 4 q).getD (-1))) ∧ w = w') :=
    fun q hq w => l1Read_str q (by have := hlen.1 q hq; unfold maxLen; omega) w
  have hD : ∀ k a b, Hid (∀ w, Calls Tryd.prog 80 #[deedV k a b] w fun e w' => e = .returned (str (deedText k a b)) ∧ Ext w w') := fun k a b w => specDeed k a b w
  have hemp : l = [] ∨ l ≠ [] := by by_cases h : l = [] <;> simp [h]
  rcases hc : cutL 32 l with _ | ⟨p, _ | ⟨q, _ | ⟨r, rest⟩⟩⟩
  · exact absurd hc (cutL_ne 32 l)
  · rw [specRead_val l (kdOf p 5, 0, 0) (by rw [hc, kdOf_five]; rfl)]
    rw [hc] at hS hq4
    rcases hemp with h0 | h0
    · rw [if_neg (by simp [h0])]
      exact specRead1_emp l w [p] 1 p _ rfl (by omega) (by omega) rfl hS (by simp [h0]) (hD _ _ _)
    · by_cases ht : deedText (kdOf p 5) 0 0 = l
      · rw [if_pos ⟨h0, ht⟩]
        exact specRead1_ok l w [p] 1 p _ rfl (by omega) (by omega) rfl hS (by simp [h0]) (by simpa using ht) (hD _ _ _)
      · rw [if_neg (by simp [ht])]
        exact specRead1_no l w [p] 1 p _ rfl (by omega) (by omega) rfl hS (by simp [h0]) (by simpa using ht) (hD _ _ _)
  · rw [specRead_val l (kdOf p 5, (readL 4 q).getD (-1), 0) (by rw [hc, kdOf_five]; rfl)]
    rw [hc] at hS hq4
    rcases hemp with h0 | h0
    · rw [if_neg (by simp [h0])]
      exact specRead2_emp l w [p, q] 2 p q _ _ rfl (by omega) (by omega) rfl rfl hS (hq4 q (by simp)) (by simp [h0]) (hD _ _ _)
    · by_cases ht : deedText (kdOf p 5) ((readL 4 q).getD (-1)) 0 = l
      · rw [if_pos ⟨h0, ht⟩]
        exact specRead2_ok l w [p, q] 2 p q _ _ rfl (by omega) (by omega) rfl rfl hS (hq4 q (by simp)) (by simp [h0]) (by simpa using ht) (hD _ _ _)
      · rw [if_neg (by simp [ht])]
        exact specRead2_no l w [p, q] 2 p q _ _ rfl (by omega) (by omega) rfl rfl hS (hq4 q (by simp)) (by simp [h0]) (by simpa using ht) (hD _ _ _)
  · rw [specRead_val l (kdOf p 5, (readL 4 q).getD (-1), (readL 4 r).getD (-1)) (by rw [hc, kdOf_five]; rfl)]
    rw [hc] at hS hq4 hlen2
    rcases hemp with h0 | h0
    · rw [if_neg (by simp [h0])]
      exact specRead3_emp l w (p :: q :: r :: rest) _ p q r _ _ _ (by simp) (by simp) hlen2 rfl rfl rfl hS (hq4 q (by simp)) (hq4 r (by simp)) (by simp [h0]) (hD _ _ _)
    · by_cases ht : deedText (kdOf p 5) ((readL 4 q).getD (-1)) ((readL 4 r).getD (-1)) = l
      · rw [if_pos ⟨h0, ht⟩]
        exact specRead3_ok l w (p :: q :: r :: rest) _ p q r _ _ _ (by simp) (by simp) hlen2 rfl rfl rfl hS (hq4 q (by simp)) (hq4 r (by simp)) (by simp [h0]) (by simpa using ht) (hD _ _ _)
      · rw [if_neg (by simp [ht])]
        exact specRead3_no l w (p :: q :: r :: rest) _ p q r _ _ _ (by simp) (by simp) hlen2 rfl rfl rfl hS (hq4 q (by simp)) (hq4 r (by simp)) (by simp [h0]) (by simpa using ht) (hD _ _ _)
end Go.Proofs.YtncfnlocdlhagaaDoor
