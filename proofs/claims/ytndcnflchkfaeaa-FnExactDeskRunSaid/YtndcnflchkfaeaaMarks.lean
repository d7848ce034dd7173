/-
  Marks: the numbers from K on, as cells. No condition; nothing of the program.
-/
import Derived.Test.YtndcnflchkfaeaaMem
namespace Go.Proofs.Ytndcnflchkfaeaa
open Go.RowKit
set_option linter.unusedVariables false
def marksFrom (K : Int) : Nat → List Value
  | 0 => []
  | m + 1 => marksFrom K m ++ [.int .i64 (K + m)]
theorem marksFrom_len (K : Int) (m : Nat) : (marksFrom K m).length = m := by induction m with | zero => rfl | succ m ih => simp [marksFrom, ih]
theorem marksFrom_get (K : Int) : ∀ (m j : Nat), j < m → (marksFrom K m)[j]? = some (.int .i64 (K + j)) := by
  intro m
  induction m with
  | zero => intro j h; omega
  | succ m ih =>
    intro j h
    by_cases hj : j < m
    · rw [marksFrom, List.getElem?_append_left (by rw [marksFrom_len]; exact hj)]; exact ih j hj
    · obtain rfl : j = m := by omega
      rw [marksFrom, List.getElem?_append_right (by rw [marksFrom_len]; omega), marksFrom_len]; simp
theorem marksFrom_1 (K : Int) (k : Nat) : marksFrom K ((k + 1) * 1) = marksFrom K (k * 1) ++ [.int .i64 (K + (k * 1 : Nat))] := by
  rw [Nat.succ_mul]; rfl
theorem marksFrom_3 (K : Int) (k : Nat) : marksFrom K ((k + 1) * 3) = marksFrom K (k * 3) ++ [.int .i64 (K + (k * 3 : Nat)), .int .i64 (K + (k * 3 : Nat) + 1), .int .i64 (K + (k * 3 : Nat) + 1 + 1)] := by
  have e1 : K + ((k * 3 + 1 : Nat) : Int) = K + (k * 3 : Nat) + 1 := by omega
  have e2 : K + ((k * 3 + 2 : Nat) : Int) = K + (k * 3 : Nat) + 1 + 1 := by omega
  rw [Nat.succ_mul]
  show marksFrom K (k * 3) ++ [.int .i64 (K + (k * 3 : Nat))] ++ [.int .i64 (K + ((k * 3 + 1 : Nat) : Int))] ++ [.int .i64 (K + ((k * 3 + 2 : Nat) : Int))] = _
  rw [e1, e2]
  simp only [List.append_assoc, List.cons_append, List.nil_append]
theorem marksFrom_4 (K : Int) (k : Nat) : marksFrom K ((k + 1) * 4) = marksFrom K (k * 4) ++ [.int .i64 (K + (k * 4 : Nat)), .int .i64 (K + (k * 4 : Nat) + 1), .int .i64 (K + (k * 4 : Nat) + 1 + 1), .int .i64 (K + (k * 4 : Nat) + 1 + 1 + 1)] := by
  have e1 : K + ((k * 4 + 1 : Nat) : Int) = K + (k * 4 : Nat) + 1 := by omega
  have e2 : K + ((k * 4 + 2 : Nat) : Int) = K + (k * 4 : Nat) + 1 + 1 := by omega
  have e3 : K + ((k * 4 + 3 : Nat) : Int) = K + (k * 4 : Nat) + 1 + 1 + 1 := by omega
  rw [Nat.succ_mul]
  show marksFrom K (k * 4) ++ [.int .i64 (K + (k * 4 : Nat))] ++ [.int .i64 (K + ((k * 4 + 1 : Nat) : Int))] ++ [.int .i64 (K + ((k * 4 + 2 : Nat) : Int))] ++ [.int .i64 (K + ((k * 4 + 3 : Nat) : Int))] = _
  rw [e1, e2, e3]
  simp only [List.append_assoc, List.cons_append, List.nil_append]
end Go.Proofs.Ytndcnflchkfaeaa
