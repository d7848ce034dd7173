/-
  Both functions ReadJournal return the deeds 'rj' of the entries with which a text begins, in a slice of their own. Conditions: the text has at most 2^31 bytes; the library's table is laid.
-/
import Derived.Test.YtncfnlocdlhagaaDoorSpecEntry
import Derived.Test.YtncfnlocdlhagaaDoorSlDeed2
namespace Go.Proofs.YtncfnlocdlhagaaDoor
open Go.RowKit
set_option linter.unusedVariables false

def rjGo : Nat → Int → List UInt8 → List Deed3 × Nat
  | 0, _, _ => ([], 0)
  | f + 1, first, l => match readEntry l with
    | none => ([], 0)
    | some (n, d, m) => if n = first then (d :: (rjGo f (first + 1) (l.drop m)).1, m + (rjGo f (first + 1) (l.drop m)).2) else ([], 0)
/-- the deeds of the entries with which a text begins, and how many bytes these have -/
def rj (first : Int) (l : List UInt8) : List Deed3 × Nat := rjGo l.length first l

theorem readEntry_pos {l : List UInt8} {n : Int} {d : Deed3} {m : Nat} (h : readEntry l = some (n, d, m)) : 0 < m ∧ m ≤ l.length ∧ 1 ≤ n ∧ n ≤ 99 := by
  obtain ⟨k, a, b⟩ := d
  obtain ⟨h1, h2, h3⟩ := readEntry_some h
  obtain ⟨q1, q2, _⟩ := entryText_form h1
  have := congrArg List.length h2
  rw [List.length_append] at this
  have hp : (entryText n k a b).length ≠ 0 := fun e => h1 (List.eq_nil_of_length_eq_zero e)
  omega
theorem readEntry_nil : readEntry [] = none := by
  cases h : readEntry [] with
  | none => rfl
  | some x => obtain ⟨n, d, m⟩ := x; have := readEntry_pos h; simp at this; omega
theorem rjGo_fuel : ∀ (f g : Nat) (first : Int) (l : List UInt8), l.length ≤ f → l.length ≤ g → rjGo f first l = rjGo g first l := by
  intro f
  induction f with
  | zero =>
    intro g first l hf hg
    obtain rfl : l = [] := List.eq_nil_of_length_eq_zero (by omega)
    cases g with
    | zero => rfl
    | succ g => simp [rjGo, readEntry_nil]
  | succ f ih =>
    intro g first l hf hg
    cases g with
    | zero =>
      obtain rfl : l = [] := List.eq_nil_of_length_eq_zero (by omega)
      simp [rjGo, readEntry_nil]
    | succ g =>
      simp only [rjGo]
      cases h : readEntry l with
      | none => rfl
      | some x =>
        obtain ⟨n, d, m⟩ := x
        obtain ⟨h1, h2, _⟩ := readEntry_pos h
        simp only
        rw [ih g (first + 1) (l.drop m) (by simp; omega) (by simp; omega)]
theorem rj_none {first : Int} {l : List UInt8} (h : readEntry l = none) : rj first l = ([], 0) := by
  unfold rj
  cases l with
  | nil => rfl
  | cons x xs => simp [rjGo, h]
theorem rj_other {first n : Int} {l : List UInt8} {d : Deed3} {m : Nat} (h : readEntry l = some (n, d, m)) (hn : n ≠ first) : rj first l = ([], 0) := by
  unfold rj
  cases l with
  | nil => rw [readEntry_nil] at h; simp at h
  | cons x xs => simp [rjGo, h, hn]
theorem rj_step {first : Int} {l : List UInt8} {d : Deed3} {m : Nat} (h : readEntry l = some (first, d, m)) : rj first l = (d :: (rj (first + 1) (l.drop m)).1, m + (rj (first + 1) (l.drop m)).2) := by
  obtain ⟨h1, h2, _⟩ := readEntry_pos h
  have e : rj first l = rjGo ((l.length - 1) + 1) first l := by unfold rj; congr 1; omega
  rw [e]
  simp only [rjGo, h, if_true]
  have e2 : rjGo (l.length - 1) (first + 1) (l.drop m) = rj (first + 1) (l.drop m) := rjGo_fuel _ _ _ _ (by simp; omega) (by simp)
  rw [e2]

theorem cells_new3 (w : World) (a b c : Value) (t : TypeId) : ∀ j u, [a, b, c][j]? = some u → (w.alloc (.cells #[a, b, c] t)).cell? ((⟨w.heap.size, 0, none⟩ : Addr).add j) = some u := by
  intro j u h
  rw [addr_add, Nat.zero_add]
  match j, h with
  | 0, h => simp at h; subst h; simp
  | 1, h => simp at h; subst h; simp
  | 2, h => simp at h; subst h; simp
end Go.Proofs.YtncfnlocdlhagaaDoor
