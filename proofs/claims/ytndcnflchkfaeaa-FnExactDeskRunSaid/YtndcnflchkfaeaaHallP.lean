/-
  Plain words on halls: which lists of cells make a valid hall. Nothing of the program.
-/
import Derived.Test.YtndcnflchkfaeaaSl
namespace Go.Proofs.Ytndcnflchkfaeaa
open Go.RowKit
set_option linter.unusedVariables false

/-- the cells that are left are fine behind those that were seen -/
def cellsOk : List Int → List Int → Bool
  | _, [] => true
  | seen, x :: xs => decide (0 ≤ x ∧ x ≤ 99) && !(decide (0 < x) && seen.contains x) && cellsOk (seen ++ [x]) xs
def shapeOk (wide deep : Int) (n : Nat) : Bool := decide (2 ≤ wide ∧ wide ≤ 4 ∧ 2 ≤ deep ∧ deep ≤ 3 ∧ (n : Int) = wide * deep)
def hallOk (wide deep : Int) (xs : List Int) : Bool := shapeOk wide deep xs.length && cellsOk [] xs

theorem cellsOk_cons (seen : List Int) (x : Int) (xs : List Int) : cellsOk seen (x :: xs) = (decide (0 ≤ x ∧ x ≤ 99) && !(decide (0 < x) && seen.contains x) && cellsOk (seen ++ [x]) xs) := rfl
theorem cellsOk_at {xs : List Int} {k : Nat} {x : Int} (h : xs[k]? = some x) : cellsOk (xs.take k) (xs.drop k) = (decide (0 ≤ x ∧ x ≤ 99) && !(decide (0 < x) && (xs.take k).contains x) && cellsOk (xs.take (k + 1)) (xs.drop (k + 1))) := by
  rw [drop_cons h, take_snocL h, cellsOk_cons]
theorem cellsOk_end {xs : List Int} {k : Nat} (h : xs.length ≤ k) : cellsOk (xs.take k) (xs.drop k) = true := by
  rw [List.drop_eq_nil_of_le h]; rfl
theorem cellsOk_iff : ∀ (xs seen : List Int), cellsOk seen xs = true ↔ (∀ x ∈ xs, 0 ≤ x ∧ x ≤ 99) ∧ (∀ x ∈ xs, 0 < x → x ∉ seen) ∧ (xs.filter (fun x => decide (0 < x))).Nodup := by
  intro xs
  induction xs with
  | nil => intro seen; simp [cellsOk]
  | cons x xs ih =>
    intro seen
    rw [cellsOk_cons, Bool.and_eq_true, Bool.and_eq_true, ih]
    simp only [decide_eq_true_eq, Bool.not_eq_true', Bool.and_eq_false_iff, decide_eq_false_iff_not, List.contains_eq_mem, List.mem_cons, List.mem_append, List.not_mem_nil, or_false]
    constructor
    · rintro ⟨⟨h1, h2⟩, h3, h4, h5⟩
      refine ⟨?_, ?_, ?_⟩
      · rintro y (rfl | hy)
        · exact h1
        · exact h3 y hy
      · rintro y (rfl | hy) h0
        · rcases h2 with h2 | h2
          · omega
          · exact h2
        · exact fun h => h4 y hy h0 (.inl h)
      · by_cases h0 : 0 < x
        · rw [List.filter_cons_of_pos (by simpa using h0), List.nodup_cons]
          refine ⟨fun hm => ?_, h5⟩
          have := List.mem_filter.1 hm
          exact h4 x this.1 h0 (.inr rfl)
        · rw [List.filter_cons_of_neg (by simpa using h0)]
          exact h5
    · rintro ⟨h1, h2, h3⟩
      refine ⟨⟨h1 x (.inl rfl), ?_⟩, fun y hy => h1 y (.inr hy), ?_, ?_⟩
      · by_cases h0 : 0 < x
        · exact .inr (h2 x (.inl rfl) h0)
        · exact .inl h0
      · intro y hy h0 h
        rcases h with h | rfl
        · exact h2 y (.inr hy) h0 h
        · rw [List.filter_cons_of_pos (by simpa using h0), List.nodup_cons] at h3
          exact h3.1 (List.mem_filter.2 ⟨hy, by simpa using h0⟩)
      · by_cases h0 : 0 < x
        · rw [List.filter_cons_of_pos (by simpa using h0), List.nodup_cons] at h3
          exact h3.2
        · rw [List.filter_cons_of_neg (by simpa using h0)] at h3
          exact h3

theorem shape_bd {wide deep : Int} {n : Nat} (h : shapeOk wide deep n = true) : 2 ≤ wide ∧ wide ≤ 4 ∧ 2 ≤ deep ∧ deep ≤ 3 ∧ 4 ≤ n ∧ n ≤ 12 ∧ (n : Int) = wide * deep := by
  simp only [shapeOk, decide_eq_true_eq] at h
  obtain ⟨h1, h2, h3, h4, h5⟩ := h
  have hw : wide = 2 ∨ wide = 3 ∨ wide = 4 := by omega
  have hd : deep = 2 ∨ deep = 3 := by omega
  refine ⟨h1, h2, h3, h4, ?_, ?_, h5⟩
  · rcases hw with rfl | rfl | rfl <;> rcases hd with rfl | rfl <;> omega
  · rcases hw with rfl | rfl | rfl <;> rcases hd with rfl | rfl <;> omega

theorem shape_bad {wide deep : Int} {n : Nat} (hs : shapeOk wide deep n = false) : wide < 2 ∨ 2 ≤ wide ∧ 4 < wide ∨ 2 ≤ wide ∧ wide ≤ 4 ∧ deep < 2 ∨ 2 ≤ wide ∧ wide ≤ 4 ∧ 2 ≤ deep ∧ 3 < deep ∨ 2 ≤ wide ∧ wide ≤ 4 ∧ 2 ≤ deep ∧ deep ≤ 3 ∧ 0 ≤ wide * deep ∧ wide * deep ≤ 12 ∧ ((n : Int) != wide * deep) = true := by
  simp only [shapeOk, decide_eq_false_iff_not] at hs
  by_cases a1 : 2 ≤ wide
  · by_cases a2 : wide ≤ 4
    · by_cases a3 : 2 ≤ deep
      · by_cases a4 : deep ≤ 3
        · refine .inr (.inr (.inr (.inr ⟨a1, a2, a3, a4, ?_, ?_, ?_⟩)))
          · exact Int.mul_nonneg (by omega) (by omega)
          · have := Int.mul_le_mul a2 a4 (by omega) (by omega); omega
          · simp only [bne_iff_ne, ne_eq]; exact fun e => hs ⟨a1, a2, a3, a4, e⟩
        · exact .inr (.inr (.inr (.inl ⟨a1, a2, a3, by omega⟩)))
      · exact .inr (.inr (.inl ⟨a1, a2, by omega⟩))
    · exact .inr (.inl ⟨a1, by omega⟩)
  · exact .inl (by omega)

/-- the table of the cars that are there -/
def thereIs (xs : List Int) (cs : Array Value) : Prop := cs.size = 100 ∧ ∀ j : Nat, j < 100 → cs[j]? = some (.bool (decide (0 < j) && xs.contains (j : Int)))
theorem thereIs_nil : thereIs [] (Array.replicate 100 (.bool false)) := ⟨by simp, fun j hj => by rw [Array.getElem?_replicate, if_pos hj]; simp⟩
theorem thereIs_set {xs : List Int} {cs : Array Value} (h : thereIs xs cs) (x : Int) (h0 : 0 ≤ x) (h1 : x ≤ 99) (hx : 0 < x → xs.contains x = false) : thereIs (xs ++ [x]) (cs.setIfInBounds x.toNat (.bool (decide (0 < x)))) := by
  refine ⟨by simpa using h.1, fun j hj => ?_⟩
  rw [Array.getElem?_setIfInBounds]
  by_cases e : x.toNat = j
  · subst e
    rw [if_pos rfl, if_pos (by rw [h.1]; exact hj)]
    have : ((x.toNat : Nat) : Int) = x := by omega
    rw [this]
    simp
  · rw [if_neg e, h.2 j hj]
    have hne : ((j : Int) == x) = false := by rw [beq_eq_false_iff_ne]; omega
    rw [beq_eq_false_iff_ne] at hne
    simp [List.contains_eq_mem, List.mem_append, hne]
end Go.Proofs.Ytndcnflchkfaeaa
