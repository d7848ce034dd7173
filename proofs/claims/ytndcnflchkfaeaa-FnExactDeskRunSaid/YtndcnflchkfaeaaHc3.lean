/-
  slices.Sort on a slice of the call's own; both packages' HallCars. Conditions: slices read as lists.
-/
import Derived.Test.YtndcnflchkfaeaaHc2
import Derived.Test.YtndcnflchkfaeaaShelf
import Derived.Sort.OwnSortedInts
namespace Go.Proofs.Ytndcnflchkfaeaa
open Go.RowKit
set_option linter.unusedVariables false

theorem merge_sortL (xs : List Int) : (xs.mergeSort fun x y => decide (x ≤ y)) = sortL xs := by
  refine sortL_uniq (List.mergeSort_perm _ _) ?_
  have := List.pairwise_mergeSort (le := fun x y : Int => decide (x ≤ y)) (fun a b c h1 h2 => by simp at *; omega) (fun a b => by simp; omega) xs
  simpa using this

theorem sort_any (B : Nat) (p : Option Addr) (n cap : Nat) (xs : List Int) (w : World) (h : w.ownsRow B TI 1 (.slice p n cap) n (ivs xs)) (hn : n ≤ 1000000) :
    Calls Try.prog 49 #[.slice p n cap] w fun e w' => e = .returned (.tuple #[]) ∧ w'.ownsRow B TI 1 (.slice p n cap) n (ivs (sortL xs)) ∧ w.grownBy w' (Value.slice p n cap).ownBlock := by
  have hl : xs.length = n := by have := h.1; simpa using this
  subst hl
  by_cases h0 : xs.length = 0
  · obtain rfl : xs = [] := List.eq_nil_of_length_eq_zero h0
    refine (Try.slices_Sort_int_none p cap w).mono ?_
    rintro e w' ⟨rfl, rfl⟩
    exact ⟨rfl, h, World.grownBy.refl _ _⟩
  · rcases h.2 with ⟨h1, h2⟩ | ⟨g, cap', cur, h1, hb, hg, hnc, hm, hs, ht⟩
    · exact absurd h2 h0
    · injection h1 with e1 e2 e3
      subst e1 e3
      refine (Try.slices_Sort_int g 0 cap xs w (Go.holds_of_blockI hg (by simpa using ht)) (Array.getElem?_eq_some_iff.1 hg).1 (by omega)).mono ?_
      rintro e w' ⟨rfl, k, os, rfl⟩
      rw [merge_sortL]
      exact ⟨rfl, Go.ownsRow_sortedI (sortL_len xs) hb hg hnc hm hs, Go.grownBy_sortedI _⟩

theorem own_ext {w w' : World} {B n sz : Nat} {e : TypeId} {v : Value} {xs : List Value} (ho : w.ownsRow B e sz v n xs) (h : Ext w w') : w'.ownsRow B e sz v n xs :=
  ho.kept (row := none) ⟨h.os, h.tape, h.output, h.size, fun k hk _ => h.block k hk⟩ (by cases v.ownBlock <;> simp)
theorem own_base {w : World} {B B' n sz : Nat} {e : TypeId} {v : Value} {xs : List Value} (h : w.ownsRow B e sz v n xs) (hb : B' ≤ B) : w.ownsRow B' e sz v n xs := by
  refine ⟨h.1, ?_⟩
  rcases h.2 with h2 | ⟨g, cap', cur, e1, hb', r⟩
  · exact .inl h2
  · exact .inr ⟨g, cap', cur, e1, Nat.le_trans hb hb', r⟩

end Go.Proofs.Ytndcnflchkfaeaa
