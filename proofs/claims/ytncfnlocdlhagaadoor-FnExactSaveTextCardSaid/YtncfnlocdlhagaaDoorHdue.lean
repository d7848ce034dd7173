/-
  Both packages' HouseDue, HouseMay. Condition: the house's slices read as lists.
-/
import Derived.Test.YtncfnlocdlhagaaDoorHst
namespace Go.Proofs.YtncfnlocdlhagaaDoor
open Go.RowKit
set_option linter.unusedVariables false
set_option linter.unusedSimpArgs false

theorem stay_good {h : HouseD} {id a1 a2 a3 : Int} (hs : houseStay h id = some (a1, a2, a3)) : tariffOk h.free h.step h.price h.capp = true ∧ stayOk a1 a2 a3 = true ∧ a3 ≤ h.clock ∧ h.clock ≤ 9999 := by
  unfold houseStay at hs
  split at hs
  · rename_i hok
    rw [Option.map_eq_some_iff] at hs
    obtain ⟨v, hv, e⟩ := hs
    have hm := List.mem_of_find?_eq_some hv
    simp only [houseOk, numsOk, Bool.and_eq_true, decide_eq_true_eq] at hok
    have := (visitsOk_len hok.2).2 v hm
    obtain ⟨v0, v1, v2, v3⟩ := v
    simp only [Prod.mk.injEq] at e
    obtain ⟨rfl, rfl, rfl⟩ := e
    simp only [visitOk, Bool.and_eq_true, decide_eq_true_eq] at this
    exact ⟨hok.1.1.2, this.1, this.2, hok.1.2.2.1⟩
  · simp at hs
end Go.Proofs.YtncfnlocdlhagaaDoor
