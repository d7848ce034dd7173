/-
  A visit is looked for by its car: the rewrite's visitIndex (slices.IndexFunc with a closure), the reference's l7Find.
-/
import Derived.Test.YtndcnflchkfaeaaHouse1
namespace Go.Proofs.Ytndcnflchkfaeaa
open Go.RowKit
set_option linter.unusedVariables false

/-- where the first visit of a car stands, or -1 -/
def vix (id : Int) (vs : List Visit4) : Int := if vs.any (fun v => v.1 == id) then (vs.findIdx (fun v => v.1 == id) : Int) else -1
theorem vix_hit {id : Int} {vs : List Visit4} {k : Nat} {v : Visit4} (hv : vs[k]? = some v) (h : v.1 = id) (hp : (vs.take k).any (fun v => v.1 == id) = false) : vix id vs = k := by
  have hlt : k < vs.length := (List.getElem?_eq_some_iff.1 hv).1
  have e : vs[k] = v := by have := (List.getElem?_eq_some_iff.1 hv).2; exact this
  have ha : vs.any (fun v => v.1 == id) = true := List.any_eq_true.2 ⟨v, List.mem_of_getElem? hv, by simp [h]⟩
  have hi : vs.findIdx (fun v => v.1 == id) = k := by
    rw [List.findIdx_eq hlt]
    refine ⟨by simp [e, h], fun j hj => ?_⟩
    have := List.any_eq_false.1 hp vs[j] (by
      rw [List.mem_take_iff_getElem]; exact ⟨j, by omega, rfl⟩)
    simpa using this
  unfold vix; rw [if_pos ha, hi]
theorem vix_miss {id : Int} {vs : List Visit4} (hp : vs.any (fun v => v.1 == id) = false) : vix id vs = -1 := by unfold vix; simp [hp]
theorem any_snoc {id : Int} {vs : List Visit4} {k : Nat} {v : Visit4} (hv : vs[k]? = some v) (h : ¬ v.1 = id) (hp : (vs.take k).any (fun v => v.1 == id) = false) : (vs.take (k + 1)).any (fun v => v.1 == id) = false := by
  rw [take_snocL hv, List.any_append, hp]; simp [h]
theorem vix_cases (id : Int) (vs : List Visit4) : (vix id vs = -1 ∧ visitAt id vs = none) ∨ ∃ (k : Nat) (a1 a2 a3 : Int), k < vs.length ∧ vix id vs = k ∧ vs[k]? = some (id, a1, a2, a3) ∧ visitAt id vs = some (id, a1, a2, a3) := by
  cases h : vs.any (fun v => v.1 == id) with
  | false => exact .inl ⟨vix_miss h, by unfold visitAt; rw [List.find?_eq_none]; simpa using h⟩
  | true =>
    right
    have hlt : vs.findIdx (fun v => v.1 == id) < vs.length := List.findIdx_lt_length.2 (by simpa using h)
    have hg := List.findIdx_getElem (w := hlt)
    have hf : visitAt id vs = some (vs[vs.findIdx (fun v => v.1 == id)]) := by
      unfold visitAt
      rw [List.find?_eq_some_iff_getElem]
      exact ⟨hg, _, hlt, rfl, fun j hj => by simpa using List.not_of_lt_findIdx hj⟩
    have h0 : vs[vs.findIdx (fun v => v.1 == id)].1 = id := by simpa using hg
    generalize hb : vs[vs.findIdx (fun v => v.1 == id)] = v at *
    obtain ⟨b0, b1, b2, b3⟩ := v
    dsimp only at h0
    subst h0
    exact ⟨_, b1, b2, b3, hlt, by unfold vix; rw [if_pos h], by rw [List.getElem?_eq_getElem hlt, hb], hf⟩

end Go.Proofs.Ytndcnflchkfaeaa
