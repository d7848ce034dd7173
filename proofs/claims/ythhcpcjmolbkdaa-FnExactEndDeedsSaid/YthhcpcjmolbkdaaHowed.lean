/-
  Both packages' HouseOwed return the sum of what is due for all stays; -1 for other houses. Condition: the house's slices read as lists.
-/
import Derived.Test.YthhcpcjmolbkdaaHdue
namespace Go.Proofs.Ythhcpcjmolbkdaa
open Go.RowKit
set_option linter.unusedVariables false
set_option linter.unusedSimpArgs false

def sumD (D : Visit4 → Int) (vs : List Visit4) : Int := vs.foldl (fun a v => a + D v) 0
theorem sumD_snoc (D : Visit4 → Int) {vs : List Visit4} {k : Nat} {v : Visit4} (h : vs[k]? = some v) : sumD D (vs.take (k + 1)) = sumD D (vs.take k) + D v := by
  unfold sumD; rw [take_snocL h, List.foldl_append]; rfl
theorem sumD_bd (D : Visit4 → Int) : ∀ (vs : List Visit4) (a : Int), (∀ v ∈ vs, 0 ≤ D v ∧ D v ≤ 693) → a ≤ vs.foldl (fun a v => a + D v) a ∧ vs.foldl (fun a v => a + D v) a ≤ a + 693 * vs.length := by
  intro vs
  induction vs with
  | nil => intro a _; simp
  | cons v vs ih =>
    intro a h
    obtain ⟨h0, h1⟩ := h v (by simp)
    have := ih (a + D v) (fun x hx => h x (by simp [hx]))
    simp only [List.foldl_cons, List.length_cons]
    omega

theorem visits_nodup {h : HouseD} (hok : houseOk h = true) : (h.vs.map (·.1)).Nodup ∧ h.vs.length ≤ 12 ∧ ∀ v ∈ h.vs, visitOk h.clock v = true := by
  unfold houseOk at hok
  simp only [Bool.and_eq_true] at hok
  obtain ⟨⟨⟨h1, h2⟩, h3⟩, h4⟩ := hok
  obtain ⟨q1, q2⟩ := visitsOk_len h4
  unfold hallOk at h1
  rw [Bool.and_eq_true] at h1
  have hc := (cellsOk_iff _ _).1 h1.2
  have hb := shape_bd h1.1
  refine ⟨?_, ?_, q2⟩
  · rw [q1]; exact (sortL_perm _).nodup_iff.2 hc.2.2
  · have := congrArg List.length q1
    rw [List.length_map, carsOf_len] at this
    have := posOfL_le h.cells
    omega
theorem visitAt_of {h : HouseD} (hok : houseOk h = true) {v : Visit4} (hv : v ∈ h.vs) : visitAt v.1 h.vs = some v := by
  have hn := (visits_nodup hok).1
  unfold visitAt
  generalize h.vs = vs at hn hv
  induction vs with
  | nil => simp at hv
  | cons x xs ih =>
    rw [List.map_cons, List.nodup_cons] at hn
    rcases List.mem_cons.1 hv with rfl | hv
    · simp [List.find?_cons]
    · rw [List.find?_cons]
      have : (x.1 == v.1) = false := by
        rw [beq_eq_false_iff_ne]; intro e
        exact hn.1 (by rw [e]; exact List.mem_map_of_mem hv)
      rw [this]
      exact ih hn.2 hv
theorem dueOf_house {h : HouseD} (hok : houseOk h = true) {v : Visit4} (hv : v ∈ h.vs) : houseDue h v.1 = dueOf h v := by
  unfold houseDue houseStay dueOf
  rw [if_pos hok, visitAt_of hok hv]; rfl
theorem dueOf_parts {h : HouseD} (hok : houseOk h = true) {v : Visit4} (hv : v ∈ h.vs) : tariffOk h.free h.step h.price h.capp = true ∧ stayOk v.2.1 v.2.2.1 v.2.2.2 = true ∧ v.2.2.2 ≤ h.clock ∧ h.clock ≤ 9999 := by
  have hv2 := (visits_nodup hok).2.2 v hv
  unfold houseOk at hok
  simp only [Bool.and_eq_true] at hok
  obtain ⟨⟨⟨h1, h2⟩, h3⟩, h4⟩ := hok
  unfold visitOk at hv2
  unfold numsOk at h3
  simp at hv2 h3
  exact ⟨h2, hv2.1, hv2.2, h3.2.1⟩
theorem dueOf_bd {h : HouseD} (hok : houseOk h = true) {v : Visit4} (hv : v ∈ h.vs) : 0 ≤ dueOf h v ∧ dueOf h v ≤ 693 := by
  obtain ⟨a, b, c, d⟩ := dueOf_parts hok hv
  have e := stay_parts b
  unfold dueOf stayDue
  rw [a, b]
  have hf := feeOf_bd a (m := h.clock - v.2.1) (by omega) (by omega)
  simp only [Bool.and_self, Bool.true_and, decide_eq_true_eq]
  rw [if_pos ⟨c, d⟩]
  omega
theorem owed_bd {h : HouseD} (hok : houseOk h = true) : 0 ≤ owedSum h h.vs ∧ owedSum h h.vs ≤ 8316 := by
  have := sumD_bd (dueOf h) h.vs 0 (fun v hv => dueOf_bd hok hv)
  have hl := (visits_nodup hok).2.1
  unfold owedSum
  omega

end Go.Proofs.Ythhcpcjmolbkdaa
