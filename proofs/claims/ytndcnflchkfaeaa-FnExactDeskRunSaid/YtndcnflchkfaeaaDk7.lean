/-
  A desk is led on, and the place of a booking (plain: nothing of the program). No condition.
-/
import Derived.Test.YtndcnflchkfaeaaDk6
namespace Go.Proofs.Ytndcnflchkfaeaa
open Go.RowKit
set_option linter.unusedVariables false
set_option linter.unusedSimpArgs false

def runStep (d : DeskD) (b : Visit4) : DeskD := if 0 < b.2.2.1 then (deskAsk d b).1 else (deskFree d b.1).1
def deskRun (d : DeskD) (bs : List Visit4) : DeskD := if deskValid d = true then bs.foldl runStep d else ⟨0, [], []⟩
theorem step_ok {d : DeskD} {b : Visit4} (h : deskValid d = true) : deskValid (runStep d b) = true := by
  unfold runStep
  split
  · exact ask_ok h
  · exact free_ok h
theorem run_ok : ∀ (bs : List Visit4) (d : DeskD), deskValid d = true → deskValid (bs.foldl runStep d) = true
  | [], d, h => h
  | b :: bs, d, h => by rw [List.foldl_cons]; exact run_ok bs _ (step_ok h)
theorem deskRun_ok {d : DeskD} {bs : List Visit4} (h : deskValid d = true) : deskValid (deskRun d bs) = true := by
  unfold deskRun; rw [if_pos h]; exact run_ok bs d h
theorem deskRun_split (d : DeskD) (a b : List Visit4) (h : deskValid d = true) : deskRun (deskRun d a) b = deskRun d (a ++ b) := by
  have h2 := deskRun_ok (bs := a) h
  unfold deskRun at h2 ⊢
  rw [if_pos h2, if_pos h, if_pos h, List.foldl_append]
def deskPlace (d : DeskD) (id : Int) : Int :=
  if deskValid d = true then
    match idxOf id d.taken with
    | some i => ((bookPlaces d.taken)[i]?).getD (-1)
    | none => -1
  else -1
theorem ask_len {d : DeskD} {b : Visit4} (h : deskValid d = true) : (deskAsk d b).1.taken.length ≤ 7 ∧ (deskAsk d b).1.row.length ≤ 5 := by
  have := desk_iff.1 (ask_ok (b := b) h)
  exact ⟨((booksOk_iff _).1 this.ok).1, this.rlen⟩
theorem desk_len {d : DeskD} (h : deskValid d = true) : d.taken.length ≤ 7 ∧ d.row.length ≤ 5 := by
  have := desk_iff.1 h
  exact ⟨((booksOk_iff _).1 this.ok).1, this.rlen⟩
theorem desk_pl {d : DeskD} (h : deskValid d = true) : 1 ≤ d.places ∧ d.places ≤ 7 := (desk_iff.1 h).pl
end Go.Proofs.Ytndcnflchkfaeaa
