/-
  Both functions JournalText return the text 'journalText' of a list of deeds. Conditions: the slice reads as the list, which has at most 2^40 deeds; the library's table is laid.
-/
import Derived.Test.YteejdnmmpmcmeaaGreatDoorJournal
namespace Go.Proofs.YteejdnmmpmcmeaaGreatDoor
open Go.RowKit
set_option linter.unusedVariables false

theorem jt_arg {first : Int} {ds : List Deed3} {k : Nat} {x : List UInt8} (hx : jt first (ds.take k) = some x) (hk : k < ds.length) (hB : -9223372036854775808 ≤ first ∧ first ≤ 9223372036854775807) :
    -9223372036854775808 ≤ first + k ∧ first + k ≤ 9223372036854775807 ∧ x.length ≤ 20000 := by
  have hl : (ds.take k).length = k := by simp; omega
  obtain ⟨h1, h2⟩ := jt_bd _ _ _ hx
  rw [hl] at h1 h2
  rcases h1 with h1 | h1
  · have := congrArg List.length h1
    rw [hl] at this; simp at this; subst this; simp; omega
  · omega

theorem byteCells_append (a b : List UInt8) : Lib.byteCells (a ++ b) = Lib.byteCells a ++ Lib.strCells ⟨b.toArray⟩ := by
  simp [Lib.byteCells, Lib.strCells]

end Go.Proofs.YteejdnmmpmcmeaaGreatDoor
