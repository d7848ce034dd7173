/-
  impl.ReadDeed returns the deed that a text is ('readDeed'). Conditions: the text is shorter than 2^32 - 15 bytes, the library's table is laid.
-/
import Derived.Test.YteejdnmmpmcmeaaGreatDoorParse
namespace Go.Proofs.YteejdnmmpmcmeaaGreatDoor
open Go.RowKit
set_option linter.unusedVariables false

/-- what ReadDeed returns -/
def rdV : Option (Int × Int × Int) → Value
  | some (k, a, b) => .tuple #[deedV k a b, .bool true]
  | none => .tuple #[deedV 0 0 0, .bool false]
def RetRd (o : Option (Int × Int × Int)) (w : World) (e : Ending) (w' : World) : Prop := e = .returned (rdV o) ∧ Ext w w'

theorem part_cell {w : World} {base g n cap : Nat} {e : TypeId} {ps : List (List UInt8)} (h : w.ownsRow base e 1 (.slice (some ⟨g, 0, none⟩) n cap) n (strs ps)) (j : Nat) (hj : j < n) (p : List UInt8) (hp : ps[j]? = some p) : w.cell? ⟨g, j, none⟩ = some (str p) := by
  rw [h.cellAt j (by omega)]; simp [strs, hp]

end Go.Proofs.YteejdnmmpmcmeaaGreatDoor
