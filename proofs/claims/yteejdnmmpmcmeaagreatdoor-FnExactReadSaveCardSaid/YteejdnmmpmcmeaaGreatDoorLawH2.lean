/-
  The laws' helpers on halls and houses: toHall, toHouse, eqHall, eqHouse. Conditions: slices read as lists of at most 2^40 elements.
-/
import Derived.Test.YteejdnmmpmcmeaaGreatDoorLawH
namespace Go.Proofs.YteejdnmmpmcmeaaGreatDoor
open Go.RowKit
set_option linter.unusedVariables false

theorem own_set {w : World} {B n sz : Nat} {e : TypeId} {v : Value} {xs : List Value} (h : w.ownsRow B e sz v n xs) {p : Addr} (hp : p.block < B) (u : Value) : (w.setCell p u).ownsRow B e sz v n xs := by
  refine h.kept (row := some p.block) ⟨rfl, rfl, rfl, by simp [World.setCell], fun i hi hne => Below.heap_setCell w p u i (fun e => hne (by rw [e]))⟩ (.inr (fun hh => ?_))
  have := h.lt _ hh
  omega
/-- a house of the call's own -/
def RetHouse (h : HouseD) (w : World) (e : Ending) (w' : World) : Prop :=
  ∃ p cap q c2, e = .returned (houseV h p h.cells.length cap q h.vs.length c2) ∧ w'.ownsRow w.heap.size TI 1 (.slice p h.cells.length cap) h.cells.length (ivs h.cells) ∧ w'.ownsRow w.heap.size TV 4 (.slice q h.vs.length c2) h.vs.length (h.vs.flatMap visitCells) ∧ Ext w w'

end Go.Proofs.YteejdnmmpmcmeaaGreatDoor
