/-
  Both packages' HallEmpty, the reference's l1Sorted and HallCars. Conditions: slices read as lists.
-/
import Derived.Test.YtndcnflchkfaeaaHs
import Derived.Test.YtndcnflchkfaeaaHouseP
namespace Go.Proofs.Ytndcnflchkfaeaa
open Go.RowKit
set_option linter.unusedVariables false

abbrev TI : TypeId := 3
/-- a hall of the call's own -/
def RetHall (wide deep : Int) (xs : List Int) (w : World) (e : Ending) (w' : World) : Prop :=
  ∃ p cap, e = .returned (hallV wide deep p xs.length cap) ∧ w'.ownsRow w.heap.size TI 1 (.slice p xs.length cap) xs.length (ivs xs) ∧ Ext w w'
def emptyHall (wide deep : Int) : Int × Int × List Int := if 2 ≤ wide ∧ wide ≤ 4 ∧ 2 ≤ deep ∧ deep ≤ 3 then (wide, deep, List.replicate (wide * deep).toNat 0) else (0, 0, [])
theorem made_zero (n : Nat) : (madeCells (Value.int .i64 0).cells (n * 1)).toList = ivs (List.replicate n 0) := by
  apply List.ext_getElem <;> simp [madeCells, Value.cells, Nat.mod_one]

theorem Blk.three {w : World} {g : Nat} {t : TypeId} {a b c : Value} (h : Blk w g t #[a, b, c]) : w.cell? ⟨g, 0, none⟩ = some a ∧ w.cell? ⟨g, 1, none⟩ = some b ∧ w.cell? ⟨g, 2, none⟩ = some c ∧ w.frozen? ⟨g, 0, none⟩ = false ∧ w.frozen? ⟨g, 1, none⟩ = false ∧ w.frozen? ⟨g, 2, none⟩ = false :=
  ⟨h.cell 0, h.cell 1, h.cell 2, h.frozen 0, h.frozen 1, h.frozen 2⟩
theorem ret_hall {wide deep : Int} {p : Option Addr} {n cap : Nat} {xs : List Int} {w w' : World} (hn : xs.length = n) (ho : w'.ownsRow w.heap.size TI 1 (.slice p n cap) n (ivs xs)) (hx : Ext w w') : RetHall wide deep xs w (.returned (hallV wide deep p n cap)) w' := by
  subst hn; exact ⟨p, cap, rfl, ho, hx⟩
theorem own_store3 {w : World} {B n : Nat} {xs : List Value} {c0 c1 c2 : Value} (h : w.ownsRow B TI 1 (.slice (some ⟨B + 1, 0, none⟩) n n) n xs) :
    (((w.setCell ⟨B, 0, none⟩ c0).setCell ⟨B, 1, none⟩ c1).setCell ⟨B, 2, none⟩ c2).ownsRow B TI 1 (.slice (some ⟨B + 1, 0, none⟩) n n) n xs := by
  have hx : ExtR B w (((w.setCell ⟨B, 0, none⟩ c0).setCell ⟨B, 1, none⟩ c1).setCell ⟨B, 2, none⟩ c2) := (((ExtR.refl B w).setCell (p := ⟨B, 0, none⟩) (.inl rfl) _).setCell (p := ⟨B, 1, none⟩) (.inl rfl) _).setCell (p := ⟨B, 2, none⟩) (.inl rfl) _
  exact h.kept hx (.inr (by simp [Value.ownBlock]))

end Go.Proofs.Ytndcnflchkfaeaa
