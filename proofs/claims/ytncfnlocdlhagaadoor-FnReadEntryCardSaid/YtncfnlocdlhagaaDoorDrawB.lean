/-
  The reference's draws for the laws on deeds and entries.
-/
import Derived.Test.YtncfnlocdlhagaaDoorDrawA
import Derived.Test.YtncfnlocdlhagaaDoorDeed3
namespace Go.Proofs.YtncfnlocdlhagaaDoor
open Go.RowKit
set_option linter.unusedVariables false

def DrewStr (P : List UInt8 → Prop) (w : World) (e : Ending) (w' : World) : Prop := ∃ s : ByteArray, e = .returned (.string s) ∧ P s.data.toList ∧ Ext w w'
def LowText (l : List UInt8) : Prop := l.length ≤ 100 ∧ ∀ c ∈ l, c.toNat < 128
theorem bytes_app (a b : List UInt8) : (⟨a.toArray⟩ : ByteArray) ++ ⟨b.toArray⟩ = ⟨(a ++ b).toArray⟩ := Go.WideShapes.bytes_inj (by simp [ByteArray.data_append])
theorem drew_str {P : List UInt8 → Prop} {w w' : World} (l : List UInt8) {s : ByteArray} (hs : s = ⟨l.toArray⟩) (hP : P l) (hx : Ext w w') : DrewStr P w (.returned (.string s)) w' := ⟨s, rfl, by rw [hs]; simpa using hP, hx⟩

def DrewDeed (w : World) (e : Ending) (w' : World) : Prop := ∃ k a b : Int, e = .returned (deedV k a b) ∧ Ext w w'
section
open Go.ChangeShapes Go.WideShapes Go.ChangeAt
variable {H : Type} {enc : TypeId × Value → H} {w : World} {base : Nat} {spare : Nat → Bool} {held : Bool} {b0 : Nat} {r : Reach} {v : Value} {d : DataW H} {p : List MemPlace}
set_option maxRecDepth 100000 in
theorem open_code (hv : Value.okWide Tryd.prog w r b0 22 v) (h : DataW.Trod enc Tryd.prog w base spare held 22 v d p) : ∃ u : Unit, Code w v := by
  obtain ⟨a0, len, cap, rfl⟩ := okWide_slice Tryd.underlying22 hv
  obtain ⟨fuel, hh⟩ := h
  obtain ⟨xs, q, c, hv', hS, hg⟩ := open_slc (α := Int) (fun x => [.int .u8 x]) (fun x => 0 ≤ x ∧ x ≤ 255) 1 Tryd.underlying22 (by kernel_rfl) (by omega) (fun _ => rfl) (fun n cs y hy => by
    obtain ⟨a, rfl, _, ha⟩ := DataW.trod_int Tryd.underlying5 hy
    exact ⟨a, rfl, bounds_u8 ha⟩) (by simpa [Value.cells] using hh)
  refine ⟨(), q, _, c, xs, hv', ?_, hg⟩
  have e : xs.flatMap (fun x => [Value.int .u8 x]) = xs.map (Value.int .u8) := by
    clear hS hg hv'
    induction xs with
    | nil => rfl
    | cons x xs ih => simp_all
  rw [← e]; exact hS
end
end Go.Proofs.YtncfnlocdlhagaaDoor
