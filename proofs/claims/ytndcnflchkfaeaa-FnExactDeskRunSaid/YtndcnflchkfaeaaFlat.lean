/-
  Words on lists of cells, numbers of 64 bits, and how numbers among the arguments are opened. No condition.
-/
import Derived.Test.YtndcnflchkfaeaaMem
import Derived.Lib.Hide
import Derived.Deep.DeepFit
import Derived.Handy
import Derived.Deep.RegionHeld3
import Derived.Deep.DeepCutAuto
import Derived.ProofKit
import Derived.OpenShut
import Derived.ShutString
import Derived.Lib.SmallJoins
import Derived.Deep.Slices
import Derived.Deep.Strs
import Derived.Deep.Draws
import Derived.ChangeArms
namespace Go.Proofs.Ytndcnflchkfaeaa
open Go.ChangeShapes Go.WideShapes Go.ChangeAt Go.RowKit Go.Deep
set_option linter.unusedVariables false

theorem flat_get {α : Type} (f : α → List Value) (sz : Nat) (hf : ∀ a, (f a).length = sz) : ∀ (xs : List α) (k : Nat) (a : α), xs[k]? = some a → ∀ j, j < sz → (xs.flatMap f)[k * sz + j]? = (f a)[j]? := by
  intro xs
  induction xs with
  | nil => intro k a h; simp at h
  | cons x xs ih =>
    intro k a h j hj
    rw [List.flatMap_cons]
    cases k with
    | zero =>
      simp at h; subst h
      rw [Nat.zero_mul, Nat.zero_add, List.getElem?_append_left (by rw [hf]; exact hj)]
    | succ k =>
      rw [List.getElem?_append_right (by rw [hf, Nat.succ_mul]; omega), hf]
      have := ih k a (by simpa using h) j hj
      rw [← this]; congr 1
      rw [Nat.succ_mul]; omega
theorem flat_len {α : Type} (f : α → List Value) (sz : Nat) (hf : ∀ a, (f a).length = sz) (xs : List α) : (xs.flatMap f).length = xs.length * sz := by
  induction xs with
  | nil => simp
  | cons x xs ih => rw [List.flatMap_cons, List.length_append, hf, ih, List.length_cons, Nat.succ_mul]; omega
theorem take_flat {α : Type} (f : α → List Value) {ds : List α} {k : Nat} {d : α} (hd : ds[k]? = some d) : (ds.take (k + 1)).flatMap f = (ds.take k).flatMap f ++ f d := by
  have hk : k < ds.length := (List.getElem?_eq_some_iff.1 hd).1
  rw [List.take_succ_eq_append_getElem hk, List.flatMap_append, (List.getElem?_eq_some_iff.1 hd).2]; simp
theorem addr_add (b o n : Nat) : (⟨b, o, none⟩ : Addr).add n = ⟨b, o + n, none⟩ := by
  unfold Addr.add; split <;> simp_all

def B64 (x : Int) : Prop := -9223372036854775808 ≤ x ∧ x ≤ 9223372036854775807
theorem bd_i64 {x : Int} (h : (Lit.int .i64 x).wf = true) : B64 x := bounds_i64 h

section
variable {H : Type} {enc : TypeId × Value → H} {w : World} {base : Nat} {spare : Nat → Bool} {held : Bool} {b0 : Nat} {r : Reach} {v : Value} {d : DataW H} {p : List MemPlace}
theorem trod_i64 {n : Nat} {c : Value} {y : DataW H × List MemPlace} (h : DataW.trod enc Try.prog w base spare held n 3 [c] = some y) : ∃ x : Int, c = .int .i64 x ∧ B64 x := by
  obtain ⟨x, e, _, hx⟩ := DataW.trod_int Try.underlying3 h
  exact ⟨x, by simpa using e, bd_i64 hx⟩

end
end Go.Proofs.Ytndcnflchkfaeaa
