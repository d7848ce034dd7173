/-
  How a slice of structs among the arguments of a law is opened: it reads as a list.
-/
import Derived.Test.YtncfnlocdlhagaaDoorOpen
import Derived.Test.YtncfnlocdlhagaaDoorJournal
import Derived.Deep.Slices
import Derived.Deep.Strs
namespace Go.Proofs.YtncfnlocdlhagaaDoor
open Go.ChangeShapes Go.WideShapes Go.ChangeAt Go.RowKit Go.Deep
set_option linter.unusedVariables false

/-- reads as the cells, or is empty (wherever it may point) -/
def RdZ (w : World) (v : Value) (n sz : Nat) (cs : List Value) : Prop :=
  (n = 0 ∧ cs = [] ∧ ∃ p cap, v = .slice p 0 cap) ∨ (0 < n ∧ ∃ b off cap, v = .slice (some ⟨b, off, none⟩) n cap ∧ b < w.heap.size ∧ Rd w v n sz cs)
theorem RdZ.ext {w w' : World} {v : Value} {n sz : Nat} {cs : List Value} (h : RdZ w v n sz cs) (hx : Ext w w') : RdZ w' v n sz cs := by
  rcases h with h | ⟨h0, b, off, cap, rfl, hb, h⟩
  · exact .inl h
  · exact .inr ⟨h0, b, off, cap, rfl, Nat.lt_of_lt_of_le hb hx.sz, h.ext hx⟩

section
variable {H : Type} {enc : TypeId × Value → H} {w : World} {base : Nat} {spare : Nat → Bool} {held : Bool} {b0 : Nat} {r : Reach} {v : Value} {d : DataW H} {p : List MemPlace}

set_option maxRecDepth 100000 in
theorem open_list {α : Type} [Inhabited α] (f : α → List Value) (good : α → Prop) (sz : Nat) {t e : TypeId} (ht : Tryd.prog.underlying t = some (.slice e)) (hc : Tryd.prog.cellsOf e = sz) (hs : 0 < sz) (hf : ∀ a, (f a).length = sz)
    (hdec : ∀ n cs y, DataW.trod enc Tryd.prog w base spare held n e cs = some y → ∃ a, cs = f a ∧ good a)
    (hv : Value.okWide Tryd.prog w r b0 t v) (h : DataW.Trod enc Tryd.prog w base spare held t v d p) :
    ∃ xs : List α, RdZ w v xs.length sz (xs.flatMap f) ∧ ∀ a ∈ xs, good a := by
  obtain ⟨a0, len, cap, rfl⟩ := okWide_slice ht hv
  obtain ⟨fuel, hh⟩ := h
  rcases open_slice ht hh with ⟨hcs, hx⟩ | ⟨a, len', cap', m, n, D, Pl, hcs, hb, hl, hm, hmm, hx, hel⟩
  · simp [Value.cells] at hcs
    obtain ⟨rfl, rfl, rfl⟩ := hcs
    exact ⟨[], .inl ⟨rfl, rfl, _, _, rfl⟩, by simp⟩
  · simp [Value.cells] at hcs
    obtain ⟨rfl, rfl, rfl⟩ := hcs
    by_cases h0 : len = 0
    · subst h0
      exact ⟨[], .inl ⟨rfl, rfl, _, _, rfl⟩, by simp⟩
    · have hml : len ≤ m := by rw [hmm]; split <;> omega
      have hex : ∀ i, i < len → ∃ x : α, w.cells? base (a.add (i * sz)) sz = some (f x) ∧ good x := by
        intro i hi
        obtain ⟨cs', h1, h2⟩ := hel i (by omega)
        obtain ⟨x, rfl, hg⟩ := hdec _ _ _ h2
        exact ⟨x, by rw [← hc]; exact h1, hg⟩
      obtain ⟨V, hV⟩ := choose_lt (α := α) (p := fun i x => w.cells? base (a.add (i * sz)) sz = some (f x) ∧ good x) hex
      have hcell : ∀ i, i < len → ∀ j, j < sz → w.cell? ((a.add (i * sz)).add j) = (f (V i))[j]? := by
        intro i hi j hj
        exact (World.cells?_some (hV i hi).1).2.2 j hj
      obtain ⟨b, off, spot⟩ := a
      have hz : ∃ u, (f (V 0))[0]? = some u := ⟨_, List.getElem?_eq_getElem (by rw [hf]; exact hs)⟩
      obtain ⟨u, hu⟩ := hz
      have hc0 := (hcell 0 (by omega) 0 hs).trans hu
      have hspot : spot = none := by simpa [Addr.add] using World.cell?_spot hc0
      subst hspot
      have hlt : b < w.heap.size := by simpa [Addr.add] using World.block_lt_of_cell? w _ hc0
      have hxl : ((List.range len).map V).length = len := by simp
      refine ⟨(List.range len).map V, .inr ⟨by rw [hxl]; omega, b, off, cap, by rw [hxl], hlt, ?_⟩, ?_⟩
      · rw [hxl]
        refine ⟨by rw [flat_len f sz hf, hxl], .inr ⟨b, off, cap, rfl, hl, hm, hlt, fun k hk => ?_⟩⟩
        have hi : k / sz < len := Nat.div_lt_of_lt_mul (by rw [Nat.mul_comm]; exact hk)
        have hj : k % sz < sz := Nat.mod_lt _ hs
        have hkk : k = k / sz * sz + k % sz := by rw [Nat.mul_comm]; exact (Nat.div_add_mod k sz).symm
        have hxi : ((List.range len).map V)[k / sz]? = some (V (k / sz)) := by simp [hi]
        have h1 := flat_get f sz hf _ _ _ hxi (k % sz) hj
        rw [← hkk] at h1
        rw [h1, ← hcell _ hi _ hj]
        rw [addr_add, addr_add, Nat.add_assoc, ← hkk]
      · intro x hx
        obtain ⟨i, hi, rfl⟩ := List.mem_map.1 hx
        exact (hV i (by simpa using hi)).2

def goodDeed (d : Deed3) : Prop := B64 d.1 ∧ B64 d.2.1 ∧ B64 d.2.2
end
end Go.Proofs.YtncfnlocdlhagaaDoor
