/-
  Words on slices: a slice value whose address is a letter reads as a list of cells; how such slices are opened among the arguments. No condition.
-/
import Derived.Test.YtndcnflchkfaeaaFlat
import Derived.OwnWalk
namespace Go.Proofs.Ytndcnflchkfaeaa
open Go.ChangeShapes Go.WideShapes Go.ChangeAt Go.RowKit Go.Deep
set_option linter.unusedVariables false

structure Sl (w : World) (p : Option Addr) (n cap sz : Nat) (cs : List Value) : Prop where
  len : cs.length = n * sz
  le : n ≤ cap
  mx : cap ≤ maxLen
  rd : 0 < n → ∃ b off, p = some ⟨b, off, none⟩ ∧ b < w.heap.size ∧ ∀ k, k < n * sz → w.cell? ⟨b, off + k, none⟩ = cs[k]?

theorem Sl.ext {w w' : World} {p : Option Addr} {n cap sz : Nat} {cs : List Value} (h : Sl w p n cap sz cs) (hb : Ext w w') : Sl w' p n cap sz cs :=
  ⟨h.len, h.le, h.mx, fun h0 => by
    obtain ⟨b, off, rfl, h1, h2⟩ := h.rd h0
    exact ⟨b, off, rfl, Nat.lt_of_lt_of_le h1 hb.sz, fun k hk => (hb.cells.1 _ _ h1).trans (h2 k hk)⟩⟩

theorem Sl.nil (w : World) (sz : Nat) : Sl w none 0 0 sz [] := ⟨by simp, Nat.le_refl _, Nat.zero_le _, fun h => absurd h (by omega)⟩
theorem Sl.bd {w : World} {p : Option Addr} {n cap sz : Nat} {cs : List Value} (h : Sl w p n cap sz cs) : n ≤ 9223372036854775807 := by
  have := h.le; have := h.mx; unfold maxLen at this; omega

theorem Sl.own {w : World} {base n cap sz : Nat} {e : TypeId} {p : Option Addr} {xs : List Value} (h : w.ownsRow base e sz (.slice p n cap) n xs) : Sl w p n cap sz xs := by
  rcases h.2 with ⟨h1, h2⟩ | ⟨g, cap', cur, h1, hb, hg, hn, hm, hs, ht⟩
  · injection h1 with e1 e2 e3
    subst e1 e2 e3
    have := h.1
    exact ⟨this, Nat.le_refl _, Nat.zero_le _, fun h => absurd h (by omega)⟩
  · injection h1 with e1 e2 e3
    subst e1 e3
    exact ⟨h.1, hn, hm, fun h0 => ⟨g, 0, rfl, (Array.getElem?_eq_some_iff.1 hg).1, fun k hk => by rw [Nat.zero_add]; exact h.cellAt k hk⟩⟩

/-- a struct of sz cells at place k -/
theorem Sl.at_ {α : Type} {w : World} {p : Option Addr} {n cap sz : Nat} {f : α → List Value} {xs : List α} (hf : ∀ a, (f a).length = sz) (h : Sl w p n cap sz (xs.flatMap f)) {k : Nat} (hk : k < n) (hs : 0 < sz) :
    ∃ b off x, p = some ⟨b, off, none⟩ ∧ xs[k]? = some x ∧ b < w.heap.size ∧ ∀ j, j < sz → w.cell? ⟨b, off + (k * sz + j), none⟩ = (f x)[j]? := by
  obtain ⟨b, off, rfl, hb, hc⟩ := h.rd (by omega)
  have hl : xs.length = n := by
    have := h.len
    rw [flat_len f sz hf] at this
    exact Nat.eq_of_mul_eq_mul_right hs this
  have hkl : k < xs.length := by rw [hl]; exact hk
  have hx : xs[k]? = some (xs[k]'hkl) := List.getElem?_eq_getElem hkl
  refine ⟨b, off, _, rfl, hx, hb, fun j hj => ?_⟩
  have hkj : k * sz + j < n * sz := by
    have := Nat.mul_le_mul_right sz hk
    rw [Nat.succ_mul] at this
    omega
  rw [hc _ hkj]
  exact flat_get f sz hf _ _ _ hx j hj

abbrev iv (x : Int) : Value := .int .i64 x
abbrev ivs (xs : List Int) : List Value := xs.map iv

theorem ivs_flat (xs : List Int) : xs.flatMap (fun x => [iv x]) = ivs xs := by induction xs with | nil => rfl | cons x xs ih => simp_all

theorem Sl.int_at {w : World} {p : Option Addr} {n cap : Nat} {xs : List Int} (h : Sl w p n cap 1 (ivs xs)) {k : Nat} (hk : k < n) :
    ∃ b off x, p = some ⟨b, off, none⟩ ∧ xs[k]? = some x ∧ b < w.heap.size ∧ w.cell? ⟨b, off + k, none⟩ = some (iv x) := by
  rw [← ivs_flat] at h
  obtain ⟨b, off, x, hp, hx, hb, hc⟩ := Sl.at_ (sz := 1) (f := fun x => [iv x]) (fun _ => rfl) h hk Nat.one_pos
  exact ⟨b, off, x, hp, hx, hb, by simpa using hc 0 (by omega)⟩
theorem Sl.ilen {w : World} {p : Option Addr} {n cap : Nat} {xs : List Int} (h : Sl w p n cap 1 (ivs xs)) : xs.length = n := by simpa using h.len

theorem drop_cons {α : Type} {xs : List α} {k : Nat} {x : α} (h : xs[k]? = some x) : xs.drop k = x :: xs.drop (k + 1) := by
  obtain ⟨hk, rfl⟩ := List.getElem?_eq_some_iff.1 h
  exact List.drop_eq_getElem_cons hk
theorem take_snocL {α : Type} {xs : List α} {k : Nat} {x : α} (h : xs[k]? = some x) : xs.take (k + 1) = xs.take k ++ [x] := by
  obtain ⟨hk, rfl⟩ := List.getElem?_eq_some_iff.1 h
  rw [List.take_succ_eq_append_getElem hk]

theorem sl_cut {w : World} {p : Option Addr} {n cap sz m : Nat} {cs : List Value} (h : Sl w p n cap sz cs) (hm : m ≤ n) : Sl w p m cap sz (cs.take (m * sz)) := by
  have hl := h.len
  have hms : m * sz ≤ n * sz := Nat.mul_le_mul_right _ hm
  refine ⟨by rw [List.length_take]; omega, Nat.le_trans hm h.le, h.mx, fun h0 => ?_⟩
  obtain ⟨b, off, rfl, hb, hc⟩ := h.rd (by omega)
  exact ⟨b, off, rfl, hb, fun k hk => by rw [hc k (by omega), List.getElem?_take, if_pos hk]⟩
theorem sl_cutI {w : World} {p : Option Addr} {n cap m : Nat} {xs : List Int} (h : Sl w p n cap 1 (ivs xs)) (hm : m ≤ n) : Sl w p m cap 1 (ivs (xs.take m)) := by
  have := sl_cut h hm
  rwa [Nat.mul_one, ← List.map_take] at this

section
variable {H : Type} {enc : TypeId × Value → H} {w : World} {base : Nat} {spare : Nat → Bool} {held : Bool} {b0 : Nat} {r : Reach} {v : Value} {d : DataW H} {p : List MemPlace}

set_option maxRecDepth 100000 in
theorem open_slc {α : Type} [Inhabited α] (f : α → List Value) (good : α → Prop) (sz : Nat) {t e : TypeId} {fuel : Nat} {x : DataW H × List MemPlace} (ht : Try.prog.underlying t = some (.slice e)) (hc : Try.prog.cellsOf e = sz) (hs : 0 < sz) (hf : ∀ a, (f a).length = sz)
    (hdec : ∀ n cs y, DataW.trod enc Try.prog w base spare held n e cs = some y → ∃ a, cs = f a ∧ good a)
    (h : DataW.trod enc Try.prog w base spare held fuel t [v] = some x) :
    ∃ (xs : List α) (p : Option Addr) (cap : Nat), v = .slice p xs.length cap ∧ Sl w p xs.length cap sz (xs.flatMap f) ∧ ∀ a ∈ xs, good a := by
  rcases open_slice ht h with ⟨hcs, hx⟩ | ⟨a, len, cap, m, n, D, Pl, hcs, hb, hl, hm, hmm, hx, hel⟩
  · simp at hcs
    subst hcs
    exact ⟨[], none, 0, rfl, Sl.nil _ _, by simp⟩
  · simp at hcs
    subst hcs
    by_cases h0 : len = 0
    · subst h0
      exact ⟨[], some a, cap, rfl, ⟨by simp, hl, hm, fun h => absurd h (by simp)⟩, by simp⟩
    · have hml : len ≤ m := by rw [hmm]; split <;> omega
      have hex : ∀ i, i < len → ∃ x : α, w.cells? base (a.add (i * sz)) sz = some (f x) ∧ good x := by
        intro i hi
        obtain ⟨cs', h1, h2⟩ := hel i (by omega)
        obtain ⟨x, rfl, hg⟩ := hdec _ _ _ h2
        exact ⟨x, by rw [← hc]; exact h1, hg⟩
      obtain ⟨V, hV⟩ := choose_lt (α := α) (p := fun i x => w.cells? base (a.add (i * sz)) sz = some (f x) ∧ good x) hex
      have hcell : ∀ i, i < len → ∀ j, j < sz → w.cell? ((a.add (i * sz)).add j) = (f (V i))[j]? := by
        intro i hi j hj
        exact (World.cells?_some (hV i hi).1).2.2 j hj
      obtain ⟨b, off, spot⟩ := a
      have hz : ∃ u, (f (V 0))[0]? = some u := ⟨_, List.getElem?_eq_getElem (by rw [hf]; exact hs)⟩
      obtain ⟨u, hu⟩ := hz
      have hc0 := (hcell 0 (by omega) 0 hs).trans hu
      have hspot : spot = none := by simpa [Addr.add] using World.cell?_spot hc0
      subst hspot
      have hlt : b < w.heap.size := by simpa [Addr.add] using World.block_lt_of_cell? w _ hc0
      have hxl : ((List.range len).map V).length = len := by simp
      refine ⟨(List.range len).map V, some ⟨b, off, none⟩, cap, by rw [hxl], ?_, ?_⟩
      · rw [hxl]
        refine ⟨by rw [flat_len f sz hf, hxl], hl, hm, fun _ => ⟨b, off, rfl, hlt, fun k hk => ?_⟩⟩
        have hi : k / sz < len := Nat.div_lt_of_lt_mul (by rw [Nat.mul_comm]; exact hk)
        have hj : k % sz < sz := Nat.mod_lt _ hs
        have hkk : k = k / sz * sz + k % sz := by rw [Nat.mul_comm]; exact (Nat.div_add_mod k sz).symm
        have hxi : ((List.range len).map V)[k / sz]? = some (V (k / sz)) := by simp [hi]
        have h1 := flat_get f sz hf _ _ _ hxi (k % sz) hj
        rw [← hkk] at h1
        rw [h1, ← hcell _ hi _ hj]
        rw [addr_add, addr_add, Nat.add_assoc, ← hkk]
      · intro x hx
        obtain ⟨i, hi, rfl⟩ := List.mem_map.1 hx
        exact (hV i (by simpa using hi)).2

theorem open_ints_c {fuel : Nat} {x : DataW H × List MemPlace} (h : DataW.trod enc Try.prog w base spare held fuel 29 [v] = some x) :
    ∃ (xs : List Int) (p : Option Addr) (cap : Nat), v = .slice p xs.length cap ∧ Sl w p xs.length cap 1 (ivs xs) ∧ ∀ a ∈ xs, B64 a := by
  obtain ⟨xs, p, cap, hv, hS, hg⟩ := open_slc (α := Int) (fun x => [iv x]) B64 1 Try.underlying29 (by kernel_rfl) (by omega) (fun _ => rfl) (fun n cs y hy => by
    obtain ⟨a, rfl, _, ha⟩ := DataW.trod_int Try.underlying3 hy
    exact ⟨a, rfl, bd_i64 ha⟩) h
  exact ⟨xs, p, cap, hv, by rw [← ivs_flat]; exact hS, hg⟩
end
end Go.Proofs.Ytndcnflchkfaeaa
