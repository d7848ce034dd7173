/-
  Both functions JournalText return the text 'journalText' of a list of deeds. Conditions: the slice reads as the list, which has at most 2^40 deeds; the library's table is laid.
-/
import Derived.Test.YteejdnmmpmcmeaaGreatDoorReadEntry
import Derived.Test.YteejdnmmpmcmeaaGreatDoorBuilder
import Derived.Test.YteejdnmmpmcmeaaGreatDoorFlat
namespace Go.Proofs.YteejdnmmpmcmeaaGreatDoor
open Go.RowKit
set_option linter.unusedVariables false

/-! ### slices of structs -/
theorem Rd.at {α : Type} {f : α → List Value} {w : World} {b off n cap sz : Nat} {xs : List α} (hf : ∀ a, (f a).length = sz) (h : Rd w (.slice (some ⟨b, off, none⟩) n cap) n sz (xs.flatMap f)) {k : Nat} {a : α} (hk : xs[k]? = some a) (hn : xs.length = n) (j : Nat) (hj : j < sz) :
    w.cell? ⟨b, off + k * sz + j, none⟩ = (f a)[j]? := by
  rcases h.2 with ⟨h1, _⟩ | ⟨b', off', cap', h1, _, _, _, h2⟩
  · simp at h1
  · simp only [Value.slice.injEq, Option.some.injEq, Addr.mk.injEq, and_true, true_and] at h1
    obtain ⟨⟨rfl, rfl⟩, rfl⟩ := h1
    have hkn : k < n := by rw [← hn]; exact (List.getElem?_eq_some_iff.1 hk).1
    have hlt : k * sz + j < n * sz := by
      have : (k + 1) * sz ≤ n * sz := Nat.mul_le_mul_right sz hkn
      rw [Nat.succ_mul] at this; omega
    rw [Nat.add_assoc, h2 _ hlt, flat_get f sz hf xs k a hk j hj]

def deedCells (d : Deed3) : List Value := [.int .i64 d.1, .int .i64 d.2.1, .int .i64 d.2.2]
abbrev RdDeeds (w : World) (v : Value) (ds : List Deed3) : Prop := Rd w v ds.length 3 (ds.flatMap deedCells)
theorem RdDeeds.at {w : World} {b off n cap : Nat} {ds : List Deed3} (h : Rd w (.slice (some ⟨b, off, none⟩) n cap) n 3 (ds.flatMap deedCells)) (hn : ds.length = n) {k : Nat} {d : Deed3} (hk : ds[k]? = some d) :
    w.cell? ⟨b, off + k * 3, none⟩ = some (.int .i64 d.1) ∧ w.cell? ⟨b, off + k * 3 + 1, none⟩ = some (.int .i64 d.2.1) ∧ w.cell? ⟨b, off + k * 3 + 2, none⟩ = some (.int .i64 d.2.2) :=
  ⟨h.at (f := deedCells) (fun _ => rfl) hk hn 0 (by omega), h.at (f := deedCells) (fun _ => rfl) hk hn 1 (by omega), h.at (f := deedCells) (fun _ => rfl) hk hn 2 (by omega)⟩

/-! ### the text -/
def jt (first : Int) : List Deed3 → Option (List UInt8)
  | [] => some []
  | d :: ds => if entryText first d.1 d.2.1 d.2.2 = [] then none else (jt (first + 1) ds).map (entryText first d.1 d.2.1 d.2.2 ++ ·)
def journalText (first : Int) (ds : List Deed3) : List UInt8 := (jt first ds).getD []
theorem jt_append (B : List Deed3) : ∀ (A : List Deed3) (first : Int), jt first (A ++ B) = (jt first A).bind fun x => (jt (first + A.length) B).map (x ++ ·) := by
  intro A
  induction A with
  | nil => intro first; simp [jt]
  | cons d A ih =>
    intro first
    simp only [List.cons_append, jt]
    split
    · simp
    · rw [ih (first + 1)]
      have e : first + 1 + (A.length : Int) = first + ((d :: A).length : Nat) := by simp; omega
      rw [e]
      cases jt (first + 1) A with
      | none => simp
      | some x => simp only [Option.bind_some, Option.map_some, Option.map_map]
                  cases jt (first + ((d :: A).length : Nat)) B <;> simp
theorem jt_bd : ∀ (A : List Deed3) (first : Int) (x : List UInt8), jt first A = some x → (A = [] ∨ 1 ≤ first ∧ first + A.length ≤ 100) ∧ x.length ≤ 200 * A.length := by
  intro A
  induction A with
  | nil => intro first x h; simp [jt] at h; subst h; simp
  | cons d A ih =>
    intro first x h
    simp only [jt] at h
    split at h
    · simp at h
    · rename_i hne
      obtain ⟨y, hy, rfl⟩ := Option.map_eq_some_iff.1 h
      obtain ⟨h1, h2⟩ := ih _ _ hy
      obtain ⟨q1, q2, _⟩ := entryText_form hne
      have := entryText_len first d.1 d.2.1 d.2.2
      refine ⟨.inr ⟨q1, ?_⟩, by simp; omega⟩
      rcases h1 with rfl | ⟨_, h1⟩
      · simp; omega
      · simp; omega
theorem jt_step {first : Int} {ds : List Deed3} {k : Nat} {d : Deed3} {x : List UInt8} (hd : ds[k]? = some d) (hx : jt first (ds.take k) = some x) (hne : entryText (first + k) d.1 d.2.1 d.2.2 ≠ []) :
    jt first (ds.take (k + 1)) = some (x ++ entryText (first + k) d.1 d.2.1 d.2.2) := by
  have hk : k < ds.length := (List.getElem?_eq_some_iff.1 hd).1
  have e : ds.take (k + 1) = ds.take k ++ [d] := by
    rw [List.take_succ_eq_append_getElem hk]; congr 2
    exact (List.getElem?_eq_some_iff.1 hd).2
  have hl : (ds.take k).length = k := by simp; omega
  rw [e, jt_append, hx, hl]; simp [jt, hne]
theorem jt_stop {first : Int} {ds : List Deed3} {k : Nat} {d : Deed3} {x : List UInt8} (hd : ds[k]? = some d) (hx : jt first (ds.take k) = some x) (hne : entryText (first + k) d.1 d.2.1 d.2.2 = []) :
    jt first ds = none := by
  have hk : k < ds.length := (List.getElem?_eq_some_iff.1 hd).1
  have e : ds = ds.take k ++ d :: ds.drop (k + 1) := by
    conv => lhs; rw [← List.take_append_drop k ds]
    congr 1
    rw [List.drop_eq_getElem_cons hk]; congr 1
    exact (List.getElem?_eq_some_iff.1 hd).2
  have hl : (ds.take k).length = k := by simp; omega
  rw [e, jt_append, hx, hl]; simp [jt, hne]

/-! ### a builder while the world grows -/
theorem Ext.gb {w w' : World} (h : Ext w w') : w.grownBy w' none := ⟨h.os, h.tape, h.output, h.size, fun k hk _ => h.block k hk⟩
theorem builderAt_ext {T e : TypeId} {B b : Nat} {p : Value} {bs : List Value} {w w' : World} (h : Lib.BuilderAtF T e B b p bs w) (hx : Ext w w') : Lib.BuilderAtF T e B b p bs w' := by
  have hlt := h.lt
  obtain ⟨hB, v, hh, hown, hne⟩ := h
  exact ⟨hB, v, by rw [hx.block b hlt]; exact hh, hown.kept hx.gb (by cases v.ownBlock <;> simp), hne⟩
theorem builder_ext {T e : TypeId} {B b : Nat} {bs : List Value} {w w' : World} (h : Lib.IsBuilderF T e B b bs w) (hx : Ext w w') : Lib.IsBuilderF T e B b bs w' :=
  h.elim (fun q => .inl (builderAt_ext q hx)) (fun q => .inr (builderAt_ext q hx))
theorem ext_below {w wr w' : World} {B : Nat} (h : Ext w wr) (hb : Below B wr w') (hB : w.heap.size ≤ B) : Ext w w' := Below.trans h (Below.mono hb hB)
end Go.Proofs.YteejdnmmpmcmeaaGreatDoor
