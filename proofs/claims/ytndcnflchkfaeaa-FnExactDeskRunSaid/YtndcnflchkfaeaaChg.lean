/-
  Words on what a call may turn: blocks from B up to T alone ('Chg'), and on slices of the call's own that lie there ('OwnT'). No condition; nothing of the program.
-/
import Derived.Test.YtndcnflchkfaeaaBlk
namespace Go.Proofs.Ytndcnflchkfaeaa
open Go.RowKit
set_option linter.unusedVariables false

structure Chg (B T : Nat) (w w' : World) : Prop where
  os : w'.os = w.os
  tape : w'.tape = w.tape
  output : w'.output = w.output
  size : w.heap.size ≤ w'.heap.size
  block : ∀ i, i < w.heap.size → (i < B ∨ T ≤ i) → w'.heap[i]? = w.heap[i]?
theorem Chg.refl (B T : Nat) (w : World) : Chg B T w w := ⟨rfl, rfl, rfl, Nat.le_refl _, fun _ _ _ => rfl⟩
theorem Ext.chg {w w' : World} (h : Ext w w') (B T : Nat) : Chg B T w w' := ⟨h.os, h.tape, h.output, h.size, fun i hi _ => h.block i hi⟩
theorem Chg.trans {B T : Nat} {a b c : World} (h : Chg B T a b) (k : Chg B T b c) : Chg B T a c :=
  ⟨k.os.trans h.os, k.tape.trans h.tape, k.output.trans h.output, Nat.le_trans h.size k.size, fun i hi hh => (k.block i (Nat.lt_of_lt_of_le hi h.size) hh).trans (h.block i hi hh)⟩
theorem Chg.mono {B T B' T' : Nat} {a b : World} (h : Chg B T a b) (hB : B' ≤ B) (hT : T ≤ T') : Chg B' T' a b :=
  ⟨h.os, h.tape, h.output, h.size, fun i hi hh => h.block i hi (by omega)⟩
/-- what turned was new -/
theorem Chg.ext {B T : Nat} {a b c : World} (h : Ext a b) (k : Chg B T b c) (hB : a.heap.size ≤ B) : Ext a c :=
  ⟨k.os.trans h.os, k.tape.trans h.tape, k.output.trans h.output, Nat.le_trans h.size k.size, fun i hi => (k.block i (Nat.lt_of_lt_of_le hi h.size) (.inl (Nat.lt_of_lt_of_le hi hB))).trans (h.block i hi)⟩
theorem Chg.of_grown {B T : Nat} {w w' : World} {row : Option Nat} (h : w.grownBy w' row) (hr : ∀ g, row = some g → B ≤ g ∧ g < T) : Chg B T w w' :=
  ⟨h.os, h.tape, h.output, h.size, fun i hi hh => h.block i hi (fun e => by have := hr i e.symm; omega)⟩

/-- a slice of the call's own that lies in blocks from B up to T; or one without room, wherever it may point -/
def OwnT (w : World) (B T : Nat) (e : TypeId) (sz : Nat) (p : Option Addr) (n cap : Nat) (xs : List Value) : Prop :=
  T ≤ w.heap.size ∧ ((n = 0 ∧ cap = 0 ∧ xs = []) ∨ (w.ownsRow B e sz (.slice p n cap) n xs ∧ ∀ g, (Value.slice p n cap).ownBlock = some g → g < T))
theorem OwnT.of {w : World} {B : Nat} {e : TypeId} {sz n cap : Nat} {p : Option Addr} {xs : List Value} (h : w.ownsRow B e sz (.slice p n cap) n xs) : OwnT w B w.heap.size e sz p n cap xs :=
  ⟨Nat.le_refl _, .inr ⟨h, fun g hg => (h.lt g hg).2⟩⟩
theorem OwnT.zero (w : World) (B : Nat) (e : TypeId) (sz : Nat) (p : Option Addr) : OwnT w B w.heap.size e sz p 0 0 [] := ⟨Nat.le_refl _, .inl ⟨rfl, rfl, rfl⟩⟩
theorem OwnT.sl {w : World} {B T : Nat} {e : TypeId} {sz n cap : Nat} {p : Option Addr} {xs : List Value} (h : OwnT w B T e sz p n cap xs) : Sl w p n cap sz xs := by
  rcases h.2 with ⟨rfl, rfl, rfl⟩ | h
  · exact ⟨by simp, Nat.le_refl _, Nat.zero_le _, fun h => absurd h (by omega)⟩
  · exact Sl.own h.1
theorem OwnT.top {w : World} {B T : Nat} {e : TypeId} {sz n cap : Nat} {p : Option Addr} {xs : List Value} (h : OwnT w B T e sz p n cap xs) {T' : Nat} (h1 : T ≤ T') (h2 : T' ≤ w.heap.size) : OwnT w B T' e sz p n cap xs := by
  refine ⟨h2, ?_⟩
  rcases h.2 with h | ⟨h, k⟩
  · exact .inl h
  · exact .inr ⟨h, fun g hg => Nat.lt_of_lt_of_le (k g hg) h1⟩
theorem OwnT.base {w : World} {B T : Nat} {e : TypeId} {sz n cap : Nat} {p : Option Addr} {xs : List Value} (h : OwnT w B T e sz p n cap xs) {B' : Nat} (h1 : B' ≤ B) : OwnT w B' T e sz p n cap xs := by
  refine ⟨h.1, ?_⟩
  rcases h.2 with h | ⟨h, k⟩
  · exact .inl h
  · refine .inr ⟨⟨h.1, ?_⟩, k⟩
    rcases h.2 with h2 | ⟨g, cap', cur, e1, hb, r⟩
    · exact .inl h2
    · exact .inr ⟨g, cap', cur, e1, Nat.le_trans h1 hb, r⟩
/-- what turned lies elsewhere -/
theorem OwnT.chg {w w' : World} {B T B' T' : Nat} {e : TypeId} {sz n cap : Nat} {p : Option Addr} {xs : List Value} (h : OwnT w B T e sz p n cap xs) (hc : Chg B' T' w w') (hd : T ≤ B' ∨ T' ≤ B) : OwnT w' B T e sz p n cap xs := by
  refine ⟨Nat.le_trans h.1 hc.size, ?_⟩
  rcases h.2 with h2 | ⟨h2, k⟩
  · exact .inl h2
  · refine .inr ⟨⟨h2.1, ?_⟩, k⟩
    rcases h2.2 with h3 | ⟨g, cap', cur, h1, hb, hg, hn, hm, hs, ht⟩
    · exact .inl h3
    · have hgb : (Value.slice p n cap).ownBlock = some g := by rw [h1]; rfl
      have h4 := k g hgb
      exact .inr ⟨g, cap', cur, h1, hb, (hc.block g (Array.getElem?_eq_some_iff.1 hg).1 (by omega)).trans hg, hn, hm, hs, ht⟩
theorem OwnT.ext {w w' : World} {B T : Nat} {e : TypeId} {sz n cap : Nat} {p : Option Addr} {xs : List Value} (h : OwnT w B T e sz p n cap xs) (hx : Ext w w') : OwnT w' B T e sz p n cap xs := h.chg (hx.chg T T) (.inl (Nat.le_refl _))
theorem Sl.chg {w w' : World} {B T n cap sz : Nat} {p : Option Addr} {cs : List Value} (hs : Sl w p n cap sz cs) (h : Chg B T w w') (hp : 0 < n → ∀ b off, p = some ⟨b, off, none⟩ → b < B ∨ T ≤ b) : Sl w' p n cap sz cs :=
  ⟨hs.len, hs.le, hs.mx, fun h0 => by
    obtain ⟨b, off, rfl, h1, h2⟩ := hs.rd h0
    exact ⟨b, off, rfl, Nat.lt_of_lt_of_le h1 h.size, fun k hk => (World.cell?_of_block (h.block b h1 (hp h0 b off rfl))).trans (h2 k hk)⟩⟩
end Go.Proofs.Ytndcnflchkfaeaa
