/-
  Words on a block that is known whole, and on worlds in which one old block alone has turned. No condition; nothing of the program.
-/
import Derived.Test.YtndcnflchkfaeaaSl
import Derived.Laws.OwnMore
import Derived.Laws.Rows
import Derived.Deep.Draws
namespace Go.Proofs.Ytndcnflchkfaeaa
open Go.RowKit
set_option linter.unusedVariables false

def Blk (w : World) (g : Nat) (t : TypeId) (cs : Array Value) : Prop := w.heap[g]? = some (.cells cs t (0, 0))
section
variable {w w' : World} {g : Nat} {t : TypeId} {cs : Array Value}
theorem Blk.lt (h : Blk w g t cs) : g < w.heap.size := (Array.getElem?_eq_some_iff.1 h).1
theorem Blk.cell (h : Blk w g t cs) (i : Nat) : w.cell? ⟨g, i, none⟩ = cs[i]? := cell_of_row w g i cs t (0, 0) h
theorem Blk.frozen (h : Blk w g t cs) (i : Nat) : w.frozen? ⟨g, i, none⟩ = false := by unfold Blk at h; simp [World.frozen?, h]
theorem Blk.new (w : World) (t : TypeId) (cs : Array Value) : Blk (w.alloc (.cells cs t)) w.heap.size t cs := heap_alloc_new w _
theorem Blk.set (h : Blk w g t cs) (i : Nat) (u : Value) : Blk (w.setCell ⟨g, i, none⟩ u) g t (cs.setIfInBounds i u) := by
  unfold Blk at h ⊢
  simp [World.setCell, Array.getElem?_modify, h]
theorem Blk.far (h : Blk w g t cs) {p : Addr} (hp : g ≠ p.block) (u : Value) : Blk (w.setCell p u) g t cs := (Below.heap_setCell w p u g hp).trans h
theorem Blk.ext (h : Blk w g t cs) (hb : Ext w w') : Blk w' g t cs := (hb.block g h.lt).trans h
theorem Blk.alloc (h : Blk w g t cs) (o : Obj) : Blk (w.alloc o) g t cs := h.ext ((Ext.refl w).alloc o)
theorem Blk.grown {row : Option Nat} (h : Blk w g t cs) (hb : w.grownBy w' row) (hg : some g ≠ row) : Blk w' g t cs := (hb.block g h.lt hg).trans h
end

theorem Sl.new (w : World) (cs : Array Value) (t : TypeId) (n : Nat) (h : cs.size = n) (hn : n ≤ maxLen) : Sl (w.alloc (.cells cs t)) (some ⟨w.heap.size, 0, none⟩) n n 1 cs.toList :=
  ⟨by simpa using h, Nat.le_refl _, hn, fun _ => ⟨w.heap.size, 0, rfl, by simp, fun k hk => by rw [Nat.zero_add, (Blk.new w t cs).cell k]; simp⟩⟩

/-- w' is w with new blocks, and block R alone has turned -/
def ExtR (R : Nat) (w w' : World) : Prop := w.grownBy w' (some R)
theorem ExtR.refl (R : Nat) (w : World) : ExtR R w w := World.grownBy.refl _ _
theorem Ext.r {w w' : World} (h : Ext w w') (R : Nat) : ExtR R w w' := ⟨h.os, h.tape, h.output, h.size, fun i hi _ => h.block i hi⟩
theorem ExtR.sz {R : Nat} {w w' : World} (h : ExtR R w w') : w.heap.size ≤ w'.heap.size := h.size
theorem ExtR.trans {R : Nat} {a b c : World} (h : ExtR R a b) (k : ExtR R b c) : ExtR R a c :=
  ⟨k.os.trans h.os, k.tape.trans h.tape, k.output.trans h.output, Nat.le_trans h.size k.size, fun i hi hne => (k.block i (Nat.lt_of_lt_of_le hi h.size) hne).trans (h.block i hi hne)⟩
theorem ExtR.ext {R : Nat} {a b c : World} (h : ExtR R a b) (k : Ext b c) : ExtR R a c := h.trans (k.r R)
theorem ExtR.alloc {R : Nat} {a b : World} (h : ExtR R a b) (o : Obj) : ExtR R a (b.alloc o) := h.ext ((Ext.refl b).alloc o)
theorem ExtR.drew {R : Nat} {a b : World} (h : ExtR R a b) : ExtR R a b.drew := h.ext (Ext.drew (Ext.refl b))
theorem ExtR.drewN {R : Nat} {a b : World} (h : ExtR R a b) (n : Nat) : ExtR R a (b.drewN n) := h.ext (Ext.drewN (Ext.refl b) n)
theorem ExtR.setCell {R : Nat} {a b : World} (h : ExtR R a b) {p : Addr} (hp : p.block = R ∨ a.heap.size ≤ p.block) (u : Value) : ExtR R a (b.setCell p u) :=
  ⟨h.os, h.tape, h.output, by simpa [World.setCell] using h.size, fun i hi hne => (Below.heap_setCell b p u i (by
    rintro rfl
    rcases hp with hp | hp
    · exact hne (by rw [hp])
    · omega)).trans (h.block i hi hne)⟩
/-- R was new: so nothing old has turned -/
theorem ExtR.new {R : Nat} {a b c : World} (h : Ext a b) (k : ExtR R b c) (hR : a.heap.size ≤ R) : Ext a c :=
  h.grown k (fun i hi => by simp at hi; omega)
theorem ExtR.grown {R : Nat} {a b c : World} {row : Option Nat} (h : ExtR R a b) (hg : b.grownBy c row) (hr : ∀ k, row = some k → a.heap.size ≤ k ∨ k = R) : ExtR R a c :=
  ⟨hg.os.trans h.os, hg.tape.trans h.tape, hg.output.trans h.output, Nat.le_trans h.size hg.size, fun i hi hne => (hg.block i (Nat.lt_of_lt_of_le hi h.size) (fun e => by
    rcases hr i e.symm with h | h
    · omega
    · exact hne (by rw [h]))).trans (h.block i hi hne)⟩
theorem ExtR.cell {R : Nat} {w w' : World} (h : ExtR R w w') {b : Nat} (o : Nat) (hb : b < w.heap.size) (hne : b ≠ R) : w'.cell? ⟨b, o, none⟩ = w.cell? ⟨b, o, none⟩ :=
  World.cell?_of_block (h.block b hb (fun e => hne (by injection e)))
/-- what was known of old blocks other than R stands -/
theorem ExtR.own {R base sz n : Nat} {e : TypeId} {w w' : World} {v : Value} {xs : List Value} (h : ExtR R w w') (ho : w.ownsRow base e sz v n xs) (hb : R < base) : w'.ownsRow base e sz v n xs :=
  ho.kept h (.inr (fun hh => by have := ho.lt R hh; omega))
theorem ExtR.sl {R n cap sz b0 : Nat} {w w' : World} {p : Option Addr} {cs : List Value} (h : ExtR R w w') (hs : Sl w p n cap sz cs) (hp : 0 < n → ∀ b off, p = some ⟨b, off, none⟩ → b ≠ R) : Sl w' p n cap sz cs :=
  ⟨hs.len, hs.le, hs.mx, fun h0 => by
    obtain ⟨b, off, rfl, h1, h2⟩ := hs.rd h0
    exact ⟨b, off, rfl, Nat.lt_of_lt_of_le h1 h.sz, fun k hk => (h.cell _ h1 (hp h0 b off rfl)).trans (h2 k hk)⟩⟩
end Go.Proofs.Ytndcnflchkfaeaa
