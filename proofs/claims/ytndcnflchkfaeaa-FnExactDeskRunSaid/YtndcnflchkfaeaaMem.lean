/-
  Words on memory: what it means that a slice value reads as a list of cells, and that a world extends another. No condition; nothing of the program.
-/
import Derived.Test.YtndcnflchkfaeaaRows
import Derived.WalkKit
import Derived.IntWalk
import Derived.WalkSpells
import Derived.WalkSmall
import Derived.Below
import Derived.BigQuiet
import Derived.Deep.QuietTactic
import Derived.Deep.RegionWith
namespace Go.Proofs.Ytndcnflchkfaeaa
open Go.RowKit
set_option linter.unusedVariables false

/-- w' is w with new blocks: nothing that was there has turned -/
def Ext (w w' : World) : Prop := Below w.heap.size w w'
theorem Ext.refl (w : World) : Ext w w := Below.refl _ _
theorem Ext.trans {a b c : World} (h : Ext a b) (k : Ext b c) : Ext a c := Below.trans h (Below.mono k h.size)
theorem Ext.alloc {a b : World} (h : Ext a b) (o : Obj) : Ext a (b.alloc o) := Below.alloc h h.size o
theorem Ext.drew {a b : World} (h : Ext a b) : Ext a b.drew := Below.drew h
theorem Ext.drewN {a b : World} (h : Ext a b) (n : Nat) : Ext a (b.drewN n) := below_drewN h n
theorem Ext.of_drew {a b : World} (h : Ext a.drew b) : Ext a b := ⟨h.os, h.tape, h.output, h.size, h.block⟩
theorem Ext.setCell {a b : World} (h : Ext a b) {p : Addr} (hp : a.heap.size ≤ p.block) (u : Value) : Ext a (b.setCell p u) := Below.setCell h hp u
theorem Ext.grown {a b c : World} {row : Option Nat} (h : Ext a b) (hg : b.grownBy c row) (hr : ∀ k, row = some k → a.heap.size ≤ k) : Ext a c := Below.grown h hg h.size hr
theorem Ext.cells {W w1 : World} (hb : Ext W w1) : (∀ b o, b < W.heap.size → w1.cell? ⟨b, o, none⟩ = W.cell? ⟨b, o, none⟩) ∧ (∀ b o, b < W.heap.size → w1.frozen? ⟨b, o, none⟩ = W.frozen? ⟨b, o, none⟩) :=
  ⟨fun b o h => Below.cell hb (p := ⟨b, o, none⟩) h, fun b o h => Below.frozen hb (p := ⟨b, o, none⟩) h⟩
theorem Ext.sz {W w1 : World} (hb : Ext W w1) : W.heap.size ≤ w1.heap.size := hb.size

/-- the slice value v of n elements of sz cells each reads as the cells cs -/
def Rd (w : World) (v : Value) (n sz : Nat) (cs : List Value) : Prop :=
  cs.length = n * sz ∧ ((v = .slice none 0 0 ∧ n = 0) ∨
    ∃ b off cap, v = .slice (some ⟨b, off, none⟩) n cap ∧ n ≤ cap ∧ cap ≤ maxLen ∧ b < w.heap.size ∧ ∀ k, k < n * sz → w.cell? ⟨b, off + k, none⟩ = cs[k]?)

theorem Rd.nil (w : World) (sz : Nat) : Rd w (.slice none 0 0) 0 sz [] := ⟨by simp, .inl ⟨rfl, rfl⟩⟩

theorem Rd.ext {w w' : World} {v : Value} {n sz : Nat} {cs : List Value} (h : Rd w v n sz cs) (hb : Ext w w') : Rd w' v n sz cs := by
  refine ⟨h.1, ?_⟩
  rcases h.2 with h | ⟨b, off, cap, rfl, h1, h2, h3, h4⟩
  · exact .inl h
  · refine .inr ⟨b, off, cap, rfl, h1, h2, Nat.lt_of_lt_of_le h3 hb.size, fun k hk => ?_⟩
    rw [Below.cell hb (p := ⟨b, off + k, none⟩) h3]; exact h4 k hk

/-- the slice value v is the call's own: made from block base on; nobody else has it. Where it has no room (n = 0, no capacity) its address is of no account. -/
def Own (w : World) (base : Nat) (e : TypeId) (sz : Nat) (v : Value) (n : Nat) (xs : List Value) : Prop :=
  w.ownsRow base e sz v n xs ∨ (n = 0 ∧ xs = [] ∧ ∃ b off, v = .slice (some ⟨b, off, none⟩) 0 0 ∧ b < w.heap.size)

theorem Own.len {w : World} {base : Nat} {e : TypeId} {sz : Nat} {v : Value} {n : Nat} {xs : List Value} (h : Own w base e sz v n xs) : xs.length = n * sz := by
  rcases h with h | ⟨rfl, rfl, _⟩
  · exact h.1
  · simp

theorem Own.rd {w : World} {base : Nat} {e : TypeId} {sz : Nat} {v : Value} {n : Nat} {xs : List Value} (h : Own w base e sz v n xs) : Rd w v n sz xs := by
  refine ⟨h.len, ?_⟩
  rcases h with h | ⟨rfl, rfl, b, off, rfl, hb⟩
  · rcases h.2 with h2 | ⟨g, cap, cur, rfl, hb, hg, hn, hm, hs, ht⟩
    · exact .inl h2
    · refine .inr ⟨g, 0, cap, rfl, hn, hm, (Array.getElem?_eq_some_iff.1 hg).1, fun k hk => ?_⟩
      rw [Nat.zero_add]; exact h.cellAt k hk
  · exact .inr ⟨b, off, 0, rfl, Nat.le_refl _, by simp [maxLen], hb, fun k hk => by simp at hk⟩

theorem ret_int {k : IntKind} {a b : Int} (h : a = b) : Ending.returned (.int k a) = .returned (.int k b) := by rw [h]
theorem ret_bool {a b : Bool} (h : a = b) : Ending.returned (.bool a) = .returned (.bool b) := by rw [h]
end Go.Proofs.Ytndcnflchkfaeaa
