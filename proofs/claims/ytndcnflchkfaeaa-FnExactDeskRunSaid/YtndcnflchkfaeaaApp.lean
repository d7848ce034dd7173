/-
  Appending one element to a slice of the call's own, and making slices, for elements of a fixed number of cells. No condition.
-/
import Derived.Test.YtndcnflchkfaeaaChg
import Derived.Laws.AppendOwn
namespace Go.Proofs.Ytndcnflchkfaeaa
open Go.RowKit
set_option linter.unusedVariables false

/-- slices of type t have elements of type e of sz cells -/
structure ElT (P : Program) (t e : TypeId) (sz : Nat) : Prop where
  ht : P.underlying t = some (.slice e)
  info : ∃ i z, P.info? e = some i ∧ i.zero = some z ∧ i.size = sz ∧ i.bytes ≤ 64 ∧ z.cells.size = sz
  pos : 0 < sz

theorem own_form {w : World} {base sz n : Nat} {e : TypeId} {v : Value} {xs : List Value} (h : w.ownsRow base e sz v n xs) : ∃ p cap, v = .slice p n cap := by
  rcases h.2 with ⟨h1, h2⟩ | ⟨g, cap, _, h1, _⟩
  · exact ⟨none, 0, by rw [h1, h2]⟩
  · exact ⟨_, cap, h1⟩
theorem Ext.own {a b c : World} {base sz n : Nat} {e : TypeId} {v : Value} {xs : List Value} (h : Ext a b) (ho : b.ownsRow base e sz v n xs) (hg : b.grownBy c v.ownBlock) (hb : a.heap.size ≤ base) : Ext a c :=
  h.grown hg (fun q hq => Nat.le_trans hb (ho.lt q hq).1)

section
variable {P : Program} {w : World} {ops : Array Oper} {rest : List Oper} {o : Oper} {a : Act} {Q : Exit → Act → World → Prop}
theorem wpList_append_el {α : Type} {t e : TypeId} {sz : Nat} (E : ElT P t e sz) {f : α → List Value} (hf : ∀ a, (f a).length = sz) (h1 : ∀ a, ∀ u ∈ f a, u.oneCell' = true) (hgd : o.guard = none) (s x : Operand)
    (ho : o.op = .call { callee := .builtin .append, args := #[s, x], argTypes := #[t, t] })
    (base : Nat) (v : Value) (n : Nat) (xs : List α) (hs : a.eval s = v) (hown : w.ownsRow base e sz v n (xs.flatMap f))
    (b off : Nat) (y : α) (c : Nat) (hx : a.eval x = .slice (some ⟨b, off, none⟩) 1 c) (hc : ∀ j u, (f y)[j]? = some u → w.cell? ⟨b, off + j, none⟩ = some u)
    (hn : n ≤ 1099511627776) (hbase : base ≤ w.heap.size)
    (h : ∀ p' cap' w', w'.ownsRow base e sz (.slice p' (n + 1) cap') (n + 1) ((xs ++ [y]).flatMap f) → w.grownBy w' v.ownBlock → wpList P ops Q rest (a.put o.dst (.slice p' (n + 1) cap')) w') : wpList P ops Q (o :: rest) a w := by
  obtain ⟨i, z, hi, hz, hsz, hby, hzs⟩ := E.info
  refine wpList_append_own w hgd s x t ho base e i z sz i.bytes E.ht hi hz hsz rfl hzs E.pos v n _ hs hown ⟨b, off, none⟩ 1 c (f y) hx (by rw [hf]; omega) (fun j u hu => by rw [addr_add]; exact hc j u hu) (h1 y) (by unfold maxLen; omega) ?_ hbase ?_
  · have : (n + 1) * i.bytes ≤ (n + 1) * 64 := Nat.mul_le_mul_left _ hby
    omega
  · intro v' w' h2 h3 _
    obtain ⟨p, cap, rfl⟩ := own_form h2
    exact h p cap w' (by rw [List.flatMap_append]; simpa using h2) h3

theorem wpList_append_int (E : ElT P 29 3 1) (hgd : o.guard = none) (s x : Operand)
    (ho : o.op = .call { callee := .builtin .append, args := #[s, x], argTypes := #[29, 29] })
    (base : Nat) (v : Value) (n : Nat) (xs : List Int) (hs : a.eval s = v) (hown : w.ownsRow base 3 1 v n (ivs xs))
    (b off : Nat) (y : Int) (c : Nat) (hx : a.eval x = .slice (some ⟨b, off, none⟩) 1 c) (hc : w.cell? ⟨b, off, none⟩ = some (iv y))
    (hn : n ≤ 1099511627776) (hbase : base ≤ w.heap.size)
    (h : ∀ p' cap' w', w'.ownsRow base 3 1 (.slice p' (n + 1) cap') (n + 1) (ivs (xs ++ [y])) → w.grownBy w' v.ownBlock → wpList P ops Q rest (a.put o.dst (.slice p' (n + 1) cap')) w') : wpList P ops Q (o :: rest) a w := by
  refine wpList_append_el E (f := fun x => [iv x]) (fun _ => rfl) (fun _ u hu => by simp at hu; subst hu; rfl) hgd s x ho base v n xs hs (by rw [ivs_flat]; exact hown) b off y c hx (fun j u hu => ?_) hn hbase (fun p' cap' w' h2 h3 => h p' cap' w' (by rw [ivs_flat] at h2; exact h2) h3)
  match j, hu with
  | 0, hu => simp at hu; subst hu; exact hc
end

theorem elInt : ElT Try.prog 29 3 1 :=
  ⟨Try.underlying29, by
    obtain ⟨i, hi, h0, h1, h2⟩ := info_parts (show (Try.prog.info? 3).map (fun i => (i.zero, i.size, i.bytes)) = some (some (.int .i64 0), 1, 8) by kernel_rfl)
    exact ⟨i, _, hi, h0, h1, by omega, rfl⟩, Nat.one_pos⟩
end Go.Proofs.Ytndcnflchkfaeaa
