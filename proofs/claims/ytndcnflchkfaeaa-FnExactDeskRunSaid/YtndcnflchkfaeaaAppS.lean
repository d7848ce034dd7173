/-
  Appending a slice that reads as a list to a slice of the call's own; both kinds of append as steps of a region that draws its order. No condition.
-/
import Derived.Test.YtndcnflchkfaeaaApp
import Derived.Maps.AppendAt
import Derived.Deep.AppendLies
import Derived.RegionTactic
import Derived.Deep.RegionLaw
namespace Go.Proofs.Ytndcnflchkfaeaa
open Go.RowKit
set_option linter.unusedVariables false

section
variable {P : Program} (w : World)
theorem run_append_sl {t e ty : TypeId} {sz : Nat} (E : ElT P t e sz) (base : Nat) (v : Value) (n : Nat) (xs : List Value) (hown : w.ownsRow base e sz v n xs) (p : Option Addr) (m c : Nat) (news : List Value) (hs : Sl w p m c sz news)
    (h1 : ∀ u ∈ news, u.oneCell' = true) (hn : n + m ≤ 1099511627776) (hbase : base ≤ w.heap.size) :
    ∃ p' cap' w', (Builtin.append_ #[t, t] ty #[v, .slice p m c]).run P w = .ok (.slice p' (n + m) cap') w' ∧ w'.ownsRow base e sz (.slice p' (n + m) cap') (n + m) (xs ++ news) ∧ w.grownBy w' v.ownBlock := by
  obtain ⟨i, z, hi, hz, hsz, hby, hzs⟩ := E.info
  cases p with
  | none =>
    have hm : m = 0 := by
      rcases Nat.eq_zero_or_pos m with h0 | h0
      · exact h0
      · obtain ⟨b, off, h, _⟩ := hs.rd h0; cases h
    subst hm
    have hnews : news = [] := List.eq_nil_of_length_eq_zero (by simpa using hs.len)
    subst hnews
    obtain ⟨q, cap, rfl⟩ := own_form hown
    refine ⟨q, cap, w, ?_, by simpa using hown, World.grownBy.refl w _⟩
    rcases hown.2 with ⟨h2, h3⟩ | ⟨g, cap', cur, h2, _, _, hnc, _⟩
    · injection h2 with e1 e2 e3
      subst e1 e2 e3
      simp [Builtin.append_, run_underlying E.ht, sizeOf, typeInfo, hi, Builtin.lenOf, Builtin.firstCells]
    · injection h2 with e1 e2 e3
      subst e1 e3
      simp [Builtin.append_, run_underlying E.ht, sizeOf, typeInfo, hi, Builtin.lenOf, Builtin.firstCells, hnc, storeCells]
  | some ad =>
    have hcells : ∀ j u, news[j]? = some u → w.cell? (ad.add j) = some u := by
      intro j u hu
      rcases Nat.eq_zero_or_pos m with h0 | h0
      · subst h0
        have hnews : news = [] := List.eq_nil_of_length_eq_zero (by simpa using hs.len)
        subst hnews
        simp at hu
      · obtain ⟨b, off, h, _, hc⟩ := hs.rd h0
        injection h with h
        subst h
        rw [addr_add, hc j (by rw [← hs.len]; exact (List.getElem?_eq_some_iff.1 hu).1)]
        exact hu
    have hbb : (n + m) * i.bytes ≤ 140737488355328 := by
      have : (n + m) * i.bytes ≤ (n + m) * 64 := Nat.mul_le_mul_left _ hby
      omega
    obtain ⟨v', w', hrun, h2, h3, _, _⟩ := run_append_own_at (P := P) w base t ty e i z sz i.bytes E.ht hi hz hsz rfl hzs E.pos v n xs hown ad m c news hs.len hcells h1 (by unfold maxLen; omega) hbb hbase
    obtain ⟨q, cap, rfl⟩ := own_form h2
    exact ⟨q, cap, w', hrun, h2, h3⟩

theorem wp_append_sl {o : Oper} {a : Act} {K : Act → World → Prop} {Q : Exit → Act → World → Prop} {t e : TypeId} {sz : Nat} (E : ElT P t e sz) (s x : Operand)
    (ho : o.op = .call { callee := .builtin .append, args := #[s, x], argTypes := #[t, t] })
    (base : Nat) (v : Value) (n : Nat) (xs : List Value) (hs : a.eval s = v) (hown : w.ownsRow base e sz v n xs)
    (p : Option Addr) (m c : Nat) (news : List Value) (hx : a.eval x = .slice p m c) (hr : Sl w p m c sz news) (h1 : ∀ u ∈ news, u.oneCell' = true)
    (hn : n + m ≤ 1099511627776) (hbase : base ≤ w.heap.size)
    (h : ∀ p' cap' w', w'.ownsRow base e sz (.slice p' (n + m) cap') (n + m) (xs ++ news) → w.grownBy w' v.ownBlock → K (a.put o.dst (.slice p' (n + m) cap')) w') : o.wp P a w K Q := by
  obtain ⟨p', cap', w', hrun, h2, h3⟩ := run_append_sl (ty := o.type) w E base v n xs hown p m c news hr h1 hn hbase
  unfold Oper.wp execOp
  simp only [ho, resolve, invoke, builtin, Sem.run_bind, Sem.run_pure, Result.andThen_ok, List.map_toArray, List.map_cons, List.map_nil, hs, hx, hrun]
  exact h p' cap' w' h2 h3

theorem wpList_append_sl {ops : Array Oper} {rest : List Oper} {o : Oper} {a : Act} {Q : Exit → Act → World → Prop} {t e : TypeId} {sz : Nat} (E : ElT P t e sz) (hgd : o.guard = none) (s x : Operand)
    (ho : o.op = .call { callee := .builtin .append, args := #[s, x], argTypes := #[t, t] })
    (base : Nat) (v : Value) (n : Nat) (xs : List Value) (hs : a.eval s = v) (hown : w.ownsRow base e sz v n xs)
    (p : Option Addr) (m c : Nat) (news : List Value) (hx : a.eval x = .slice p m c) (hr : Sl w p m c sz news) (h1 : ∀ u ∈ news, u.oneCell' = true)
    (hn : n + m ≤ 1099511627776) (hbase : base ≤ w.heap.size)
    (h : ∀ p' cap' w', w'.ownsRow base e sz (.slice p' (n + m) cap') (n + m) (xs ++ news) → w.grownBy w' v.ownBlock → wpList P ops Q rest (a.put o.dst (.slice p' (n + m) cap')) w') : wpList P ops Q (o :: rest) a w :=
  wpList_plain hgd fun _ hK => wp_append_sl w E s x ho base v n xs hs hown p m c news hx hr h1 hn hbase fun p' cap' w' h2 h3 => hK _ _ (h p' cap' w' h2 h3)

theorem step_append_sl {ops : Array Oper} {o : Oper} {a : Act} {K : Act → World → Prop} {Q : Exit → Act → World → Prop} {E0 : Prop} {t e : TypeId} {sz : Nat} (E : ElT P t e sz) (hgd : o.guard = none) (s x : Operand)
    (ho : o.op = .call { callee := .builtin .append, args := #[s, x], argTypes := #[t, t] })
    (base : Nat) (v : Value) (n : Nat) (xs : List Value) (hs : a.eval s = v) (hown : w.ownsRow base e sz v n xs)
    (p : Option Addr) (m c : Nat) (news : List Value) (hx : a.eval x = .slice p m c) (hr : Sl w p m c sz news) (h1 : ∀ u ∈ news, u.oneCell' = true)
    (hn : n + m ≤ 1099511627776) (hbase : base ≤ w.heap.size)
    (h : ∀ p' cap' w', w'.ownsRow base e sz (.slice p' (n + m) cap') (n + m) (xs ++ news) → w.grownBy w' v.ownBlock → K (a.put o.dst (.slice p' (n + m) cap')) w') :
    if Region.wanted o (yielded ops a.tmps) = true then Oper.wp P o a w K Q else E0 := by
  have hw : Region.wanted o (yielded ops a.tmps) = true := by simp [Region.wanted, hgd]
  rw [if_pos hw]
  exact wp_append_sl w E s x ho base v n xs hs hown p m c news hx hr h1 hn hbase h
end
theorem ivs_one (xs : List Int) : ∀ u ∈ ivs xs, u.oneCell' = true := by
  intro u hu
  obtain ⟨x, _, rfl⟩ := List.mem_map.1 hu
  rfl
end Go.Proofs.Ytndcnflchkfaeaa
