/-
  The laws' helpers on lists of numbers, visits, halls, tariffs and houses: to, sz, eq. Conditions: slices read as lists of at most 2^40 elements.
-/
import Derived.Test.YtndcnflchkfaeaaHouse1
namespace Go.Proofs.Ytndcnflchkfaeaa
open Go.RowKit
set_option linter.unusedVariables false

abbrev visitV (a b c d : Int) : Value := .agg #[.int .i64 a, .int .i64 b, .int .i64 c, .int .i64 d]
theorem Blk.four {w : World} {g : Nat} {t : TypeId} {a b c d : Value} (h : Blk w g t #[a, b, c, d]) : w.cell? ⟨g, 0, none⟩ = some a ∧ w.cell? ⟨g, 1, none⟩ = some b ∧ w.cell? ⟨g, 2, none⟩ = some c ∧ w.cell? ⟨g, 3, none⟩ = some d ∧ w.frozen? ⟨g, 0, none⟩ = false ∧ w.frozen? ⟨g, 1, none⟩ = false ∧ w.frozen? ⟨g, 2, none⟩ = false ∧ w.frozen? ⟨g, 3, none⟩ = false :=
  ⟨h.cell 0, h.cell 1, h.cell 2, h.cell 3, h.frozen 0, h.frozen 1, h.frozen 2, h.frozen 3⟩

theorem get_next {xs : List Int} {k n : Nat} (h : k < n) (hl : (xs.take k).length = k) : (ivs (xs.take k ++ List.replicate (n - k) 0))[k]? = some (.int .i64 0) := by
  simp only [ivs, List.map_append]
  rw [List.getElem?_append_right (by rw [List.length_map, hl]; exact Nat.le_refl _), List.length_map, hl, Nat.sub_self]
  rw [show n - k = (n - (k + 1)) + 1 by omega, List.replicate_succ]; rfl

theorem set_next {xs : List Int} {k n : Nat} {x : Int} (h : k < n) (hx : xs[k]? = some x) (hl : (xs.take k).length = k) : (ivs (xs.take k ++ List.replicate (n - k) 0)).set k (.int .i64 x) = ivs (xs.take (k + 1) ++ List.replicate (n - (k + 1)) 0) := by
  rw [take_snocL hx]
  rw [show n - k = (n - (k + 1)) + 1 by omega, List.replicate_succ]
  simp only [ivs, List.map_append, List.map_cons]
  rw [List.set_append_right _ _ (by rw [List.length_map, hl]; exact Nat.le_refl _)]
  simp only [List.length_map, hl, Nat.sub_self, List.set_cons_zero]
  simp [iv]

set_option maxRecDepth 100000 in
set_option maxHeartbeats 1000000 in
theorem eqIntS_any (p q : Option Addr) (n c1 c2 : Nat) (xs : List Int) (w : World) (h1 : Sl w p n c1 1 (ivs xs)) (h2 : Sl w q n c2 1 (ivs xs)) :
    Calls Try.prog 12 #[.slice p n c1, .slice q n c2] w fun e w' => e = .returned (.bool true) ∧ Ext w w' := by
  have hn := h1.bd
  have H1 := Lib.hid h1
  have H2 := Lib.hid h2
  clear h1 h2
  go_enter Try.func12, Try.ntmps12
  go_wp2
  go_loopw [5] (fun i wr => ∃ k : Nat, k ≤ n ∧ i = .int .i64 k ∧ Ext w wr) (fun i _ => n - (intOf i).toNat)
  case atStart => exact ⟨0, Nat.zero_le _, rfl, Ext.refl _⟩
  case round =>
    obtain ⟨k, hk, rfl, hE⟩ := hrel
    by_cases hlt : k < n
    · obtain ⟨b, off, x, rfl, hx, hb, hcell⟩ := (H1.out.ext hE).int_at hlt
      obtain ⟨b2, off2, y, rfl, hy, hb2, hcell2⟩ := (H2.out.ext hE).int_at hlt
      rw [hx] at hy
      injection hy with hy
      subst hy
      clear hx
      have i1 : (0 : Int) ≤ (k : Int) := by omega
      have i2 : (k : Int) < (n : Int) := by omega
      go_wp2
      go_quiet (fail)
      go_wp2
      go_roundw
      case rel => exact ⟨k + 1, by omega, by go_num, by (repeat' (first | exact Ext.refl _ | (with_reducible assumption) | (with_reducible refine Ext.alloc ?_ _) | (with_reducible refine Ext.setCell ?_ (by first | exact Nat.le_refl _ | (dsimp only; omega) | (simp; done) | (simp; omega)) _) | (with_reducible refine Ext.drew ?_) | (with_reducible refine Ext.drewN ?_ _) | (refine Ext.trans ?_ (by with_reducible assumption))))⟩
      case measure => simp [intOf]; omega
    · go_wp2
      go_ret
      exact ⟨rfl, hE⟩

def vz : Visit4 := (0, 0, 0, 0)
theorem made_visits (n : Nat) : (madeCells (visitV 0 0 0 0).cells (n * 4)).toList = (List.replicate n vz).flatMap visitCells := by
  apply List.ext_getElem?
  intro j
  by_cases hj : j < n * 4
  · have h1 : j / 4 < n := by omega
    have hv : (List.replicate n vz)[j / 4]? = some vz := by simp [h1]
    have := flat_get visitCells 4 (fun _ => rfl) _ _ _ hv (j % 4) (by omega)
    rw [show j / 4 * 4 + j % 4 = j by omega] at this
    rw [this]
    simp [madeCells, Value.cells, hj]
    have : j % 4 = 0 ∨ j % 4 = 1 ∨ j % 4 = 2 ∨ j % 4 = 3 := by omega
    rcases this with h | h | h | h <;> simp [h, visitCells, vz]
  · rw [List.getElem?_eq_none (by simp [madeCells]; omega), List.getElem?_eq_none (by rw [flat_len visitCells 4 (fun _ => rfl)]; simp; omega)]
theorem vset_next {vs : List Visit4} {k n : Nat} {a b c d : Int} (h : k < n) (hx : vs[k]? = some (a, b, c, d)) (hl : (vs.take k).length = k) :
    (((((vs.take k ++ List.replicate (n - k) vz).flatMap visitCells).set (k * 4) (.int .i64 a)).set (k * 4 + 1) (.int .i64 b)).set (k * 4 + 2) (.int .i64 c)).set (k * 4 + 3) (.int .i64 d) = (vs.take (k + 1) ++ List.replicate (n - (k + 1)) vz).flatMap visitCells := by
  rw [take_snocL hx, show n - k = (n - (k + 1)) + 1 by omega, List.replicate_succ]
  have hf : ((vs.take k).flatMap visitCells).length = k * 4 := by rw [flat_len visitCells 4 (fun _ => rfl), hl]
  simp only [List.flatMap_append, List.flatMap_cons, List.append_assoc]
  generalize (vs.take k).flatMap visitCells = A at hf
  rw [List.set_append_right _ _ (by omega), List.set_append_right _ _ (by omega), List.set_append_right _ _ (by omega), List.set_append_right _ _ (by omega)]
  simp [hf, visitCells, vz]
theorem vget_next {vs : List Visit4} {k n : Nat} (h : k < n) (hl : (vs.take k).length = k) (j : Nat) (hj : j < 4) : ((vs.take k ++ List.replicate (n - k) vz).flatMap visitCells)[k * 4 + j]? = some (.int .i64 0) := by
  have hv : (vs.take k ++ List.replicate (n - k) vz)[k]? = some vz := by
    rw [List.getElem?_append_right (by omega), hl, Nat.sub_self, List.getElem?_replicate, if_pos (by omega)]
  rw [flat_get visitCells 4 (fun _ => rfl) _ _ _ hv j hj]
  match j, hj with
  | 0, _ => rfl
  | 1, _ => rfl
  | 2, _ => rfl
  | 3, _ => rfl

end Go.Proofs.Ytndcnflchkfaeaa
