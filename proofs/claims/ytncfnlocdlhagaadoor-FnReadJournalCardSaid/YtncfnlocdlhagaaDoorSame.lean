/-
  The laws' sameDeeds at slices that read as lists of deeds.
-/
import Derived.Test.YtncfnlocdlhagaaDoorSlDeed2
import Derived.Test.YtncfnlocdlhagaaDoorSl
namespace Go.Proofs.YtncfnlocdlhagaaDoor
open Go.RowKit
set_option linter.unusedVariables false

theorem deed_at {w : World} {q : Option Addr} {m c2 : Nat} {ds : List Deed3} (h : Sl w q m c2 3 (ds.flatMap deedCells)) {k : Nat} (hk : k < m) :
    ∃ b off a0 a1 a2, q = some ⟨b, off, none⟩ ∧ ds[k]? = some (a0, a1, a2) ∧ b < w.heap.size ∧ w.cell? ⟨b, off + k * 3, none⟩ = some (.int .i64 a0) ∧ w.cell? ⟨b, off + k * 3 + 1, none⟩ = some (.int .i64 a1) ∧ w.cell? ⟨b, off + k * 3 + 2, none⟩ = some (.int .i64 a2) := by
  obtain ⟨b, off, x, hp, hx, hb, hc⟩ := Sl.at_ (sz := 3) (f := deedCells) (fun _ => rfl) h hk (by omega)
  obtain ⟨a0, a1, a2⟩ := x
  exact ⟨b, off, a0, a1, a2, hp, hx, hb, hc 0 (by omega), hc 1 (by omega), hc 2 (by omega)⟩

set_option maxRecDepth 100000 in
set_option maxHeartbeats 1000000 in
theorem sameDeeds_any (p q : Option Addr) (n c1 c2 : Nat) (ds : List Deed3) (w : World) (h1 : Sl w p n c1 3 (ds.flatMap deedCells)) (h2 : Sl w q n c2 3 (ds.flatMap deedCells)) :
    Calls Tryd.prog 16 #[.slice p n c1, .slice q n c2] w fun e w' => e = .returned (.bool true) ∧ Ext w w' := by
  have hn := h1.bd
  have H1 := Lib.hid h1
  have H2 := Lib.hid h2
  clear h1 h2
  go_enter Tryd.func16, Tryd.ntmps16
  go_wp2
  go_loopw [5] (fun i wr => ∃ k : Nat, k ≤ n ∧ i = .int .i64 k ∧ Ext w wr) (fun i _ => n - (intOf i).toNat)
  case atStart => exact ⟨0, Nat.zero_le _, rfl, Ext.refl _⟩
  case round =>
    obtain ⟨k, hk, rfl, hE⟩ := hrel
    by_cases hlt : k < n
    · obtain ⟨b, off, a0, a1, a2, rfl, hx, hb, g0, g1, g2⟩ := deed_at (H1.out.ext hE) hlt
      obtain ⟨b', off', e0, e1, e2, rfl, hy, hb', k0, k1, k2⟩ := deed_at (H2.out.ext hE) hlt
      rw [hx] at hy
      simp only [Option.some.injEq, Prod.mk.injEq] at hy
      obtain ⟨rfl, rfl, rfl⟩ := hy
      have i1 : (0 : Int) ≤ (k : Int) := by omega
      have i2 : (k : Int) < (n : Int) := by omega
      clear hx
      go_wp2
      go_quiet (fail)
      all_goals go_wp2
      all_goals go_roundw
      all_goals first
        | (case rel => exact ⟨k + 1, by omega, by go_num, by (repeat' (first | exact Ext.refl _ | (with_reducible assumption) | (with_reducible refine Ext.alloc ?_ _) | (with_reducible refine Ext.setCell ?_ (by first | exact Nat.le_refl _ | (dsimp only; omega) | (simp; done) | (simp; omega)) _) | (with_reducible refine Ext.drew ?_) | (with_reducible refine Ext.drewN ?_ _) | (refine Ext.trans ?_ (by with_reducible assumption))))⟩)
        | (case measure => simp [intOf]; omega)
    · go_wp2
      go_ret
      exact ⟨rfl, hE⟩
end Go.Proofs.YtncfnlocdlhagaaDoor
