/-
  The laws' sameInts, sameHall, sameHouse at equal arguments; noHouse. Conditions: slices read as lists.
-/
import Derived.Test.YtncfnlocdlhagaaDoorLawH3
namespace Go.Proofs.YtncfnlocdlhagaaDoor
open Go.RowKit
set_option linter.unusedVariables false

set_option maxRecDepth 100000 in
set_option maxHeartbeats 1000000 in
theorem sameInts_any (p q : Option Addr) (n c1 c2 : Nat) (xs : List Int) (w : World) (h1 : Sl w p n c1 1 (ivs xs)) (h2 : Sl w q n c2 1 (ivs xs)) :
    Calls Tryd.prog 98 #[.slice p n c1, .slice q n c2] w fun e w' => e = .returned (.bool true) ∧ Ext w w' := by
  have hn := h1.bd
  have H1 := Lib.hid h1
  have H2 := Lib.hid h2
  clear h1 h2
  go_enter Tryd.func98, Tryd.ntmps98
  go_wp2
  go_loopw [5] (fun i wr => ∃ k : Nat, k ≤ n ∧ i = .int .i64 k ∧ Ext w wr) (fun i _ => n - (intOf i).toNat)
  case atStart => exact ⟨0, Nat.zero_le _, rfl, Ext.refl _⟩
  case round =>
    obtain ⟨k, hk, rfl, hE⟩ := hrel
    by_cases hlt : k < n
    · obtain ⟨b, off, x, rfl, hx, hb, hcell⟩ := (H1.out.ext hE).int_at hlt
      obtain ⟨b2, off2, y, rfl, hy, hb2, hcell2⟩ := (H2.out.ext hE).int_at hlt
      rw [hx] at hy
      injection hy with hy
      subst hy
      clear hx
      have i1 : (0 : Int) ≤ (k : Int) := by omega
      have i2 : (k : Int) < (n : Int) := by omega
      go_wp2
      go_quiet (fail)
      go_wp2
      go_roundw
      case rel => exact ⟨k + 1, by omega, by go_num, by (repeat' (first | exact Ext.refl _ | (with_reducible assumption) | (with_reducible refine Ext.alloc ?_ _) | (with_reducible refine Ext.setCell ?_ (by first | exact Nat.le_refl _ | (dsimp only; omega) | (simp; done) | (simp; omega)) _) | (with_reducible refine Ext.drew ?_) | (with_reducible refine Ext.drewN ?_ _) | (refine Ext.trans ?_ (by with_reducible assumption))))⟩
      case measure => simp [intOf]; omega
    · go_wp2
      go_ret
      exact ⟨rfl, hE⟩

set_option maxRecDepth 100000 in
set_option maxHeartbeats 1000000 in
theorem sameHall_any (wide deep : Int) (p q : Option Addr) (n c1 c2 : Nat) (xs : List Int) (w : World) (h1 : Sl w p n c1 1 (ivs xs)) (h2 : Sl w q n c2 1 (ivs xs)) :
    Calls Tryd.prog 71 #[hallV wide deep p n c1, hallV wide deep q n c2] w fun e w' => e = .returned (.bool true) ∧ Ext w w' := by
  have H1 := Lib.hid h1
  have H2 := Lib.hid h2
  clear h1 h2
  go_enter Tryd.func71, Tryd.ntmps71
  go_wp2_with fail
  refine (sameInts_any p q n c1 c2 xs _ (H1.out.ext (by (repeat' (first | exact Ext.refl _ | (with_reducible assumption) | (with_reducible refine Ext.alloc ?_ _) | (with_reducible refine Ext.setCell ?_ (by first | exact Nat.le_refl _ | (dsimp only; omega) | (simp; done) | (simp; omega)) _) | (with_reducible refine Ext.drew ?_) | (with_reducible refine Ext.drewN ?_ _) | (refine Ext.trans ?_ (by with_reducible assumption)))))) (H2.out.ext (by (repeat' (first | exact Ext.refl _ | (with_reducible assumption) | (with_reducible refine Ext.alloc ?_ _) | (with_reducible refine Ext.setCell ?_ (by first | exact Nat.le_refl _ | (dsimp only; omega) | (simp; done) | (simp; omega)) _) | (with_reducible refine Ext.drew ?_) | (with_reducible refine Ext.drewN ?_ _) | (refine Ext.trans ?_ (by with_reducible assumption))))))).mono ?_
  rintro e w1 ⟨rfl, hx⟩
  go_wp2
  go_ret
  exact ⟨rfl, by (repeat' (first | exact Ext.refl _ | (with_reducible assumption) | (with_reducible refine Ext.alloc ?_ _) | (with_reducible refine Ext.setCell ?_ (by first | exact Nat.le_refl _ | (dsimp only; omega) | (simp; done) | (simp; omega)) _) | (with_reducible refine Ext.drew ?_) | (with_reducible refine Ext.drewN ?_ _) | (refine Ext.trans ?_ (by with_reducible assumption))))⟩

set_option maxRecDepth 100000 in
set_option maxHeartbeats 1000000 in
theorem sameHouse_any (h : HouseD) (p1 : Option Addr) (n c1 : Nat) (q1 : Option Addr) (m d1 : Nat) (p2 : Option Addr) (c2 : Nat) (q2 : Option Addr) (d2 : Nat) (w : World) (hi1 : IsHouse w h p1 n c1 q1 m d1) (hi2 : IsHouse w h p2 n c2 q2 m d2) :
    Calls Tryd.prog 27 #[houseV h p1 n c1 q1 m d1, houseV h p2 n c2 q2 m d2] w fun e w' => e = .returned (.bool true) ∧ Ext w w' := by
  have hm := hi1.vs.bd
  have H1 := Lib.hid hi1
  have H2 := Lib.hid hi2
  clear hi1 hi2
  obtain ⟨wide, deep, cells, free, step, price, capp, clock, bank, vs⟩ := h
  go_enter Tryd.func27, Tryd.ntmps27
  go_wp2_with fail
  refine (sameHall_any wide deep p1 p2 n c1 c2 cells _ (H1.out.cells.ext (by (repeat' (first | exact Ext.refl _ | (with_reducible assumption) | (with_reducible refine Ext.alloc ?_ _) | (with_reducible refine Ext.setCell ?_ (by first | exact Nat.le_refl _ | (dsimp only; omega) | (simp; done) | (simp; omega)) _) | (with_reducible refine Ext.drew ?_) | (with_reducible refine Ext.drewN ?_ _) | (refine Ext.trans ?_ (by with_reducible assumption)))))) (H2.out.cells.ext (by (repeat' (first | exact Ext.refl _ | (with_reducible assumption) | (with_reducible refine Ext.alloc ?_ _) | (with_reducible refine Ext.setCell ?_ (by first | exact Nat.le_refl _ | (dsimp only; omega) | (simp; done) | (simp; omega)) _) | (with_reducible refine Ext.drew ?_) | (with_reducible refine Ext.drewN ?_ _) | (refine Ext.trans ?_ (by with_reducible assumption))))))).mono ?_
  rintro e w1 ⟨rfl, hx1⟩
  have BA := Lib.hid (((Blk.new w 52 #[.int .i64 wide, .int .i64 deep, .slice p1 n c1, .int .i64 free, .int .i64 step, .int .i64 price, .int .i64 capp, .int .i64 clock, .int .i64 bank, .slice q1 m d1]).alloc (.cells #[.int .i64 wide, .int .i64 deep, .slice p2 n c2, .int .i64 free, .int .i64 step, .int .i64 price, .int .i64 capp, .int .i64 clock, .int .i64 bank, .slice q2 m d2] 52)).ext hx1)
  have BB' := Lib.hid ((Blk.new (w.alloc (.cells #[.int .i64 wide, .int .i64 deep, .slice p1 n c1, .int .i64 free, .int .i64 step, .int .i64 price, .int .i64 capp, .int .i64 clock, .int .i64 bank, .slice q1 m d1] 52)) 52 #[.int .i64 wide, .int .i64 deep, .slice p2 n c2, .int .i64 free, .int .i64 step, .int .i64 price, .int .i64 capp, .int .i64 clock, .int .i64 bank, .slice q2 m d2]).ext hx1)
  simp only [World.size_alloc] at BB'
  have hxw1 := Lib.hid ((((Ext.refl w).alloc (.cells #[.int .i64 wide, .int .i64 deep, .slice p1 n c1, .int .i64 free, .int .i64 step, .int .i64 price, .int .i64 capp, .int .i64 clock, .int .i64 bank, .slice q1 m d1] 52)).alloc (.cells #[.int .i64 wide, .int .i64 deep, .slice p2 n c2, .int .i64 free, .int .i64 step, .int .i64 price, .int .i64 capp, .int .i64 clock, .int .i64 bank, .slice q2 m d2] 52)).trans hx1)
  have ha : w.heap.size + 1 < w1.heap.size := Nat.lt_of_lt_of_le (by simp) hx1.sz
  clear hx1
  have a0 : w1.cell? ⟨w.heap.size, 0, none⟩ = some (.int .i64 wide) := BA.out.cell 0
  have a1 : w1.cell? ⟨w.heap.size, 1, none⟩ = some (.int .i64 deep) := BA.out.cell 1
  have a2 : w1.cell? ⟨w.heap.size, 2, none⟩ = some (.slice p1 n c1) := BA.out.cell 2
  have a3 : w1.cell? ⟨w.heap.size, 3, none⟩ = some (.int .i64 free) := BA.out.cell 3
  have a4 : w1.cell? ⟨w.heap.size, 4, none⟩ = some (.int .i64 step) := BA.out.cell 4
  have a5 : w1.cell? ⟨w.heap.size, 5, none⟩ = some (.int .i64 price) := BA.out.cell 5
  have a6 : w1.cell? ⟨w.heap.size, 6, none⟩ = some (.int .i64 capp) := BA.out.cell 6
  have a7 : w1.cell? ⟨w.heap.size, 7, none⟩ = some (.int .i64 clock) := BA.out.cell 7
  have a8 : w1.cell? ⟨w.heap.size, 8, none⟩ = some (.int .i64 bank) := BA.out.cell 8
  have a9 : w1.cell? ⟨w.heap.size, 9, none⟩ = some (.slice q1 m d1) := BA.out.cell 9
  have b0 : w1.cell? ⟨w.heap.size + 1, 0, none⟩ = some (.int .i64 wide) := BB'.out.cell 0
  have b1 : w1.cell? ⟨w.heap.size + 1, 1, none⟩ = some (.int .i64 deep) := BB'.out.cell 1
  have b2 : w1.cell? ⟨w.heap.size + 1, 2, none⟩ = some (.slice p2 n c2) := BB'.out.cell 2
  have b3 : w1.cell? ⟨w.heap.size + 1, 3, none⟩ = some (.int .i64 free) := BB'.out.cell 3
  have b4 : w1.cell? ⟨w.heap.size + 1, 4, none⟩ = some (.int .i64 step) := BB'.out.cell 4
  have b5 : w1.cell? ⟨w.heap.size + 1, 5, none⟩ = some (.int .i64 price) := BB'.out.cell 5
  have b6 : w1.cell? ⟨w.heap.size + 1, 6, none⟩ = some (.int .i64 capp) := BB'.out.cell 6
  have b7 : w1.cell? ⟨w.heap.size + 1, 7, none⟩ = some (.int .i64 clock) := BB'.out.cell 7
  have b8 : w1.cell? ⟨w.heap.size + 1, 8, none⟩ = some (.int .i64 bank) := BB'.out.cell 8
  have b9 : w1.cell? ⟨w.heap.size + 1, 9, none⟩ = some (.slice q2 m d2) := BB'.out.cell 9
  go_wp2
  go_loopw [5] (fun i wr => ∃ k : Nat, k ≤ m ∧ i = .int .i64 k ∧ Ext w1 wr) (fun i _ => m - (intOf i).toNat)
  case atStart => exact ⟨0, Nat.zero_le _, rfl, Ext.refl _⟩
  case round =>
    clear a0 a1 a2 a3 a4 a5 a6 a7 a8 a9 b0 b1 b2 b3 b4 b5 b6 b7 b8 b9
    obtain ⟨k, hk, rfl, hE⟩ := hrel
    have hsz := hE.sz
    have a9 : wr.cell? ⟨w.heap.size, 9, none⟩ = some (.slice q1 m d1) := (BA.out.ext hE).cell 9
    have b9 : wr.cell? ⟨w.heap.size + 1, 9, none⟩ = some (.slice q2 m d2) := (BB'.out.ext hE).cell 9
    by_cases hlt : k < m
    · obtain ⟨b, off, x0, x1, x2, x3, rfl, hx, hb, g0, g1, g2, g3⟩ := visit_at ((H1.out.vs.ext hxw1.out).ext hE) hlt
      obtain ⟨b2, off2, d0, d1', d2', d3, rfl, hy, hb2, k0, k1, k2, k3⟩ := visit_at ((H2.out.vs.ext hxw1.out).ext hE) hlt
      rw [hx] at hy
      injection hy with hy
      simp only [Prod.mk.injEq] at hy
      obtain ⟨rfl, rfl, rfl, rfl⟩ := hy
      clear hx
      have i1 : (0 : Int) ≤ (k : Int) := by omega
      have i2 : (k : Int) < (m : Int) := by omega
      go_wp2
      go_quiet (fail)
      go_wp2
      go_roundw
      case rel => exact ⟨k + 1, by omega, by go_num, by (repeat' (first | exact Ext.refl _ | (with_reducible assumption) | (with_reducible refine Ext.alloc ?_ _) | (with_reducible refine Ext.setCell ?_ (by first | exact Nat.le_refl _ | (dsimp only; omega) | (simp; done) | (simp; omega)) _) | (with_reducible refine Ext.drew ?_) | (with_reducible refine Ext.drewN ?_ _) | (refine Ext.trans ?_ (by with_reducible assumption))))⟩
      case measure => simp [intOf]; omega
    · go_wp2
      go_ret
      exact ⟨rfl, hxw1.out.trans hE⟩

set_option maxRecDepth 100000 in
set_option maxHeartbeats 1000000 in
theorem sameHall_wide (wide deep : Int) (hw : wide ≠ 0) (p q : Option Addr) (n c1 n2 c2 : Nat) (d2 : Int) (w : World) :
    Calls Tryd.prog 71 #[hallV wide deep p n c1, hallV 0 d2 q n2 c2] w fun e w' => e = .returned (.bool false) ∧ Ext w w' := by
  have e1 : (wide == 0) = false := by simpa using hw
  go_enter Tryd.func71, Tryd.ntmps71
  go_wp2
  go_ret
  exact ⟨rfl, by (repeat' (first | exact Ext.refl _ | (with_reducible assumption) | (with_reducible refine Ext.alloc ?_ _) | (with_reducible refine Ext.setCell ?_ (by first | exact Nat.le_refl _ | (dsimp only; omega) | (simp; done) | (simp; omega)) _) | (with_reducible refine Ext.drew ?_) | (with_reducible refine Ext.drewN ?_ _) | (refine Ext.trans ?_ (by with_reducible assumption))))⟩

set_option maxRecDepth 100000 in
set_option maxHeartbeats 1000000 in
theorem sameHouse_wide (wide deep free step price capp clock bank : Int) (hw : wide ≠ 0) (p1 : Option Addr) (n c1 : Nat) (q1 : Option Addr) (m d1 : Nat) (w : World) :
    Calls Tryd.prog 27 #[.agg #[.int .i64 wide, .int .i64 deep, .slice p1 n c1, .int .i64 free, .int .i64 step, .int .i64 price, .int .i64 capp, .int .i64 clock, .int .i64 bank, .slice q1 m d1], houseV houseZero none 0 0 none 0 0] w fun e w' => e = .returned (.bool false) ∧ Ext w w' := by
  unfold houseZero
  go_enter Tryd.func27, Tryd.ntmps27
  go_wp2_with fail
  refine (sameHall_wide wide deep hw p1 none n c1 0 0 0 _).mono ?_
  rintro e w1 ⟨rfl, hx1⟩
  go_wp2
  go_ret
  exact ⟨rfl, (((Ext.refl w).alloc _).alloc _).trans hx1⟩

theorem houseZero_is (w : World) : IsHouse w houseZero none 0 0 none 0 0 := ⟨Sl.nil w 1, Sl.nil w 4⟩

set_option maxRecDepth 100000 in
set_option maxHeartbeats 1000000 in
theorem noHouse_zero (p : Option Addr) (c : Nat) (q : Option Addr) (d : Nat) (w : World) (hi : IsHouse w houseZero p 0 c q 0 d) :
    Calls Tryd.prog 29 #[houseV houseZero p 0 c q 0 d] w fun e w' => e = .returned (.bool true) ∧ Ext w w' := by
  have H := Lib.hid (fun w' (hx : Ext w w') => sameHouse_any houseZero p 0 c q 0 d none 0 none 0 w' (hi.ext hx) (houseZero_is w'))
  clear hi
  unfold houseZero at *
  go_enter Tryd.func29, Tryd.ntmps29
  go_wp2_with fail
  refine (H.out _ (by (repeat' (first | exact Ext.refl _ | (with_reducible assumption) | (with_reducible refine Ext.alloc ?_ _) | (with_reducible refine Ext.setCell ?_ (by first | exact Nat.le_refl _ | (dsimp only; omega) | (simp; done) | (simp; omega)) _) | (with_reducible refine Ext.drew ?_) | (with_reducible refine Ext.drewN ?_ _) | (refine Ext.trans ?_ (by with_reducible assumption)))))).mono ?_
  rintro e w1 ⟨rfl, hx1⟩
  go_wp2
  go_ret
  exact ⟨rfl, by (repeat' (first | exact Ext.refl _ | (with_reducible assumption) | (with_reducible refine Ext.alloc ?_ _) | (with_reducible refine Ext.setCell ?_ (by first | exact Nat.le_refl _ | (dsimp only; omega) | (simp; done) | (simp; omega)) _) | (with_reducible refine Ext.drew ?_) | (with_reducible refine Ext.drewN ?_ _) | (refine Ext.trans ?_ (by with_reducible assumption))))⟩

set_option maxRecDepth 100000 in
set_option maxHeartbeats 1000000 in
theorem noHouse_wide (wide deep free step price capp clock bank : Int) (hw : wide ≠ 0) (p1 : Option Addr) (n c1 : Nat) (q1 : Option Addr) (m d1 : Nat) (w : World) :
    Calls Tryd.prog 29 #[.agg #[.int .i64 wide, .int .i64 deep, .slice p1 n c1, .int .i64 free, .int .i64 step, .int .i64 price, .int .i64 capp, .int .i64 clock, .int .i64 bank, .slice q1 m d1]] w fun e w' => e = .returned (.bool false) ∧ Ext w w' := by
  have H := Lib.hid (fun w' => sameHouse_wide wide deep free step price capp clock bank hw p1 n c1 q1 m d1 w')
  unfold houseZero at H
  go_enter Tryd.func29, Tryd.ntmps29
  go_wp2_with fail
  refine (H.out _).mono ?_
  rintro e w1 ⟨rfl, hx1⟩
  go_wp2
  go_ret
  exact ⟨rfl, by (repeat' (first | exact Ext.refl _ | (with_reducible assumption) | (with_reducible refine Ext.alloc ?_ _) | (with_reducible refine Ext.setCell ?_ (by first | exact Nat.le_refl _ | (dsimp only; omega) | (simp; done) | (simp; omega)) _) | (with_reducible refine Ext.drew ?_) | (with_reducible refine Ext.drewN ?_ _) | (refine Ext.trans ?_ (by with_reducible assumption))))⟩
end Go.Proofs.YtncfnlocdlhagaaDoor
