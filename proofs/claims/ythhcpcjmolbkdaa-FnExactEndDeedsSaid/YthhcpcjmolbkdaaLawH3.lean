/-
  The laws' eqHall, eqHouse at equal halls and houses. Conditions: slices read as lists.
-/
import Derived.Test.YthhcpcjmolbkdaaLawH2
namespace Go.Proofs.Ythhcpcjmolbkdaa
open Go.RowKit
set_option linter.unusedVariables false

set_option maxRecDepth 100000 in
set_option maxHeartbeats 1000000 in
theorem eqHall_any (wide deep : Int) (p q : Option Addr) (n c1 c2 : Nat) (xs : List Int) (w : World) (h1 : Sl w p n c1 1 (ivs xs)) (h2 : Sl w q n c2 1 (ivs xs)) :
    Calls Try.prog 24 #[hallV wide deep p n c1, hallV wide deep q n c2] w fun e w' => e = .returned (.bool true) ∧ Ext w w' := by
  have H1 := Lib.hid h1
  have H2 := Lib.hid h2
  clear h1 h2
  go_enter Try.func24, Try.ntmps24
  go_wp2_with fail
  refine (eqIntS_any p q n c1 c2 xs _ (H1.out.ext (by (repeat' (first | exact Ext.refl _ | (with_reducible assumption) | (with_reducible refine Ext.alloc ?_ _) | (with_reducible refine Ext.setCell ?_ (by first | exact Nat.le_refl _ | (dsimp only; omega) | (simp; done) | (simp; omega)) _) | (with_reducible refine Ext.drew ?_) | (with_reducible refine Ext.drewN ?_ _) | (refine Ext.trans ?_ (by with_reducible assumption)))))) (H2.out.ext (by (repeat' (first | exact Ext.refl _ | (with_reducible assumption) | (with_reducible refine Ext.alloc ?_ _) | (with_reducible refine Ext.setCell ?_ (by first | exact Nat.le_refl _ | (dsimp only; omega) | (simp; done) | (simp; omega)) _) | (with_reducible refine Ext.drew ?_) | (with_reducible refine Ext.drewN ?_ _) | (refine Ext.trans ?_ (by with_reducible assumption))))))).mono ?_
  rintro e w1 ⟨rfl, hx⟩
  go_wp2
  go_ret
  exact ⟨rfl, by (repeat' (first | exact Ext.refl _ | (with_reducible assumption) | (with_reducible refine Ext.alloc ?_ _) | (with_reducible refine Ext.setCell ?_ (by first | exact Nat.le_refl _ | (dsimp only; omega) | (simp; done) | (simp; omega)) _) | (with_reducible refine Ext.drew ?_) | (with_reducible refine Ext.drewN ?_ _) | (refine Ext.trans ?_ (by with_reducible assumption))))⟩

set_option maxRecDepth 100000 in
set_option maxHeartbeats 1000000 in
theorem eqHouse_any (h : HouseD) (p1 : Option Addr) (n c1 : Nat) (q1 : Option Addr) (m d1 : Nat) (p2 : Option Addr) (c2 : Nat) (q2 : Option Addr) (d2 : Nat) (w : World) (hi1 : IsHouse w h p1 n c1 q1 m d1) (hi2 : IsHouse w h p2 n c2 q2 m d2) :
    Calls Try.prog 9 #[houseV h p1 n c1 q1 m d1, houseV h p2 n c2 q2 m d2] w fun e w' => e = .returned (.bool true) ∧ Ext w w' := by
  have H1 := Lib.hid hi1
  have H2 := Lib.hid hi2
  clear hi1 hi2
  obtain ⟨wide, deep, cells, free, step, price, capp, clock, bank, vs⟩ := h
  go_enter Try.func9, Try.ntmps9
  go_wp2_with fail
  refine (eqHall_any wide deep p1 p2 n c1 c2 cells _ (H1.out.cells.ext (by (repeat' (first | exact Ext.refl _ | (with_reducible assumption) | (with_reducible refine Ext.alloc ?_ _) | (with_reducible refine Ext.setCell ?_ (by first | exact Nat.le_refl _ | (dsimp only; omega) | (simp; done) | (simp; omega)) _) | (with_reducible refine Ext.drew ?_) | (with_reducible refine Ext.drewN ?_ _) | (refine Ext.trans ?_ (by with_reducible assumption)))))) (H2.out.cells.ext (by (repeat' (first | exact Ext.refl _ | (with_reducible assumption) | (with_reducible refine Ext.alloc ?_ _) | (with_reducible refine Ext.setCell ?_ (by first | exact Nat.le_refl _ | (dsimp only; omega) | (simp; done) | (simp; omega)) _) | (with_reducible refine Ext.drew ?_) | (with_reducible refine Ext.drewN ?_ _) | (refine Ext.trans ?_ (by with_reducible assumption))))))).mono ?_
  rintro e w1 ⟨rfl, hx1⟩
  have BA := Lib.hid (((Blk.new w 37 #[.int .i64 wide, .int .i64 deep, .slice p1 n c1, .int .i64 free, .int .i64 step, .int .i64 price, .int .i64 capp, .int .i64 clock, .int .i64 bank, .slice q1 m d1]).alloc (.cells #[.int .i64 wide, .int .i64 deep, .slice p2 n c2, .int .i64 free, .int .i64 step, .int .i64 price, .int .i64 capp, .int .i64 clock, .int .i64 bank, .slice q2 m d2] 37)).ext hx1)
  have BB' := Lib.hid ((Blk.new (w.alloc (.cells #[.int .i64 wide, .int .i64 deep, .slice p1 n c1, .int .i64 free, .int .i64 step, .int .i64 price, .int .i64 capp, .int .i64 clock, .int .i64 bank, .slice q1 m d1] 37)) 37 #[.int .i64 wide, .int .i64 deep, .slice p2 n c2, .int .i64 free, .int .i64 step, .int .i64 price, .int .i64 capp, .int .i64 clock, .int .i64 bank, .slice q2 m d2]).ext hx1)
  simp only [World.size_alloc] at BB'
  have hxw1 : Ext w w1 := (((Ext.refl w).alloc _).alloc _).trans hx1
  have ha : w.heap.size + 1 < w1.heap.size := Nat.lt_of_lt_of_le (by simp) hx1.sz
  clear hx1
  have a3 : w1.cell? ⟨w.heap.size, 3, none⟩ = some (.int .i64 free) := BA.out.cell 3
  have a4 : w1.cell? ⟨w.heap.size, 4, none⟩ = some (.int .i64 step) := BA.out.cell 4
  have a5 : w1.cell? ⟨w.heap.size, 5, none⟩ = some (.int .i64 price) := BA.out.cell 5
  have a6 : w1.cell? ⟨w.heap.size, 6, none⟩ = some (.int .i64 capp) := BA.out.cell 6
  have b3 : w1.cell? ⟨w.heap.size + 1, 3, none⟩ = some (.int .i64 free) := BB'.out.cell 3
  have b4 : w1.cell? ⟨w.heap.size + 1, 4, none⟩ = some (.int .i64 step) := BB'.out.cell 4
  have b5 : w1.cell? ⟨w.heap.size + 1, 5, none⟩ = some (.int .i64 price) := BB'.out.cell 5
  have b6 : w1.cell? ⟨w.heap.size + 1, 6, none⟩ = some (.int .i64 capp) := BB'.out.cell 6
  go_wp2_with fail
  clear a3 a4 a5 a6 b3 b4 b5 b6
  refine (eqTariff_any free step price capp _).mono ?_
  rintro e w2 ⟨rfl, hx2⟩
  have hxw2 : Ext w w2 := hxw1.trans hx2
  have ha2 : w.heap.size + 1 < w2.heap.size := Nat.lt_of_lt_of_le ha hx2.sz
  have BA2 := Lib.hid (BA.out.ext hx2)
  have BB2 := Lib.hid (BB'.out.ext hx2)
  clear hx2 BA BB'
  have a7 : w2.cell? ⟨w.heap.size, 7, none⟩ = some (.int .i64 clock) := BA2.out.cell 7
  have a8 : w2.cell? ⟨w.heap.size, 8, none⟩ = some (.int .i64 bank) := BA2.out.cell 8
  have a9 : w2.cell? ⟨w.heap.size, 9, none⟩ = some (.slice q1 m d1) := BA2.out.cell 9
  have b7 : w2.cell? ⟨w.heap.size + 1, 7, none⟩ = some (.int .i64 clock) := BB2.out.cell 7
  have b8 : w2.cell? ⟨w.heap.size + 1, 8, none⟩ = some (.int .i64 bank) := BB2.out.cell 8
  have b9 : w2.cell? ⟨w.heap.size + 1, 9, none⟩ = some (.slice q2 m d2) := BB2.out.cell 9
  go_wp2_with fail
  clear a7 a8 a9 b7 b8 b9
  refine (eqVisitS_any q1 q2 m d1 d2 vs _ (H1.out.vs.ext (by (repeat' (first | exact Ext.refl _ | (with_reducible assumption) | (with_reducible refine Ext.alloc ?_ _) | (with_reducible refine Ext.setCell ?_ (by first | exact Nat.le_refl _ | (dsimp only; omega) | (simp; done) | (simp; omega)) _) | (with_reducible refine Ext.drew ?_) | (with_reducible refine Ext.drewN ?_ _) | (refine Ext.trans ?_ (by with_reducible assumption)))))) (H2.out.vs.ext (by (repeat' (first | exact Ext.refl _ | (with_reducible assumption) | (with_reducible refine Ext.alloc ?_ _) | (with_reducible refine Ext.setCell ?_ (by first | exact Nat.le_refl _ | (dsimp only; omega) | (simp; done) | (simp; omega)) _) | (with_reducible refine Ext.drew ?_) | (with_reducible refine Ext.drewN ?_ _) | (refine Ext.trans ?_ (by with_reducible assumption))))))).mono ?_
  rintro e w3 ⟨rfl, hx3⟩
  go_wp2
  go_ret
  exact ⟨rfl, by (repeat' (first | exact Ext.refl _ | (with_reducible assumption) | (with_reducible refine Ext.alloc ?_ _) | (with_reducible refine Ext.setCell ?_ (by first | exact Nat.le_refl _ | (dsimp only; omega) | (simp; done) | (simp; omega)) _) | (with_reducible refine Ext.drew ?_) | (with_reducible refine Ext.drewN ?_ _) | (refine Ext.trans ?_ (by with_reducible assumption))))⟩

theorem RetHouse.is {h : HouseD} {w w' : World} {p q : Option Addr} {cap c2 : Nat} (ho : w'.ownsRow w.heap.size TI 1 (.slice p h.cells.length cap) h.cells.length (ivs h.cells)) (hv : w'.ownsRow w.heap.size TV 4 (.slice q h.vs.length c2) h.vs.length (h.vs.flatMap visitCells)) :
    IsHouse w' h p h.cells.length cap q h.vs.length c2 := ⟨Sl.own ho, Sl.own hv⟩
end Go.Proofs.Ythhcpcjmolbkdaa
