/-
  The walk of the law FnExactHouseNew.
-/
import Derived.Test.YtncfnlocdlhagaaW10
import Derived.Test.YtncfnlocdlhagaaHnew
import Derived.Test.YtncfnlocdlhagaaMk
namespace Go.Proofs.Ytncfnlocdlhagaa
open Go.RowKit
set_option linter.unusedVariables false
set_option linter.unusedSimpArgs false
open Go.ChangeShapes Go.WideShapes Go.ChangeAt Go.RowKit Go.Deep
set_option maxRecDepth 100000 in
set_option maxHeartbeats 1000000 in
theorem exHouseNew_o (wd dp f s pr cp : Int) (r : HouseD) (w : World) (hR : r.cells.length ≤ 1000) (hV : r.vs.length ≤ 1000)
    (HSp : Hid (∀ w, Calls Try.prog 10 #[.int .i64 wd, .int .i64 dp, .agg #[.int .i64 f, .int .i64 s, .int .i64 pr, .int .i64 cp]] w (RetHouse r w)))
    (HIm : Hid (∀ w, Calls Try.prog 12 #[.int .i64 wd, .int .i64 dp, .agg #[.int .i64 f, .int .i64 s, .int .i64 pr, .int .i64 cp]] w (RetHouse r w)))
    (HT : Hid (∀ w, Calls Try.prog 11 #[.agg #[.int .i64 f, .int .i64 s, .int .i64 pr, .int .i64 cp]] w fun e w' => e = .returned (.agg #[.int .i64 f, .int .i64 s, .int .i64 pr, .int .i64 cp]) ∧ Ext w w')) :
    Calls Try.prog 3 #[.int .i64 wd, .int .i64 dp, .agg #[.int .i64 f, .int .i64 s, .int .i64 pr, .int .i64 cp]] w fun e w' => e = .returned (.bool true) ∧ Ext w w' := by
  go_enter Try.func3, Try.ntmps3
  go_wp2_with fail
  refine (HT.out _).mono ?_
  rintro e w1 ⟨rfl, hx1⟩
  have z_1 : w.heap.size < w1.heap.size := by have := hx1.sz; simp at this; omega
  have A_1 := Lib.hid ((Blk.new w 23 #[.int .i64 f, .int .i64 s, .int .i64 pr, .int .i64 cp]).ext hx1)
  have X_1 : Ext w w1 := by (repeat' (first | exact Ext.refl _ | (with_reducible assumption) | (with_reducible refine Ext.alloc ?_ _) | (with_reducible refine Ext.setCell ?_ (by first | exact Nat.le_refl _ | (dsimp only; omega) | (simp; done) | (simp; omega)) _) | (with_reducible refine Ext.drew ?_) | (with_reducible refine Ext.drewN ?_ _) | (refine Ext.trans ?_ (by with_reducible assumption))))
  clear hx1
  go_wp2_with fail
  refine (HSp.out _).mono ?_
  rintro e w2 ⟨p2, c2, q2, d2, rfl, o2, v2, hx2⟩
  have z_2 : w1.heap.size ≤ w2.heap.size := by have := hx2.sz; (try simp at this); omega
  have hy2 : Ext w1 w2 := by (repeat' (first | exact Ext.refl _ | (with_reducible assumption) | (with_reducible refine Ext.alloc ?_ _) | (with_reducible refine Ext.setCell ?_ (by first | exact Nat.le_refl _ | (dsimp only; omega) | (simp; done) | (simp; omega)) _) | (with_reducible refine Ext.drew ?_) | (with_reducible refine Ext.drewN ?_ _) | (refine Ext.trans ?_ (by with_reducible assumption))))
  have A_2 := Lib.hid (A_1.out.ext hy2)
  clear A_1
  clear hy2
  have WC_2 := Lib.hid (OwnT.of o2)
  have WV_2 := Lib.hid (OwnT.of v2)
  have X_2 : Ext w w2 := by (repeat' (first | exact Ext.refl _ | (with_reducible assumption) | (with_reducible refine Ext.alloc ?_ _) | (with_reducible refine Ext.setCell ?_ (by first | exact Nat.le_refl _ | (dsimp only; omega) | (simp; done) | (simp; omega)) _) | (with_reducible refine Ext.drew ?_) | (with_reducible refine Ext.drewN ?_ _) | (refine Ext.trans ?_ (by with_reducible assumption))))
  clear hx2 o2 v2
  have y_2 : w.heap.size < w2.heap.size := by omega
  have a0 : w2.cell? ⟨w.heap.size, 0, none⟩ = some (.int .i64 f) := A_2.out.cell 0
  have a1 : w2.cell? ⟨w.heap.size, 1, none⟩ = some (.int .i64 s) := A_2.out.cell 1
  have a2 : w2.cell? ⟨w.heap.size, 2, none⟩ = some (.int .i64 pr) := A_2.out.cell 2
  have a3 : w2.cell? ⟨w.heap.size, 3, none⟩ = some (.int .i64 cp) := A_2.out.cell 3
  go_wp2_with fail
  clear a0 a1 a2 a3
  refine (HT.out _).mono ?_
  rintro e w3 ⟨rfl, hx3⟩
  have z_3 : w2.heap.size ≤ w3.heap.size := by have := hx3.sz; (try simp at this); omega
  have hy3 : Ext w2 w3 := by (repeat' (first | exact Ext.refl _ | (with_reducible assumption) | (with_reducible refine Ext.alloc ?_ _) | (with_reducible refine Ext.setCell ?_ (by first | exact Nat.le_refl _ | (dsimp only; omega) | (simp; done) | (simp; omega)) _) | (with_reducible refine Ext.drew ?_) | (with_reducible refine Ext.drewN ?_ _) | (refine Ext.trans ?_ (by with_reducible assumption))))
  have A_3 := Lib.hid (A_2.out.ext hy3)
  have WC_3 := Lib.hid (WC_2.out.ext hy3)
  have WV_3 := Lib.hid (WV_2.out.ext hy3)
  clear A_2 WC_2 WV_2
  clear hy3
  have BW_3 := Lib.hid ((Blk.new w2 30 #[.int .i64 r.wide, .int .i64 r.deep, .slice p2 r.cells.length c2, .int .i64 r.free, .int .i64 r.step, .int .i64 r.price, .int .i64 r.capp, .int .i64 r.clock, .int .i64 r.bank, .slice q2 r.vs.length d2]).ext hx3)
  replace z_3 : w2.heap.size + 1 ≤ w3.heap.size := by have := hx3.sz; simp at this; omega
  have X_3 : Ext w w3 := by (repeat' (first | exact Ext.refl _ | (with_reducible assumption) | (with_reducible refine Ext.alloc ?_ _) | (with_reducible refine Ext.setCell ?_ (by first | exact Nat.le_refl _ | (dsimp only; omega) | (simp; done) | (simp; omega)) _) | (with_reducible refine Ext.drew ?_) | (with_reducible refine Ext.drewN ?_ _) | (refine Ext.trans ?_ (by with_reducible assumption))))
  clear hx3
  go_wp2_with fail
  refine (HIm.out _).mono ?_
  rintro e w4 ⟨p4, c4, q4, d4, rfl, o4, v4, hx4⟩
  have z_4 : w3.heap.size ≤ w4.heap.size := by have := hx4.sz; (try simp at this); omega
  have hy4 : Ext w3 w4 := by (repeat' (first | exact Ext.refl _ | (with_reducible assumption) | (with_reducible refine Ext.alloc ?_ _) | (with_reducible refine Ext.setCell ?_ (by first | exact Nat.le_refl _ | (dsimp only; omega) | (simp; done) | (simp; omega)) _) | (with_reducible refine Ext.drew ?_) | (with_reducible refine Ext.drewN ?_ _) | (refine Ext.trans ?_ (by with_reducible assumption))))
  have A_4 := Lib.hid (A_3.out.ext hy4)
  have WC_4 := Lib.hid (WC_3.out.ext hy4)
  have WV_4 := Lib.hid (WV_3.out.ext hy4)
  have BW_4 := Lib.hid (BW_3.out.ext hy4)
  clear A_3 WC_3 WV_3 BW_3
  clear hy4
  have GC_4 := Lib.hid (OwnT.of o4)
  have GV_4 := Lib.hid (OwnT.of v4)
  have X_4 : Ext w w4 := by (repeat' (first | exact Ext.refl _ | (with_reducible assumption) | (with_reducible refine Ext.alloc ?_ _) | (with_reducible refine Ext.setCell ?_ (by first | exact Nat.le_refl _ | (dsimp only; omega) | (simp; done) | (simp; omega)) _) | (with_reducible refine Ext.drew ?_) | (with_reducible refine Ext.drewN ?_ _) | (refine Ext.trans ?_ (by with_reducible assumption))))
  clear hx4 o4 v4
  have y_4 : w2.heap.size < w4.heap.size := by omega
  have b0 : w4.cell? ⟨w2.heap.size, 0, none⟩ = some (.int .i64 r.wide) := BW_4.out.cell 0
  have b1 : w4.cell? ⟨w2.heap.size, 1, none⟩ = some (.int .i64 r.deep) := BW_4.out.cell 1
  have b2 : w4.cell? ⟨w2.heap.size, 2, none⟩ = some (.slice p2 r.cells.length c2) := BW_4.out.cell 2
  have b3 : w4.cell? ⟨w2.heap.size, 3, none⟩ = some (.int .i64 r.free) := BW_4.out.cell 3
  have b4 : w4.cell? ⟨w2.heap.size, 4, none⟩ = some (.int .i64 r.step) := BW_4.out.cell 4
  have b5 : w4.cell? ⟨w2.heap.size, 5, none⟩ = some (.int .i64 r.price) := BW_4.out.cell 5
  have b6 : w4.cell? ⟨w2.heap.size, 6, none⟩ = some (.int .i64 r.capp) := BW_4.out.cell 6
  have b7 : w4.cell? ⟨w2.heap.size, 7, none⟩ = some (.int .i64 r.clock) := BW_4.out.cell 7
  have b8 : w4.cell? ⟨w2.heap.size, 8, none⟩ = some (.int .i64 r.bank) := BW_4.out.cell 8
  have b9 : w4.cell? ⟨w2.heap.size, 9, none⟩ = some (.slice q2 r.vs.length d2) := BW_4.out.cell 9
  go_wp2_with fail
  clear b0 b1 b2 b3 b4 b5 b6 b7 b8 b9
  refine (eqHouse_any r p4 r.cells.length c4 q4 r.vs.length d4 p2 c2 q2 d2 _ (IsHouse.ext ⟨GC_4.out.sl, GV_4.out.sl⟩ (by (repeat' (first | exact Ext.refl _ | (with_reducible assumption) | (with_reducible refine Ext.alloc ?_ _) | (with_reducible refine Ext.setCell ?_ (by first | exact Nat.le_refl _ | (dsimp only; omega) | (simp; done) | (simp; omega)) _) | (with_reducible refine Ext.drew ?_) | (with_reducible refine Ext.drewN ?_ _) | (refine Ext.trans ?_ (by with_reducible assumption)))))) (IsHouse.ext ⟨WC_4.out.sl, WV_4.out.sl⟩ (by (repeat' (first | exact Ext.refl _ | (with_reducible assumption) | (with_reducible refine Ext.alloc ?_ _) | (with_reducible refine Ext.setCell ?_ (by first | exact Nat.le_refl _ | (dsimp only; omega) | (simp; done) | (simp; omega)) _) | (with_reducible refine Ext.drew ?_) | (with_reducible refine Ext.drewN ?_ _) | (refine Ext.trans ?_ (by with_reducible assumption))))))).mono ?_
  rintro e w5 ⟨rfl, hx5⟩
  have z_5 : w4.heap.size ≤ w5.heap.size := by have := hx5.sz; (try simp at this); omega
  have hy5 : Ext w4 w5 := by (repeat' (first | exact Ext.refl _ | (with_reducible assumption) | (with_reducible refine Ext.alloc ?_ _) | (with_reducible refine Ext.setCell ?_ (by first | exact Nat.le_refl _ | (dsimp only; omega) | (simp; done) | (simp; omega)) _) | (with_reducible refine Ext.drew ?_) | (with_reducible refine Ext.drewN ?_ _) | (refine Ext.trans ?_ (by with_reducible assumption))))
  have A_5 := Lib.hid (A_4.out.ext hy5)
  have WC_5 := Lib.hid (WC_4.out.ext hy5)
  have WV_5 := Lib.hid (WV_4.out.ext hy5)
  have BW_5 := Lib.hid (BW_4.out.ext hy5)
  have GC_5 := Lib.hid (GC_4.out.ext hy5)
  have GV_5 := Lib.hid (GV_4.out.ext hy5)
  clear A_4 WC_4 WV_4 BW_4 GC_4 GV_4
  clear hy5
  have BG_5 := Lib.hid ((Blk.new w4 30 #[.int .i64 r.wide, .int .i64 r.deep, .slice p4 r.cells.length c4, .int .i64 r.free, .int .i64 r.step, .int .i64 r.price, .int .i64 r.capp, .int .i64 r.clock, .int .i64 r.bank, .slice q4 r.vs.length d4]).ext hx5)
  replace z_5 : w4.heap.size + 1 ≤ w5.heap.size := by have := hx5.sz; simp at this; omega
  have X_5 : Ext w w5 := by (repeat' (first | exact Ext.refl _ | (with_reducible assumption) | (with_reducible refine Ext.alloc ?_ _) | (with_reducible refine Ext.setCell ?_ (by first | exact Nat.le_refl _ | (dsimp only; omega) | (simp; done) | (simp; omega)) _) | (with_reducible refine Ext.drew ?_) | (with_reducible refine Ext.drewN ?_ _) | (refine Ext.trans ?_ (by with_reducible assumption))))
  clear hx5
  have g0 : w5.cell? ⟨w4.heap.size, 0, none⟩ = some (.int .i64 r.wide) := BG_5.out.cell 0
  have g1 : w5.cell? ⟨w4.heap.size, 1, none⟩ = some (.int .i64 r.deep) := BG_5.out.cell 1
  have g2 : w5.cell? ⟨w4.heap.size, 2, none⟩ = some (.slice p4 r.cells.length c4) := BG_5.out.cell 2
  have g3 : w5.cell? ⟨w4.heap.size, 3, none⟩ = some (.int .i64 r.free) := BG_5.out.cell 3
  have g4 : w5.cell? ⟨w4.heap.size, 4, none⟩ = some (.int .i64 r.step) := BG_5.out.cell 4
  have g5 : w5.cell? ⟨w4.heap.size, 5, none⟩ = some (.int .i64 r.price) := BG_5.out.cell 5
  have g6 : w5.cell? ⟨w4.heap.size, 6, none⟩ = some (.int .i64 r.capp) := BG_5.out.cell 6
  have g7 : w5.cell? ⟨w4.heap.size, 7, none⟩ = some (.int .i64 r.clock) := BG_5.out.cell 7
  have g8 : w5.cell? ⟨w4.heap.size, 8, none⟩ = some (.int .i64 r.bank) := BG_5.out.cell 8
  have g9 : w5.cell? ⟨w4.heap.size, 9, none⟩ = some (.slice q4 r.vs.length d4) := BG_5.out.cell 9
  go_wp2_with fail
  clear g0 g1 g2 g3 g4 g5 g6 g7 g8 g9
  refine (markHouse r w3.heap.size w4.heap.size r.cells.length c4 r.vs.length d4 p4 q4 1 _ _ _ GC_5.out GV_5.out (by omega) (by omega) (by omega) (by omega)).mono ?_
  rintro e w6 ⟨rfl, hm1, hm2, hc6⟩
  have z_6 : w5.heap.size ≤ w6.heap.size := hc6.size
  have A_6 := Lib.hid (A_5.out.chg hc6 (by omega))
  have WC_6 := Lib.hid (WC_5.out.chg hc6 (by omega))
  have WV_6 := Lib.hid (WV_5.out.chg hc6 (by omega))
  have BW_6 := Lib.hid (BW_5.out.chg hc6 (by omega))
  have GC_6 := Lib.hid hm1
  have GV_6 := Lib.hid hm2
  have BG_6 := Lib.hid (BG_5.out.chg hc6 (by omega))
  clear A_5 WC_5 WV_5 BW_5 GC_5 GV_5 BG_5
  have X_6 : Ext w w6 := Chg.ext X_5 hc6 (by omega)
  clear hc6 hm1 hm2
  have kk : (0 : Int) ≤ 1 + (r.cells.length : Nat) + (r.vs.length * 4 : Nat) := by omega
  have g0 : w6.cell? ⟨w4.heap.size, 0, none⟩ = some (.int .i64 r.wide) := BG_6.out.cell 0
  have g1 : w6.cell? ⟨w4.heap.size, 1, none⟩ = some (.int .i64 r.deep) := BG_6.out.cell 1
  have g2 : w6.cell? ⟨w4.heap.size, 2, none⟩ = some (.slice p4 r.cells.length c4) := BG_6.out.cell 2
  have g3 : w6.cell? ⟨w4.heap.size, 3, none⟩ = some (.int .i64 r.free) := BG_6.out.cell 3
  have g4 : w6.cell? ⟨w4.heap.size, 4, none⟩ = some (.int .i64 r.step) := BG_6.out.cell 4
  have g5 : w6.cell? ⟨w4.heap.size, 5, none⟩ = some (.int .i64 r.price) := BG_6.out.cell 5
  have g6 : w6.cell? ⟨w4.heap.size, 6, none⟩ = some (.int .i64 r.capp) := BG_6.out.cell 6
  have g7 : w6.cell? ⟨w4.heap.size, 7, none⟩ = some (.int .i64 r.clock) := BG_6.out.cell 7
  have g8 : w6.cell? ⟨w4.heap.size, 8, none⟩ = some (.int .i64 r.bank) := BG_6.out.cell 8
  have g9 : w6.cell? ⟨w4.heap.size, 9, none⟩ = some (.slice q4 r.vs.length d4) := BG_6.out.cell 9
  go_wp2_with fail
  clear g0 g1 g2 g3 g4 g5 g6 g7 g8 g9
  refine (heldHouse r w3.heap.size w4.heap.size r.cells.length c4 r.vs.length d4 p4 q4 1 _ GC_6.out GV_6.out (by omega) (by omega) (by omega) (by omega)).mono ?_
  rintro e w7 ⟨rfl, hx7⟩
  have z_7 : w6.heap.size ≤ w7.heap.size := by have := hx7.sz; (try simp at this); omega
  have hy7 : Ext w6 w7 := by (repeat' (first | exact Ext.refl _ | (with_reducible assumption) | (with_reducible refine Ext.alloc ?_ _) | (with_reducible refine Ext.setCell ?_ (by first | exact Nat.le_refl _ | (dsimp only; omega) | (simp; done) | (simp; omega)) _) | (with_reducible refine Ext.drew ?_) | (with_reducible refine Ext.drewN ?_ _) | (refine Ext.trans ?_ (by with_reducible assumption))))
  have A_7 := Lib.hid (A_6.out.ext hy7)
  have WC_7 := Lib.hid (WC_6.out.ext hy7)
  have WV_7 := Lib.hid (WV_6.out.ext hy7)
  have BW_7 := Lib.hid (BW_6.out.ext hy7)
  have GC_7 := Lib.hid (GC_6.out.ext hy7)
  have GV_7 := Lib.hid (GV_6.out.ext hy7)
  have BG_7 := Lib.hid (BG_6.out.ext hy7)
  clear A_6 WC_6 WV_6 BW_6 GC_6 GV_6 BG_6
  clear hy7
  have X_7 : Ext w w7 := by (repeat' (first | exact Ext.refl _ | (with_reducible assumption) | (with_reducible refine Ext.alloc ?_ _) | (with_reducible refine Ext.setCell ?_ (by first | exact Nat.le_refl _ | (dsimp only; omega) | (simp; done) | (simp; omega)) _) | (with_reducible refine Ext.drew ?_) | (with_reducible refine Ext.drewN ?_ _) | (refine Ext.trans ?_ (by with_reducible assumption))))
  clear hx7
  have a0 : w7.cell? ⟨w.heap.size, 0, none⟩ = some (.int .i64 f) := A_7.out.cell 0
  have a1 : w7.cell? ⟨w.heap.size, 1, none⟩ = some (.int .i64 s) := A_7.out.cell 1
  have a2 : w7.cell? ⟨w.heap.size, 2, none⟩ = some (.int .i64 pr) := A_7.out.cell 2
  have a3 : w7.cell? ⟨w.heap.size, 3, none⟩ = some (.int .i64 cp) := A_7.out.cell 3
  go_wp2_with fail
  clear a0 a1 a2 a3
  refine (HT.out _).mono ?_
  rintro e w8 ⟨rfl, hx8⟩
  have z_8 : w7.heap.size ≤ w8.heap.size := by have := hx8.sz; (try simp at this); omega
  have hy8 : Ext w7 w8 := by (repeat' (first | exact Ext.refl _ | (with_reducible assumption) | (with_reducible refine Ext.alloc ?_ _) | (with_reducible refine Ext.setCell ?_ (by first | exact Nat.le_refl _ | (dsimp only; omega) | (simp; done) | (simp; omega)) _) | (with_reducible refine Ext.drew ?_) | (with_reducible refine Ext.drewN ?_ _) | (refine Ext.trans ?_ (by with_reducible assumption))))
  have A_8 := Lib.hid (A_7.out.ext hy8)
  have WC_8 := Lib.hid (WC_7.out.ext hy8)
  have WV_8 := Lib.hid (WV_7.out.ext hy8)
  have BW_8 := Lib.hid (BW_7.out.ext hy8)
  have GC_8 := Lib.hid (GC_7.out.ext hy8)
  have GV_8 := Lib.hid (GV_7.out.ext hy8)
  have BG_8 := Lib.hid (BG_7.out.ext hy8)
  clear A_7 WC_7 WV_7 BW_7 GC_7 GV_7 BG_7
  clear hy8
  have X_8 : Ext w w8 := by (repeat' (first | exact Ext.refl _ | (with_reducible assumption) | (with_reducible refine Ext.alloc ?_ _) | (with_reducible refine Ext.setCell ?_ (by first | exact Nat.le_refl _ | (dsimp only; omega) | (simp; done) | (simp; omega)) _) | (with_reducible refine Ext.drew ?_) | (with_reducible refine Ext.drewN ?_ _) | (refine Ext.trans ?_ (by with_reducible assumption))))
  clear hx8
  go_wp2_with fail
  refine (HIm.out _).mono ?_
  rintro e w9 ⟨p9, c9, q9, d9, rfl, o9, v9, hx9⟩
  have z_9 : w8.heap.size ≤ w9.heap.size := by have := hx9.sz; (try simp at this); omega
  have hy9 : Ext w8 w9 := by (repeat' (first | exact Ext.refl _ | (with_reducible assumption) | (with_reducible refine Ext.alloc ?_ _) | (with_reducible refine Ext.setCell ?_ (by first | exact Nat.le_refl _ | (dsimp only; omega) | (simp; done) | (simp; omega)) _) | (with_reducible refine Ext.drew ?_) | (with_reducible refine Ext.drewN ?_ _) | (refine Ext.trans ?_ (by with_reducible assumption))))
  have A_9 := Lib.hid (A_8.out.ext hy9)
  have WC_9 := Lib.hid (WC_8.out.ext hy9)
  have WV_9 := Lib.hid (WV_8.out.ext hy9)
  have BW_9 := Lib.hid (BW_8.out.ext hy9)
  have GC_9 := Lib.hid (GC_8.out.ext hy9)
  have GV_9 := Lib.hid (GV_8.out.ext hy9)
  have BG_9 := Lib.hid (BG_8.out.ext hy9)
  clear A_8 WC_8 WV_8 BW_8 GC_8 GV_8 BG_8
  clear hy9
  have HC_9 := Lib.hid (OwnT.of o9)
  have HV_9 := Lib.hid (OwnT.of v9)
  have X_9 : Ext w w9 := by (repeat' (first | exact Ext.refl _ | (with_reducible assumption) | (with_reducible refine Ext.alloc ?_ _) | (with_reducible refine Ext.setCell ?_ (by first | exact Nat.le_refl _ | (dsimp only; omega) | (simp; done) | (simp; omega)) _) | (with_reducible refine Ext.drew ?_) | (with_reducible refine Ext.drewN ?_ _) | (refine Ext.trans ?_ (by with_reducible assumption))))
  clear hx9 o9 v9
  have y_9 : w2.heap.size < w9.heap.size := by omega
  have b0 : w9.cell? ⟨w2.heap.size, 0, none⟩ = some (.int .i64 r.wide) := BW_9.out.cell 0
  have b1 : w9.cell? ⟨w2.heap.size, 1, none⟩ = some (.int .i64 r.deep) := BW_9.out.cell 1
  have b2 : w9.cell? ⟨w2.heap.size, 2, none⟩ = some (.slice p2 r.cells.length c2) := BW_9.out.cell 2
  have b3 : w9.cell? ⟨w2.heap.size, 3, none⟩ = some (.int .i64 r.free) := BW_9.out.cell 3
  have b4 : w9.cell? ⟨w2.heap.size, 4, none⟩ = some (.int .i64 r.step) := BW_9.out.cell 4
  have b5 : w9.cell? ⟨w2.heap.size, 5, none⟩ = some (.int .i64 r.price) := BW_9.out.cell 5
  have b6 : w9.cell? ⟨w2.heap.size, 6, none⟩ = some (.int .i64 r.capp) := BW_9.out.cell 6
  have b7 : w9.cell? ⟨w2.heap.size, 7, none⟩ = some (.int .i64 r.clock) := BW_9.out.cell 7
  have b8 : w9.cell? ⟨w2.heap.size, 8, none⟩ = some (.int .i64 r.bank) := BW_9.out.cell 8
  have b9 : w9.cell? ⟨w2.heap.size, 9, none⟩ = some (.slice q2 r.vs.length d2) := BW_9.out.cell 9
  go_wp2_with fail
  clear b0 b1 b2 b3 b4 b5 b6 b7 b8 b9
  refine (eqHouse_any r p9 r.cells.length c9 q9 r.vs.length d9 p2 c2 q2 d2 _ (IsHouse.ext ⟨HC_9.out.sl, HV_9.out.sl⟩ (by (repeat' (first | exact Ext.refl _ | (with_reducible assumption) | (with_reducible refine Ext.alloc ?_ _) | (with_reducible refine Ext.setCell ?_ (by first | exact Nat.le_refl _ | (dsimp only; omega) | (simp; done) | (simp; omega)) _) | (with_reducible refine Ext.drew ?_) | (with_reducible refine Ext.drewN ?_ _) | (refine Ext.trans ?_ (by with_reducible assumption)))))) (IsHouse.ext ⟨WC_9.out.sl, WV_9.out.sl⟩ (by (repeat' (first | exact Ext.refl _ | (with_reducible assumption) | (with_reducible refine Ext.alloc ?_ _) | (with_reducible refine Ext.setCell ?_ (by first | exact Nat.le_refl _ | (dsimp only; omega) | (simp; done) | (simp; omega)) _) | (with_reducible refine Ext.drew ?_) | (with_reducible refine Ext.drewN ?_ _) | (refine Ext.trans ?_ (by with_reducible assumption))))))).mono ?_
  rintro e w10 ⟨rfl, hx10⟩
  have z_10 : w9.heap.size ≤ w10.heap.size := by have := hx10.sz; (try simp at this); omega
  have hy10 : Ext w9 w10 := by (repeat' (first | exact Ext.refl _ | (with_reducible assumption) | (with_reducible refine Ext.alloc ?_ _) | (with_reducible refine Ext.setCell ?_ (by first | exact Nat.le_refl _ | (dsimp only; omega) | (simp; done) | (simp; omega)) _) | (with_reducible refine Ext.drew ?_) | (with_reducible refine Ext.drewN ?_ _) | (refine Ext.trans ?_ (by with_reducible assumption))))
  have A_10 := Lib.hid (A_9.out.ext hy10)
  have WC_10 := Lib.hid (WC_9.out.ext hy10)
  have WV_10 := Lib.hid (WV_9.out.ext hy10)
  have BW_10 := Lib.hid (BW_9.out.ext hy10)
  have GC_10 := Lib.hid (GC_9.out.ext hy10)
  have GV_10 := Lib.hid (GV_9.out.ext hy10)
  have BG_10 := Lib.hid (BG_9.out.ext hy10)
  have HC_10 := Lib.hid (HC_9.out.ext hy10)
  have HV_10 := Lib.hid (HV_9.out.ext hy10)
  clear A_9 WC_9 WV_9 BW_9 GC_9 GV_9 BG_9 HC_9 HV_9
  clear hy10
  have X_10 : Ext w w10 := by (repeat' (first | exact Ext.refl _ | (with_reducible assumption) | (with_reducible refine Ext.alloc ?_ _) | (with_reducible refine Ext.setCell ?_ (by first | exact Nat.le_refl _ | (dsimp only; omega) | (simp; done) | (simp; omega)) _) | (with_reducible refine Ext.drew ?_) | (with_reducible refine Ext.drewN ?_ _) | (refine Ext.trans ?_ (by with_reducible assumption))))
  clear hx10
  have g0 : w10.cell? ⟨w4.heap.size, 0, none⟩ = some (.int .i64 r.wide) := BG_10.out.cell 0
  have g1 : w10.cell? ⟨w4.heap.size, 1, none⟩ = some (.int .i64 r.deep) := BG_10.out.cell 1
  have g2 : w10.cell? ⟨w4.heap.size, 2, none⟩ = some (.slice p4 r.cells.length c4) := BG_10.out.cell 2
  have g3 : w10.cell? ⟨w4.heap.size, 3, none⟩ = some (.int .i64 r.free) := BG_10.out.cell 3
  have g4 : w10.cell? ⟨w4.heap.size, 4, none⟩ = some (.int .i64 r.step) := BG_10.out.cell 4
  have g5 : w10.cell? ⟨w4.heap.size, 5, none⟩ = some (.int .i64 r.price) := BG_10.out.cell 5
  have g6 : w10.cell? ⟨w4.heap.size, 6, none⟩ = some (.int .i64 r.capp) := BG_10.out.cell 6
  have g7 : w10.cell? ⟨w4.heap.size, 7, none⟩ = some (.int .i64 r.clock) := BG_10.out.cell 7
  have g8 : w10.cell? ⟨w4.heap.size, 8, none⟩ = some (.int .i64 r.bank) := BG_10.out.cell 8
  have g9 : w10.cell? ⟨w4.heap.size, 9, none⟩ = some (.slice q4 r.vs.length d4) := BG_10.out.cell 9
  go_wp2_with fail
  clear g0 g1 g2 g3 g4 g5 g6 g7 g8 g9
  refine (heldHouse r w3.heap.size w4.heap.size r.cells.length c4 r.vs.length d4 p4 q4 1 _ GC_10.out GV_10.out (by omega) (by omega) (by omega) (by omega)).mono ?_
  rintro e w11 ⟨rfl, hx11⟩
  have z_11 : w10.heap.size ≤ w11.heap.size := by have := hx11.sz; (try simp at this); omega
  have hy11 : Ext w10 w11 := by (repeat' (first | exact Ext.refl _ | (with_reducible assumption) | (with_reducible refine Ext.alloc ?_ _) | (with_reducible refine Ext.setCell ?_ (by first | exact Nat.le_refl _ | (dsimp only; omega) | (simp; done) | (simp; omega)) _) | (with_reducible refine Ext.drew ?_) | (with_reducible refine Ext.drewN ?_ _) | (refine Ext.trans ?_ (by with_reducible assumption))))
  have A_11 := Lib.hid (A_10.out.ext hy11)
  have WC_11 := Lib.hid (WC_10.out.ext hy11)
  have WV_11 := Lib.hid (WV_10.out.ext hy11)
  have BW_11 := Lib.hid (BW_10.out.ext hy11)
  have GC_11 := Lib.hid (GC_10.out.ext hy11)
  have GV_11 := Lib.hid (GV_10.out.ext hy11)
  have BG_11 := Lib.hid (BG_10.out.ext hy11)
  have HC_11 := Lib.hid (HC_10.out.ext hy11)
  have HV_11 := Lib.hid (HV_10.out.ext hy11)
  clear A_10 WC_10 WV_10 BW_10 GC_10 GV_10 BG_10 HC_10 HV_10
  clear hy11
  have X_11 : Ext w w11 := by (repeat' (first | exact Ext.refl _ | (with_reducible assumption) | (with_reducible refine Ext.alloc ?_ _) | (with_reducible refine Ext.setCell ?_ (by first | exact Nat.le_refl _ | (dsimp only; omega) | (simp; done) | (simp; omega)) _) | (with_reducible refine Ext.drew ?_) | (with_reducible refine Ext.drewN ?_ _) | (refine Ext.trans ?_ (by with_reducible assumption))))
  clear hx11
  go_wp2
  go_ret
  exact ⟨rfl, X_11⟩

theorem houseNew_small (wd dp f s p c : Int) : (houseNew wd dp f s p c).cells.length ≤ 1000 ∧ (houseNew wd dp f s p c).vs.length ≤ 1000 := by
  unfold houseNew
  split
  · rename_i h
    obtain ⟨_, a, b, c, d⟩ := h
    have h5 : wd * dp ≤ 12 := by have := Int.mul_le_mul b d (by omega) (by omega); omega
    simp; omega
  · simp [houseZero]
section
variable {H : Type} {enc : TypeId × Value → H} {w : World} {base : Nat} {spare : Nat → Bool} {held : Bool} {r : Reach} {b0 : Nat} {v : Value} {d : DataW H} {p : List MemPlace}
set_option maxRecDepth 100000 in
theorem open_tariff (hv : Value.okWide Try.prog w r b0 23 v) (h : DataW.Trod enc Try.prog w base spare held 23 v d p) :
    ∃ y : Int × Int × Int × Int, v = .agg #[.int .i64 y.1, .int .i64 y.2.1, .int .i64 y.2.2.1, .int .i64 y.2.2.2] ∧ True := by
  obtain ⟨cs, rfl, hsz⟩ := okWide_struct Try.underlying23 hv
  obtain ⟨l⟩ := cs
  have hl : l.length = 4 := by have := hsz.trans (show Try.prog.cellsOf 23 = 4 by kernel_rfl); simpa using this
  obtain ⟨x0, x1, x2, x3, rfl⟩ : ∃ a b c d, l = [a, b, c, d] := by
    match l, hl with
    | [a, b, c, d], _ => exact ⟨a, b, c, d, rfl⟩
  obtain ⟨fuel, hf⟩ := h
  obtain ⟨xs, n, _, hx, _, hlen, hg⟩ := DataW.trod_struct Try.underlying23 hf
  have hcl : ∀ l : List Value, (Value.agg l.toArray).cells.toList = l := fun l => by simp [Value.cells]
  match xs, hlen with
  | [y0, y1, y2, y3], _ =>
    have g0 := hg 0 _ rfl
    have g1 := hg 1 _ rfl
    have g2 := hg 2 _ rfl
    have g3 := hg 3 _ rfl
    simp only [hcl, cInt, List.drop_zero, List.drop_succ_cons, List.take_succ_cons, List.take_zero, List.getElem?_cons_zero, List.getElem?_cons_succ] at g0 g1 g2 g3
    obtain ⟨a, rfl, _⟩ := trod_i64 g0
    obtain ⟨b, rfl, _⟩ := trod_i64 g1
    obtain ⟨c, rfl, _⟩ := trod_i64 g2
    obtain ⟨e, rfl, _⟩ := trod_i64 g3
    exact ⟨(a, b, c, e), rfl, trivial⟩
end
theorem walk_FnExactHouseNew (W : World) (wd : Int) (h1 : B64 wd) (dp : Int) (h2 : B64 dp) (v : Value) (y : Int × Int × Int × Int) (f : v = .agg #[.int .i64 y.1, .int .i64 y.2.1, .int .i64 y.2.2.1, .int .i64 y.2.2.2] ∧ True) :
    Calls Try.prog 3 #[.int .i64 wd, .int .i64 dp, v] W fun e w' => e = .returned (.bool true) ∧ Ext W w' := by
  obtain ⟨rfl, _⟩ := f
  obtain ⟨a, b, c, d⟩ := y
  obtain ⟨s1, s2⟩ := houseNew_small wd dp a b c d
  exact exHouseNew_o wd dp a b c d (houseNew wd dp a b c d) W s1 s2 (fun w => specHn wd dp a b c d w) (fun w => implHn wd dp a b c d w) (fun w => toTariff_any a b c d w)
end Go.Proofs.Ytncfnlocdlhagaa
