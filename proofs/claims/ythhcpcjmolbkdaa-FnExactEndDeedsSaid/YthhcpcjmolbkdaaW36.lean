/-
  The walk of the law FnExactEndDeeds.
-/
import Derived.Test.YthhcpcjmolbkdaaW10
import Derived.Test.YthhcpcjmolbkdaaEdw
namespace Go.Proofs.Ythhcpcjmolbkdaa
open Go.RowKit
set_option linter.unusedVariables false
set_option linter.unusedSimpArgs false

set_option maxRecDepth 100000 in
set_option maxHeartbeats 1000000 in
theorem exEndDeeds_big (wide deep free step price capp clock bank : Int) (cells : List Int) (vs : List Visit4) (p : Option Addr) (cp : Nat) (q : Option Addr) (cq : Nat) (w : World) (HZ : Hid (∀ w, Calls Try.prog 4 #[.agg #[.int .i64 wide, .int .i64 deep, .slice p cells.length cp, .int .i64 free, .int .i64 step, .int .i64 price, .int .i64 capp, .int .i64 clock, .int .i64 bank, .slice q vs.length cq], .int .i64 1048576] w fun e w' => e = .returned (.int .i64 (-1)) ∧ Ext w w')) :
    Calls Try.prog 3 #[.agg #[.int .i64 wide, .int .i64 deep, .slice p cells.length cp, .int .i64 free, .int .i64 step, .int .i64 price, .int .i64 capp, .int .i64 clock, .int .i64 bank, .slice q vs.length cq]] w fun e w' => e = .returned (.bool true) ∧ Ext w w' := by
  go_enter Try.func3, Try.ntmps3
  go_wp2_with fail
  refine (HZ.out _).mono ?_
  rintro e w1 ⟨rfl, h1⟩
  go_wp2
  go_ret
  exact ⟨rfl, by (repeat' (first | exact Ext.refl _ | (with_reducible assumption) | (with_reducible refine Ext.alloc ?_ _) | (with_reducible refine Ext.setCell ?_ (by first | exact Nat.le_refl _ | (dsimp only; omega) | (simp; done) | (simp; omega)) _) | (with_reducible refine Ext.drew ?_) | (with_reducible refine Ext.drewN ?_ _) | (refine Ext.trans ?_ (by with_reducible assumption))))⟩

set_option maxRecDepth 100000 in
set_option maxHeartbeats 1000000 in
theorem exEndDeeds_o (wide deep free step price capp clock bank : Int) (cells : List Int) (vs : List Visit4) (p : Option Addr) (cp : Nat) (q : Option Addr) (cq : Nat) (R : List Dd3) (w : World) (hsz : cells.length + vs.length ≤ 1048576) (hR : R.length ≤ 100000)
    (HI : Hid (IsHouse w ⟨wide, deep, cells, free, step, price, capp, clock, bank, vs⟩ p cells.length cp q vs.length cq))
    (HZ : Hid (∀ w, Calls Try.prog 4 #[.agg #[.int .i64 wide, .int .i64 deep, .slice p cells.length cp, .int .i64 free, .int .i64 step, .int .i64 price, .int .i64 capp, .int .i64 clock, .int .i64 bank, .slice q vs.length cq], .int .i64 1048576] w fun e w' => e = .returned (.int .i64 (1048576 - cells.length - vs.length)) ∧ Ext w w'))
    (HSp : Hid (∀ p cp q cq w, IsHouse w ⟨wide, deep, cells, free, step, price, capp, clock, bank, vs⟩ p cells.length cp q vs.length cq → Calls Try.prog 5 #[.agg #[.int .i64 wide, .int .i64 deep, .slice p cells.length cp, .int .i64 free, .int .i64 step, .int .i64 price, .int .i64 capp, .int .i64 clock, .int .i64 bank, .slice q vs.length cq]] w (RetDeeds R w)))
    (HIm : Hid (∀ p cp q cq w, IsHouse w ⟨wide, deep, cells, free, step, price, capp, clock, bank, vs⟩ p cells.length cp q vs.length cq → Calls Try.prog 7 #[.agg #[.int .i64 wide, .int .i64 deep, .slice p cells.length cp, .int .i64 free, .int .i64 step, .int .i64 price, .int .i64 capp, .int .i64 clock, .int .i64 bank, .slice q vs.length cq]] w (RetDeeds R w)))
    (HT : Hid (∀ w', Ext w w' → Calls Try.prog 6 #[.agg #[.int .i64 wide, .int .i64 deep, .slice p cells.length cp, .int .i64 free, .int .i64 step, .int .i64 price, .int .i64 capp, .int .i64 clock, .int .i64 bank, .slice q vs.length cq]] w' (RetHouse ⟨wide, deep, cells, free, step, price, capp, clock, bank, vs⟩ w'))) :
    Calls Try.prog 3 #[.agg #[.int .i64 wide, .int .i64 deep, .slice p cells.length cp, .int .i64 free, .int .i64 step, .int .i64 price, .int .i64 capp, .int .i64 clock, .int .i64 bank, .slice q vs.length cq]] w fun e w' => e = .returned (.bool true) ∧ Ext w w' := by
  go_enter Try.func3, Try.ntmps3
  go_wp2_with fail
  refine (HZ.out _).mono ?_
  rintro e w1 ⟨rfl, hx1⟩
  have z_1 : w.heap.size < w1.heap.size := by have := hx1.sz; simp at this; omega
  have A_1 := Lib.hid ((Blk.new w 29 #[.int .i64 wide, .int .i64 deep, .slice p cells.length cp, .int .i64 free, .int .i64 step, .int .i64 price, .int .i64 capp, .int .i64 clock, .int .i64 bank, .slice q vs.length cq]).ext hx1)
  have X_1 : Ext w w1 := by (repeat' (first | exact Ext.refl _ | (with_reducible assumption) | (with_reducible refine Ext.alloc ?_ _) | (with_reducible refine Ext.setCell ?_ (by first | exact Nat.le_refl _ | (dsimp only; omega) | (simp; done) | (simp; omega)) _) | (with_reducible refine Ext.drew ?_) | (with_reducible refine Ext.drewN ?_ _) | (refine Ext.trans ?_ (by with_reducible assumption))))
  clear hx1
  have a0 : w1.cell? ⟨w.heap.size, 0, none⟩ = some (.int .i64 wide) := A_1.out.cell 0
  have a1 : w1.cell? ⟨w.heap.size, 1, none⟩ = some (.int .i64 deep) := A_1.out.cell 1
  have a2 : w1.cell? ⟨w.heap.size, 2, none⟩ = some (.slice p cells.length cp) := A_1.out.cell 2
  have a3 : w1.cell? ⟨w.heap.size, 3, none⟩ = some (.int .i64 free) := A_1.out.cell 3
  have a4 : w1.cell? ⟨w.heap.size, 4, none⟩ = some (.int .i64 step) := A_1.out.cell 4
  have a5 : w1.cell? ⟨w.heap.size, 5, none⟩ = some (.int .i64 price) := A_1.out.cell 5
  have a6 : w1.cell? ⟨w.heap.size, 6, none⟩ = some (.int .i64 capp) := A_1.out.cell 6
  have a7 : w1.cell? ⟨w.heap.size, 7, none⟩ = some (.int .i64 clock) := A_1.out.cell 7
  have a8 : w1.cell? ⟨w.heap.size, 8, none⟩ = some (.int .i64 bank) := A_1.out.cell 8
  have a9 : w1.cell? ⟨w.heap.size, 9, none⟩ = some (.slice q vs.length cq) := A_1.out.cell 9
  go_wp2_with fail
  clear a0 a1 a2 a3 a4 a5 a6 a7 a8 a9
  refine (HT.out _ X_1).mono ?_
  rintro e w2 ⟨p2, c2, q2, d2, rfl, o2, v2, hx2⟩
  have z_2 : w1.heap.size ≤ w2.heap.size := by have := hx2.sz; (try simp at this); omega
  have hy2 : Ext w1 w2 := by (repeat' (first | exact Ext.refl _ | (with_reducible assumption) | (with_reducible refine Ext.alloc ?_ _) | (with_reducible refine Ext.setCell ?_ (by first | exact Nat.le_refl _ | (dsimp only; omega) | (simp; done) | (simp; omega)) _) | (with_reducible refine Ext.drew ?_) | (with_reducible refine Ext.drewN ?_ _) | (refine Ext.trans ?_ (by with_reducible assumption))))
  have A_2 := Lib.hid (A_1.out.ext hy2)
  clear A_1
  clear hy2
  have I_2 := Lib.hid (RetHouse.is o2 v2)
  have X_2 : Ext w w2 := by (repeat' (first | exact Ext.refl _ | (with_reducible assumption) | (with_reducible refine Ext.alloc ?_ _) | (with_reducible refine Ext.setCell ?_ (by first | exact Nat.le_refl _ | (dsimp only; omega) | (simp; done) | (simp; omega)) _) | (with_reducible refine Ext.drew ?_) | (with_reducible refine Ext.drewN ?_ _) | (refine Ext.trans ?_ (by with_reducible assumption))))
  clear hx2 o2 v2
  go_wp2_with fail
  refine (HSp.out _ _ _ _ _ I_2.out).mono ?_
  rintro e w3 ⟨p3, c3, rfl, o3, hx3⟩
  have z_3 : w2.heap.size ≤ w3.heap.size := by have := hx3.sz; (try simp at this); omega
  have hy3 : Ext w2 w3 := by (repeat' (first | exact Ext.refl _ | (with_reducible assumption) | (with_reducible refine Ext.alloc ?_ _) | (with_reducible refine Ext.setCell ?_ (by first | exact Nat.le_refl _ | (dsimp only; omega) | (simp; done) | (simp; omega)) _) | (with_reducible refine Ext.drew ?_) | (with_reducible refine Ext.drewN ?_ _) | (refine Ext.trans ?_ (by with_reducible assumption))))
  have A_3 := Lib.hid (A_2.out.ext hy3)
  have I_3 := Lib.hid (I_2.out.ext hy3)
  clear A_2 I_2
  clear hy3
  have W0_3 := Lib.hid (OwnT.of (own_ext o3 (Ext.refl _)) |>.base (Nat.le_refl _))
  clear I_3
  have X_3 : Ext w w3 := by (repeat' (first | exact Ext.refl _ | (with_reducible assumption) | (with_reducible refine Ext.alloc ?_ _) | (with_reducible refine Ext.setCell ?_ (by first | exact Nat.le_refl _ | (dsimp only; omega) | (simp; done) | (simp; omega)) _) | (with_reducible refine Ext.drew ?_) | (with_reducible refine Ext.drewN ?_ _) | (refine Ext.trans ?_ (by with_reducible assumption))))
  clear hx3 o3
  have a0 : w3.cell? ⟨w.heap.size, 0, none⟩ = some (.int .i64 wide) := A_3.out.cell 0
  have a1 : w3.cell? ⟨w.heap.size, 1, none⟩ = some (.int .i64 deep) := A_3.out.cell 1
  have a2 : w3.cell? ⟨w.heap.size, 2, none⟩ = some (.slice p cells.length cp) := A_3.out.cell 2
  have a3 : w3.cell? ⟨w.heap.size, 3, none⟩ = some (.int .i64 free) := A_3.out.cell 3
  have a4 : w3.cell? ⟨w.heap.size, 4, none⟩ = some (.int .i64 step) := A_3.out.cell 4
  have a5 : w3.cell? ⟨w.heap.size, 5, none⟩ = some (.int .i64 price) := A_3.out.cell 5
  have a6 : w3.cell? ⟨w.heap.size, 6, none⟩ = some (.int .i64 capp) := A_3.out.cell 6
  have a7 : w3.cell? ⟨w.heap.size, 7, none⟩ = some (.int .i64 clock) := A_3.out.cell 7
  have a8 : w3.cell? ⟨w.heap.size, 8, none⟩ = some (.int .i64 bank) := A_3.out.cell 8
  have a9 : w3.cell? ⟨w.heap.size, 9, none⟩ = some (.slice q vs.length cq) := A_3.out.cell 9
  go_wp2_with fail
  clear a0 a1 a2 a3 a4 a5 a6 a7 a8 a9
  refine (HT.out _ X_3).mono ?_
  rintro e w4 ⟨p4, c4, q4, d4, rfl, o4, v4, hx4⟩
  have z_4 : w3.heap.size ≤ w4.heap.size := by have := hx4.sz; (try simp at this); omega
  have hy4 : Ext w3 w4 := by (repeat' (first | exact Ext.refl _ | (with_reducible assumption) | (with_reducible refine Ext.alloc ?_ _) | (with_reducible refine Ext.setCell ?_ (by first | exact Nat.le_refl _ | (dsimp only; omega) | (simp; done) | (simp; omega)) _) | (with_reducible refine Ext.drew ?_) | (with_reducible refine Ext.drewN ?_ _) | (refine Ext.trans ?_ (by with_reducible assumption))))
  have A_4 := Lib.hid (A_3.out.ext hy4)
  have W0_4 := Lib.hid (W0_3.out.ext hy4)
  clear A_3 W0_3
  clear hy4
  have I_4 := Lib.hid (RetHouse.is o4 v4)
  have XC_4 := Lib.hid (OwnT.of o4)
  have XV_4 := Lib.hid (OwnT.of v4)
  have X_4 : Ext w w4 := by (repeat' (first | exact Ext.refl _ | (with_reducible assumption) | (with_reducible refine Ext.alloc ?_ _) | (with_reducible refine Ext.setCell ?_ (by first | exact Nat.le_refl _ | (dsimp only; omega) | (simp; done) | (simp; omega)) _) | (with_reducible refine Ext.drew ?_) | (with_reducible refine Ext.drewN ?_ _) | (refine Ext.trans ?_ (by with_reducible assumption))))
  clear hx4 o4 v4
  go_wp2_with fail
  refine (HIm.out _ _ _ _ _ (I_4.out.ext (by (repeat' (first | exact Ext.refl _ | (with_reducible assumption) | (with_reducible refine Ext.alloc ?_ _) | (with_reducible refine Ext.setCell ?_ (by first | exact Nat.le_refl _ | (dsimp only; omega) | (simp; done) | (simp; omega)) _) | (with_reducible refine Ext.drew ?_) | (with_reducible refine Ext.drewN ?_ _) | (refine Ext.trans ?_ (by with_reducible assumption))))))).mono ?_
  rintro e w5 ⟨p5, c5, rfl, o5, hx5⟩
  have z_5 : w4.heap.size ≤ w5.heap.size := by have := hx5.sz; (try simp at this); omega
  have hy5 : Ext w4 w5 := by (repeat' (first | exact Ext.refl _ | (with_reducible assumption) | (with_reducible refine Ext.alloc ?_ _) | (with_reducible refine Ext.setCell ?_ (by first | exact Nat.le_refl _ | (dsimp only; omega) | (simp; done) | (simp; omega)) _) | (with_reducible refine Ext.drew ?_) | (with_reducible refine Ext.drewN ?_ _) | (refine Ext.trans ?_ (by with_reducible assumption))))
  have A_5 := Lib.hid (A_4.out.ext hy5)
  have W0_5 := Lib.hid (W0_4.out.ext hy5)
  have I_5 := Lib.hid (I_4.out.ext hy5)
  have XC_5 := Lib.hid (XC_4.out.ext hy5)
  have XV_5 := Lib.hid (XV_4.out.ext hy5)
  clear A_4 W0_4 I_4 XC_4 XV_4
  clear hy5
  have BX_5 := Lib.hid ((Blk.new w4 37 #[.int .i64 wide, .int .i64 deep, .slice p4 cells.length c4, .int .i64 free, .int .i64 step, .int .i64 price, .int .i64 capp, .int .i64 clock, .int .i64 bank, .slice q4 vs.length d4]).ext hx5)
  have o5' : w5.ownsRow (w4.heap.size + 1) TDd 3 (.slice p5 R.length c5) R.length (R.flatMap ddCells) := by simpa using o5
  have G_5 := Lib.hid (OwnT.of o5')
  replace z_5 : w4.heap.size + 1 ≤ w5.heap.size := by have := hx5.sz; simp at this; omega
  have X_5 : Ext w w5 := by (repeat' (first | exact Ext.refl _ | (with_reducible assumption) | (with_reducible refine Ext.alloc ?_ _) | (with_reducible refine Ext.setCell ?_ (by first | exact Nat.le_refl _ | (dsimp only; omega) | (simp; done) | (simp; omega)) _) | (with_reducible refine Ext.drew ?_) | (with_reducible refine Ext.drewN ?_ _) | (refine Ext.trans ?_ (by with_reducible assumption))))
  clear hx5 o5 o5'
  go_wp2_with fail
  refine (eqDeedS_any p5 p3 R.length c5 c3 R _ G_5.out.sl W0_5.out.sl).mono ?_
  rintro e w6 ⟨rfl, hx6⟩
  have z_6 : w5.heap.size ≤ w6.heap.size := by have := hx6.sz; (try simp at this); omega
  have hy6 : Ext w5 w6 := by (repeat' (first | exact Ext.refl _ | (with_reducible assumption) | (with_reducible refine Ext.alloc ?_ _) | (with_reducible refine Ext.setCell ?_ (by first | exact Nat.le_refl _ | (dsimp only; omega) | (simp; done) | (simp; omega)) _) | (with_reducible refine Ext.drew ?_) | (with_reducible refine Ext.drewN ?_ _) | (refine Ext.trans ?_ (by with_reducible assumption))))
  have A_6 := Lib.hid (A_5.out.ext hy6)
  have W0_6 := Lib.hid (W0_5.out.ext hy6)
  have I_6 := Lib.hid (I_5.out.ext hy6)
  have XC_6 := Lib.hid (XC_5.out.ext hy6)
  have XV_6 := Lib.hid (XV_5.out.ext hy6)
  have BX_6 := Lib.hid (BX_5.out.ext hy6)
  have G_6 := Lib.hid (G_5.out.ext hy6)
  clear A_5 W0_5 I_5 XC_5 XV_5 BX_5 G_5
  clear hy6
  have X_6 : Ext w w6 := by (repeat' (first | exact Ext.refl _ | (with_reducible assumption) | (with_reducible refine Ext.alloc ?_ _) | (with_reducible refine Ext.setCell ?_ (by first | exact Nat.le_refl _ | (dsimp only; omega) | (simp; done) | (simp; omega)) _) | (with_reducible refine Ext.drew ?_) | (with_reducible refine Ext.drewN ?_ _) | (refine Ext.trans ?_ (by with_reducible assumption))))
  clear hx6
  have a0 : w6.cell? ⟨w.heap.size, 0, none⟩ = some (.int .i64 wide) := A_6.out.cell 0
  have a1 : w6.cell? ⟨w.heap.size, 1, none⟩ = some (.int .i64 deep) := A_6.out.cell 1
  have a2 : w6.cell? ⟨w.heap.size, 2, none⟩ = some (.slice p cells.length cp) := A_6.out.cell 2
  have a3 : w6.cell? ⟨w.heap.size, 3, none⟩ = some (.int .i64 free) := A_6.out.cell 3
  have a4 : w6.cell? ⟨w.heap.size, 4, none⟩ = some (.int .i64 step) := A_6.out.cell 4
  have a5 : w6.cell? ⟨w.heap.size, 5, none⟩ = some (.int .i64 price) := A_6.out.cell 5
  have a6 : w6.cell? ⟨w.heap.size, 6, none⟩ = some (.int .i64 capp) := A_6.out.cell 6
  have a7 : w6.cell? ⟨w.heap.size, 7, none⟩ = some (.int .i64 clock) := A_6.out.cell 7
  have a8 : w6.cell? ⟨w.heap.size, 8, none⟩ = some (.int .i64 bank) := A_6.out.cell 8
  have a9 : w6.cell? ⟨w.heap.size, 9, none⟩ = some (.slice q vs.length cq) := A_6.out.cell 9
  have b0 : w6.cell? ⟨w4.heap.size, 0, none⟩ = some (.int .i64 wide) := BX_6.out.cell 0
  have b1 : w6.cell? ⟨w4.heap.size, 1, none⟩ = some (.int .i64 deep) := BX_6.out.cell 1
  have b2 : w6.cell? ⟨w4.heap.size, 2, none⟩ = some (.slice p4 cells.length c4) := BX_6.out.cell 2
  have b3 : w6.cell? ⟨w4.heap.size, 3, none⟩ = some (.int .i64 free) := BX_6.out.cell 3
  have b4 : w6.cell? ⟨w4.heap.size, 4, none⟩ = some (.int .i64 step) := BX_6.out.cell 4
  have b5 : w6.cell? ⟨w4.heap.size, 5, none⟩ = some (.int .i64 price) := BX_6.out.cell 5
  have b6 : w6.cell? ⟨w4.heap.size, 6, none⟩ = some (.int .i64 capp) := BX_6.out.cell 6
  have b7 : w6.cell? ⟨w4.heap.size, 7, none⟩ = some (.int .i64 clock) := BX_6.out.cell 7
  have b8 : w6.cell? ⟨w4.heap.size, 8, none⟩ = some (.int .i64 bank) := BX_6.out.cell 8
  have b9 : w6.cell? ⟨w4.heap.size, 9, none⟩ = some (.slice q4 vs.length d4) := BX_6.out.cell 9
  go_wp2_with fail
  go_region_held3 (fun w' => w'.cell? ⟨w.heap.size, 0, none⟩ = some (.int .i64 wide) ∧ w'.cell? ⟨w.heap.size, 1, none⟩ = some (.int .i64 deep) ∧ w'.cell? ⟨w.heap.size, 2, none⟩ = some (.slice p cells.length cp) ∧ w'.cell? ⟨w.heap.size, 3, none⟩ = some (.int .i64 free) ∧ w'.cell? ⟨w.heap.size, 4, none⟩ = some (.int .i64 step) ∧ w'.cell? ⟨w.heap.size, 5, none⟩ = some (.int .i64 price) ∧ w'.cell? ⟨w.heap.size, 6, none⟩ = some (.int .i64 capp) ∧ w'.cell? ⟨w.heap.size, 7, none⟩ = some (.int .i64 clock) ∧ w'.cell? ⟨w.heap.size, 8, none⟩ = some (.int .i64 bank) ∧ w'.cell? ⟨w.heap.size, 9, none⟩ = some (.slice q vs.length cq) ∧ w'.cell? ⟨w4.heap.size, 0, none⟩ = some (.int .i64 wide) ∧ w'.cell? ⟨w4.heap.size, 1, none⟩ = some (.int .i64 deep) ∧ w'.cell? ⟨w4.heap.size, 2, none⟩ = some (.slice p4 cells.length c4) ∧ w'.cell? ⟨w4.heap.size, 3, none⟩ = some (.int .i64 free) ∧ w'.cell? ⟨w4.heap.size, 4, none⟩ = some (.int .i64 step) ∧ w'.cell? ⟨w4.heap.size, 5, none⟩ = some (.int .i64 price) ∧ w'.cell? ⟨w4.heap.size, 6, none⟩ = some (.int .i64 capp) ∧ w'.cell? ⟨w4.heap.size, 7, none⟩ = some (.int .i64 clock) ∧ w'.cell? ⟨w4.heap.size, 8, none⟩ = some (.int .i64 bank) ∧ w'.cell? ⟨w4.heap.size, 9, none⟩ = some (.slice q4 vs.length d4)) (first | (refine ⟨?_, ?_, ?_, ?_, ?_, ?_, ?_, ?_, ?_, ?_, ?_, ?_, ?_, ?_, ?_, ?_, ?_, ?_, ?_, ?_⟩ <;> assumption) | go_keep)
  (first
   | (go_at_call 6
      refine (HT.out _ (by first | exact X_6 | exact X_6.drew)).mono ?_
      rintro e w7 ⟨p7, c7, q7, d7, rfl, o7, v7, hx7⟩
      (try replace hx7 := hx7.of_drew)
      have A_7 := Lib.hid (A_6.out.ext hx7)
      have W0_7 := Lib.hid (W0_6.out.ext hx7)
      have I_7 := Lib.hid (I_6.out.ext hx7)
      have XC_7 := Lib.hid (XC_6.out.ext hx7)
      have XV_7 := Lib.hid (XV_6.out.ext hx7)
      have BX_7 := Lib.hid (BX_6.out.ext hx7)
      have G_7 := Lib.hid (G_6.out.ext hx7)
      have X_7 := Lib.hid (X_6.trans hx7)
      have I7 := Lib.hid (RetHouse.is o7 v7)
      have z_7 : w6.heap.size ≤ w7.heap.size := hx7.sz
      clear o7 v7 hx7
      have g0 : w7.cell? ⟨w.heap.size, 0, none⟩ = some (.int .i64 wide) := A_7.out.cell 0
      have k0 : w7.cell? ⟨w4.heap.size, 0, none⟩ = some (.int .i64 wide) := BX_7.out.cell 0
      have g1 : w7.cell? ⟨w.heap.size, 1, none⟩ = some (.int .i64 deep) := A_7.out.cell 1
      have k1 : w7.cell? ⟨w4.heap.size, 1, none⟩ = some (.int .i64 deep) := BX_7.out.cell 1
      have g2 : w7.cell? ⟨w.heap.size, 2, none⟩ = some (.slice p cells.length cp) := A_7.out.cell 2
      have k2 : w7.cell? ⟨w4.heap.size, 2, none⟩ = some (.slice p4 cells.length c4) := BX_7.out.cell 2
      have g3 : w7.cell? ⟨w.heap.size, 3, none⟩ = some (.int .i64 free) := A_7.out.cell 3
      have k3 : w7.cell? ⟨w4.heap.size, 3, none⟩ = some (.int .i64 free) := BX_7.out.cell 3
      have g4 : w7.cell? ⟨w.heap.size, 4, none⟩ = some (.int .i64 step) := A_7.out.cell 4
      have k4 : w7.cell? ⟨w4.heap.size, 4, none⟩ = some (.int .i64 step) := BX_7.out.cell 4
      have g5 : w7.cell? ⟨w.heap.size, 5, none⟩ = some (.int .i64 price) := A_7.out.cell 5
      have k5 : w7.cell? ⟨w4.heap.size, 5, none⟩ = some (.int .i64 price) := BX_7.out.cell 5
      have g6 : w7.cell? ⟨w.heap.size, 6, none⟩ = some (.int .i64 capp) := A_7.out.cell 6
      have k6 : w7.cell? ⟨w4.heap.size, 6, none⟩ = some (.int .i64 capp) := BX_7.out.cell 6
      have g7 : w7.cell? ⟨w.heap.size, 7, none⟩ = some (.int .i64 clock) := A_7.out.cell 7
      have k7 : w7.cell? ⟨w4.heap.size, 7, none⟩ = some (.int .i64 clock) := BX_7.out.cell 7
      have g8 : w7.cell? ⟨w.heap.size, 8, none⟩ = some (.int .i64 bank) := A_7.out.cell 8
      have k8 : w7.cell? ⟨w4.heap.size, 8, none⟩ = some (.int .i64 bank) := BX_7.out.cell 8
      have g9 : w7.cell? ⟨w.heap.size, 9, none⟩ = some (.slice q vs.length cq) := A_7.out.cell 9
      have k9 : w7.cell? ⟨w4.heap.size, 9, none⟩ = some (.slice q4 vs.length d4) := BX_7.out.cell 9
      skip)
   | (go_at_call 9
      refine (eqHouse_any ⟨wide, deep, cells, free, step, price, capp, clock, bank, vs⟩ _ _ _ _ _ _ _ _ _ _ _ (I_7.out) I7.out).mono ?_
      rintro e w8 ⟨rfl, hx8⟩
      have A_8 := Lib.hid (A_7.out.ext hx8)
      have W0_8 := Lib.hid (W0_7.out.ext hx8)
      have I_8 := Lib.hid (I_7.out.ext hx8)
      have XC_8 := Lib.hid (XC_7.out.ext hx8)
      have XV_8 := Lib.hid (XV_7.out.ext hx8)
      have BX_8 := Lib.hid (BX_7.out.ext hx8)
      have G_8 := Lib.hid (G_7.out.ext hx8)
      have X_8 := Lib.hid (X_7.out.trans hx8)
      have z_8 : w7.heap.size ≤ w8.heap.size := hx8.sz
      clear hx8
      have r0 : w8.cell? ⟨w.heap.size, 0, none⟩ = some (.int .i64 wide) := A_8.out.cell 0
      have t0 : w8.cell? ⟨w4.heap.size, 0, none⟩ = some (.int .i64 wide) := BX_8.out.cell 0
      have r1 : w8.cell? ⟨w.heap.size, 1, none⟩ = some (.int .i64 deep) := A_8.out.cell 1
      have t1 : w8.cell? ⟨w4.heap.size, 1, none⟩ = some (.int .i64 deep) := BX_8.out.cell 1
      have r2 : w8.cell? ⟨w.heap.size, 2, none⟩ = some (.slice p cells.length cp) := A_8.out.cell 2
      have t2 : w8.cell? ⟨w4.heap.size, 2, none⟩ = some (.slice p4 cells.length c4) := BX_8.out.cell 2
      have r3 : w8.cell? ⟨w.heap.size, 3, none⟩ = some (.int .i64 free) := A_8.out.cell 3
      have t3 : w8.cell? ⟨w4.heap.size, 3, none⟩ = some (.int .i64 free) := BX_8.out.cell 3
      have r4 : w8.cell? ⟨w.heap.size, 4, none⟩ = some (.int .i64 step) := A_8.out.cell 4
      have t4 : w8.cell? ⟨w4.heap.size, 4, none⟩ = some (.int .i64 step) := BX_8.out.cell 4
      have r5 : w8.cell? ⟨w.heap.size, 5, none⟩ = some (.int .i64 price) := A_8.out.cell 5
      have t5 : w8.cell? ⟨w4.heap.size, 5, none⟩ = some (.int .i64 price) := BX_8.out.cell 5
      have r6 : w8.cell? ⟨w.heap.size, 6, none⟩ = some (.int .i64 capp) := A_8.out.cell 6
      have t6 : w8.cell? ⟨w4.heap.size, 6, none⟩ = some (.int .i64 capp) := BX_8.out.cell 6
      have r7 : w8.cell? ⟨w.heap.size, 7, none⟩ = some (.int .i64 clock) := A_8.out.cell 7
      have t7 : w8.cell? ⟨w4.heap.size, 7, none⟩ = some (.int .i64 clock) := BX_8.out.cell 7
      have r8 : w8.cell? ⟨w.heap.size, 8, none⟩ = some (.int .i64 bank) := A_8.out.cell 8
      have t8 : w8.cell? ⟨w4.heap.size, 8, none⟩ = some (.int .i64 bank) := BX_8.out.cell 8
      have r9 : w8.cell? ⟨w.heap.size, 9, none⟩ = some (.slice q vs.length cq) := A_8.out.cell 9
      have t9 : w8.cell? ⟨w4.heap.size, 9, none⟩ = some (.slice q4 vs.length d4) := BX_8.out.cell 9
      clear I7))
  all_goals clear a0 b0 g0 k0 r0 t0 a1 b1 g1 k1 r1 t1 a2 b2 g2 k2 r2 t2 a3 b3 g3 k3 r3 t3 a4 b4 g4 k4 r4 t4 a5 b5 g5 k5 r5 t5 a6 b6 g6 k6 r6 t6 a7 b7 g7 k7 r7 t7 a8 b8 g8 k8 r8 t8 a9 b9 g9 k9 r9 t9
  all_goals
    replace X_8 := X_8.out
    clear I_8
    have b0 : w8.cell? ⟨w4.heap.size, 0, none⟩ = some (.int .i64 wide) := BX_8.out.cell 0
    have b1 : w8.cell? ⟨w4.heap.size, 1, none⟩ = some (.int .i64 deep) := BX_8.out.cell 1
    have b2 : w8.cell? ⟨w4.heap.size, 2, none⟩ = some (.slice p4 cells.length c4) := BX_8.out.cell 2
    have b3 : w8.cell? ⟨w4.heap.size, 3, none⟩ = some (.int .i64 free) := BX_8.out.cell 3
    have b4 : w8.cell? ⟨w4.heap.size, 4, none⟩ = some (.int .i64 step) := BX_8.out.cell 4
    have b5 : w8.cell? ⟨w4.heap.size, 5, none⟩ = some (.int .i64 price) := BX_8.out.cell 5
    have b6 : w8.cell? ⟨w4.heap.size, 6, none⟩ = some (.int .i64 capp) := BX_8.out.cell 6
    have b7 : w8.cell? ⟨w4.heap.size, 7, none⟩ = some (.int .i64 clock) := BX_8.out.cell 7
    have b8 : w8.cell? ⟨w4.heap.size, 8, none⟩ = some (.int .i64 bank) := BX_8.out.cell 8
    have b9 : w8.cell? ⟨w4.heap.size, 9, none⟩ = some (.slice q4 vs.length d4) := BX_8.out.cell 9
    go_wp2_with fail
    clear b0 b1 b2 b3 b4 b5 b6 b7 b8 b9
    refine (markHouse ⟨wide, deep, cells, free, step, price, capp, clock, bank, vs⟩ w3.heap.size w4.heap.size cells.length c4 vs.length d4 p4 q4 1 _ _ _ XC_8.out XV_8.out (by omega) (by omega) (by omega) (by omega)).mono ?_
    rintro e w9 ⟨rfl, hm1, hm2, hc9⟩
    have z_9 : w8.heap.size ≤ w9.heap.size := hc9.size
    have A_9 := Lib.hid (A_8.out.chg hc9 (by omega))
    have W0_9 := Lib.hid (W0_8.out.chg hc9 (by omega))
    have G_9 := Lib.hid (G_8.out.chg hc9 (by omega))
    clear A_8 W0_8 XC_8 XV_8 BX_8 G_8
    have X_9 : Ext w w9 := Chg.ext X_8 hc9 (by omega)
    clear hc9 hm1 hm2
    have kk : (0 : Int) ≤ 1 + (cells.length : Nat) + (vs.length * 4 : Nat) := by omega
    go_wp2_with fail
    refine (eqDeedS_any p5 p3 R.length c5 c3 R _ G_9.out.sl W0_9.out.sl).mono ?_
    rintro e w10 ⟨rfl, hx10⟩
    have z_10 : w9.heap.size ≤ w10.heap.size := by have := hx10.sz; (try simp at this); omega
    have hy10 : Ext w9 w10 := by (repeat' (first | exact Ext.refl _ | (with_reducible assumption) | (with_reducible refine Ext.alloc ?_ _) | (with_reducible refine Ext.setCell ?_ (by first | exact Nat.le_refl _ | (dsimp only; omega) | (simp; done) | (simp; omega)) _) | (with_reducible refine Ext.drew ?_) | (with_reducible refine Ext.drewN ?_ _) | (refine Ext.trans ?_ (by with_reducible assumption))))
    have A_10 := Lib.hid (A_9.out.ext hy10)
    have W0_10 := Lib.hid (W0_9.out.ext hy10)
    have G_10 := Lib.hid (G_9.out.ext hy10)
    clear A_9 W0_9 G_9
    clear hy10
    have X_10 : Ext w w10 := by (repeat' (first | exact Ext.refl _ | (with_reducible assumption) | (with_reducible refine Ext.alloc ?_ _) | (with_reducible refine Ext.setCell ?_ (by first | exact Nat.le_refl _ | (dsimp only; omega) | (simp; done) | (simp; omega)) _) | (with_reducible refine Ext.drew ?_) | (with_reducible refine Ext.drewN ?_ _) | (refine Ext.trans ?_ (by with_reducible assumption))))
    clear hx10
    go_wp2_with fail
    refine (markHouseDeed (w4.heap.size + 1) w5.heap.size R.length c5 p5 _ 1 _ G_10.out (by omega) (by omega) (by omega)).mono ?_
    rintro e w11 ⟨rfl, hm3, hm4⟩
    have hc11 := hm4.chg
    have z_11 : w10.heap.size ≤ w11.heap.size := hc11.size
    have A_11 := Lib.hid (A_10.out.chg hc11 (by omega))
    have W0_11 := Lib.hid (W0_10.out.chg hc11 (by omega))
    have G_11 := Lib.hid hm3
    clear A_10 W0_10 G_10
    have X_11 : Ext w w11 := Chg.ext X_10 hc11 (by omega)
    clear hc11 hm3 hm4
    have kg : (0 : Int) ≤ 1 + (R.length * 3 : Nat) := by omega
    go_wp2_with fail
    refine (heldHouseDeed (w4.heap.size + 1) w5.heap.size R.length c5 p5 1 _ G_11.out (by omega) (by omega) (by omega)).mono ?_
    rintro e w' ⟨rfl, rfl⟩
    have a0 : w11.cell? ⟨w.heap.size, 0, none⟩ = some (.int .i64 wide) := A_11.out.cell 0
    have a1 : w11.cell? ⟨w.heap.size, 1, none⟩ = some (.int .i64 deep) := A_11.out.cell 1
    have a2 : w11.cell? ⟨w.heap.size, 2, none⟩ = some (.slice p cells.length cp) := A_11.out.cell 2
    have a3 : w11.cell? ⟨w.heap.size, 3, none⟩ = some (.int .i64 free) := A_11.out.cell 3
    have a4 : w11.cell? ⟨w.heap.size, 4, none⟩ = some (.int .i64 step) := A_11.out.cell 4
    have a5 : w11.cell? ⟨w.heap.size, 5, none⟩ = some (.int .i64 price) := A_11.out.cell 5
    have a6 : w11.cell? ⟨w.heap.size, 6, none⟩ = some (.int .i64 capp) := A_11.out.cell 6
    have a7 : w11.cell? ⟨w.heap.size, 7, none⟩ = some (.int .i64 clock) := A_11.out.cell 7
    have a8 : w11.cell? ⟨w.heap.size, 8, none⟩ = some (.int .i64 bank) := A_11.out.cell 8
    have a9 : w11.cell? ⟨w.heap.size, 9, none⟩ = some (.slice q vs.length cq) := A_11.out.cell 9
    go_wp2_with fail
    clear a0 a1 a2 a3 a4 a5 a6 a7 a8 a9
    refine (HT.out _ X_11).mono ?_
    rintro e w12 ⟨p12, c12, q12, d12, rfl, o12, v12, hx12⟩
    have z_12 : w11.heap.size ≤ w12.heap.size := by have := hx12.sz; (try simp at this); omega
    have hy12 : Ext w11 w12 := by (repeat' (first | exact Ext.refl _ | (with_reducible assumption) | (with_reducible refine Ext.alloc ?_ _) | (with_reducible refine Ext.setCell ?_ (by first | exact Nat.le_refl _ | (dsimp only; omega) | (simp; done) | (simp; omega)) _) | (with_reducible refine Ext.drew ?_) | (with_reducible refine Ext.drewN ?_ _) | (refine Ext.trans ?_ (by with_reducible assumption))))
    have A_12 := Lib.hid (A_11.out.ext hy12)
    have W0_12 := Lib.hid (W0_11.out.ext hy12)
    have G_12 := Lib.hid (G_11.out.ext hy12)
    clear A_11 W0_11 G_11
    clear hy12
    have I_12 := Lib.hid (RetHouse.is o12 v12)
    have X_12 : Ext w w12 := by (repeat' (first | exact Ext.refl _ | (with_reducible assumption) | (with_reducible refine Ext.alloc ?_ _) | (with_reducible refine Ext.setCell ?_ (by first | exact Nat.le_refl _ | (dsimp only; omega) | (simp; done) | (simp; omega)) _) | (with_reducible refine Ext.drew ?_) | (with_reducible refine Ext.drewN ?_ _) | (refine Ext.trans ?_ (by with_reducible assumption))))
    clear hx12 o12 v12
    go_wp2_with fail
    refine (HIm.out _ _ _ _ _ (I_12.out)).mono ?_
    rintro e w13 ⟨p13, c13, rfl, o13, hx13⟩
    have z_13 : w12.heap.size ≤ w13.heap.size := by have := hx13.sz; (try simp at this); omega
    have hy13 : Ext w12 w13 := by (repeat' (first | exact Ext.refl _ | (with_reducible assumption) | (with_reducible refine Ext.alloc ?_ _) | (with_reducible refine Ext.setCell ?_ (by first | exact Nat.le_refl _ | (dsimp only; omega) | (simp; done) | (simp; omega)) _) | (with_reducible refine Ext.drew ?_) | (with_reducible refine Ext.drewN ?_ _) | (refine Ext.trans ?_ (by with_reducible assumption))))
    have A_13 := Lib.hid (A_12.out.ext hy13)
    have W0_13 := Lib.hid (W0_12.out.ext hy13)
    have G_13 := Lib.hid (G_12.out.ext hy13)
    have I_13 := Lib.hid (I_12.out.ext hy13)
    clear A_12 W0_12 G_12 I_12
    clear hy13
    have H_13 := Lib.hid (OwnT.of o13)
    have X_13 : Ext w w13 := by (repeat' (first | exact Ext.refl _ | (with_reducible assumption) | (with_reducible refine Ext.alloc ?_ _) | (with_reducible refine Ext.setCell ?_ (by first | exact Nat.le_refl _ | (dsimp only; omega) | (simp; done) | (simp; omega)) _) | (with_reducible refine Ext.drew ?_) | (with_reducible refine Ext.drewN ?_ _) | (refine Ext.trans ?_ (by with_reducible assumption))))
    clear hx13 o13
    go_wp2_with fail
    refine (eqDeedS_any p13 p3 R.length c13 c3 R _ H_13.out.sl W0_13.out.sl).mono ?_
    rintro e w14 ⟨rfl, hx14⟩
    have z_14 : w13.heap.size ≤ w14.heap.size := by have := hx14.sz; (try simp at this); omega
    have hy14 : Ext w13 w14 := by (repeat' (first | exact Ext.refl _ | (with_reducible assumption) | (with_reducible refine Ext.alloc ?_ _) | (with_reducible refine Ext.setCell ?_ (by first | exact Nat.le_refl _ | (dsimp only; omega) | (simp; done) | (simp; omega)) _) | (with_reducible refine Ext.drew ?_) | (with_reducible refine Ext.drewN ?_ _) | (refine Ext.trans ?_ (by with_reducible assumption))))
    have A_14 := Lib.hid (A_13.out.ext hy14)
    have W0_14 := Lib.hid (W0_13.out.ext hy14)
    have G_14 := Lib.hid (G_13.out.ext hy14)
    have I_14 := Lib.hid (I_13.out.ext hy14)
    have H_14 := Lib.hid (H_13.out.ext hy14)
    clear A_13 W0_13 G_13 I_13 H_13
    clear hy14
    have X_14 : Ext w w14 := by (repeat' (first | exact Ext.refl _ | (with_reducible assumption) | (with_reducible refine Ext.alloc ?_ _) | (with_reducible refine Ext.setCell ?_ (by first | exact Nat.le_refl _ | (dsimp only; omega) | (simp; done) | (simp; omega)) _) | (with_reducible refine Ext.drew ?_) | (with_reducible refine Ext.drewN ?_ _) | (refine Ext.trans ?_ (by with_reducible assumption))))
    clear hx14
    go_wp2_with fail
    refine (heldHouseDeed (w4.heap.size + 1) w5.heap.size R.length c5 p5 1 _ G_14.out (by omega) (by omega) (by omega)).mono ?_
    rintro e w' ⟨rfl, rfl⟩
    go_wp2
    go_ret
    exact ⟨rfl, X_14⟩

theorem endOrder_len {h : HouseD} (hn : h.cells.length ≤ 1048576) : (endOrder h).length ≤ 1000 := by
  cases hok : houseOk h with
  | false => unfold endOrder; rw [hok]; simp
  | true =>
    rw [endOrder_rest hok]
    have h1 := house_hall hok
    unfold hallOk at h1
    rw [Bool.and_eq_true] at h1
    have hb := shape_bd h1.1
    have h2 := restOf_le (if (0 : Int) ∈ h.cells then [] else [h.cells.headD 0]) (carsOf h.cells)
    have h3 := posOfL_le h.cells
    rw [carsOf_len] at h2
    have h4 : (if (0 : Int) ∈ h.cells then ([] : List Int) else [h.cells.headD 0]).length ≤ 1 := by split <;> simp
    omega
theorem houseDue_bd (h : HouseD) (id : Int) : houseDue h id ≤ 10000 ∧ -10000 ≤ houseDue h id := by
  cases hok : houseOk h with
  | false => simp [houseDue, houseStay, hok]
  | true =>
    cases hv : visitAt id h.vs with
    | none => simp [houseDue, houseStay, hok, hv]
    | some v =>
      have hm : v ∈ h.vs := List.mem_of_find?_eq_some hv
      have hb := dueOf_bd hok hm
      have e : houseDue h id = dueOf h v := by unfold houseDue houseStay dueOf; rw [if_pos hok, hv]; rfl
      rw [e]; omega
theorem deeds_bd (h : HouseD) (k : Nat) : (endDeeds (houseDue h) ((endOrder h).take k)).length ≤ k * 41 := by
  refine Nat.le_trans (endDeeds_len _ _ 40 (fun x _ => ?_)) (Nat.mul_le_mul_right 41 (List.length_take_le _ _))
  have := houseDue_bd h x
  unfold payCnt; omega
theorem deeds_all {h : HouseD} (hn : h.cells.length ≤ 1048576) : (endDeeds (houseDue h) (endOrder h)).length ≤ 100000 := by
  have h1 := deeds_bd h (endOrder h).length
  rw [List.take_length] at h1
  have := endOrder_len hn
  omega
theorem implEndDeeds (h : HouseD) (p : Option Addr) (n cap : Nat) (q : Option Addr) (m c2 : Nat) (w : World) (hn : h.cells.length ≤ 1048576) (hi : IsHouse w h p n cap q m c2) :
    Calls Try.prog 7 #[houseV h p n cap q m c2] w (RetDeeds (endDeeds (houseDue h) (endOrder h)) w) :=
  implEd_o h.wide h.deep h.free h.step h.price h.capp h.clock h.bank p n cap q m c2 (endOrder h) (houseDue h) w (endOrder_len hn)
    (fun w' hx => implEndOrder h p n cap q m c2 w' (hi.ext hx)) (fun x _ w' hx => implHouseDue h x p n cap q m c2 w' (hi.ext hx)) (fun x _ => houseDue_bd h x) (fun k => deeds_bd h k)
theorem specEndDeeds (h : HouseD) (p : Option Addr) (n cap : Nat) (q : Option Addr) (m c2 : Nat) (w : World) (hn : h.cells.length ≤ 1048576) (hi : IsHouse w h p n cap q m c2) :
    Calls Try.prog 5 #[houseV h p n cap q m c2] w (RetDeeds (endDeeds (houseDue h) (endOrder h)) w) :=
  specEd_o h.wide h.deep h.free h.step h.price h.capp h.clock h.bank p n cap q m c2 (endOrder h) (houseDue h) w (endOrder_len hn)
    (fun w' hx => specEndOrder h p n cap q m c2 w' (hi.ext hx)) (fun x _ w' hx => specHouseDue h x p n cap q m c2 w' (hi.ext hx))
    (fun x _ w' => by
      have hb := houseDue_bd h x
      refine (specPayAll x (houseDue h x) w' hb.1 hb.2).mono ?_
      rintro e w'' ⟨q, c, rfl, ho, hx⟩
      rw [payTo_len] at ho ⊢
      exact ⟨q, c, rfl, ho, hx⟩)
    (fun x _ => houseDue_bd h x) (fun k => deeds_bd h k)
set_option maxRecDepth 100000 in
set_option maxHeartbeats 1000000 in
theorem walk_FnExactEndDeeds (W : World) (v : Value) (y : HouseD × (Option Addr × Nat) × (Option Addr × Nat)) (f : v = houseV y.1 y.2.1.1 y.1.cells.length y.2.1.2 y.2.2.1 y.1.vs.length y.2.2.2 ∧ IsHouse W y.1 y.2.1.1 y.1.cells.length y.2.1.2 y.2.2.1 y.1.vs.length y.2.2.2 ∧ goodHouse y.1) :
    Calls Try.prog 3 #[v] W fun e w' => e = .returned (.bool true) ∧ Ext W w' := by
  obtain ⟨rfl, hi, _⟩ := f
  obtain ⟨h, ⟨p, cp⟩, ⟨q, cq⟩⟩ := y
  by_cases hs : h.cells.length + h.vs.length ≤ 1048576
  · exact exEndDeeds_o h.wide h.deep h.free h.step h.price h.capp h.clock h.bank h.cells h.vs p cp q cq (endDeeds (houseDue h) (endOrder h)) W hs (deeds_all (by omega)) hi (fun w => sz_small h p h.cells.length cp q h.vs.length cq w hs)
      (fun p cp q cq w hi => specEndDeeds h p h.cells.length cp q h.vs.length cq w (by omega) hi) (fun p cp q cq w hi => implEndDeeds h p h.cells.length cp q h.vs.length cq w (by omega) hi) (fun w hx => toHouse_any h p h.cells.length cp q h.vs.length cq w (by omega) (by omega) (hi.ext hx))
  · exact exEndDeeds_big h.wide h.deep h.free h.step h.price h.capp h.clock h.bank h.cells h.vs p cp q cq W (fun w => sz_big h p h.cells.length cp q h.vs.length cq w hi.cells.bd hi.vs.bd (by omega))
end Go.Proofs.Ythhcpcjmolbkdaa
