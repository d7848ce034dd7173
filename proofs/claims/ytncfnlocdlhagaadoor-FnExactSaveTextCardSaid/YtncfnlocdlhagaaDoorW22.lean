/-
  The walk of the law FnExactSaveText.
-/
import Derived.Test.YtncfnlocdlhagaaDoorW10
import Derived.Test.YtncfnlocdlhagaaDoorQ1
/- @merged -/
namespace Go.Proofs.YtncfnlocdlhagaaDoor
open Go.RowKit
set_option linter.unusedVariables false

set_option maxRecDepth 100000 in
set_option maxHeartbeats 1000000 in
theorem exSaveText_big (wide deep free step price capp clock bank : Int) (cells : List Int) (vs : List Visit4) (p : Option Addr) (cp : Nat) (q : Option Addr) (cq : Nat) (id : Int) (w : World) (HZ : Hid (∀ w, Calls Tryd.prog 18 #[.agg #[.int .i64 wide, .int .i64 deep, .slice p cells.length cp, .int .i64 free, .int .i64 step, .int .i64 price, .int .i64 capp, .int .i64 clock, .int .i64 bank, .slice q vs.length cq], .int .i64 1048576] w fun e w' => e = .returned (.int .i64 (-1)) ∧ Ext w w')) :
    Calls Tryd.prog 6 #[.agg #[.int .i64 wide, .int .i64 deep, .slice p cells.length cp, .int .i64 free, .int .i64 step, .int .i64 price, .int .i64 capp, .int .i64 clock, .int .i64 bank, .slice q vs.length cq], .int .i64 id] w fun e w' => e = .returned (.bool true) ∧ Ext w w' := by
  go_enter Tryd.func6, Tryd.ntmps6
  go_wp2_with fail
  refine (HZ.out _).mono ?_
  rintro e w1 ⟨rfl, h1⟩
  go_wp2
  go_ret
  exact ⟨rfl, by (repeat' (first | exact Ext.refl _ | (with_reducible assumption) | (with_reducible refine Ext.alloc ?_ _) | (with_reducible refine Ext.setCell ?_ (by first | exact Nat.le_refl _ | (dsimp only; omega) | (simp; done) | (simp; omega)) _) | (with_reducible refine Ext.drew ?_) | (with_reducible refine Ext.drewN ?_ _) | (refine Ext.trans ?_ (by with_reducible assumption))))⟩

set_option maxRecDepth 100000 in
set_option maxHeartbeats 1000000 in
theorem exSaveText_o (wide deep free step price capp clock bank : Int) (cells : List Int) (vs : List Visit4) (p : Option Addr) (cp : Nat) (q : Option Addr) (cq : Nat) (id : Int) (R : List UInt8) (w : World) (hsz : cells.length + vs.length ≤ 1048576)
    (HEn : Hid (Env w)) (HI : Hid (IsHouse w ⟨wide, deep, cells, free, step, price, capp, clock, bank, vs⟩ p cells.length cp q vs.length cq))
    (HZ : Hid (∀ w, Calls Tryd.prog 18 #[.agg #[.int .i64 wide, .int .i64 deep, .slice p cells.length cp, .int .i64 free, .int .i64 step, .int .i64 price, .int .i64 capp, .int .i64 clock, .int .i64 bank, .slice q vs.length cq], .int .i64 1048576] w fun e w' => e = .returned (.int .i64 (1048576 - cells.length - vs.length)) ∧ Ext w w'))
    (HSp : Hid (∀ p cp q cq w, IsHouse w ⟨wide, deep, cells, free, step, price, capp, clock, bank, vs⟩ p cells.length cp q vs.length cq → Calls Tryd.prog 23 #[.agg #[.int .i64 wide, .int .i64 deep, .slice p cells.length cp, .int .i64 free, .int .i64 step, .int .i64 price, .int .i64 capp, .int .i64 clock, .int .i64 bank, .slice q vs.length cq], .int .i64 id] w fun e w' => e = .returned (str R) ∧ Ext w w'))
    (HIm : Hid (∀ p cp q cq w, IsHouse w ⟨wide, deep, cells, free, step, price, capp, clock, bank, vs⟩ p cells.length cp q vs.length cq → Env w → Calls Tryd.prog 24 #[.agg #[.int .i64 wide, .int .i64 deep, .slice p cells.length cp, .int .i64 free, .int .i64 step, .int .i64 price, .int .i64 capp, .int .i64 clock, .int .i64 bank, .slice q vs.length cq], .int .i64 id] w fun e w' => e = .returned (str R) ∧ Ext w w'))
    (HT : Hid (∀ w', Ext w w' → Calls Tryd.prog 20 #[.agg #[.int .i64 wide, .int .i64 deep, .slice p cells.length cp, .int .i64 free, .int .i64 step, .int .i64 price, .int .i64 capp, .int .i64 clock, .int .i64 bank, .slice q vs.length cq]] w' (RetHouse ⟨wide, deep, cells, free, step, price, capp, clock, bank, vs⟩ w'))) :
    Calls Tryd.prog 6 #[.agg #[.int .i64 wide, .int .i64 deep, .slice p cells.length cp, .int .i64 free, .int .i64 step, .int .i64 price, .int .i64 capp, .int .i64 clock, .int .i64 bank, .slice q vs.length cq], .int .i64 id] w fun e w' => e = .returned (.bool true) ∧ Ext w w' := by
  go_enter Tryd.func6, Tryd.ntmps6
  go_wp2_with fail
  refine (HZ.out _).mono ?_
  rintro e w1 ⟨rfl, h1⟩
  have BA := Lib.hid ((Blk.new w 45 #[.int .i64 wide, .int .i64 deep, .slice p cells.length cp, .int .i64 free, .int .i64 step, .int .i64 price, .int .i64 capp, .int .i64 clock, .int .i64 bank, .slice q vs.length cq]).ext h1)
  have X := Lib.hid (((Ext.refl w).alloc _).trans h1)
  clear h1
  have a0 : w1.cell? ⟨w.heap.size, 0, none⟩ = some (.int .i64 wide) := BA.out.cell 0
  have a1 : w1.cell? ⟨w.heap.size, 1, none⟩ = some (.int .i64 deep) := BA.out.cell 1
  have a2 : w1.cell? ⟨w.heap.size, 2, none⟩ = some (.slice p cells.length cp) := BA.out.cell 2
  have a3 : w1.cell? ⟨w.heap.size, 3, none⟩ = some (.int .i64 free) := BA.out.cell 3
  have a4 : w1.cell? ⟨w.heap.size, 4, none⟩ = some (.int .i64 step) := BA.out.cell 4
  have a5 : w1.cell? ⟨w.heap.size, 5, none⟩ = some (.int .i64 price) := BA.out.cell 5
  have a6 : w1.cell? ⟨w.heap.size, 6, none⟩ = some (.int .i64 capp) := BA.out.cell 6
  have a7 : w1.cell? ⟨w.heap.size, 7, none⟩ = some (.int .i64 clock) := BA.out.cell 7
  have a8 : w1.cell? ⟨w.heap.size, 8, none⟩ = some (.int .i64 bank) := BA.out.cell 8
  have a9 : w1.cell? ⟨w.heap.size, 9, none⟩ = some (.slice q vs.length cq) := BA.out.cell 9
  go_wp2_with fail
  clear a0 a1 a2 a3 a4 a5 a6 a7 a8 a9
  refine (HT.out _ X.out).mono ?_
  rintro e w2 ⟨p2, c2, q2, d2, rfl, o2, v2, h2⟩
  have I2 := Lib.hid (RetHouse.is o2 v2)
  have BA2 := Lib.hid (BA.out.ext h2)
  have X2 := Lib.hid (X.out.trans h2)
  clear o2 v2 h2 BA X
  go_wp2_with fail
  refine (HSp.out _ _ _ _ _ I2.out).mono ?_
  rintro e w3 ⟨rfl, h3⟩
  have BA3 := Lib.hid (BA2.out.ext h3)
  have X3 := Lib.hid (X2.out.trans h3)
  clear h3 BA2 X2 I2
  have a0 : w3.cell? ⟨w.heap.size, 0, none⟩ = some (.int .i64 wide) := BA3.out.cell 0
  have a1 : w3.cell? ⟨w.heap.size, 1, none⟩ = some (.int .i64 deep) := BA3.out.cell 1
  have a2 : w3.cell? ⟨w.heap.size, 2, none⟩ = some (.slice p cells.length cp) := BA3.out.cell 2
  have a3 : w3.cell? ⟨w.heap.size, 3, none⟩ = some (.int .i64 free) := BA3.out.cell 3
  have a4 : w3.cell? ⟨w.heap.size, 4, none⟩ = some (.int .i64 step) := BA3.out.cell 4
  have a5 : w3.cell? ⟨w.heap.size, 5, none⟩ = some (.int .i64 price) := BA3.out.cell 5
  have a6 : w3.cell? ⟨w.heap.size, 6, none⟩ = some (.int .i64 capp) := BA3.out.cell 6
  have a7 : w3.cell? ⟨w.heap.size, 7, none⟩ = some (.int .i64 clock) := BA3.out.cell 7
  have a8 : w3.cell? ⟨w.heap.size, 8, none⟩ = some (.int .i64 bank) := BA3.out.cell 8
  have a9 : w3.cell? ⟨w.heap.size, 9, none⟩ = some (.slice q vs.length cq) := BA3.out.cell 9
  go_wp2_with fail
  clear a0 a1 a2 a3 a4 a5 a6 a7 a8 a9
  refine (HT.out _ X3.out).mono ?_
  rintro e w4 ⟨p4, c4, q4, d4, rfl, o4, v4, h4⟩
  have I4 := Lib.hid (RetHouse.is o4 v4)
  have BA4 := Lib.hid (BA3.out.ext h4)
  have X4 := Lib.hid (X3.out.trans h4)
  clear o4 v4 h4 BA3 X3
  go_wp2_with fail
  refine (HIm.out _ _ _ _ _ (I4.out.ext (by (repeat' (first | exact Ext.refl _ | (with_reducible assumption) | (with_reducible refine Ext.alloc ?_ _) | (with_reducible refine Ext.setCell ?_ (by first | exact Nat.le_refl _ | (dsimp only; omega) | (simp; done) | (simp; omega)) _) | (with_reducible refine Ext.drew ?_) | (with_reducible refine Ext.drewN ?_ _) | (refine Ext.trans ?_ (by with_reducible assumption)))))) (HEn.out.ext (X4.out.alloc _))).mono ?_
  rintro e w5 ⟨rfl, h5⟩
  have BX5 := Lib.hid ((Blk.new w4 52 #[.int .i64 wide, .int .i64 deep, .slice p4 cells.length c4, .int .i64 free, .int .i64 step, .int .i64 price, .int .i64 capp, .int .i64 clock, .int .i64 bank, .slice q4 vs.length d4]).ext h5)
  have BA5 := Lib.hid ((BA4.out.alloc _).ext h5)
  have I5 := Lib.hid ((I4.out.ext ((Ext.refl _).alloc _)).ext h5)
  have X5 := Lib.hid ((X4.out.alloc _).trans h5)
  clear h5 I4 BA4 X4
  have a0 : w5.cell? ⟨w.heap.size, 0, none⟩ = some (.int .i64 wide) := BA5.out.cell 0
  have a1 : w5.cell? ⟨w.heap.size, 1, none⟩ = some (.int .i64 deep) := BA5.out.cell 1
  have a2 : w5.cell? ⟨w.heap.size, 2, none⟩ = some (.slice p cells.length cp) := BA5.out.cell 2
  have a3 : w5.cell? ⟨w.heap.size, 3, none⟩ = some (.int .i64 free) := BA5.out.cell 3
  have a4 : w5.cell? ⟨w.heap.size, 4, none⟩ = some (.int .i64 step) := BA5.out.cell 4
  have a5 : w5.cell? ⟨w.heap.size, 5, none⟩ = some (.int .i64 price) := BA5.out.cell 5
  have a6 : w5.cell? ⟨w.heap.size, 6, none⟩ = some (.int .i64 capp) := BA5.out.cell 6
  have a7 : w5.cell? ⟨w.heap.size, 7, none⟩ = some (.int .i64 clock) := BA5.out.cell 7
  have a8 : w5.cell? ⟨w.heap.size, 8, none⟩ = some (.int .i64 bank) := BA5.out.cell 8
  have a9 : w5.cell? ⟨w.heap.size, 9, none⟩ = some (.slice q vs.length cq) := BA5.out.cell 9
  have b0 : w5.cell? ⟨w4.heap.size, 0, none⟩ = some (.int .i64 wide) := BX5.out.cell 0
  have b1 : w5.cell? ⟨w4.heap.size, 1, none⟩ = some (.int .i64 deep) := BX5.out.cell 1
  have b2 : w5.cell? ⟨w4.heap.size, 2, none⟩ = some (.slice p4 cells.length c4) := BX5.out.cell 2
  have b3 : w5.cell? ⟨w4.heap.size, 3, none⟩ = some (.int .i64 free) := BX5.out.cell 3
  have b4 : w5.cell? ⟨w4.heap.size, 4, none⟩ = some (.int .i64 step) := BX5.out.cell 4
  have b5 : w5.cell? ⟨w4.heap.size, 5, none⟩ = some (.int .i64 price) := BX5.out.cell 5
  have b6 : w5.cell? ⟨w4.heap.size, 6, none⟩ = some (.int .i64 capp) := BX5.out.cell 6
  have b7 : w5.cell? ⟨w4.heap.size, 7, none⟩ = some (.int .i64 clock) := BX5.out.cell 7
  have b8 : w5.cell? ⟨w4.heap.size, 8, none⟩ = some (.int .i64 bank) := BX5.out.cell 8
  have b9 : w5.cell? ⟨w4.heap.size, 9, none⟩ = some (.slice q4 vs.length d4) := BX5.out.cell 9
  go_wp2_with fail
  go_region_held3 (fun w' => w'.cell? ⟨w.heap.size, 0, none⟩ = some (.int .i64 wide) ∧ w'.cell? ⟨w.heap.size, 1, none⟩ = some (.int .i64 deep) ∧ w'.cell? ⟨w.heap.size, 2, none⟩ = some (.slice p cells.length cp) ∧ w'.cell? ⟨w.heap.size, 3, none⟩ = some (.int .i64 free) ∧ w'.cell? ⟨w.heap.size, 4, none⟩ = some (.int .i64 step) ∧ w'.cell? ⟨w.heap.size, 5, none⟩ = some (.int .i64 price) ∧ w'.cell? ⟨w.heap.size, 6, none⟩ = some (.int .i64 capp) ∧ w'.cell? ⟨w.heap.size, 7, none⟩ = some (.int .i64 clock) ∧ w'.cell? ⟨w.heap.size, 8, none⟩ = some (.int .i64 bank) ∧ w'.cell? ⟨w.heap.size, 9, none⟩ = some (.slice q vs.length cq) ∧ w'.cell? ⟨w4.heap.size, 0, none⟩ = some (.int .i64 wide) ∧ w'.cell? ⟨w4.heap.size, 1, none⟩ = some (.int .i64 deep) ∧ w'.cell? ⟨w4.heap.size, 2, none⟩ = some (.slice p4 cells.length c4) ∧ w'.cell? ⟨w4.heap.size, 3, none⟩ = some (.int .i64 free) ∧ w'.cell? ⟨w4.heap.size, 4, none⟩ = some (.int .i64 step) ∧ w'.cell? ⟨w4.heap.size, 5, none⟩ = some (.int .i64 price) ∧ w'.cell? ⟨w4.heap.size, 6, none⟩ = some (.int .i64 capp) ∧ w'.cell? ⟨w4.heap.size, 7, none⟩ = some (.int .i64 clock) ∧ w'.cell? ⟨w4.heap.size, 8, none⟩ = some (.int .i64 bank) ∧ w'.cell? ⟨w4.heap.size, 9, none⟩ = some (.slice q4 vs.length d4)) (first | (refine ⟨?_, ?_, ?_, ?_, ?_, ?_, ?_, ?_, ?_, ?_, ?_, ?_, ?_, ?_, ?_, ?_, ?_, ?_, ?_, ?_⟩ <;> assumption) | go_keep)
    (first
      | (go_at_call 20
         refine (HT.out _ (by first | exact X5.out | exact X5.out.drew)).mono ?_
         rintro e w6 ⟨p6, c6, q6, d6, rfl, o6, v6, h6⟩
         (try replace h6 := h6.of_drew)
         have I6 := Lib.hid (RetHouse.is o6 v6)
         have I56 := Lib.hid (I5.out.ext h6)
         have BA6 := BA5.out.ext h6
         have BX6 := BX5.out.ext h6
         have X6 := Lib.hid (X5.out.trans h6)
         clear o6 v6 h6
         have g0 : w6.cell? ⟨w.heap.size, 0, none⟩ = some (.int .i64 wide) := BA6.cell 0
         have g1 : w6.cell? ⟨w.heap.size, 1, none⟩ = some (.int .i64 deep) := BA6.cell 1
         have g2 : w6.cell? ⟨w.heap.size, 2, none⟩ = some (.slice p cells.length cp) := BA6.cell 2
         have g3 : w6.cell? ⟨w.heap.size, 3, none⟩ = some (.int .i64 free) := BA6.cell 3
         have g4 : w6.cell? ⟨w.heap.size, 4, none⟩ = some (.int .i64 step) := BA6.cell 4
         have g5 : w6.cell? ⟨w.heap.size, 5, none⟩ = some (.int .i64 price) := BA6.cell 5
         have g6 : w6.cell? ⟨w.heap.size, 6, none⟩ = some (.int .i64 capp) := BA6.cell 6
         have g7 : w6.cell? ⟨w.heap.size, 7, none⟩ = some (.int .i64 clock) := BA6.cell 7
         have g8 : w6.cell? ⟨w.heap.size, 8, none⟩ = some (.int .i64 bank) := BA6.cell 8
         have g9 : w6.cell? ⟨w.heap.size, 9, none⟩ = some (.slice q vs.length cq) := BA6.cell 9
         have k0 : w6.cell? ⟨w4.heap.size, 0, none⟩ = some (.int .i64 wide) := BX6.cell 0
         have k1 : w6.cell? ⟨w4.heap.size, 1, none⟩ = some (.int .i64 deep) := BX6.cell 1
         have k2 : w6.cell? ⟨w4.heap.size, 2, none⟩ = some (.slice p4 cells.length c4) := BX6.cell 2
         have k3 : w6.cell? ⟨w4.heap.size, 3, none⟩ = some (.int .i64 free) := BX6.cell 3
         have k4 : w6.cell? ⟨w4.heap.size, 4, none⟩ = some (.int .i64 step) := BX6.cell 4
         have k5 : w6.cell? ⟨w4.heap.size, 5, none⟩ = some (.int .i64 price) := BX6.cell 5
         have k6 : w6.cell? ⟨w4.heap.size, 6, none⟩ = some (.int .i64 capp) := BX6.cell 6
         have k7 : w6.cell? ⟨w4.heap.size, 7, none⟩ = some (.int .i64 clock) := BX6.cell 7
         have k8 : w6.cell? ⟨w4.heap.size, 8, none⟩ = some (.int .i64 bank) := BX6.cell 8
         have k9 : w6.cell? ⟨w4.heap.size, 9, none⟩ = some (.slice q4 vs.length d4) := BX6.cell 9
         have BA6' := Lib.hid BA6
         have BX6' := Lib.hid BX6
         clear BA6 BX6)
      | (go_at_call 22
         refine (eqHouse_any ⟨wide, deep, cells, free, step, price, capp, clock, bank, vs⟩ _ _ _ _ _ _ _ _ _ _ _ I56.out I6.out).mono ?_
         rintro e w7 ⟨rfl, h7⟩
         have BA7 := BA6'.out.ext h7
         have BX7 := BX6'.out.ext h7
         have X7 := Lib.hid (X6.out.trans h7)
         have r0 : w7.cell? ⟨w.heap.size, 0, none⟩ = some (.int .i64 wide) := BA7.cell 0
         have r1 : w7.cell? ⟨w.heap.size, 1, none⟩ = some (.int .i64 deep) := BA7.cell 1
         have r2 : w7.cell? ⟨w.heap.size, 2, none⟩ = some (.slice p cells.length cp) := BA7.cell 2
         have r3 : w7.cell? ⟨w.heap.size, 3, none⟩ = some (.int .i64 free) := BA7.cell 3
         have r4 : w7.cell? ⟨w.heap.size, 4, none⟩ = some (.int .i64 step) := BA7.cell 4
         have r5 : w7.cell? ⟨w.heap.size, 5, none⟩ = some (.int .i64 price) := BA7.cell 5
         have r6 : w7.cell? ⟨w.heap.size, 6, none⟩ = some (.int .i64 capp) := BA7.cell 6
         have r7 : w7.cell? ⟨w.heap.size, 7, none⟩ = some (.int .i64 clock) := BA7.cell 7
         have r8 : w7.cell? ⟨w.heap.size, 8, none⟩ = some (.int .i64 bank) := BA7.cell 8
         have r9 : w7.cell? ⟨w.heap.size, 9, none⟩ = some (.slice q vs.length cq) := BA7.cell 9
         have t0 : w7.cell? ⟨w4.heap.size, 0, none⟩ = some (.int .i64 wide) := BX7.cell 0
         have t1 : w7.cell? ⟨w4.heap.size, 1, none⟩ = some (.int .i64 deep) := BX7.cell 1
         have t2 : w7.cell? ⟨w4.heap.size, 2, none⟩ = some (.slice p4 cells.length c4) := BX7.cell 2
         have t3 : w7.cell? ⟨w4.heap.size, 3, none⟩ = some (.int .i64 free) := BX7.cell 3
         have t4 : w7.cell? ⟨w4.heap.size, 4, none⟩ = some (.int .i64 step) := BX7.cell 4
         have t5 : w7.cell? ⟨w4.heap.size, 5, none⟩ = some (.int .i64 price) := BX7.cell 5
         have t6 : w7.cell? ⟨w4.heap.size, 6, none⟩ = some (.int .i64 capp) := BX7.cell 6
         have t7 : w7.cell? ⟨w4.heap.size, 7, none⟩ = some (.int .i64 clock) := BX7.cell 7
         have t8 : w7.cell? ⟨w4.heap.size, 8, none⟩ = some (.int .i64 bank) := BX7.cell 8
         have t9 : w7.cell? ⟨w4.heap.size, 9, none⟩ = some (.slice q4 vs.length d4) := BX7.cell 9
         clear BA7 BX7))
  all_goals go_wp2
  all_goals go_ret
  all_goals exact ⟨rfl, X7.out⟩

set_option maxRecDepth 100000 in
set_option maxHeartbeats 1000000 in
theorem walk_FnExactSaveText (W : World) (v : Value) (y : HouseD × (Option Addr × Nat) × (Option Addr × Nat)) (f : v = houseV y.1 y.2.1.1 y.1.cells.length y.2.1.2 y.2.2.1 y.1.vs.length y.2.2.2 ∧ IsHouse W y.1 y.2.1.1 y.1.cells.length y.2.1.2 y.2.2.1 y.1.vs.length y.2.2.2 ∧ goodHouse y.1) (id : Int) {P : Prop} (_ : P) (hE : Env W) :
    Calls Tryd.prog 6 #[v, .int .i64 id] W fun e w' => e = .returned (.bool true) ∧ Ext W w' := by
  obtain ⟨rfl, hi, _⟩ := f
  obtain ⟨h, ⟨p, cp⟩, ⟨q, cq⟩⟩ := y
  by_cases hs : h.cells.length + h.vs.length ≤ 1048576
  · exact exSaveText_o h.wide h.deep h.free h.step h.price h.capp h.clock h.bank h.cells h.vs p cp q cq id (saveText h id) W hs hE hi (fun w => sz_small h p h.cells.length cp q h.vs.length cq w hs)
      (fun p cp q cq w hi => specSaveText h id p h.cells.length cp q h.vs.length cq w hi) (fun p cp q cq w hi hE => implSaveText h id p h.cells.length cp q h.vs.length cq w hE hi) (fun w hx => toHouse_any h p h.cells.length cp q h.vs.length cq w (by omega) (by omega) (hi.ext hx))
  · exact exSaveText_big h.wide h.deep h.free h.step h.price h.capp h.clock h.bank h.cells h.vs p cp q cq id W (fun w => sz_big h p h.cells.length cp q h.vs.length cq w hi.cells.bd hi.vs.bd (by omega))
end Go.Proofs.YtncfnlocdlhagaaDoor
