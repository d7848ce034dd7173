/-
  Both packages' HouseStay, HouseDue, HouseMay: what they say of a car's stay. Condition: the house's slices read as lists.
-/
import Derived.Test.YthhcpcjmolbkdaaVix
namespace Go.Proofs.Ythhcpcjmolbkdaa
open Go.RowKit
set_option linter.unusedVariables false
set_option linter.unusedSimpArgs false

/-- what HouseStay hands back -/
def stayR (h : HouseD) (id : Int) : Value := match houseStay h id with
  | some s => .tuple #[.agg #[.int .i64 s.1, .int .i64 s.2.1, .int .i64 s.2.2], .bool true]
  | none => .tuple #[.agg #[.int .i64 0, .int .i64 0, .int .i64 0], .bool false]

set_option maxRecDepth 100000 in
set_option maxHeartbeats 1000000 in
theorem implHst_bad (wide deep free step price capp clock bank id : Int) (p : Option Addr) (n cap : Nat) (q : Option Addr) (m c2 : Nat) (w : World)
    (HV : Hid (∀ w', Ext w w' → Calls Try.prog 37 #[.agg #[.int .i64 wide, .int .i64 deep, .slice p n cap, .int .i64 free, .int .i64 step, .int .i64 price, .int .i64 capp, .int .i64 clock, .int .i64 bank, .slice q m c2]] w' fun e w'' => e = .returned (.bool false) ∧ Ext w' w'')) :
    Calls Try.prog 39 #[.agg #[.int .i64 wide, .int .i64 deep, .slice p n cap, .int .i64 free, .int .i64 step, .int .i64 price, .int .i64 capp, .int .i64 clock, .int .i64 bank, .slice q m c2], .int .i64 id] w fun e w' => e = .returned (.tuple #[.agg #[.int .i64 0, .int .i64 0, .int .i64 0], .bool false]) ∧ Ext w w' := by
  go_enter Try.func39, Try.ntmps39
  go_wp2_with fail
  refine (HV.out _ (by (repeat' (first | exact Ext.refl _ | (with_reducible assumption) | (with_reducible refine Ext.alloc ?_ _) | (with_reducible refine Ext.setCell ?_ (by first | exact Nat.le_refl _ | (dsimp only; omega) | (simp; done) | (simp; omega)) _) | (with_reducible refine Ext.drew ?_) | (with_reducible refine Ext.drewN ?_ _) | (refine Ext.trans ?_ (by with_reducible assumption)))))).mono ?_
  rintro e w1 ⟨rfl, hh1⟩
  have BA1 : Blk w1 w.heap.size 37 #[.int .i64 wide, .int .i64 deep, .slice p n cap, .int .i64 free, .int .i64 step, .int .i64 price, .int .i64 capp, .int .i64 clock, .int .i64 bank, .slice q m c2] := ((Blk.new w _ _).alloc _).ext hh1
  have BS1 : Blk w1 (w.heap.size + 1) 64 #[.int .i64 0, .int .i64 0, .int .i64 0] := by have := (Blk.new (w.alloc (.cells #[.int .i64 wide, .int .i64 deep, .slice p n cap, .int .i64 free, .int .i64 step, .int .i64 price, .int .i64 capp, .int .i64 clock, .int .i64 bank, .slice q m c2] 37)) 64 #[.int .i64 0, .int .i64 0, .int .i64 0]).ext hh1; simpa using this
  have X1 : Ext w w1 := (((Ext.refl w).alloc _).alloc _).trans hh1
  have s1 : w.heap.size + 1 < w1.heap.size := BS1.lt
  replace BA1 := Lib.hid BA1
  replace BS1 := Lib.hid BS1
  clear hh1
  have e1_0 : w1.cell? ⟨w.heap.size, 0, none⟩ = some (.int .i64 wide) := BA1.out.cell 0
  have e1_1 : w1.cell? ⟨w.heap.size, 1, none⟩ = some (.int .i64 deep) := BA1.out.cell 1
  have e1_2 : w1.cell? ⟨w.heap.size, 2, none⟩ = some (.slice p n cap) := BA1.out.cell 2
  have e1_3 : w1.cell? ⟨w.heap.size, 3, none⟩ = some (.int .i64 free) := BA1.out.cell 3
  have e1_4 : w1.cell? ⟨w.heap.size, 4, none⟩ = some (.int .i64 step) := BA1.out.cell 4
  have e1_5 : w1.cell? ⟨w.heap.size, 5, none⟩ = some (.int .i64 price) := BA1.out.cell 5
  have e1_6 : w1.cell? ⟨w.heap.size, 6, none⟩ = some (.int .i64 capp) := BA1.out.cell 6
  have e1_7 : w1.cell? ⟨w.heap.size, 7, none⟩ = some (.int .i64 clock) := BA1.out.cell 7
  have e1_8 : w1.cell? ⟨w.heap.size, 8, none⟩ = some (.int .i64 bank) := BA1.out.cell 8
  have e1_9 : w1.cell? ⟨w.heap.size, 9, none⟩ = some (.slice q m c2) := BA1.out.cell 9
  have z1_0 : w1.cell? ⟨w.heap.size + 1, 0, none⟩ = some (.int .i64 0) := BS1.out.cell 0
  have z1_1 : w1.cell? ⟨w.heap.size + 1, 1, none⟩ = some (.int .i64 0) := BS1.out.cell 1
  have z1_2 : w1.cell? ⟨w.heap.size + 1, 2, none⟩ = some (.int .i64 0) := BS1.out.cell 2
  have y1_0 : w1.frozen? ⟨w.heap.size + 1, 0, none⟩ = false := BS1.out.frozen 0
  have y1_1 : w1.frozen? ⟨w.heap.size + 1, 1, none⟩ = false := BS1.out.frozen 1
  have y1_2 : w1.frozen? ⟨w.heap.size + 1, 2, none⟩ = false := BS1.out.frozen 2
  go_wp2
  exact bodyPost_ret (v := .tuple #[.agg #[.int .i64 0, .int .i64 0, .int .i64 0], .bool false]) (by simp [results, Try.results39, go_sem, *]) rfl ⟨rfl, by (repeat' (first | exact Ext.refl _ | (with_reducible assumption) | (with_reducible refine Ext.alloc ?_ _) | (with_reducible refine Ext.setCell ?_ (by first | exact Nat.le_refl _ | (dsimp only; omega) | (simp; done) | (simp; omega)) _) | (with_reducible refine Ext.drew ?_) | (with_reducible refine Ext.drewN ?_ _) | (refine Ext.trans ?_ (by with_reducible assumption))))⟩

set_option maxRecDepth 100000 in
set_option maxHeartbeats 1000000 in
theorem implHst_no (wide deep free step price capp clock bank id : Int) (p : Option Addr) (n cap : Nat) (q : Option Addr) (m c2 : Nat) (w : World)
    (HV : Hid (∀ w', Ext w w' → Calls Try.prog 37 #[.agg #[.int .i64 wide, .int .i64 deep, .slice p n cap, .int .i64 free, .int .i64 step, .int .i64 price, .int .i64 capp, .int .i64 clock, .int .i64 bank, .slice q m c2]] w' fun e w'' => e = .returned (.bool true) ∧ Ext w' w''))
    (HX : Hid (∀ w', Ext w w' → Calls Try.prog 56 #[.agg #[.int .i64 wide, .int .i64 deep, .slice p n cap, .int .i64 free, .int .i64 step, .int .i64 price, .int .i64 capp, .int .i64 clock, .int .i64 bank, .slice q m c2], .int .i64 id] w' fun e w'' => e = .returned (.int .i64 (-1)) ∧ Ext w' w'')) :
    Calls Try.prog 39 #[.agg #[.int .i64 wide, .int .i64 deep, .slice p n cap, .int .i64 free, .int .i64 step, .int .i64 price, .int .i64 capp, .int .i64 clock, .int .i64 bank, .slice q m c2], .int .i64 id] w fun e w' => e = .returned (.tuple #[.agg #[.int .i64 0, .int .i64 0, .int .i64 0], .bool false]) ∧ Ext w w' := by
  go_enter Try.func39, Try.ntmps39
  go_wp2_with fail
  refine (HV.out _ (by (repeat' (first | exact Ext.refl _ | (with_reducible assumption) | (with_reducible refine Ext.alloc ?_ _) | (with_reducible refine Ext.setCell ?_ (by first | exact Nat.le_refl _ | (dsimp only; omega) | (simp; done) | (simp; omega)) _) | (with_reducible refine Ext.drew ?_) | (with_reducible refine Ext.drewN ?_ _) | (refine Ext.trans ?_ (by with_reducible assumption)))))).mono ?_
  rintro e w1 ⟨rfl, hh1⟩
  have BA1 : Blk w1 w.heap.size 37 #[.int .i64 wide, .int .i64 deep, .slice p n cap, .int .i64 free, .int .i64 step, .int .i64 price, .int .i64 capp, .int .i64 clock, .int .i64 bank, .slice q m c2] := ((Blk.new w _ _).alloc _).ext hh1
  have BS1 : Blk w1 (w.heap.size + 1) 64 #[.int .i64 0, .int .i64 0, .int .i64 0] := by have := (Blk.new (w.alloc (.cells #[.int .i64 wide, .int .i64 deep, .slice p n cap, .int .i64 free, .int .i64 step, .int .i64 price, .int .i64 capp, .int .i64 clock, .int .i64 bank, .slice q m c2] 37)) 64 #[.int .i64 0, .int .i64 0, .int .i64 0]).ext hh1; simpa using this
  have X1 : Ext w w1 := (((Ext.refl w).alloc _).alloc _).trans hh1
  have s1 : w.heap.size + 1 < w1.heap.size := BS1.lt
  replace BA1 := Lib.hid BA1
  replace BS1 := Lib.hid BS1
  clear hh1
  have e1_0 : w1.cell? ⟨w.heap.size, 0, none⟩ = some (.int .i64 wide) := BA1.out.cell 0
  have e1_1 : w1.cell? ⟨w.heap.size, 1, none⟩ = some (.int .i64 deep) := BA1.out.cell 1
  have e1_2 : w1.cell? ⟨w.heap.size, 2, none⟩ = some (.slice p n cap) := BA1.out.cell 2
  have e1_3 : w1.cell? ⟨w.heap.size, 3, none⟩ = some (.int .i64 free) := BA1.out.cell 3
  have e1_4 : w1.cell? ⟨w.heap.size, 4, none⟩ = some (.int .i64 step) := BA1.out.cell 4
  have e1_5 : w1.cell? ⟨w.heap.size, 5, none⟩ = some (.int .i64 price) := BA1.out.cell 5
  have e1_6 : w1.cell? ⟨w.heap.size, 6, none⟩ = some (.int .i64 capp) := BA1.out.cell 6
  have e1_7 : w1.cell? ⟨w.heap.size, 7, none⟩ = some (.int .i64 clock) := BA1.out.cell 7
  have e1_8 : w1.cell? ⟨w.heap.size, 8, none⟩ = some (.int .i64 bank) := BA1.out.cell 8
  have e1_9 : w1.cell? ⟨w.heap.size, 9, none⟩ = some (.slice q m c2) := BA1.out.cell 9
  have z1_0 : w1.cell? ⟨w.heap.size + 1, 0, none⟩ = some (.int .i64 0) := BS1.out.cell 0
  have z1_1 : w1.cell? ⟨w.heap.size + 1, 1, none⟩ = some (.int .i64 0) := BS1.out.cell 1
  have z1_2 : w1.cell? ⟨w.heap.size + 1, 2, none⟩ = some (.int .i64 0) := BS1.out.cell 2
  have y1_0 : w1.frozen? ⟨w.heap.size + 1, 0, none⟩ = false := BS1.out.frozen 0
  have y1_1 : w1.frozen? ⟨w.heap.size + 1, 1, none⟩ = false := BS1.out.frozen 1
  have y1_2 : w1.frozen? ⟨w.heap.size + 1, 2, none⟩ = false := BS1.out.frozen 2
  go_wp2_with fail
  refine (HX.out _ (by (repeat' (first | exact Ext.refl _ | (with_reducible assumption) | (with_reducible refine Ext.alloc ?_ _) | (with_reducible refine Ext.setCell ?_ (by first | exact Nat.le_refl _ | (dsimp only; omega) | (simp; done) | (simp; omega)) _) | (with_reducible refine Ext.drew ?_) | (with_reducible refine Ext.drewN ?_ _) | (refine Ext.trans ?_ (by with_reducible assumption)))))).mono ?_
  rintro e w2 ⟨rfl, hh2⟩
  have BA2 := Lib.hid (BA1.out.ext hh2)
  have BS2 := Lib.hid (BS1.out.ext hh2)
  have X2 : Ext w w2 := X1.trans hh2
  have s2 : w.heap.size + 1 < w2.heap.size := BS2.out.lt
  clear e1_0 e1_1 e1_2 e1_3 e1_4 e1_5 e1_6 e1_7 e1_8 e1_9 z1_0 z1_1 z1_2 y1_0 y1_1 y1_2
  clear hh2 BA1 BS1 s1
  have e2_0 : w2.cell? ⟨w.heap.size, 0, none⟩ = some (.int .i64 wide) := BA2.out.cell 0
  have e2_1 : w2.cell? ⟨w.heap.size, 1, none⟩ = some (.int .i64 deep) := BA2.out.cell 1
  have e2_2 : w2.cell? ⟨w.heap.size, 2, none⟩ = some (.slice p n cap) := BA2.out.cell 2
  have e2_3 : w2.cell? ⟨w.heap.size, 3, none⟩ = some (.int .i64 free) := BA2.out.cell 3
  have e2_4 : w2.cell? ⟨w.heap.size, 4, none⟩ = some (.int .i64 step) := BA2.out.cell 4
  have e2_5 : w2.cell? ⟨w.heap.size, 5, none⟩ = some (.int .i64 price) := BA2.out.cell 5
  have e2_6 : w2.cell? ⟨w.heap.size, 6, none⟩ = some (.int .i64 capp) := BA2.out.cell 6
  have e2_7 : w2.cell? ⟨w.heap.size, 7, none⟩ = some (.int .i64 clock) := BA2.out.cell 7
  have e2_8 : w2.cell? ⟨w.heap.size, 8, none⟩ = some (.int .i64 bank) := BA2.out.cell 8
  have e2_9 : w2.cell? ⟨w.heap.size, 9, none⟩ = some (.slice q m c2) := BA2.out.cell 9
  have z2_0 : w2.cell? ⟨w.heap.size + 1, 0, none⟩ = some (.int .i64 0) := BS2.out.cell 0
  have z2_1 : w2.cell? ⟨w.heap.size + 1, 1, none⟩ = some (.int .i64 0) := BS2.out.cell 1
  have z2_2 : w2.cell? ⟨w.heap.size + 1, 2, none⟩ = some (.int .i64 0) := BS2.out.cell 2
  have y2_0 : w2.frozen? ⟨w.heap.size + 1, 0, none⟩ = false := BS2.out.frozen 0
  have y2_1 : w2.frozen? ⟨w.heap.size + 1, 1, none⟩ = false := BS2.out.frozen 1
  have y2_2 : w2.frozen? ⟨w.heap.size + 1, 2, none⟩ = false := BS2.out.frozen 2
  go_wp2
  exact bodyPost_ret (v := .tuple #[.agg #[.int .i64 0, .int .i64 0, .int .i64 0], .bool false]) (by simp [results, Try.results39, go_sem, *]) rfl ⟨rfl, by (repeat' (first | exact Ext.refl _ | (with_reducible assumption) | (with_reducible refine Ext.alloc ?_ _) | (with_reducible refine Ext.setCell ?_ (by first | exact Nat.le_refl _ | (dsimp only; omega) | (simp; done) | (simp; omega)) _) | (with_reducible refine Ext.drew ?_) | (with_reducible refine Ext.drewN ?_ _) | (refine Ext.trans ?_ (by with_reducible assumption))))⟩

set_option maxRecDepth 100000 in
set_option maxHeartbeats 1000000 in
theorem implHst_yes (wide deep free step price capp clock bank id : Int) (p : Option Addr) (n cap : Nat) (q : Option Addr) (m c2 : Nat) (w : World)
    (k : Nat) (a1 a2 a3 : Int) (vs : List Visit4) (HK : Hid (vs[k]? = some (id, a1, a2, a3))) (hk : k < m) (hm : m ≤ 9223372036854775807) (HS : Hid (Sl w q m c2 4 (vs.flatMap visitCells)))
    (HV : Hid (∀ w', Ext w w' → Calls Try.prog 37 #[.agg #[.int .i64 wide, .int .i64 deep, .slice p n cap, .int .i64 free, .int .i64 step, .int .i64 price, .int .i64 capp, .int .i64 clock, .int .i64 bank, .slice q m c2]] w' fun e w'' => e = .returned (.bool true) ∧ Ext w' w''))
    (HX : Hid (∀ w', Ext w w' → Calls Try.prog 56 #[.agg #[.int .i64 wide, .int .i64 deep, .slice p n cap, .int .i64 free, .int .i64 step, .int .i64 price, .int .i64 capp, .int .i64 clock, .int .i64 bank, .slice q m c2], .int .i64 id] w' fun e w'' => e = .returned (.int .i64 k) ∧ Ext w' w'')) :
    Calls Try.prog 39 #[.agg #[.int .i64 wide, .int .i64 deep, .slice p n cap, .int .i64 free, .int .i64 step, .int .i64 price, .int .i64 capp, .int .i64 clock, .int .i64 bank, .slice q m c2], .int .i64 id] w fun e w' => e = .returned (.tuple #[.agg #[.int .i64 a1, .int .i64 a2, .int .i64 a3], .bool true]) ∧ Ext w w' := by
  go_enter Try.func39, Try.ntmps39
  go_wp2_with fail
  refine (HV.out _ (by (repeat' (first | exact Ext.refl _ | (with_reducible assumption) | (with_reducible refine Ext.alloc ?_ _) | (with_reducible refine Ext.setCell ?_ (by first | exact Nat.le_refl _ | (dsimp only; omega) | (simp; done) | (simp; omega)) _) | (with_reducible refine Ext.drew ?_) | (with_reducible refine Ext.drewN ?_ _) | (refine Ext.trans ?_ (by with_reducible assumption)))))).mono ?_
  rintro e w1 ⟨rfl, hh1⟩
  have BA1 : Blk w1 w.heap.size 37 #[.int .i64 wide, .int .i64 deep, .slice p n cap, .int .i64 free, .int .i64 step, .int .i64 price, .int .i64 capp, .int .i64 clock, .int .i64 bank, .slice q m c2] := ((Blk.new w _ _).alloc _).ext hh1
  have BS1 : Blk w1 (w.heap.size + 1) 64 #[.int .i64 0, .int .i64 0, .int .i64 0] := by have := (Blk.new (w.alloc (.cells #[.int .i64 wide, .int .i64 deep, .slice p n cap, .int .i64 free, .int .i64 step, .int .i64 price, .int .i64 capp, .int .i64 clock, .int .i64 bank, .slice q m c2] 37)) 64 #[.int .i64 0, .int .i64 0, .int .i64 0]).ext hh1; simpa using this
  have X1 : Ext w w1 := (((Ext.refl w).alloc _).alloc _).trans hh1
  have s1 : w.heap.size + 1 < w1.heap.size := BS1.lt
  replace BA1 := Lib.hid BA1
  replace BS1 := Lib.hid BS1
  clear hh1
  have e1_0 : w1.cell? ⟨w.heap.size, 0, none⟩ = some (.int .i64 wide) := BA1.out.cell 0
  have e1_1 : w1.cell? ⟨w.heap.size, 1, none⟩ = some (.int .i64 deep) := BA1.out.cell 1
  have e1_2 : w1.cell? ⟨w.heap.size, 2, none⟩ = some (.slice p n cap) := BA1.out.cell 2
  have e1_3 : w1.cell? ⟨w.heap.size, 3, none⟩ = some (.int .i64 free) := BA1.out.cell 3
  have e1_4 : w1.cell? ⟨w.heap.size, 4, none⟩ = some (.int .i64 step) := BA1.out.cell 4
  have e1_5 : w1.cell? ⟨w.heap.size, 5, none⟩ = some (.int .i64 price) := BA1.out.cell 5
  have e1_6 : w1.cell? ⟨w.heap.size, 6, none⟩ = some (.int .i64 capp) := BA1.out.cell 6
  have e1_7 : w1.cell? ⟨w.heap.size, 7, none⟩ = some (.int .i64 clock) := BA1.out.cell 7
  have e1_8 : w1.cell? ⟨w.heap.size, 8, none⟩ = some (.int .i64 bank) := BA1.out.cell 8
  have e1_9 : w1.cell? ⟨w.heap.size, 9, none⟩ = some (.slice q m c2) := BA1.out.cell 9
  have z1_0 : w1.cell? ⟨w.heap.size + 1, 0, none⟩ = some (.int .i64 0) := BS1.out.cell 0
  have z1_1 : w1.cell? ⟨w.heap.size + 1, 1, none⟩ = some (.int .i64 0) := BS1.out.cell 1
  have z1_2 : w1.cell? ⟨w.heap.size + 1, 2, none⟩ = some (.int .i64 0) := BS1.out.cell 2
  have y1_0 : w1.frozen? ⟨w.heap.size + 1, 0, none⟩ = false := BS1.out.frozen 0
  have y1_1 : w1.frozen? ⟨w.heap.size + 1, 1, none⟩ = false := BS1.out.frozen 1
  have y1_2 : w1.frozen? ⟨w.heap.size + 1, 2, none⟩ = false := BS1.out.frozen 2
  go_wp2_with fail
  refine (HX.out _ (by (repeat' (first | exact Ext.refl _ | (with_reducible assumption) | (with_reducible refine Ext.alloc ?_ _) | (with_reducible refine Ext.setCell ?_ (by first | exact Nat.le_refl _ | (dsimp only; omega) | (simp; done) | (simp; omega)) _) | (with_reducible refine Ext.drew ?_) | (with_reducible refine Ext.drewN ?_ _) | (refine Ext.trans ?_ (by with_reducible assumption)))))).mono ?_
  rintro e w2 ⟨rfl, hh2⟩
  have BA2 := Lib.hid (BA1.out.ext hh2)
  have BS2 := Lib.hid (BS1.out.ext hh2)
  have X2 : Ext w w2 := X1.trans hh2
  have s2 : w.heap.size + 1 < w2.heap.size := BS2.out.lt
  clear e1_0 e1_1 e1_2 e1_3 e1_4 e1_5 e1_6 e1_7 e1_8 e1_9 z1_0 z1_1 z1_2 y1_0 y1_1 y1_2
  clear hh2 BA1 BS1 s1
  have e2_0 : w2.cell? ⟨w.heap.size, 0, none⟩ = some (.int .i64 wide) := BA2.out.cell 0
  have e2_1 : w2.cell? ⟨w.heap.size, 1, none⟩ = some (.int .i64 deep) := BA2.out.cell 1
  have e2_2 : w2.cell? ⟨w.heap.size, 2, none⟩ = some (.slice p n cap) := BA2.out.cell 2
  have e2_3 : w2.cell? ⟨w.heap.size, 3, none⟩ = some (.int .i64 free) := BA2.out.cell 3
  have e2_4 : w2.cell? ⟨w.heap.size, 4, none⟩ = some (.int .i64 step) := BA2.out.cell 4
  have e2_5 : w2.cell? ⟨w.heap.size, 5, none⟩ = some (.int .i64 price) := BA2.out.cell 5
  have e2_6 : w2.cell? ⟨w.heap.size, 6, none⟩ = some (.int .i64 capp) := BA2.out.cell 6
  have e2_7 : w2.cell? ⟨w.heap.size, 7, none⟩ = some (.int .i64 clock) := BA2.out.cell 7
  have e2_8 : w2.cell? ⟨w.heap.size, 8, none⟩ = some (.int .i64 bank) := BA2.out.cell 8
  have e2_9 : w2.cell? ⟨w.heap.size, 9, none⟩ = some (.slice q m c2) := BA2.out.cell 9
  have z2_0 : w2.cell? ⟨w.heap.size + 1, 0, none⟩ = some (.int .i64 0) := BS2.out.cell 0
  have z2_1 : w2.cell? ⟨w.heap.size + 1, 1, none⟩ = some (.int .i64 0) := BS2.out.cell 1
  have z2_2 : w2.cell? ⟨w.heap.size + 1, 2, none⟩ = some (.int .i64 0) := BS2.out.cell 2
  have y2_0 : w2.frozen? ⟨w.heap.size + 1, 0, none⟩ = false := BS2.out.frozen 0
  have y2_1 : w2.frozen? ⟨w.heap.size + 1, 1, none⟩ = false := BS2.out.frozen 1
  have y2_2 : w2.frozen? ⟨w.heap.size + 1, 2, none⟩ = false := BS2.out.frozen 2
  obtain ⟨b, off, b0, b1, b2, b3, rfl, hv, hb, g0, g1, g2, g3⟩ := visit_at (HS.out.ext X2) hk
  obtain ⟨rfl, rfl, rfl, rfl⟩ : id = b0 ∧ a1 = b1 ∧ a2 = b2 ∧ a3 = b3 := by have t := HK.out; rw [hv] at t; simp only [Option.some.injEq, Prod.mk.injEq] at t; exact ⟨t.1.symm, t.2.1.symm, t.2.2.1.symm, t.2.2.2.symm⟩
  have hne : b ≠ w.heap.size + 1 := by
    have hb0 := hb
    obtain ⟨b', off', _, _, _, _, hq, _, hb', _⟩ := visit_at HS.out hk
    simp only [Option.some.injEq, Addr.mk.injEq] at hq
    omega
  have i1 : (0 : Int) ≤ (k : Int) := by omega
  have i2 : (k : Int) < (m : Int) := by omega
  clear hv
  go_wp2
  exact bodyPost_ret (v := .tuple #[.agg #[.int .i64 a1, .int .i64 a2, .int .i64 a3], .bool true]) (by simp [results, Try.results39, go_sem, *]) rfl ⟨rfl, by (repeat' (first | exact Ext.refl _ | (with_reducible assumption) | (with_reducible refine Ext.alloc ?_ _) | (with_reducible refine Ext.setCell ?_ (by first | exact Nat.le_refl _ | (dsimp only; omega) | (simp; done) | (simp; omega)) _) | (with_reducible refine Ext.drew ?_) | (with_reducible refine Ext.drewN ?_ _) | (refine Ext.trans ?_ (by with_reducible assumption))))⟩

set_option maxRecDepth 100000 in
set_option maxHeartbeats 1000000 in
theorem specHst_bad (wide deep free step price capp clock bank id : Int) (p : Option Addr) (n cap : Nat) (q : Option Addr) (m c2 : Nat) (w : World)
    (x : Int)
    (HX : Hid (∀ w', Ext w w' → Calls Try.prog 49 #[.agg #[.int .i64 wide, .int .i64 deep, .slice p n cap, .int .i64 free, .int .i64 step, .int .i64 price, .int .i64 capp, .int .i64 clock, .int .i64 bank, .slice q m c2], .int .i64 id] w' fun e w'' => e = .returned (.int .i64 x) ∧ Ext w' w''))
    (HV : Hid (∀ w', Ext w w' → Calls Try.prog 30 #[.agg #[.int .i64 wide, .int .i64 deep, .slice p n cap, .int .i64 free, .int .i64 step, .int .i64 price, .int .i64 capp, .int .i64 clock, .int .i64 bank, .slice q m c2]] w' fun e w'' => e = .returned (.bool false) ∧ Ext w' w'')) :
    Calls Try.prog 33 #[.agg #[.int .i64 wide, .int .i64 deep, .slice p n cap, .int .i64 free, .int .i64 step, .int .i64 price, .int .i64 capp, .int .i64 clock, .int .i64 bank, .slice q m c2], .int .i64 id] w fun e w' => e = .returned (.tuple #[.agg #[.int .i64 0, .int .i64 0, .int .i64 0], .bool false]) ∧ Ext w w' := by
  go_enter Try.func33, Try.ntmps33
  go_wp2_with fail
  refine (HX.out _ (by (repeat' (first | exact Ext.refl _ | (with_reducible assumption) | (with_reducible refine Ext.alloc ?_ _) | (with_reducible refine Ext.setCell ?_ (by first | exact Nat.le_refl _ | (dsimp only; omega) | (simp; done) | (simp; omega)) _) | (with_reducible refine Ext.drew ?_) | (with_reducible refine Ext.drewN ?_ _) | (refine Ext.trans ?_ (by with_reducible assumption)))))).mono ?_
  rintro e w1 ⟨rfl, hh1⟩
  have BA1 : Blk w1 w.heap.size 37 #[.int .i64 wide, .int .i64 deep, .slice p n cap, .int .i64 free, .int .i64 step, .int .i64 price, .int .i64 capp, .int .i64 clock, .int .i64 bank, .slice q m c2] := ((Blk.new w _ _).alloc _).ext hh1
  have BS1 : Blk w1 (w.heap.size + 1) 64 #[.int .i64 0, .int .i64 0, .int .i64 0] := by have := (Blk.new (w.alloc (.cells #[.int .i64 wide, .int .i64 deep, .slice p n cap, .int .i64 free, .int .i64 step, .int .i64 price, .int .i64 capp, .int .i64 clock, .int .i64 bank, .slice q m c2] 37)) 64 #[.int .i64 0, .int .i64 0, .int .i64 0]).ext hh1; simpa using this
  have X1 : Ext w w1 := (((Ext.refl w).alloc _).alloc _).trans hh1
  have s1 : w.heap.size + 1 < w1.heap.size := BS1.lt
  replace BA1 := Lib.hid BA1
  replace BS1 := Lib.hid BS1
  clear hh1
  have e1_0 : w1.cell? ⟨w.heap.size, 0, none⟩ = some (.int .i64 wide) := BA1.out.cell 0
  have e1_1 : w1.cell? ⟨w.heap.size, 1, none⟩ = some (.int .i64 deep) := BA1.out.cell 1
  have e1_2 : w1.cell? ⟨w.heap.size, 2, none⟩ = some (.slice p n cap) := BA1.out.cell 2
  have e1_3 : w1.cell? ⟨w.heap.size, 3, none⟩ = some (.int .i64 free) := BA1.out.cell 3
  have e1_4 : w1.cell? ⟨w.heap.size, 4, none⟩ = some (.int .i64 step) := BA1.out.cell 4
  have e1_5 : w1.cell? ⟨w.heap.size, 5, none⟩ = some (.int .i64 price) := BA1.out.cell 5
  have e1_6 : w1.cell? ⟨w.heap.size, 6, none⟩ = some (.int .i64 capp) := BA1.out.cell 6
  have e1_7 : w1.cell? ⟨w.heap.size, 7, none⟩ = some (.int .i64 clock) := BA1.out.cell 7
  have e1_8 : w1.cell? ⟨w.heap.size, 8, none⟩ = some (.int .i64 bank) := BA1.out.cell 8
  have e1_9 : w1.cell? ⟨w.heap.size, 9, none⟩ = some (.slice q m c2) := BA1.out.cell 9
  have z1_0 : w1.cell? ⟨w.heap.size + 1, 0, none⟩ = some (.int .i64 0) := BS1.out.cell 0
  have z1_1 : w1.cell? ⟨w.heap.size + 1, 1, none⟩ = some (.int .i64 0) := BS1.out.cell 1
  have z1_2 : w1.cell? ⟨w.heap.size + 1, 2, none⟩ = some (.int .i64 0) := BS1.out.cell 2
  have y1_0 : w1.frozen? ⟨w.heap.size + 1, 0, none⟩ = false := BS1.out.frozen 0
  have y1_1 : w1.frozen? ⟨w.heap.size + 1, 1, none⟩ = false := BS1.out.frozen 1
  have y1_2 : w1.frozen? ⟨w.heap.size + 1, 2, none⟩ = false := BS1.out.frozen 2
  go_wp2_with fail
  refine (HV.out _ (by (repeat' (first | exact Ext.refl _ | (with_reducible assumption) | (with_reducible refine Ext.alloc ?_ _) | (with_reducible refine Ext.setCell ?_ (by first | exact Nat.le_refl _ | (dsimp only; omega) | (simp; done) | (simp; omega)) _) | (with_reducible refine Ext.drew ?_) | (with_reducible refine Ext.drewN ?_ _) | (refine Ext.trans ?_ (by with_reducible assumption)))))).mono ?_
  rintro e w2 ⟨rfl, hh2⟩
  have BA2 := Lib.hid (BA1.out.ext hh2)
  have BS2 := Lib.hid (BS1.out.ext hh2)
  have X2 : Ext w w2 := X1.trans hh2
  have s2 : w.heap.size + 1 < w2.heap.size := BS2.out.lt
  clear e1_0 e1_1 e1_2 e1_3 e1_4 e1_5 e1_6 e1_7 e1_8 e1_9 z1_0 z1_1 z1_2 y1_0 y1_1 y1_2
  clear hh2 BA1 BS1 s1
  have e2_0 : w2.cell? ⟨w.heap.size, 0, none⟩ = some (.int .i64 wide) := BA2.out.cell 0
  have e2_1 : w2.cell? ⟨w.heap.size, 1, none⟩ = some (.int .i64 deep) := BA2.out.cell 1
  have e2_2 : w2.cell? ⟨w.heap.size, 2, none⟩ = some (.slice p n cap) := BA2.out.cell 2
  have e2_3 : w2.cell? ⟨w.heap.size, 3, none⟩ = some (.int .i64 free) := BA2.out.cell 3
  have e2_4 : w2.cell? ⟨w.heap.size, 4, none⟩ = some (.int .i64 step) := BA2.out.cell 4
  have e2_5 : w2.cell? ⟨w.heap.size, 5, none⟩ = some (.int .i64 price) := BA2.out.cell 5
  have e2_6 : w2.cell? ⟨w.heap.size, 6, none⟩ = some (.int .i64 capp) := BA2.out.cell 6
  have e2_7 : w2.cell? ⟨w.heap.size, 7, none⟩ = some (.int .i64 clock) := BA2.out.cell 7
  have e2_8 : w2.cell? ⟨w.heap.size, 8, none⟩ = some (.int .i64 bank) := BA2.out.cell 8
  have e2_9 : w2.cell? ⟨w.heap.size, 9, none⟩ = some (.slice q m c2) := BA2.out.cell 9
  have z2_0 : w2.cell? ⟨w.heap.size + 1, 0, none⟩ = some (.int .i64 0) := BS2.out.cell 0
  have z2_1 : w2.cell? ⟨w.heap.size + 1, 1, none⟩ = some (.int .i64 0) := BS2.out.cell 1
  have z2_2 : w2.cell? ⟨w.heap.size + 1, 2, none⟩ = some (.int .i64 0) := BS2.out.cell 2
  have y2_0 : w2.frozen? ⟨w.heap.size + 1, 0, none⟩ = false := BS2.out.frozen 0
  have y2_1 : w2.frozen? ⟨w.heap.size + 1, 1, none⟩ = false := BS2.out.frozen 1
  have y2_2 : w2.frozen? ⟨w.heap.size + 1, 2, none⟩ = false := BS2.out.frozen 2
  go_wp2
  exact bodyPost_ret (v := .tuple #[.agg #[.int .i64 0, .int .i64 0, .int .i64 0], .bool false]) (by simp [results, Try.results33, go_sem, *]) rfl ⟨rfl, by (repeat' (first | exact Ext.refl _ | (with_reducible assumption) | (with_reducible refine Ext.alloc ?_ _) | (with_reducible refine Ext.setCell ?_ (by first | exact Nat.le_refl _ | (dsimp only; omega) | (simp; done) | (simp; omega)) _) | (with_reducible refine Ext.drew ?_) | (with_reducible refine Ext.drewN ?_ _) | (refine Ext.trans ?_ (by with_reducible assumption))))⟩

set_option maxRecDepth 100000 in
set_option maxHeartbeats 1000000 in
theorem specHst_no (wide deep free step price capp clock bank id : Int) (p : Option Addr) (n cap : Nat) (q : Option Addr) (m c2 : Nat) (w : World)
    (HX : Hid (∀ w', Ext w w' → Calls Try.prog 49 #[.agg #[.int .i64 wide, .int .i64 deep, .slice p n cap, .int .i64 free, .int .i64 step, .int .i64 price, .int .i64 capp, .int .i64 clock, .int .i64 bank, .slice q m c2], .int .i64 id] w' fun e w'' => e = .returned (.int .i64 (-1)) ∧ Ext w' w''))
    (HV : Hid (∀ w', Ext w w' → Calls Try.prog 30 #[.agg #[.int .i64 wide, .int .i64 deep, .slice p n cap, .int .i64 free, .int .i64 step, .int .i64 price, .int .i64 capp, .int .i64 clock, .int .i64 bank, .slice q m c2]] w' fun e w'' => e = .returned (.bool true) ∧ Ext w' w'')) :
    Calls Try.prog 33 #[.agg #[.int .i64 wide, .int .i64 deep, .slice p n cap, .int .i64 free, .int .i64 step, .int .i64 price, .int .i64 capp, .int .i64 clock, .int .i64 bank, .slice q m c2], .int .i64 id] w fun e w' => e = .returned (.tuple #[.agg #[.int .i64 0, .int .i64 0, .int .i64 0], .bool false]) ∧ Ext w w' := by
  go_enter Try.func33, Try.ntmps33
  go_wp2_with fail
  refine (HX.out _ (by (repeat' (first | exact Ext.refl _ | (with_reducible assumption) | (with_reducible refine Ext.alloc ?_ _) | (with_reducible refine Ext.setCell ?_ (by first | exact Nat.le_refl _ | (dsimp only; omega) | (simp; done) | (simp; omega)) _) | (with_reducible refine Ext.drew ?_) | (with_reducible refine Ext.drewN ?_ _) | (refine Ext.trans ?_ (by with_reducible assumption)))))).mono ?_
  rintro e w1 ⟨rfl, hh1⟩
  have BA1 : Blk w1 w.heap.size 37 #[.int .i64 wide, .int .i64 deep, .slice p n cap, .int .i64 free, .int .i64 step, .int .i64 price, .int .i64 capp, .int .i64 clock, .int .i64 bank, .slice q m c2] := ((Blk.new w _ _).alloc _).ext hh1
  have BS1 : Blk w1 (w.heap.size + 1) 64 #[.int .i64 0, .int .i64 0, .int .i64 0] := by have := (Blk.new (w.alloc (.cells #[.int .i64 wide, .int .i64 deep, .slice p n cap, .int .i64 free, .int .i64 step, .int .i64 price, .int .i64 capp, .int .i64 clock, .int .i64 bank, .slice q m c2] 37)) 64 #[.int .i64 0, .int .i64 0, .int .i64 0]).ext hh1; simpa using this
  have X1 : Ext w w1 := (((Ext.refl w).alloc _).alloc _).trans hh1
  have s1 : w.heap.size + 1 < w1.heap.size := BS1.lt
  replace BA1 := Lib.hid BA1
  replace BS1 := Lib.hid BS1
  clear hh1
  have e1_0 : w1.cell? ⟨w.heap.size, 0, none⟩ = some (.int .i64 wide) := BA1.out.cell 0
  have e1_1 : w1.cell? ⟨w.heap.size, 1, none⟩ = some (.int .i64 deep) := BA1.out.cell 1
  have e1_2 : w1.cell? ⟨w.heap.size, 2, none⟩ = some (.slice p n cap) := BA1.out.cell 2
  have e1_3 : w1.cell? ⟨w.heap.size, 3, none⟩ = some (.int .i64 free) := BA1.out.cell 3
  have e1_4 : w1.cell? ⟨w.heap.size, 4, none⟩ = some (.int .i64 step) := BA1.out.cell 4
  have e1_5 : w1.cell? ⟨w.heap.size, 5, none⟩ = some (.int .i64 price) := BA1.out.cell 5
  have e1_6 : w1.cell? ⟨w.heap.size, 6, none⟩ = some (.int .i64 capp) := BA1.out.cell 6
  have e1_7 : w1.cell? ⟨w.heap.size, 7, none⟩ = some (.int .i64 clock) := BA1.out.cell 7
  have e1_8 : w1.cell? ⟨w.heap.size, 8, none⟩ = some (.int .i64 bank) := BA1.out.cell 8
  have e1_9 : w1.cell? ⟨w.heap.size, 9, none⟩ = some (.slice q m c2) := BA1.out.cell 9
  have z1_0 : w1.cell? ⟨w.heap.size + 1, 0, none⟩ = some (.int .i64 0) := BS1.out.cell 0
  have z1_1 : w1.cell? ⟨w.heap.size + 1, 1, none⟩ = some (.int .i64 0) := BS1.out.cell 1
  have z1_2 : w1.cell? ⟨w.heap.size + 1, 2, none⟩ = some (.int .i64 0) := BS1.out.cell 2
  have y1_0 : w1.frozen? ⟨w.heap.size + 1, 0, none⟩ = false := BS1.out.frozen 0
  have y1_1 : w1.frozen? ⟨w.heap.size + 1, 1, none⟩ = false := BS1.out.frozen 1
  have y1_2 : w1.frozen? ⟨w.heap.size + 1, 2, none⟩ = false := BS1.out.frozen 2
  go_wp2_with fail
  refine (HV.out _ (by (repeat' (first | exact Ext.refl _ | (with_reducible assumption) | (with_reducible refine Ext.alloc ?_ _) | (with_reducible refine Ext.setCell ?_ (by first | exact Nat.le_refl _ | (dsimp only; omega) | (simp; done) | (simp; omega)) _) | (with_reducible refine Ext.drew ?_) | (with_reducible refine Ext.drewN ?_ _) | (refine Ext.trans ?_ (by with_reducible assumption)))))).mono ?_
  rintro e w2 ⟨rfl, hh2⟩
  have BA2 := Lib.hid (BA1.out.ext hh2)
  have BS2 := Lib.hid (BS1.out.ext hh2)
  have X2 : Ext w w2 := X1.trans hh2
  have s2 : w.heap.size + 1 < w2.heap.size := BS2.out.lt
  clear e1_0 e1_1 e1_2 e1_3 e1_4 e1_5 e1_6 e1_7 e1_8 e1_9 z1_0 z1_1 z1_2 y1_0 y1_1 y1_2
  clear hh2 BA1 BS1 s1
  have e2_0 : w2.cell? ⟨w.heap.size, 0, none⟩ = some (.int .i64 wide) := BA2.out.cell 0
  have e2_1 : w2.cell? ⟨w.heap.size, 1, none⟩ = some (.int .i64 deep) := BA2.out.cell 1
  have e2_2 : w2.cell? ⟨w.heap.size, 2, none⟩ = some (.slice p n cap) := BA2.out.cell 2
  have e2_3 : w2.cell? ⟨w.heap.size, 3, none⟩ = some (.int .i64 free) := BA2.out.cell 3
  have e2_4 : w2.cell? ⟨w.heap.size, 4, none⟩ = some (.int .i64 step) := BA2.out.cell 4
  have e2_5 : w2.cell? ⟨w.heap.size, 5, none⟩ = some (.int .i64 price) := BA2.out.cell 5
  have e2_6 : w2.cell? ⟨w.heap.size, 6, none⟩ = some (.int .i64 capp) := BA2.out.cell 6
  have e2_7 : w2.cell? ⟨w.heap.size, 7, none⟩ = some (.int .i64 clock) := BA2.out.cell 7
  have e2_8 : w2.cell? ⟨w.heap.size, 8, none⟩ = some (.int .i64 bank) := BA2.out.cell 8
  have e2_9 : w2.cell? ⟨w.heap.size, 9, none⟩ = some (.slice q m c2) := BA2.out.cell 9
  have z2_0 : w2.cell? ⟨w.heap.size + 1, 0, none⟩ = some (.int .i64 0) := BS2.out.cell 0
  have z2_1 : w2.cell? ⟨w.heap.size + 1, 1, none⟩ = some (.int .i64 0) := BS2.out.cell 1
  have z2_2 : w2.cell? ⟨w.heap.size + 1, 2, none⟩ = some (.int .i64 0) := BS2.out.cell 2
  have y2_0 : w2.frozen? ⟨w.heap.size + 1, 0, none⟩ = false := BS2.out.frozen 0
  have y2_1 : w2.frozen? ⟨w.heap.size + 1, 1, none⟩ = false := BS2.out.frozen 1
  have y2_2 : w2.frozen? ⟨w.heap.size + 1, 2, none⟩ = false := BS2.out.frozen 2
  go_wp2
  exact bodyPost_ret (v := .tuple #[.agg #[.int .i64 0, .int .i64 0, .int .i64 0], .bool false]) (by simp [results, Try.results33, go_sem, *]) rfl ⟨rfl, by (repeat' (first | exact Ext.refl _ | (with_reducible assumption) | (with_reducible refine Ext.alloc ?_ _) | (with_reducible refine Ext.setCell ?_ (by first | exact Nat.le_refl _ | (dsimp only; omega) | (simp; done) | (simp; omega)) _) | (with_reducible refine Ext.drew ?_) | (with_reducible refine Ext.drewN ?_ _) | (refine Ext.trans ?_ (by with_reducible assumption))))⟩

set_option maxRecDepth 100000 in
set_option maxHeartbeats 1000000 in
theorem specHst_yes (wide deep free step price capp clock bank id : Int) (p : Option Addr) (n cap : Nat) (q : Option Addr) (m c2 : Nat) (w : World)
    (k : Nat) (a1 a2 a3 : Int) (vs : List Visit4) (HK : Hid (vs[k]? = some (id, a1, a2, a3))) (hk : k < m) (hm : m ≤ 9223372036854775807) (HS : Hid (Sl w q m c2 4 (vs.flatMap visitCells)))
    (HX : Hid (∀ w', Ext w w' → Calls Try.prog 49 #[.agg #[.int .i64 wide, .int .i64 deep, .slice p n cap, .int .i64 free, .int .i64 step, .int .i64 price, .int .i64 capp, .int .i64 clock, .int .i64 bank, .slice q m c2], .int .i64 id] w' fun e w'' => e = .returned (.int .i64 k) ∧ Ext w' w''))
    (HV : Hid (∀ w', Ext w w' → Calls Try.prog 30 #[.agg #[.int .i64 wide, .int .i64 deep, .slice p n cap, .int .i64 free, .int .i64 step, .int .i64 price, .int .i64 capp, .int .i64 clock, .int .i64 bank, .slice q m c2]] w' fun e w'' => e = .returned (.bool true) ∧ Ext w' w'')) :
    Calls Try.prog 33 #[.agg #[.int .i64 wide, .int .i64 deep, .slice p n cap, .int .i64 free, .int .i64 step, .int .i64 price, .int .i64 capp, .int .i64 clock, .int .i64 bank, .slice q m c2], .int .i64 id] w fun e w' => e = .returned (.tuple #[.agg #[.int .i64 a1, .int .i64 a2, .int .i64 a3], .bool true]) ∧ Ext w w' := by
  go_enter Try.func33, Try.ntmps33
  go_wp2_with fail
  refine (HX.out _ (by (repeat' (first | exact Ext.refl _ | (with_reducible assumption) | (with_reducible refine Ext.alloc ?_ _) | (with_reducible refine Ext.setCell ?_ (by first | exact Nat.le_refl _ | (dsimp only; omega) | (simp; done) | (simp; omega)) _) | (with_reducible refine Ext.drew ?_) | (with_reducible refine Ext.drewN ?_ _) | (refine Ext.trans ?_ (by with_reducible assumption)))))).mono ?_
  rintro e w1 ⟨rfl, hh1⟩
  have BA1 : Blk w1 w.heap.size 37 #[.int .i64 wide, .int .i64 deep, .slice p n cap, .int .i64 free, .int .i64 step, .int .i64 price, .int .i64 capp, .int .i64 clock, .int .i64 bank, .slice q m c2] := ((Blk.new w _ _).alloc _).ext hh1
  have BS1 : Blk w1 (w.heap.size + 1) 64 #[.int .i64 0, .int .i64 0, .int .i64 0] := by have := (Blk.new (w.alloc (.cells #[.int .i64 wide, .int .i64 deep, .slice p n cap, .int .i64 free, .int .i64 step, .int .i64 price, .int .i64 capp, .int .i64 clock, .int .i64 bank, .slice q m c2] 37)) 64 #[.int .i64 0, .int .i64 0, .int .i64 0]).ext hh1; simpa using this
  have X1 : Ext w w1 := (((Ext.refl w).alloc _).alloc _).trans hh1
  have s1 : w.heap.size + 1 < w1.heap.size := BS1.lt
  replace BA1 := Lib.hid BA1
  replace BS1 := Lib.hid BS1
  clear hh1
  have e1_0 : w1.cell? ⟨w.heap.size, 0, none⟩ = some (.int .i64 wide) := BA1.out.cell 0
  have e1_1 : w1.cell? ⟨w.heap.size, 1, none⟩ = some (.int .i64 deep) := BA1.out.cell 1
  have e1_2 : w1.cell? ⟨w.heap.size, 2, none⟩ = some (.slice p n cap) := BA1.out.cell 2
  have e1_3 : w1.cell? ⟨w.heap.size, 3, none⟩ = some (.int .i64 free) := BA1.out.cell 3
  have e1_4 : w1.cell? ⟨w.heap.size, 4, none⟩ = some (.int .i64 step) := BA1.out.cell 4
  have e1_5 : w1.cell? ⟨w.heap.size, 5, none⟩ = some (.int .i64 price) := BA1.out.cell 5
  have e1_6 : w1.cell? ⟨w.heap.size, 6, none⟩ = some (.int .i64 capp) := BA1.out.cell 6
  have e1_7 : w1.cell? ⟨w.heap.size, 7, none⟩ = some (.int .i64 clock) := BA1.out.cell 7
  have e1_8 : w1.cell? ⟨w.heap.size, 8, none⟩ = some (.int .i64 bank) := BA1.out.cell 8
  have e1_9 : w1.cell? ⟨w.heap.size, 9, none⟩ = some (.slice q m c2) := BA1.out.cell 9
  have z1_0 : w1.cell? ⟨w.heap.size + 1, 0, none⟩ = some (.int .i64 0) := BS1.out.cell 0
  have z1_1 : w1.cell? ⟨w.heap.size + 1, 1, none⟩ = some (.int .i64 0) := BS1.out.cell 1
  have z1_2 : w1.cell? ⟨w.heap.size + 1, 2, none⟩ = some (.int .i64 0) := BS1.out.cell 2
  have y1_0 : w1.frozen? ⟨w.heap.size + 1, 0, none⟩ = false := BS1.out.frozen 0
  have y1_1 : w1.frozen? ⟨w.heap.size + 1, 1, none⟩ = false := BS1.out.frozen 1
  have y1_2 : w1.frozen? ⟨w.heap.size + 1, 2, none⟩ = false := BS1.out.frozen 2
  go_wp2_with fail
  refine (HV.out _ (by (repeat' (first | exact Ext.refl _ | (with_reducible assumption) | (with_reducible refine Ext.alloc ?_ _) | (with_reducible refine Ext.setCell ?_ (by first | exact Nat.le_refl _ | (dsimp only; omega) | (simp; done) | (simp; omega)) _) | (with_reducible refine Ext.drew ?_) | (with_reducible refine Ext.drewN ?_ _) | (refine Ext.trans ?_ (by with_reducible assumption)))))).mono ?_
  rintro e w2 ⟨rfl, hh2⟩
  have BA2 := Lib.hid (BA1.out.ext hh2)
  have BS2 := Lib.hid (BS1.out.ext hh2)
  have X2 : Ext w w2 := X1.trans hh2
  have s2 : w.heap.size + 1 < w2.heap.size := BS2.out.lt
  clear e1_0 e1_1 e1_2 e1_3 e1_4 e1_5 e1_6 e1_7 e1_8 e1_9 z1_0 z1_1 z1_2 y1_0 y1_1 y1_2
  clear hh2 BA1 BS1 s1
  have e2_0 : w2.cell? ⟨w.heap.size, 0, none⟩ = some (.int .i64 wide) := BA2.out.cell 0
  have e2_1 : w2.cell? ⟨w.heap.size, 1, none⟩ = some (.int .i64 deep) := BA2.out.cell 1
  have e2_2 : w2.cell? ⟨w.heap.size, 2, none⟩ = some (.slice p n cap) := BA2.out.cell 2
  have e2_3 : w2.cell? ⟨w.heap.size, 3, none⟩ = some (.int .i64 free) := BA2.out.cell 3
  have e2_4 : w2.cell? ⟨w.heap.size, 4, none⟩ = some (.int .i64 step) := BA2.out.cell 4
  have e2_5 : w2.cell? ⟨w.heap.size, 5, none⟩ = some (.int .i64 price) := BA2.out.cell 5
  have e2_6 : w2.cell? ⟨w.heap.size, 6, none⟩ = some (.int .i64 capp) := BA2.out.cell 6
  have e2_7 : w2.cell? ⟨w.heap.size, 7, none⟩ = some (.int .i64 clock) := BA2.out.cell 7
  have e2_8 : w2.cell? ⟨w.heap.size, 8, none⟩ = some (.int .i64 bank) := BA2.out.cell 8
  have e2_9 : w2.cell? ⟨w.heap.size, 9, none⟩ = some (.slice q m c2) := BA2.out.cell 9
  have z2_0 : w2.cell? ⟨w.heap.size + 1, 0, none⟩ = some (.int .i64 0) := BS2.out.cell 0
  have z2_1 : w2.cell? ⟨w.heap.size + 1, 1, none⟩ = some (.int .i64 0) := BS2.out.cell 1
  have z2_2 : w2.cell? ⟨w.heap.size + 1, 2, none⟩ = some (.int .i64 0) := BS2.out.cell 2
  have y2_0 : w2.frozen? ⟨w.heap.size + 1, 0, none⟩ = false := BS2.out.frozen 0
  have y2_1 : w2.frozen? ⟨w.heap.size + 1, 1, none⟩ = false := BS2.out.frozen 1
  have y2_2 : w2.frozen? ⟨w.heap.size + 1, 2, none⟩ = false := BS2.out.frozen 2
  obtain ⟨b, off, b0, b1, b2, b3, rfl, hv, hb, g0, g1, g2, g3⟩ := visit_at (HS.out.ext X2) hk
  obtain ⟨rfl, rfl, rfl, rfl⟩ : id = b0 ∧ a1 = b1 ∧ a2 = b2 ∧ a3 = b3 := by have t := HK.out; rw [hv] at t; simp only [Option.some.injEq, Prod.mk.injEq] at t; exact ⟨t.1.symm, t.2.1.symm, t.2.2.1.symm, t.2.2.2.symm⟩
  have hne : b ≠ w.heap.size + 1 := by
    have hb0 := hb
    obtain ⟨b', off', _, _, _, _, hq, _, hb', _⟩ := visit_at HS.out hk
    simp only [Option.some.injEq, Addr.mk.injEq] at hq
    omega
  have i1 : (0 : Int) ≤ (k : Int) := by omega
  have i2 : (k : Int) < (m : Int) := by omega
  clear hv
  go_wp2
  exact bodyPost_ret (v := .tuple #[.agg #[.int .i64 a1, .int .i64 a2, .int .i64 a3], .bool true]) (by simp [results, Try.results33, go_sem, *]) rfl ⟨rfl, by (repeat' (first | exact Ext.refl _ | (with_reducible assumption) | (with_reducible refine Ext.alloc ?_ _) | (with_reducible refine Ext.setCell ?_ (by first | exact Nat.le_refl _ | (dsimp only; omega) | (simp; done) | (simp; omega)) _) | (with_reducible refine Ext.drew ?_) | (with_reducible refine Ext.drewN ?_ _) | (refine Ext.trans ?_ (by with_reducible assumption))))⟩

theorem implHst (h : HouseD) (id : Int) (p : Option Addr) (n cap : Nat) (q : Option Addr) (m c2 : Nat) (w : World) (hi : IsHouse w h p n cap q m c2) :
    Calls Try.prog 39 #[houseV h p n cap q m c2, .int .i64 id] w fun e w' => e = .returned (stayR h id) ∧ Ext w w' := by
  have HV := fun (w' : World) (hx : Ext w w') => implHouse h p n cap q m c2 w' (hi.ext hx)
  have hvl := hi.vlen
  obtain ⟨wide, deep, cells, free, step, price, capp, clock, bank, vs⟩ := h
  have HX := fun (w' : World) (hx : Ext w w') => visitIndex_any wide deep free step price capp clock bank id p n cap q m c2 vs w' (hi.vs.ext hx)
  unfold stayR houseStay
  simp only at hvl HV HX ⊢
  cases hok : houseOk ⟨wide, deep, cells, free, step, price, capp, clock, bank, vs⟩ with
  | false =>
    rw [hok] at HV
    simpa using implHst_bad wide deep free step price capp clock bank id p n cap q m c2 w HV
  | true =>
    rw [hok] at HV
    rcases vix_cases id vs with ⟨hx, hv⟩ | ⟨k, a1, a2, a3, hk, hx, hv, hf⟩
    · rw [hx] at HX
      rw [hv]
      simpa using implHst_no wide deep free step price capp clock bank id p n cap q m c2 w HV HX
    · rw [hx] at HX
      rw [hf]
      simpa using implHst_yes wide deep free step price capp clock bank id p n cap q m c2 w k a1 a2 a3 vs hv (by omega) hi.vs.bd hi.vs HV HX

theorem specHst (h : HouseD) (id : Int) (p : Option Addr) (n cap : Nat) (q : Option Addr) (m c2 : Nat) (w : World) (hi : IsHouse w h p n cap q m c2) :
    Calls Try.prog 33 #[houseV h p n cap q m c2, .int .i64 id] w fun e w' => e = .returned (stayR h id) ∧ Ext w w' := by
  have HV := fun (w' : World) (hx : Ext w w') => specHouse h p n cap q m c2 w' (hi.ext hx)
  have hvl := hi.vlen
  obtain ⟨wide, deep, cells, free, step, price, capp, clock, bank, vs⟩ := h
  have HX := fun (w' : World) (hx : Ext w w') => l7Find_any wide deep free step price capp clock bank id p n cap q m c2 vs w' (hi.vs.ext hx)
  unfold stayR houseStay
  simp only at hvl HV HX ⊢
  cases hok : houseOk ⟨wide, deep, cells, free, step, price, capp, clock, bank, vs⟩ with
  | false =>
    rw [hok] at HV
    simpa using specHst_bad wide deep free step price capp clock bank id p n cap q m c2 w _ HX HV
  | true =>
    rw [hok] at HV
    rcases vix_cases id vs with ⟨hx, hv⟩ | ⟨k, a1, a2, a3, hk, hx, hv, hf⟩
    · rw [hx] at HX
      rw [hv]
      simpa using specHst_no wide deep free step price capp clock bank id p n cap q m c2 w HX HV
    · rw [hx] at HX
      rw [hf]
      simpa using specHst_yes wide deep free step price capp clock bank id p n cap q m c2 w k a1 a2 a3 vs hv (by omega) hi.vs.bd hi.vs HX HV

end Go.Proofs.Ythhcpcjmolbkdaa
