/-
  Both packages' HouseDue, HouseMay. Condition: the house's slices read as lists.
-/
import Derived.Test.YthhcpcjmolbkdaaHst
namespace Go.Proofs.Ythhcpcjmolbkdaa
open Go.RowKit
set_option linter.unusedVariables false
set_option linter.unusedSimpArgs false

set_option maxRecDepth 100000 in
set_option maxHeartbeats 1000000 in
theorem implHd_no (wide deep free step price capp clock bank id : Int) (p : Option Addr) (n cap : Nat) (q : Option Addr) (m c2 : Nat) (w : World)
    (HST : Hid (∀ w', Ext w w' → Calls Try.prog 39 #[.agg #[.int .i64 wide, .int .i64 deep, .slice p n cap, .int .i64 free, .int .i64 step, .int .i64 price, .int .i64 capp, .int .i64 clock, .int .i64 bank, .slice q m c2], .int .i64 id] w' fun e w'' => e = .returned (.tuple #[.agg #[.int .i64 0, .int .i64 0, .int .i64 0], .bool false]) ∧ Ext w' w'')) :
    Calls Try.prog 22 #[.agg #[.int .i64 wide, .int .i64 deep, .slice p n cap, .int .i64 free, .int .i64 step, .int .i64 price, .int .i64 capp, .int .i64 clock, .int .i64 bank, .slice q m c2], .int .i64 id] w fun e w' => e = .returned (.int .i64 (-1)) ∧ Ext w w' := by
  go_enter Try.func22, Try.ntmps22
  go_wp2_with fail
  refine (HST.out _ (by (repeat' (first | exact Ext.refl _ | (with_reducible assumption) | (with_reducible refine Ext.alloc ?_ _) | (with_reducible refine Ext.setCell ?_ (by first | exact Nat.le_refl _ | (dsimp only; omega) | (simp; done) | (simp; omega)) _) | (with_reducible refine Ext.drew ?_) | (with_reducible refine Ext.drewN ?_ _) | (refine Ext.trans ?_ (by with_reducible assumption)))))).mono ?_
  rintro e w1 ⟨rfl, hh1⟩
  have BA1 : Blk w1 w.heap.size 37 #[.int .i64 wide, .int .i64 deep, .slice p n cap, .int .i64 free, .int .i64 step, .int .i64 price, .int .i64 capp, .int .i64 clock, .int .i64 bank, .slice q m c2] := (Blk.new w _ _).ext hh1
  have X1 : Ext w w1 := ((Ext.refl w).alloc _).trans hh1
  have s1 : w.heap.size < w1.heap.size := BA1.lt
  replace BA1 := Lib.hid BA1
  clear hh1
  have e1_0 : w1.cell? ⟨w.heap.size, 0, none⟩ = some (.int .i64 wide) := BA1.out.cell 0
  have e1_1 : w1.cell? ⟨w.heap.size, 1, none⟩ = some (.int .i64 deep) := BA1.out.cell 1
  have e1_2 : w1.cell? ⟨w.heap.size, 2, none⟩ = some (.slice p n cap) := BA1.out.cell 2
  have e1_3 : w1.cell? ⟨w.heap.size, 3, none⟩ = some (.int .i64 free) := BA1.out.cell 3
  have e1_4 : w1.cell? ⟨w.heap.size, 4, none⟩ = some (.int .i64 step) := BA1.out.cell 4
  have e1_5 : w1.cell? ⟨w.heap.size, 5, none⟩ = some (.int .i64 price) := BA1.out.cell 5
  have e1_6 : w1.cell? ⟨w.heap.size, 6, none⟩ = some (.int .i64 capp) := BA1.out.cell 6
  have e1_7 : w1.cell? ⟨w.heap.size, 7, none⟩ = some (.int .i64 clock) := BA1.out.cell 7
  have e1_8 : w1.cell? ⟨w.heap.size, 8, none⟩ = some (.int .i64 bank) := BA1.out.cell 8
  have e1_9 : w1.cell? ⟨w.heap.size, 9, none⟩ = some (.slice q m c2) := BA1.out.cell 9
  go_wp2
  go_ret
  exact ⟨rfl, by (repeat' (first | exact Ext.refl _ | (with_reducible assumption) | (with_reducible refine Ext.alloc ?_ _) | (with_reducible refine Ext.setCell ?_ (by first | exact Nat.le_refl _ | (dsimp only; omega) | (simp; done) | (simp; omega)) _) | (with_reducible refine Ext.drew ?_) | (with_reducible refine Ext.drewN ?_ _) | (refine Ext.trans ?_ (by with_reducible assumption))))⟩

set_option maxRecDepth 100000 in
set_option maxHeartbeats 1000000 in
theorem implHd_yes (wide deep free step price capp clock bank id : Int) (p : Option Addr) (n cap : Nat) (q : Option Addr) (m c2 : Nat) (w : World) (a1 a2 a3 : Int) (D : Int)
    (HST : Hid (∀ w', Ext w w' → Calls Try.prog 39 #[.agg #[.int .i64 wide, .int .i64 deep, .slice p n cap, .int .i64 free, .int .i64 step, .int .i64 price, .int .i64 capp, .int .i64 clock, .int .i64 bank, .slice q m c2], .int .i64 id] w' fun e w'' => e = .returned (.tuple #[.agg #[.int .i64 a1, .int .i64 a2, .int .i64 a3], .bool true]) ∧ Ext w' w''))
    (HD : Hid (∀ w', Calls Try.prog 40 #[tariffV free step price capp, stayV a1 a2 a3, .int .i64 clock] w' fun e w'' => e = .returned (.int .i64 D) ∧ Ext w' w'')) :
    Calls Try.prog 22 #[.agg #[.int .i64 wide, .int .i64 deep, .slice p n cap, .int .i64 free, .int .i64 step, .int .i64 price, .int .i64 capp, .int .i64 clock, .int .i64 bank, .slice q m c2], .int .i64 id] w fun e w' => e = .returned (.int .i64 D) ∧ Ext w w' := by
  go_enter Try.func22, Try.ntmps22
  go_wp2_with fail
  refine (HST.out _ (by (repeat' (first | exact Ext.refl _ | (with_reducible assumption) | (with_reducible refine Ext.alloc ?_ _) | (with_reducible refine Ext.setCell ?_ (by first | exact Nat.le_refl _ | (dsimp only; omega) | (simp; done) | (simp; omega)) _) | (with_reducible refine Ext.drew ?_) | (with_reducible refine Ext.drewN ?_ _) | (refine Ext.trans ?_ (by with_reducible assumption)))))).mono ?_
  rintro e w1 ⟨rfl, hh1⟩
  have BA1 : Blk w1 w.heap.size 37 #[.int .i64 wide, .int .i64 deep, .slice p n cap, .int .i64 free, .int .i64 step, .int .i64 price, .int .i64 capp, .int .i64 clock, .int .i64 bank, .slice q m c2] := (Blk.new w _ _).ext hh1
  have X1 : Ext w w1 := ((Ext.refl w).alloc _).trans hh1
  have s1 : w.heap.size < w1.heap.size := BA1.lt
  replace BA1 := Lib.hid BA1
  clear hh1
  have e1_0 : w1.cell? ⟨w.heap.size, 0, none⟩ = some (.int .i64 wide) := BA1.out.cell 0
  have e1_1 : w1.cell? ⟨w.heap.size, 1, none⟩ = some (.int .i64 deep) := BA1.out.cell 1
  have e1_2 : w1.cell? ⟨w.heap.size, 2, none⟩ = some (.slice p n cap) := BA1.out.cell 2
  have e1_3 : w1.cell? ⟨w.heap.size, 3, none⟩ = some (.int .i64 free) := BA1.out.cell 3
  have e1_4 : w1.cell? ⟨w.heap.size, 4, none⟩ = some (.int .i64 step) := BA1.out.cell 4
  have e1_5 : w1.cell? ⟨w.heap.size, 5, none⟩ = some (.int .i64 price) := BA1.out.cell 5
  have e1_6 : w1.cell? ⟨w.heap.size, 6, none⟩ = some (.int .i64 capp) := BA1.out.cell 6
  have e1_7 : w1.cell? ⟨w.heap.size, 7, none⟩ = some (.int .i64 clock) := BA1.out.cell 7
  have e1_8 : w1.cell? ⟨w.heap.size, 8, none⟩ = some (.int .i64 bank) := BA1.out.cell 8
  have e1_9 : w1.cell? ⟨w.heap.size, 9, none⟩ = some (.slice q m c2) := BA1.out.cell 9
  go_wp2_with fail
  refine (HD.out _).mono ?_
  rintro e w2 ⟨rfl, hh2⟩
  go_wp2
  go_ret
  exact ⟨rfl, by (repeat' (first | exact Ext.refl _ | (with_reducible assumption) | (with_reducible refine Ext.alloc ?_ _) | (with_reducible refine Ext.setCell ?_ (by first | exact Nat.le_refl _ | (dsimp only; omega) | (simp; done) | (simp; omega)) _) | (with_reducible refine Ext.drew ?_) | (with_reducible refine Ext.drewN ?_ _) | (refine Ext.trans ?_ (by with_reducible assumption))))⟩

set_option maxRecDepth 100000 in
set_option maxHeartbeats 1000000 in
theorem specHd_no (wide deep free step price capp clock bank id : Int) (p : Option Addr) (n cap : Nat) (q : Option Addr) (m c2 : Nat) (w : World)
    (HST : Hid (∀ w', Ext w w' → Calls Try.prog 33 #[.agg #[.int .i64 wide, .int .i64 deep, .slice p n cap, .int .i64 free, .int .i64 step, .int .i64 price, .int .i64 capp, .int .i64 clock, .int .i64 bank, .slice q m c2], .int .i64 id] w' fun e w'' => e = .returned (.tuple #[.agg #[.int .i64 0, .int .i64 0, .int .i64 0], .bool false]) ∧ Ext w' w'')) :
    Calls Try.prog 17 #[.agg #[.int .i64 wide, .int .i64 deep, .slice p n cap, .int .i64 free, .int .i64 step, .int .i64 price, .int .i64 capp, .int .i64 clock, .int .i64 bank, .slice q m c2], .int .i64 id] w fun e w' => e = .returned (.int .i64 (-1)) ∧ Ext w w' := by
  go_enter Try.func17, Try.ntmps17
  go_wp2_with fail
  refine (HST.out _ (by (repeat' (first | exact Ext.refl _ | (with_reducible assumption) | (with_reducible refine Ext.alloc ?_ _) | (with_reducible refine Ext.setCell ?_ (by first | exact Nat.le_refl _ | (dsimp only; omega) | (simp; done) | (simp; omega)) _) | (with_reducible refine Ext.drew ?_) | (with_reducible refine Ext.drewN ?_ _) | (refine Ext.trans ?_ (by with_reducible assumption)))))).mono ?_
  rintro e w1 ⟨rfl, hh1⟩
  have BA1 : Blk w1 w.heap.size 37 #[.int .i64 wide, .int .i64 deep, .slice p n cap, .int .i64 free, .int .i64 step, .int .i64 price, .int .i64 capp, .int .i64 clock, .int .i64 bank, .slice q m c2] := (Blk.new w _ _).ext hh1
  have X1 : Ext w w1 := ((Ext.refl w).alloc _).trans hh1
  have s1 : w.heap.size < w1.heap.size := BA1.lt
  replace BA1 := Lib.hid BA1
  clear hh1
  have e1_0 : w1.cell? ⟨w.heap.size, 0, none⟩ = some (.int .i64 wide) := BA1.out.cell 0
  have e1_1 : w1.cell? ⟨w.heap.size, 1, none⟩ = some (.int .i64 deep) := BA1.out.cell 1
  have e1_2 : w1.cell? ⟨w.heap.size, 2, none⟩ = some (.slice p n cap) := BA1.out.cell 2
  have e1_3 : w1.cell? ⟨w.heap.size, 3, none⟩ = some (.int .i64 free) := BA1.out.cell 3
  have e1_4 : w1.cell? ⟨w.heap.size, 4, none⟩ = some (.int .i64 step) := BA1.out.cell 4
  have e1_5 : w1.cell? ⟨w.heap.size, 5, none⟩ = some (.int .i64 price) := BA1.out.cell 5
  have e1_6 : w1.cell? ⟨w.heap.size, 6, none⟩ = some (.int .i64 capp) := BA1.out.cell 6
  have e1_7 : w1.cell? ⟨w.heap.size, 7, none⟩ = some (.int .i64 clock) := BA1.out.cell 7
  have e1_8 : w1.cell? ⟨w.heap.size, 8, none⟩ = some (.int .i64 bank) := BA1.out.cell 8
  have e1_9 : w1.cell? ⟨w.heap.size, 9, none⟩ = some (.slice q m c2) := BA1.out.cell 9
  go_wp2
  go_ret
  exact ⟨rfl, by (repeat' (first | exact Ext.refl _ | (with_reducible assumption) | (with_reducible refine Ext.alloc ?_ _) | (with_reducible refine Ext.setCell ?_ (by first | exact Nat.le_refl _ | (dsimp only; omega) | (simp; done) | (simp; omega)) _) | (with_reducible refine Ext.drew ?_) | (with_reducible refine Ext.drewN ?_ _) | (refine Ext.trans ?_ (by with_reducible assumption))))⟩

set_option maxRecDepth 100000 in
set_option maxHeartbeats 1000000 in
theorem specHd_yes (wide deep free step price capp clock bank id : Int) (p : Option Addr) (n cap : Nat) (q : Option Addr) (m c2 : Nat) (w : World) (a1 a2 a3 : Int) (D : Int)
    (HST : Hid (∀ w', Ext w w' → Calls Try.prog 33 #[.agg #[.int .i64 wide, .int .i64 deep, .slice p n cap, .int .i64 free, .int .i64 step, .int .i64 price, .int .i64 capp, .int .i64 clock, .int .i64 bank, .slice q m c2], .int .i64 id] w' fun e w'' => e = .returned (.tuple #[.agg #[.int .i64 a1, .int .i64 a2, .int .i64 a3], .bool true]) ∧ Ext w' w''))
    (HD : Hid (∀ w', Calls Try.prog 34 #[tariffV free step price capp, stayV a1 a2 a3, .int .i64 clock] w' fun e w'' => e = .returned (.int .i64 D) ∧ Ext w' w'')) :
    Calls Try.prog 17 #[.agg #[.int .i64 wide, .int .i64 deep, .slice p n cap, .int .i64 free, .int .i64 step, .int .i64 price, .int .i64 capp, .int .i64 clock, .int .i64 bank, .slice q m c2], .int .i64 id] w fun e w' => e = .returned (.int .i64 D) ∧ Ext w w' := by
  go_enter Try.func17, Try.ntmps17
  go_wp2_with fail
  refine (HST.out _ (by (repeat' (first | exact Ext.refl _ | (with_reducible assumption) | (with_reducible refine Ext.alloc ?_ _) | (with_reducible refine Ext.setCell ?_ (by first | exact Nat.le_refl _ | (dsimp only; omega) | (simp; done) | (simp; omega)) _) | (with_reducible refine Ext.drew ?_) | (with_reducible refine Ext.drewN ?_ _) | (refine Ext.trans ?_ (by with_reducible assumption)))))).mono ?_
  rintro e w1 ⟨rfl, hh1⟩
  have BA1 : Blk w1 w.heap.size 37 #[.int .i64 wide, .int .i64 deep, .slice p n cap, .int .i64 free, .int .i64 step, .int .i64 price, .int .i64 capp, .int .i64 clock, .int .i64 bank, .slice q m c2] := (Blk.new w _ _).ext hh1
  have X1 : Ext w w1 := ((Ext.refl w).alloc _).trans hh1
  have s1 : w.heap.size < w1.heap.size := BA1.lt
  replace BA1 := Lib.hid BA1
  clear hh1
  have e1_0 : w1.cell? ⟨w.heap.size, 0, none⟩ = some (.int .i64 wide) := BA1.out.cell 0
  have e1_1 : w1.cell? ⟨w.heap.size, 1, none⟩ = some (.int .i64 deep) := BA1.out.cell 1
  have e1_2 : w1.cell? ⟨w.heap.size, 2, none⟩ = some (.slice p n cap) := BA1.out.cell 2
  have e1_3 : w1.cell? ⟨w.heap.size, 3, none⟩ = some (.int .i64 free) := BA1.out.cell 3
  have e1_4 : w1.cell? ⟨w.heap.size, 4, none⟩ = some (.int .i64 step) := BA1.out.cell 4
  have e1_5 : w1.cell? ⟨w.heap.size, 5, none⟩ = some (.int .i64 price) := BA1.out.cell 5
  have e1_6 : w1.cell? ⟨w.heap.size, 6, none⟩ = some (.int .i64 capp) := BA1.out.cell 6
  have e1_7 : w1.cell? ⟨w.heap.size, 7, none⟩ = some (.int .i64 clock) := BA1.out.cell 7
  have e1_8 : w1.cell? ⟨w.heap.size, 8, none⟩ = some (.int .i64 bank) := BA1.out.cell 8
  have e1_9 : w1.cell? ⟨w.heap.size, 9, none⟩ = some (.slice q m c2) := BA1.out.cell 9
  go_wp2_with fail
  refine (HD.out _).mono ?_
  rintro e w2 ⟨rfl, hh2⟩
  go_wp2
  go_ret
  exact ⟨rfl, by (repeat' (first | exact Ext.refl _ | (with_reducible assumption) | (with_reducible refine Ext.alloc ?_ _) | (with_reducible refine Ext.setCell ?_ (by first | exact Nat.le_refl _ | (dsimp only; omega) | (simp; done) | (simp; omega)) _) | (with_reducible refine Ext.drew ?_) | (with_reducible refine Ext.drewN ?_ _) | (refine Ext.trans ?_ (by with_reducible assumption))))⟩

theorem stay_good {h : HouseD} {id a1 a2 a3 : Int} (hs : houseStay h id = some (a1, a2, a3)) : tariffOk h.free h.step h.price h.capp = true ∧ stayOk a1 a2 a3 = true ∧ a3 ≤ h.clock ∧ h.clock ≤ 9999 := by
  unfold houseStay at hs
  split at hs
  · rename_i hok
    rw [Option.map_eq_some_iff] at hs
    obtain ⟨v, hv, e⟩ := hs
    have hm := List.mem_of_find?_eq_some hv
    simp only [houseOk, numsOk, Bool.and_eq_true, decide_eq_true_eq] at hok
    have := (visitsOk_len hok.2).2 v hm
    obtain ⟨v0, v1, v2, v3⟩ := v
    simp only [Prod.mk.injEq] at e
    obtain ⟨rfl, rfl, rfl⟩ := e
    simp only [visitOk, Bool.and_eq_true, decide_eq_true_eq] at this
    exact ⟨hok.1.1.2, this.1, this.2, hok.1.2.2.1⟩
  · simp at hs
theorem implHouseDue (h : HouseD) (id : Int) (p : Option Addr) (n cap : Nat) (q : Option Addr) (m c2 : Nat) (w : World) (hi : IsHouse w h p n cap q m c2) :
    Calls Try.prog 22 #[houseV h p n cap q m c2, .int .i64 id] w fun e w' => e = .returned (.int .i64 (houseDue h id)) ∧ Ext w w' := by
  have HST := fun (w' : World) (hx : Ext w w') => implHst h id p n cap q m c2 w' (hi.ext hx)
  unfold stayR at HST
  unfold houseDue
  cases hs : houseStay h id with
  | none =>
    rw [hs] at HST
    exact implHd_no h.wide h.deep h.free h.step h.price h.capp h.clock h.bank id p n cap q m c2 w HST
  | some s =>
    obtain ⟨a1, a2, a3⟩ := s
    rw [hs] at HST
    obtain ⟨t, st, hc, h9⟩ := stay_good hs
    exact implHd_yes h.wide h.deep h.free h.step h.price h.capp h.clock h.bank id p n cap q m c2 w a1 a2 a3 _ HST (fun w' => implSd h.free h.step h.price h.capp a1 a2 a3 h.clock w' t st hc h9)

theorem specHouseDue (h : HouseD) (id : Int) (p : Option Addr) (n cap : Nat) (q : Option Addr) (m c2 : Nat) (w : World) (hi : IsHouse w h p n cap q m c2) :
    Calls Try.prog 17 #[houseV h p n cap q m c2, .int .i64 id] w fun e w' => e = .returned (.int .i64 (houseDue h id)) ∧ Ext w w' := by
  have HST := fun (w' : World) (hx : Ext w w') => specHst h id p n cap q m c2 w' (hi.ext hx)
  unfold stayR at HST
  unfold houseDue
  cases hs : houseStay h id with
  | none =>
    rw [hs] at HST
    exact specHd_no h.wide h.deep h.free h.step h.price h.capp h.clock h.bank id p n cap q m c2 w HST
  | some s =>
    obtain ⟨a1, a2, a3⟩ := s
    rw [hs] at HST
    obtain ⟨t, st, hc, h9⟩ := stay_good hs
    exact specHd_yes h.wide h.deep h.free h.step h.price h.capp h.clock h.bank id p n cap q m c2 w a1 a2 a3 _ HST (fun w' => specSd h.free h.step h.price h.capp a1 a2 a3 h.clock w' t st hc h9)

end Go.Proofs.Ythhcpcjmolbkdaa
