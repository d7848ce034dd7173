/-
  The laws' helpers on halls and houses: toHall, toHouse, eqHall, eqHouse. Conditions: slices read as lists of at most 2^40 elements.
-/
import Derived.Test.YthhcpcjmolbkdaaLawH
namespace Go.Proofs.Ythhcpcjmolbkdaa
open Go.RowKit
set_option linter.unusedVariables false

theorem own_set {w : World} {B n sz : Nat} {e : TypeId} {v : Value} {xs : List Value} (h : w.ownsRow B e sz v n xs) {p : Addr} (hp : p.block < B) (u : Value) : (w.setCell p u).ownsRow B e sz v n xs := by
  refine h.kept (row := some p.block) ⟨rfl, rfl, rfl, by simp [World.setCell], fun i hi hne => Below.heap_setCell w p u i (fun e => hne (by rw [e]))⟩ (.inr (fun hh => ?_))
  have := h.lt _ hh
  omega
set_option maxRecDepth 100000 in
set_option maxHeartbeats 1000000 in
theorem toHall_any (wide deep : Int) (p : Option Addr) (n cap : Nat) (xs : List Int) (w : World) (hn : n ≤ 1099511627776) (hS : Sl w p n cap 1 (ivs xs)) :
    Calls Try.prog 18 #[hallV wide deep p n cap] w (RetHall wide deep xs w) := by
  have hl := hS.ilen
  have HS := Lib.hid hS
  subst hl
  clear hS
  go_enter Try.func18, Try.ntmps18
  go_wp2_with fail
  refine (toIntS_any p _ cap xs _ hn (HS.out.ext (by (repeat' (first | exact Ext.refl _ | (with_reducible assumption) | (with_reducible refine Ext.alloc ?_ _) | (with_reducible refine Ext.setCell ?_ (by first | exact Nat.le_refl _ | (dsimp only; omega) | (simp; done) | (simp; omega)) _) | (with_reducible refine Ext.drew ?_) | (with_reducible refine Ext.drewN ?_ _) | (refine Ext.trans ?_ (by with_reducible assumption))))))).mono ?_
  rintro e w1 ⟨q, c, rfl, ho, hx⟩
  obtain ⟨hc, hf⟩ := hx.cells
  have hz : w.heap.size + 2 < w1.heap.size := Nat.lt_of_lt_of_le (by simp) hx.sz
  have hz1 : w.heap.size + 1 < w1.heap.size := by omega
  have hz0 : w.heap.size < w1.heap.size := by omega
  have HO := Lib.hid (show w1.ownsRow (w.heap.size + 3) TI 1 (.slice q xs.length c) xs.length (ivs xs) by simpa using ho)
  have hxw : Ext w w1 := ((((Ext.refl w).alloc _).alloc _).alloc _).trans hx
  clear ho hx
  go_wp2
  exact bodyPost_ret (v := hallV wide deep q xs.length c) (by simp [results, Try.results18, go_sem, *]) rfl ⟨q, c, rfl, own_base (own_set (own_set (own_set (own_set HO.out (by dsimp only; omega) _) (by dsimp only; omega) _) (by dsimp only; omega) _) (by dsimp only; omega) _) (by omega), by (repeat' (first | exact Ext.refl _ | (with_reducible assumption) | (with_reducible refine Ext.alloc ?_ _) | (with_reducible refine Ext.setCell ?_ (by first | exact Nat.le_refl _ | (dsimp only; omega) | (simp; done) | (simp; omega)) _) | (with_reducible refine Ext.drew ?_) | (with_reducible refine Ext.drewN ?_ _) | (refine Ext.trans ?_ (by with_reducible assumption))))⟩

/-- a house of the call's own -/
def RetHouse (h : HouseD) (w : World) (e : Ending) (w' : World) : Prop :=
  ∃ p cap q c2, e = .returned (houseV h p h.cells.length cap q h.vs.length c2) ∧ w'.ownsRow w.heap.size TI 1 (.slice p h.cells.length cap) h.cells.length (ivs h.cells) ∧ w'.ownsRow w.heap.size TV 4 (.slice q h.vs.length c2) h.vs.length (h.vs.flatMap visitCells) ∧ Ext w w'

set_option maxRecDepth 100000 in
set_option maxHeartbeats 1000000 in
theorem toHouse_any (h : HouseD) (p : Option Addr) (n cap : Nat) (q : Option Addr) (m c2 : Nat) (w : World) (hn : n ≤ 1099511627776) (hm : m ≤ 1099511627776) (hi : IsHouse w h p n cap q m c2) :
    Calls Try.prog 6 #[houseV h p n cap q m c2] w (RetHouse h w) := by
  have hl := hi.clen
  have hvl := hi.vlen
  have HI := Lib.hid hi
  subst hl hvl
  clear hi
  obtain ⟨wide, deep, cells, free, step, price, capp, clock, bank, vs⟩ := h
  obtain ⟨HN, HM⟩ : Hid (cells.length ≤ 1099511627776) ∧ Hid (vs.length ≤ 1099511627776) := ⟨hn, hm⟩
  clear hn hm
  go_enter Try.func6, Try.ntmps6
  go_wp2_with fail
  refine (toHall_any wide deep p _ cap cells _ HN.out (HI.out.cells.ext (by (repeat' (first | exact Ext.refl _ | (with_reducible assumption) | (with_reducible refine Ext.alloc ?_ _) | (with_reducible refine Ext.setCell ?_ (by first | exact Nat.le_refl _ | (dsimp only; omega) | (simp; done) | (simp; omega)) _) | (with_reducible refine Ext.drew ?_) | (with_reducible refine Ext.drewN ?_ _) | (refine Ext.trans ?_ (by with_reducible assumption))))))).mono ?_
  rintro e w1 ⟨p1, c1, rfl, ho1, hx1⟩
  have BA := Lib.hid ((((Blk.new w 29 #[.int .i64 wide, .int .i64 deep, .slice p cells.length cap, .int .i64 free, .int .i64 step, .int .i64 price, .int .i64 capp, .int .i64 clock, .int .i64 bank, .slice q vs.length c2]).alloc (.cells #[.int .i64 0, .int .i64 0, .slice none 0 0, .int .i64 0, .int .i64 0, .int .i64 0, .int .i64 0, .int .i64 0, .int .i64 0, .slice none 0 0] 37)).alloc (.cells #[.int .i64 0, .int .i64 0, .slice none 0 0, .int .i64 0, .int .i64 0, .int .i64 0, .int .i64 0, .int .i64 0, .int .i64 0, .slice none 0 0] 37)).ext hx1)
  have BR := Lib.hid (((Blk.new (w.alloc (.cells #[.int .i64 wide, .int .i64 deep, .slice p cells.length cap, .int .i64 free, .int .i64 step, .int .i64 price, .int .i64 capp, .int .i64 clock, .int .i64 bank, .slice q vs.length c2] 29)) 37 #[.int .i64 0, .int .i64 0, .slice none 0 0, .int .i64 0, .int .i64 0, .int .i64 0, .int .i64 0, .int .i64 0, .int .i64 0, .slice none 0 0]).alloc (.cells #[.int .i64 0, .int .i64 0, .slice none 0 0, .int .i64 0, .int .i64 0, .int .i64 0, .int .i64 0, .int .i64 0, .int .i64 0, .slice none 0 0] 37)).ext hx1)
  have BO := Lib.hid ((Blk.new ((w.alloc (.cells #[.int .i64 wide, .int .i64 deep, .slice p cells.length cap, .int .i64 free, .int .i64 step, .int .i64 price, .int .i64 capp, .int .i64 clock, .int .i64 bank, .slice q vs.length c2] 29)).alloc (.cells #[.int .i64 0, .int .i64 0, .slice none 0 0, .int .i64 0, .int .i64 0, .int .i64 0, .int .i64 0, .int .i64 0, .int .i64 0, .slice none 0 0] 37)) 37 #[.int .i64 0, .int .i64 0, .slice none 0 0, .int .i64 0, .int .i64 0, .int .i64 0, .int .i64 0, .int .i64 0, .int .i64 0, .slice none 0 0]).ext hx1)
  simp only [World.size_alloc] at BR BO
  have ha2 : w.heap.size + 2 < w1.heap.size := Nat.lt_of_lt_of_le (by simp) hx1.sz
  have HO1 := Lib.hid (show w1.ownsRow (w.heap.size + 3) TI 1 (.slice p1 cells.length c1) cells.length (ivs cells) by simpa using ho1)
  have HX1 := Lib.hid (((((Ext.refl w).alloc _).alloc _).alloc _).trans hx1)
  clear ho1 hx1
  have a3 : w1.cell? ⟨w.heap.size, 3, none⟩ = some (.int .i64 free) := BA.out.cell 3
  have a4 : w1.cell? ⟨w.heap.size, 4, none⟩ = some (.int .i64 step) := BA.out.cell 4
  have a5 : w1.cell? ⟨w.heap.size, 5, none⟩ = some (.int .i64 price) := BA.out.cell 5
  have a6 : w1.cell? ⟨w.heap.size, 6, none⟩ = some (.int .i64 capp) := BA.out.cell 6
  have o0 : w1.cell? ⟨w.heap.size + 1 + 1, 0, none⟩ = some (.int .i64 0) := BO.out.cell 0
  have o1 : w1.cell? ⟨w.heap.size + 1 + 1, 1, none⟩ = some (.int .i64 0) := BO.out.cell 1
  have o2 : w1.cell? ⟨w.heap.size + 1 + 1, 2, none⟩ = some (.slice none 0 0) := BO.out.cell 2
  have of0 : w1.frozen? ⟨w.heap.size + 1 + 1, 0, none⟩ = false := BO.out.frozen 0
  have of1 : w1.frozen? ⟨w.heap.size + 1 + 1, 1, none⟩ = false := BO.out.frozen 1
  have of2 : w1.frozen? ⟨w.heap.size + 1 + 1, 2, none⟩ = false := BO.out.frozen 2
  go_wp2_with fail
  clear a3 a4 a5 a6 o0 o1 o2 of0 of1 of2
  refine (toTariff_any free step price capp _).mono ?_
  rintro e w2 ⟨rfl, hx2⟩
  have BO2 := Lib.hid (show Blk w2 (w.heap.size + 1 + 1) 37 #[.int .i64 wide, .int .i64 deep, .slice p1 cells.length c1, .int .i64 0, .int .i64 0, .int .i64 0, .int .i64 0, .int .i64 0, .int .i64 0, .slice none 0 0] by have hb := (((BO.out.set 0 (.int .i64 wide)).set 1 (.int .i64 deep)).set 2 (.slice p1 cells.length c1)).ext hx2; simpa only [List.setIfInBounds_toArray, List.set_cons_zero, List.set_cons_succ] using hb)
  have BA2 := Lib.hid ((((BA.out.far (p := ⟨w.heap.size + 1 + 1, 0, none⟩) (by dsimp only; omega) (.int .i64 wide)).far (p := ⟨w.heap.size + 1 + 1, 1, none⟩) (by dsimp only; omega) (.int .i64 deep)).far (p := ⟨w.heap.size + 1 + 1, 2, none⟩) (by dsimp only; omega) (.slice p1 cells.length c1)).ext hx2)
  have BR2 := Lib.hid ((((BR.out.far (p := ⟨w.heap.size + 1 + 1, 0, none⟩) (by dsimp only; omega) (.int .i64 wide)).far (p := ⟨w.heap.size + 1 + 1, 1, none⟩) (by dsimp only; omega) (.int .i64 deep)).far (p := ⟨w.heap.size + 1 + 1, 2, none⟩) (by dsimp only; omega) (.slice p1 cells.length c1)).ext hx2)
  have hs2 := hx2.sz
  simp only [World.size_setCell] at hs2
  have HO2 := Lib.hid (own_ext (own_set (own_set (own_set HO1.out (by dsimp only; omega) _) (by dsimp only; omega) _) (by dsimp only; omega) _) hx2)
  have HX2 := Lib.hid ((((HX1.out.setCell (p := ⟨w.heap.size + 1 + 1, 0, none⟩) (by dsimp only; omega) (.int .i64 wide)).setCell (p := ⟨w.heap.size + 1 + 1, 1, none⟩) (by dsimp only; omega) (.int .i64 deep)).setCell (p := ⟨w.heap.size + 1 + 1, 2, none⟩) (by dsimp only; omega) (.slice p1 cells.length c1)).trans hx2)
  clear hx2 BO BA BR HO1 HX1
  have a7 : w2.cell? ⟨w.heap.size, 7, none⟩ = some (.int .i64 clock) := BA2.out.cell 7
  have a8 : w2.cell? ⟨w.heap.size, 8, none⟩ = some (.int .i64 bank) := BA2.out.cell 8
  have a9 : w2.cell? ⟨w.heap.size, 9, none⟩ = some (.slice q vs.length c2) := BA2.out.cell 9
  have o3 : w2.cell? ⟨w.heap.size + 1 + 1, 3, none⟩ = some (.int .i64 0) := BO2.out.cell 3
  have o4 : w2.cell? ⟨w.heap.size + 1 + 1, 4, none⟩ = some (.int .i64 0) := BO2.out.cell 4
  have o5 : w2.cell? ⟨w.heap.size + 1 + 1, 5, none⟩ = some (.int .i64 0) := BO2.out.cell 5
  have o6 : w2.cell? ⟨w.heap.size + 1 + 1, 6, none⟩ = some (.int .i64 0) := BO2.out.cell 6
  have o7 : w2.cell? ⟨w.heap.size + 1 + 1, 7, none⟩ = some (.int .i64 0) := BO2.out.cell 7
  have o8 : w2.cell? ⟨w.heap.size + 1 + 1, 8, none⟩ = some (.int .i64 0) := BO2.out.cell 8
  have of3 : w2.frozen? ⟨w.heap.size + 1 + 1, 3, none⟩ = false := BO2.out.frozen 3
  have of4 : w2.frozen? ⟨w.heap.size + 1 + 1, 4, none⟩ = false := BO2.out.frozen 4
  have of5 : w2.frozen? ⟨w.heap.size + 1 + 1, 5, none⟩ = false := BO2.out.frozen 5
  have of6 : w2.frozen? ⟨w.heap.size + 1 + 1, 6, none⟩ = false := BO2.out.frozen 6
  have of7 : w2.frozen? ⟨w.heap.size + 1 + 1, 7, none⟩ = false := BO2.out.frozen 7
  have of8 : w2.frozen? ⟨w.heap.size + 1 + 1, 8, none⟩ = false := BO2.out.frozen 8
  go_wp2_with fail
  clear a7 a8 a9 o3 of3 o4 of4 o5 of5 o6 of6 o7 of7 o8 of8
  refine (toVisitS_any q _ c2 vs _ HM.out (HI.out.vs.ext ((((((HX2.out.setCell (p := ⟨w.heap.size + 1 + 1, 3, none⟩) (by dsimp only; omega) (.int .i64 free)).setCell (p := ⟨w.heap.size + 1 + 1, 4, none⟩) (by dsimp only; omega) (.int .i64 step)).setCell (p := ⟨w.heap.size + 1 + 1, 5, none⟩) (by dsimp only; omega) (.int .i64 price)).setCell (p := ⟨w.heap.size + 1 + 1, 6, none⟩) (by dsimp only; omega) (.int .i64 capp)).setCell (p := ⟨w.heap.size + 1 + 1, 7, none⟩) (by dsimp only; omega) (.int .i64 clock)).setCell (p := ⟨w.heap.size + 1 + 1, 8, none⟩) (by dsimp only; omega) (.int .i64 bank)))).mono ?_
  rintro e w3 ⟨q3, c3, rfl, ho3, hx3⟩
  have BO3 := Lib.hid (show Blk w3 (w.heap.size + 1 + 1) 37 #[.int .i64 wide, .int .i64 deep, .slice p1 cells.length c1, .int .i64 free, .int .i64 step, .int .i64 price, .int .i64 capp, .int .i64 clock, .int .i64 bank, .slice none 0 0] by have hb := ((((((BO2.out.set 3 (.int .i64 free)).set 4 (.int .i64 step)).set 5 (.int .i64 price)).set 6 (.int .i64 capp)).set 7 (.int .i64 clock)).set 8 (.int .i64 bank)).ext hx3; simpa only [List.setIfInBounds_toArray, List.set_cons_zero, List.set_cons_succ] using hb)
  have BR3 := Lib.hid (((((((BR2.out.far (p := ⟨w.heap.size + 1 + 1, 3, none⟩) (by dsimp only; omega) (.int .i64 free)).far (p := ⟨w.heap.size + 1 + 1, 4, none⟩) (by dsimp only; omega) (.int .i64 step)).far (p := ⟨w.heap.size + 1 + 1, 5, none⟩) (by dsimp only; omega) (.int .i64 price)).far (p := ⟨w.heap.size + 1 + 1, 6, none⟩) (by dsimp only; omega) (.int .i64 capp)).far (p := ⟨w.heap.size + 1 + 1, 7, none⟩) (by dsimp only; omega) (.int .i64 clock)).far (p := ⟨w.heap.size + 1 + 1, 8, none⟩) (by dsimp only; omega) (.int .i64 bank)).ext hx3)
  have hs3 := hx3.sz
  simp only [World.size_setCell] at hs3
  have HO3 := Lib.hid (own_ext (own_set (own_set (own_set (own_set (own_set (own_set HO2.out (p := ⟨w.heap.size + 1 + 1, 3, none⟩) (by dsimp only; omega) (.int .i64 free)) (p := ⟨w.heap.size + 1 + 1, 4, none⟩) (by dsimp only; omega) (.int .i64 step)) (p := ⟨w.heap.size + 1 + 1, 5, none⟩) (by dsimp only; omega) (.int .i64 price)) (p := ⟨w.heap.size + 1 + 1, 6, none⟩) (by dsimp only; omega) (.int .i64 capp)) (p := ⟨w.heap.size + 1 + 1, 7, none⟩) (by dsimp only; omega) (.int .i64 clock)) (p := ⟨w.heap.size + 1 + 1, 8, none⟩) (by dsimp only; omega) (.int .i64 bank)) hx3)
  have HX3 := Lib.hid (((((((HX2.out.setCell (p := ⟨w.heap.size + 1 + 1, 3, none⟩) (by dsimp only; omega) (.int .i64 free)).setCell (p := ⟨w.heap.size + 1 + 1, 4, none⟩) (by dsimp only; omega) (.int .i64 step)).setCell (p := ⟨w.heap.size + 1 + 1, 5, none⟩) (by dsimp only; omega) (.int .i64 price)).setCell (p := ⟨w.heap.size + 1 + 1, 6, none⟩) (by dsimp only; omega) (.int .i64 capp)).setCell (p := ⟨w.heap.size + 1 + 1, 7, none⟩) (by dsimp only; omega) (.int .i64 clock)).setCell (p := ⟨w.heap.size + 1 + 1, 8, none⟩) (by dsimp only; omega) (.int .i64 bank)).trans hx3)
  have HV3 := Lib.hid (own_base ho3 (B' := w.heap.size + 3) (by simp only [World.size_setCell]; omega))
  clear hx3 ho3 BO2 BA2 BR2 HO2 HX2
  have o0 : w3.cell? ⟨w.heap.size + 1 + 1, 0, none⟩ = some (.int .i64 wide) := BO3.out.cell 0
  have o1 : w3.cell? ⟨w.heap.size + 1 + 1, 1, none⟩ = some (.int .i64 deep) := BO3.out.cell 1
  have o2 : w3.cell? ⟨w.heap.size + 1 + 1, 2, none⟩ = some (.slice p1 cells.length c1) := BO3.out.cell 2
  have o3 : w3.cell? ⟨w.heap.size + 1 + 1, 3, none⟩ = some (.int .i64 free) := BO3.out.cell 3
  have o4 : w3.cell? ⟨w.heap.size + 1 + 1, 4, none⟩ = some (.int .i64 step) := BO3.out.cell 4
  have o5 : w3.cell? ⟨w.heap.size + 1 + 1, 5, none⟩ = some (.int .i64 price) := BO3.out.cell 5
  have o6 : w3.cell? ⟨w.heap.size + 1 + 1, 6, none⟩ = some (.int .i64 capp) := BO3.out.cell 6
  have o7 : w3.cell? ⟨w.heap.size + 1 + 1, 7, none⟩ = some (.int .i64 clock) := BO3.out.cell 7
  have o8 : w3.cell? ⟨w.heap.size + 1 + 1, 8, none⟩ = some (.int .i64 bank) := BO3.out.cell 8
  have o9 : w3.cell? ⟨w.heap.size + 1 + 1, 9, none⟩ = some (.slice none 0 0) := BO3.out.cell 9
  have of9 : w3.frozen? ⟨w.heap.size + 1 + 1, 9, none⟩ = false := BO3.out.frozen 9
  have r0 : w3.cell? ⟨w.heap.size + 1, 0, none⟩ = some (.int .i64 0) := BR3.out.cell 0
  have r1 : w3.cell? ⟨w.heap.size + 1, 1, none⟩ = some (.int .i64 0) := BR3.out.cell 1
  have r2 : w3.cell? ⟨w.heap.size + 1, 2, none⟩ = some (.slice none 0 0) := BR3.out.cell 2
  have r3 : w3.cell? ⟨w.heap.size + 1, 3, none⟩ = some (.int .i64 0) := BR3.out.cell 3
  have r4 : w3.cell? ⟨w.heap.size + 1, 4, none⟩ = some (.int .i64 0) := BR3.out.cell 4
  have r5 : w3.cell? ⟨w.heap.size + 1, 5, none⟩ = some (.int .i64 0) := BR3.out.cell 5
  have r6 : w3.cell? ⟨w.heap.size + 1, 6, none⟩ = some (.int .i64 0) := BR3.out.cell 6
  have r7 : w3.cell? ⟨w.heap.size + 1, 7, none⟩ = some (.int .i64 0) := BR3.out.cell 7
  have r8 : w3.cell? ⟨w.heap.size + 1, 8, none⟩ = some (.int .i64 0) := BR3.out.cell 8
  have r9 : w3.cell? ⟨w.heap.size + 1, 9, none⟩ = some (.slice none 0 0) := BR3.out.cell 9
  have rf0 : w3.frozen? ⟨w.heap.size + 1, 0, none⟩ = false := BR3.out.frozen 0
  have rf1 : w3.frozen? ⟨w.heap.size + 1, 1, none⟩ = false := BR3.out.frozen 1
  have rf2 : w3.frozen? ⟨w.heap.size + 1, 2, none⟩ = false := BR3.out.frozen 2
  have rf3 : w3.frozen? ⟨w.heap.size + 1, 3, none⟩ = false := BR3.out.frozen 3
  have rf4 : w3.frozen? ⟨w.heap.size + 1, 4, none⟩ = false := BR3.out.frozen 4
  have rf5 : w3.frozen? ⟨w.heap.size + 1, 5, none⟩ = false := BR3.out.frozen 5
  have rf6 : w3.frozen? ⟨w.heap.size + 1, 6, none⟩ = false := BR3.out.frozen 6
  have rf7 : w3.frozen? ⟨w.heap.size + 1, 7, none⟩ = false := BR3.out.frozen 7
  have rf8 : w3.frozen? ⟨w.heap.size + 1, 8, none⟩ = false := BR3.out.frozen 8
  have rf9 : w3.frozen? ⟨w.heap.size + 1, 9, none⟩ = false := BR3.out.frozen 9
  go_wp2
  exact bodyPost_ret (v := .agg #[.int .i64 wide, .int .i64 deep, .slice p1 cells.length c1, .int .i64 free, .int .i64 step, .int .i64 price, .int .i64 capp, .int .i64 clock, .int .i64 bank, .slice q3 vs.length c3]) (by simp [results, Try.results6, go_sem, *]) rfl ⟨p1, c1, q3, c3, rfl, own_base (own_set (own_set (own_set (own_set (own_set (own_set (own_set (own_set (own_set (own_set (own_set HO3.out (p := ⟨w.heap.size + 1 + 1, 9, none⟩) (by dsimp only; omega) (.slice q3 vs.length c3)) (p := ⟨w.heap.size + 1, 0, none⟩) (by dsimp only; omega) (.int .i64 wide)) (p := ⟨w.heap.size + 1, 1, none⟩) (by dsimp only; omega) (.int .i64 deep)) (p := ⟨w.heap.size + 1, 2, none⟩) (by dsimp only; omega) (.slice p1 cells.length c1)) (p := ⟨w.heap.size + 1, 3, none⟩) (by dsimp only; omega) (.int .i64 free)) (p := ⟨w.heap.size + 1, 4, none⟩) (by dsimp only; omega) (.int .i64 step)) (p := ⟨w.heap.size + 1, 5, none⟩) (by dsimp only; omega) (.int .i64 price)) (p := ⟨w.heap.size + 1, 6, none⟩) (by dsimp only; omega) (.int .i64 capp)) (p := ⟨w.heap.size + 1, 7, none⟩) (by dsimp only; omega) (.int .i64 clock)) (p := ⟨w.heap.size + 1, 8, none⟩) (by dsimp only; omega) (.int .i64 bank)) (p := ⟨w.heap.size + 1, 9, none⟩) (by dsimp only; omega) (.slice q3 vs.length c3)) (by omega), own_base (own_set (own_set (own_set (own_set (own_set (own_set (own_set (own_set (own_set (own_set (own_set HV3.out (p := ⟨w.heap.size + 1 + 1, 9, none⟩) (by dsimp only; omega) (.slice q3 vs.length c3)) (p := ⟨w.heap.size + 1, 0, none⟩) (by dsimp only; omega) (.int .i64 wide)) (p := ⟨w.heap.size + 1, 1, none⟩) (by dsimp only; omega) (.int .i64 deep)) (p := ⟨w.heap.size + 1, 2, none⟩) (by dsimp only; omega) (.slice p1 cells.length c1)) (p := ⟨w.heap.size + 1, 3, none⟩) (by dsimp only; omega) (.int .i64 free)) (p := ⟨w.heap.size + 1, 4, none⟩) (by dsimp only; omega) (.int .i64 step)) (p := ⟨w.heap.size + 1, 5, none⟩) (by dsimp only; omega) (.int .i64 price)) (p := ⟨w.heap.size + 1, 6, none⟩) (by dsimp only; omega) (.int .i64 capp)) (p := ⟨w.heap.size + 1, 7, none⟩) (by dsimp only; omega) (.int .i64 clock)) (p := ⟨w.heap.size + 1, 8, none⟩) (by dsimp only; omega) (.int .i64 bank)) (p := ⟨w.heap.size + 1, 9, none⟩) (by dsimp only; omega) (.slice q3 vs.length c3)) (by omega), (((((((((((HX3.out.setCell (p := ⟨w.heap.size + 1 + 1, 9, none⟩) (by dsimp only; omega) (.slice q3 vs.length c3)).setCell (p := ⟨w.heap.size + 1, 0, none⟩) (by dsimp only; omega) (.int .i64 wide)).setCell (p := ⟨w.heap.size + 1, 1, none⟩) (by dsimp only; omega) (.int .i64 deep)).setCell (p := ⟨w.heap.size + 1, 2, none⟩) (by dsimp only; omega) (.slice p1 cells.length c1)).setCell (p := ⟨w.heap.size + 1, 3, none⟩) (by dsimp only; omega) (.int .i64 free)).setCell (p := ⟨w.heap.size + 1, 4, none⟩) (by dsimp only; omega) (.int .i64 step)).setCell (p := ⟨w.heap.size + 1, 5, none⟩) (by dsimp only; omega) (.int .i64 price)).setCell (p := ⟨w.heap.size + 1, 6, none⟩) (by dsimp only; omega) (.int .i64 capp)).setCell (p := ⟨w.heap.size + 1, 7, none⟩) (by dsimp only; omega) (.int .i64 clock)).setCell (p := ⟨w.heap.size + 1, 8, none⟩) (by dsimp only; omega) (.int .i64 bank)).setCell (p := ⟨w.heap.size + 1, 9, none⟩) (by dsimp only; omega) (.slice q3 vs.length c3))⟩
end Go.Proofs.Ythhcpcjmolbkdaa
