/-
  The walk of the law FnExactReadSave.
-/
import Derived.Test.YteejdnmmpmcmeaaGreatDoorRh9
import Derived.Test.YteejdnmmpmcmeaaGreatDoorQ4
import Derived.Test.YteejdnmmpmcmeaaGreatDoorEnv
/- @merged -/
namespace Go.Proofs.YteejdnmmpmcmeaaGreatDoor
open Go.RowKit
set_option linter.unusedVariables false
set_option linter.unusedSimpArgs false
open Go.ChangeShapes Go.WideShapes Go.ChangeAt Go.RowKit Go.Deep
set_option maxRecDepth 100000 in
set_option maxHeartbeats 1000000 in
theorem exReadSave_o (s : ByteArray) (r : HouseD) (b : Bool) (en : Int) (w : World) (hE : Env w) (hs : s.size ≤ 1048576) (hR : r.cells.length ≤ 1000) (hV : r.vs.length ≤ 1000)
    (HSp : Hid (∀ w, Calls Tryz.prog 43 #[.string s] w (RetHNB r en b w)))
    (HIm : Hid (∀ w, Env w → Calls Tryz.prog 44 #[.string s] w (RetHNB r en b w))) :
    Calls Tryz.prog 9 #[.string s] w fun e w' => e = .returned (.bool true) ∧ Ext w w' := by
  go_enter Tryz.func9, Tryz.ntmps9
  have HE0 := Lib.hid hE
  have X_0 : Ext w w := Ext.refl w
  go_wp2_with fail
  refine (HSp.out _).mono ?_
  rintro e w1 ⟨p1, c1, q1, d1, rfl, o1, v1, hx1⟩
  have z_1 : w.heap.size ≤ w1.heap.size := by have := hx1.sz; (try simp at this); omega
  have hy1 : Ext w w1 := by (repeat' (first | exact Ext.refl _ | (with_reducible assumption) | (with_reducible refine Ext.alloc ?_ _) | (with_reducible refine Ext.setCell ?_ (by first | exact Nat.le_refl _ | (dsimp only; omega) | (simp; done) | (simp; omega)) _) | (with_reducible refine Ext.drew ?_) | (with_reducible refine Ext.drewN ?_ _) | (refine Ext.trans ?_ (by with_reducible assumption))))
  clear hy1
  have WC_1 := Lib.hid (OwnT.of o1)
  have WV_1 := Lib.hid (OwnT.of v1)
  have X_1 : Ext w w1 := by (repeat' (first | exact Ext.refl _ | (with_reducible assumption) | (with_reducible refine Ext.alloc ?_ _) | (with_reducible refine Ext.setCell ?_ (by first | exact Nat.le_refl _ | (dsimp only; omega) | (simp; done) | (simp; omega)) _) | (with_reducible refine Ext.drew ?_) | (with_reducible refine Ext.drewN ?_ _) | (refine Ext.trans ?_ (by with_reducible assumption))))
  clear hx1 o1 v1
  go_wp2_with fail
  refine (HIm.out _ (HE0.out.ext (by (repeat' (first | exact Ext.refl _ | (with_reducible assumption) | (with_reducible refine Ext.alloc ?_ _) | (with_reducible refine Ext.setCell ?_ (by first | exact Nat.le_refl _ | (dsimp only; omega) | (simp; done) | (simp; omega)) _) | (with_reducible refine Ext.drew ?_) | (with_reducible refine Ext.drewN ?_ _) | (refine Ext.trans ?_ (by with_reducible assumption))))))).mono ?_
  rintro e w2 ⟨p2, c2, q2, d2, rfl, o2, v2, hx2⟩
  have z_2 : w1.heap.size ≤ w2.heap.size := by have := hx2.sz; (try simp at this); omega
  have hy2 : Ext w1 w2 := by (repeat' (first | exact Ext.refl _ | (with_reducible assumption) | (with_reducible refine Ext.alloc ?_ _) | (with_reducible refine Ext.setCell ?_ (by first | exact Nat.le_refl _ | (dsimp only; omega) | (simp; done) | (simp; omega)) _) | (with_reducible refine Ext.drew ?_) | (with_reducible refine Ext.drewN ?_ _) | (refine Ext.trans ?_ (by with_reducible assumption))))
  have WC_2 := Lib.hid (WC_1.out.ext hy2)
  have WV_2 := Lib.hid (WV_1.out.ext hy2)
  clear WC_1 WV_1
  clear hy2
  have BW_2 := Lib.hid ((Blk.new w1 30 #[.int .i64 r.wide, .int .i64 r.deep, .slice p1 r.cells.length c1, .int .i64 r.free, .int .i64 r.step, .int .i64 r.price, .int .i64 r.capp, .int .i64 r.clock, .int .i64 r.bank, .slice q1 r.vs.length d1]).ext hx2)
  replace z_2 : w1.heap.size + 1 ≤ w2.heap.size := by have := hx2.sz; simp at this; omega
  have GC_2 := Lib.hid (OwnT.of (own_base o2 (show w1.heap.size + 1 ≤ _ by simp)))
  have GV_2 := Lib.hid (OwnT.of (own_base v2 (show w1.heap.size + 1 ≤ _ by simp)))
  have X_2 : Ext w w2 := by (repeat' (first | exact Ext.refl _ | (with_reducible assumption) | (with_reducible refine Ext.alloc ?_ _) | (with_reducible refine Ext.setCell ?_ (by first | exact Nat.le_refl _ | (dsimp only; omega) | (simp; done) | (simp; omega)) _) | (with_reducible refine Ext.drew ?_) | (with_reducible refine Ext.drewN ?_ _) | (refine Ext.trans ?_ (by with_reducible assumption))))
  clear hx2 o2 v2
  have y_2 : w1.heap.size < w2.heap.size := by omega
  have b0 : w2.cell? ⟨w1.heap.size, 0, none⟩ = some (.int .i64 r.wide) := BW_2.out.cell 0
  have b1 : w2.cell? ⟨w1.heap.size, 1, none⟩ = some (.int .i64 r.deep) := BW_2.out.cell 1
  have b2 : w2.cell? ⟨w1.heap.size, 2, none⟩ = some (.slice p1 r.cells.length c1) := BW_2.out.cell 2
  have b3 : w2.cell? ⟨w1.heap.size, 3, none⟩ = some (.int .i64 r.free) := BW_2.out.cell 3
  have b4 : w2.cell? ⟨w1.heap.size, 4, none⟩ = some (.int .i64 r.step) := BW_2.out.cell 4
  have b5 : w2.cell? ⟨w1.heap.size, 5, none⟩ = some (.int .i64 r.price) := BW_2.out.cell 5
  have b6 : w2.cell? ⟨w1.heap.size, 6, none⟩ = some (.int .i64 r.capp) := BW_2.out.cell 6
  have b7 : w2.cell? ⟨w1.heap.size, 7, none⟩ = some (.int .i64 r.clock) := BW_2.out.cell 7
  have b8 : w2.cell? ⟨w1.heap.size, 8, none⟩ = some (.int .i64 r.bank) := BW_2.out.cell 8
  have b9 : w2.cell? ⟨w1.heap.size, 9, none⟩ = some (.slice q1 r.vs.length d1) := BW_2.out.cell 9
  go_wp2_with fail
  clear b0 b1 b2 b3 b4 b5 b6 b7 b8 b9
  refine (eqHouse_any r p2 r.cells.length c2 q2 r.vs.length d2 p1 c1 q1 d1 _ (IsHouse.ext ⟨GC_2.out.sl, GV_2.out.sl⟩ (by (repeat' (first | exact Ext.refl _ | (with_reducible assumption) | (with_reducible refine Ext.alloc ?_ _) | (with_reducible refine Ext.setCell ?_ (by first | exact Nat.le_refl _ | (dsimp only; omega) | (simp; done) | (simp; omega)) _) | (with_reducible refine Ext.drew ?_) | (with_reducible refine Ext.drewN ?_ _) | (refine Ext.trans ?_ (by with_reducible assumption)))))) (IsHouse.ext ⟨WC_2.out.sl, WV_2.out.sl⟩ (by (repeat' (first | exact Ext.refl _ | (with_reducible assumption) | (with_reducible refine Ext.alloc ?_ _) | (with_reducible refine Ext.setCell ?_ (by first | exact Nat.le_refl _ | (dsimp only; omega) | (simp; done) | (simp; omega)) _) | (with_reducible refine Ext.drew ?_) | (with_reducible refine Ext.drewN ?_ _) | (refine Ext.trans ?_ (by with_reducible assumption))))))).mono ?_
  rintro e w3 ⟨rfl, hx3⟩
  have z_3 : w2.heap.size ≤ w3.heap.size := by have := hx3.sz; (try simp at this); omega
  have hy3 : Ext w2 w3 := by (repeat' (first | exact Ext.refl _ | (with_reducible assumption) | (with_reducible refine Ext.alloc ?_ _) | (with_reducible refine Ext.setCell ?_ (by first | exact Nat.le_refl _ | (dsimp only; omega) | (simp; done) | (simp; omega)) _) | (with_reducible refine Ext.drew ?_) | (with_reducible refine Ext.drewN ?_ _) | (refine Ext.trans ?_ (by with_reducible assumption))))
  have WC_3 := Lib.hid (WC_2.out.ext hy3)
  have WV_3 := Lib.hid (WV_2.out.ext hy3)
  have BW_3 := Lib.hid (BW_2.out.ext hy3)
  have GC_3 := Lib.hid (GC_2.out.ext hy3)
  have GV_3 := Lib.hid (GV_2.out.ext hy3)
  clear WC_2 WV_2 BW_2 GC_2 GV_2
  clear hy3
  have BG_3 := Lib.hid ((Blk.new w2 30 #[.int .i64 r.wide, .int .i64 r.deep, .slice p2 r.cells.length c2, .int .i64 r.free, .int .i64 r.step, .int .i64 r.price, .int .i64 r.capp, .int .i64 r.clock, .int .i64 r.bank, .slice q2 r.vs.length d2]).ext hx3)
  replace z_3 : w2.heap.size + 1 ≤ w3.heap.size := by have := hx3.sz; simp at this; omega
  have X_3 : Ext w w3 := by (repeat' (first | exact Ext.refl _ | (with_reducible assumption) | (with_reducible refine Ext.alloc ?_ _) | (with_reducible refine Ext.setCell ?_ (by first | exact Nat.le_refl _ | (dsimp only; omega) | (simp; done) | (simp; omega)) _) | (with_reducible refine Ext.drew ?_) | (with_reducible refine Ext.drewN ?_ _) | (refine Ext.trans ?_ (by with_reducible assumption))))
  clear hx3
  have g0 : w3.cell? ⟨w2.heap.size, 0, none⟩ = some (.int .i64 r.wide) := BG_3.out.cell 0
  have g1 : w3.cell? ⟨w2.heap.size, 1, none⟩ = some (.int .i64 r.deep) := BG_3.out.cell 1
  have g2 : w3.cell? ⟨w2.heap.size, 2, none⟩ = some (.slice p2 r.cells.length c2) := BG_3.out.cell 2
  have g3 : w3.cell? ⟨w2.heap.size, 3, none⟩ = some (.int .i64 r.free) := BG_3.out.cell 3
  have g4 : w3.cell? ⟨w2.heap.size, 4, none⟩ = some (.int .i64 r.step) := BG_3.out.cell 4
  have g5 : w3.cell? ⟨w2.heap.size, 5, none⟩ = some (.int .i64 r.price) := BG_3.out.cell 5
  have g6 : w3.cell? ⟨w2.heap.size, 6, none⟩ = some (.int .i64 r.capp) := BG_3.out.cell 6
  have g7 : w3.cell? ⟨w2.heap.size, 7, none⟩ = some (.int .i64 r.clock) := BG_3.out.cell 7
  have g8 : w3.cell? ⟨w2.heap.size, 8, none⟩ = some (.int .i64 r.bank) := BG_3.out.cell 8
  have g9 : w3.cell? ⟨w2.heap.size, 9, none⟩ = some (.slice q2 r.vs.length d2) := BG_3.out.cell 9
  go_wp2_with fail
  clear g0 g1 g2 g3 g4 g5 g6 g7 g8 g9
  refine (markHouse r (w1.heap.size + 1) w2.heap.size r.cells.length c2 r.vs.length d2 p2 q2 1 _ _ _ GC_3.out GV_3.out (by omega) (by omega) (by omega) (by omega)).mono ?_
  rintro e w4 ⟨rfl, hm1, hm2, hc4⟩
  have z_4 : w3.heap.size ≤ w4.heap.size := hc4.size
  have WC_4 := Lib.hid (WC_3.out.chg hc4 (by omega))
  have WV_4 := Lib.hid (WV_3.out.chg hc4 (by omega))
  have BW_4 := Lib.hid (BW_3.out.chg hc4 (by omega))
  have GC_4 := Lib.hid hm1
  have GV_4 := Lib.hid hm2
  have BG_4 := Lib.hid (BG_3.out.chg hc4 (by omega))
  clear WC_3 WV_3 BW_3 GC_3 GV_3 BG_3
  have X_4 : Ext w w4 := Chg.ext X_3 hc4 (by omega)
  clear hc4 hm1 hm2
  have kk : (0 : Int) ≤ 1 + (r.cells.length : Nat) + (r.vs.length * 4 : Nat) := by omega
  have g0 : w4.cell? ⟨w2.heap.size, 0, none⟩ = some (.int .i64 r.wide) := BG_4.out.cell 0
  have g1 : w4.cell? ⟨w2.heap.size, 1, none⟩ = some (.int .i64 r.deep) := BG_4.out.cell 1
  have g2 : w4.cell? ⟨w2.heap.size, 2, none⟩ = some (.slice p2 r.cells.length c2) := BG_4.out.cell 2
  have g3 : w4.cell? ⟨w2.heap.size, 3, none⟩ = some (.int .i64 r.free) := BG_4.out.cell 3
  have g4 : w4.cell? ⟨w2.heap.size, 4, none⟩ = some (.int .i64 r.step) := BG_4.out.cell 4
  have g5 : w4.cell? ⟨w2.heap.size, 5, none⟩ = some (.int .i64 r.price) := BG_4.out.cell 5
  have g6 : w4.cell? ⟨w2.heap.size, 6, none⟩ = some (.int .i64 r.capp) := BG_4.out.cell 6
  have g7 : w4.cell? ⟨w2.heap.size, 7, none⟩ = some (.int .i64 r.clock) := BG_4.out.cell 7
  have g8 : w4.cell? ⟨w2.heap.size, 8, none⟩ = some (.int .i64 r.bank) := BG_4.out.cell 8
  have g9 : w4.cell? ⟨w2.heap.size, 9, none⟩ = some (.slice q2 r.vs.length d2) := BG_4.out.cell 9
  go_wp2_with fail
  clear g0 g1 g2 g3 g4 g5 g6 g7 g8 g9
  refine (heldHouse r (w1.heap.size + 1) w2.heap.size r.cells.length c2 r.vs.length d2 p2 q2 1 _ GC_4.out GV_4.out (by omega) (by omega) (by omega) (by omega)).mono ?_
  rintro e w5 ⟨rfl, hx5⟩
  have z_5 : w4.heap.size ≤ w5.heap.size := by have := hx5.sz; (try simp at this); omega
  have hy5 : Ext w4 w5 := by (repeat' (first | exact Ext.refl _ | (with_reducible assumption) | (with_reducible refine Ext.alloc ?_ _) | (with_reducible refine Ext.setCell ?_ (by first | exact Nat.le_refl _ | (dsimp only; omega) | (simp; done) | (simp; omega)) _) | (with_reducible refine Ext.drew ?_) | (with_reducible refine Ext.drewN ?_ _) | (refine Ext.trans ?_ (by with_reducible assumption))))
  have WC_5 := Lib.hid (WC_4.out.ext hy5)
  have WV_5 := Lib.hid (WV_4.out.ext hy5)
  have BW_5 := Lib.hid (BW_4.out.ext hy5)
  have GC_5 := Lib.hid (GC_4.out.ext hy5)
  have GV_5 := Lib.hid (GV_4.out.ext hy5)
  have BG_5 := Lib.hid (BG_4.out.ext hy5)
  clear WC_4 WV_4 BW_4 GC_4 GV_4 BG_4
  clear hy5
  have X_5 : Ext w w5 := by (repeat' (first | exact Ext.refl _ | (with_reducible assumption) | (with_reducible refine Ext.alloc ?_ _) | (with_reducible refine Ext.setCell ?_ (by first | exact Nat.le_refl _ | (dsimp only; omega) | (simp; done) | (simp; omega)) _) | (with_reducible refine Ext.drew ?_) | (with_reducible refine Ext.drewN ?_ _) | (refine Ext.trans ?_ (by with_reducible assumption))))
  clear hx5
  go_wp2_with fail
  refine (HIm.out _ (HE0.out.ext (by (repeat' (first | exact Ext.refl _ | (with_reducible assumption) | (with_reducible refine Ext.alloc ?_ _) | (with_reducible refine Ext.setCell ?_ (by first | exact Nat.le_refl _ | (dsimp only; omega) | (simp; done) | (simp; omega)) _) | (with_reducible refine Ext.drew ?_) | (with_reducible refine Ext.drewN ?_ _) | (refine Ext.trans ?_ (by with_reducible assumption))))))).mono ?_
  rintro e w6 ⟨p9, c9, q9, d9, rfl, o9, v9, hx6⟩
  have z_6 : w5.heap.size ≤ w6.heap.size := by have := hx6.sz; (try simp at this); omega
  have hy6 : Ext w5 w6 := by (repeat' (first | exact Ext.refl _ | (with_reducible assumption) | (with_reducible refine Ext.alloc ?_ _) | (with_reducible refine Ext.setCell ?_ (by first | exact Nat.le_refl _ | (dsimp only; omega) | (simp; done) | (simp; omega)) _) | (with_reducible refine Ext.drew ?_) | (with_reducible refine Ext.drewN ?_ _) | (refine Ext.trans ?_ (by with_reducible assumption))))
  have WC_6 := Lib.hid (WC_5.out.ext hy6)
  have WV_6 := Lib.hid (WV_5.out.ext hy6)
  have BW_6 := Lib.hid (BW_5.out.ext hy6)
  have GC_6 := Lib.hid (GC_5.out.ext hy6)
  have GV_6 := Lib.hid (GV_5.out.ext hy6)
  have BG_6 := Lib.hid (BG_5.out.ext hy6)
  clear WC_5 WV_5 BW_5 GC_5 GV_5 BG_5
  clear hy6
  have HC_6 := Lib.hid (OwnT.of o9)
  have HV_6 := Lib.hid (OwnT.of v9)
  have X_6 : Ext w w6 := by (repeat' (first | exact Ext.refl _ | (with_reducible assumption) | (with_reducible refine Ext.alloc ?_ _) | (with_reducible refine Ext.setCell ?_ (by first | exact Nat.le_refl _ | (dsimp only; omega) | (simp; done) | (simp; omega)) _) | (with_reducible refine Ext.drew ?_) | (with_reducible refine Ext.drewN ?_ _) | (refine Ext.trans ?_ (by with_reducible assumption))))
  clear hx6 o9 v9
  have y_9 : w1.heap.size < w6.heap.size := by omega
  have y_10 : w2.heap.size < w6.heap.size := by omega
  have b0 : w6.cell? ⟨w1.heap.size, 0, none⟩ = some (.int .i64 r.wide) := BW_6.out.cell 0
  have b1 : w6.cell? ⟨w1.heap.size, 1, none⟩ = some (.int .i64 r.deep) := BW_6.out.cell 1
  have b2 : w6.cell? ⟨w1.heap.size, 2, none⟩ = some (.slice p1 r.cells.length c1) := BW_6.out.cell 2
  have b3 : w6.cell? ⟨w1.heap.size, 3, none⟩ = some (.int .i64 r.free) := BW_6.out.cell 3
  have b4 : w6.cell? ⟨w1.heap.size, 4, none⟩ = some (.int .i64 r.step) := BW_6.out.cell 4
  have b5 : w6.cell? ⟨w1.heap.size, 5, none⟩ = some (.int .i64 r.price) := BW_6.out.cell 5
  have b6 : w6.cell? ⟨w1.heap.size, 6, none⟩ = some (.int .i64 r.capp) := BW_6.out.cell 6
  have b7 : w6.cell? ⟨w1.heap.size, 7, none⟩ = some (.int .i64 r.clock) := BW_6.out.cell 7
  have b8 : w6.cell? ⟨w1.heap.size, 8, none⟩ = some (.int .i64 r.bank) := BW_6.out.cell 8
  have b9 : w6.cell? ⟨w1.heap.size, 9, none⟩ = some (.slice q1 r.vs.length d1) := BW_6.out.cell 9
  go_wp2_with fail
  clear b0 b1 b2 b3 b4 b5 b6 b7 b8 b9
  refine (eqHouse_any r p9 r.cells.length c9 q9 r.vs.length d9 p1 c1 q1 d1 _ (IsHouse.ext ⟨HC_6.out.sl, HV_6.out.sl⟩ (by (repeat' (first | exact Ext.refl _ | (with_reducible assumption) | (with_reducible refine Ext.alloc ?_ _) | (with_reducible refine Ext.setCell ?_ (by first | exact Nat.le_refl _ | (dsimp only; omega) | (simp; done) | (simp; omega)) _) | (with_reducible refine Ext.drew ?_) | (with_reducible refine Ext.drewN ?_ _) | (refine Ext.trans ?_ (by with_reducible assumption)))))) (IsHouse.ext ⟨WC_6.out.sl, WV_6.out.sl⟩ (by (repeat' (first | exact Ext.refl _ | (with_reducible assumption) | (with_reducible refine Ext.alloc ?_ _) | (with_reducible refine Ext.setCell ?_ (by first | exact Nat.le_refl _ | (dsimp only; omega) | (simp; done) | (simp; omega)) _) | (with_reducible refine Ext.drew ?_) | (with_reducible refine Ext.drewN ?_ _) | (refine Ext.trans ?_ (by with_reducible assumption))))))).mono ?_
  rintro e w7 ⟨rfl, hx7⟩
  have z_7 : w6.heap.size ≤ w7.heap.size := by have := hx7.sz; (try simp at this); omega
  have hy7 : Ext w6 w7 := by (repeat' (first | exact Ext.refl _ | (with_reducible assumption) | (with_reducible refine Ext.alloc ?_ _) | (with_reducible refine Ext.setCell ?_ (by first | exact Nat.le_refl _ | (dsimp only; omega) | (simp; done) | (simp; omega)) _) | (with_reducible refine Ext.drew ?_) | (with_reducible refine Ext.drewN ?_ _) | (refine Ext.trans ?_ (by with_reducible assumption))))
  have WC_7 := Lib.hid (WC_6.out.ext hy7)
  have WV_7 := Lib.hid (WV_6.out.ext hy7)
  have BW_7 := Lib.hid (BW_6.out.ext hy7)
  have GC_7 := Lib.hid (GC_6.out.ext hy7)
  have GV_7 := Lib.hid (GV_6.out.ext hy7)
  have BG_7 := Lib.hid (BG_6.out.ext hy7)
  have HC_7 := Lib.hid (HC_6.out.ext hy7)
  have HV_7 := Lib.hid (HV_6.out.ext hy7)
  clear WC_6 WV_6 BW_6 GC_6 GV_6 BG_6 HC_6 HV_6
  clear hy7
  have X_7 : Ext w w7 := by (repeat' (first | exact Ext.refl _ | (with_reducible assumption) | (with_reducible refine Ext.alloc ?_ _) | (with_reducible refine Ext.setCell ?_ (by first | exact Nat.le_refl _ | (dsimp only; omega) | (simp; done) | (simp; omega)) _) | (with_reducible refine Ext.drew ?_) | (with_reducible refine Ext.drewN ?_ _) | (refine Ext.trans ?_ (by with_reducible assumption))))
  clear hx7
  have g0 : w7.cell? ⟨w2.heap.size, 0, none⟩ = some (.int .i64 r.wide) := BG_7.out.cell 0
  have g1 : w7.cell? ⟨w2.heap.size, 1, none⟩ = some (.int .i64 r.deep) := BG_7.out.cell 1
  have g2 : w7.cell? ⟨w2.heap.size, 2, none⟩ = some (.slice p2 r.cells.length c2) := BG_7.out.cell 2
  have g3 : w7.cell? ⟨w2.heap.size, 3, none⟩ = some (.int .i64 r.free) := BG_7.out.cell 3
  have g4 : w7.cell? ⟨w2.heap.size, 4, none⟩ = some (.int .i64 r.step) := BG_7.out.cell 4
  have g5 : w7.cell? ⟨w2.heap.size, 5, none⟩ = some (.int .i64 r.price) := BG_7.out.cell 5
  have g6 : w7.cell? ⟨w2.heap.size, 6, none⟩ = some (.int .i64 r.capp) := BG_7.out.cell 6
  have g7 : w7.cell? ⟨w2.heap.size, 7, none⟩ = some (.int .i64 r.clock) := BG_7.out.cell 7
  have g8 : w7.cell? ⟨w2.heap.size, 8, none⟩ = some (.int .i64 r.bank) := BG_7.out.cell 8
  have g9 : w7.cell? ⟨w2.heap.size, 9, none⟩ = some (.slice q2 r.vs.length d2) := BG_7.out.cell 9
  go_wp2_with fail
  clear g0 g1 g2 g3 g4 g5 g6 g7 g8 g9
  refine (heldHouse r (w1.heap.size + 1) w2.heap.size r.cells.length c2 r.vs.length d2 p2 q2 1 _ GC_7.out GV_7.out (by omega) (by omega) (by omega) (by omega)).mono ?_
  rintro e w8 ⟨rfl, hx8⟩
  have z_8 : w7.heap.size ≤ w8.heap.size := by have := hx8.sz; (try simp at this); omega
  have hy8 : Ext w7 w8 := by (repeat' (first | exact Ext.refl _ | (with_reducible assumption) | (with_reducible refine Ext.alloc ?_ _) | (with_reducible refine Ext.setCell ?_ (by first | exact Nat.le_refl _ | (dsimp only; omega) | (simp; done) | (simp; omega)) _) | (with_reducible refine Ext.drew ?_) | (with_reducible refine Ext.drewN ?_ _) | (refine Ext.trans ?_ (by with_reducible assumption))))
  have WC_8 := Lib.hid (WC_7.out.ext hy8)
  have WV_8 := Lib.hid (WV_7.out.ext hy8)
  have BW_8 := Lib.hid (BW_7.out.ext hy8)
  have GC_8 := Lib.hid (GC_7.out.ext hy8)
  have GV_8 := Lib.hid (GV_7.out.ext hy8)
  have BG_8 := Lib.hid (BG_7.out.ext hy8)
  have HC_8 := Lib.hid (HC_7.out.ext hy8)
  have HV_8 := Lib.hid (HV_7.out.ext hy8)
  clear WC_7 WV_7 BW_7 GC_7 GV_7 BG_7 HC_7 HV_7
  clear hy8
  have X_8 : Ext w w8 := by (repeat' (first | exact Ext.refl _ | (with_reducible assumption) | (with_reducible refine Ext.alloc ?_ _) | (with_reducible refine Ext.setCell ?_ (by first | exact Nat.le_refl _ | (dsimp only; omega) | (simp; done) | (simp; omega)) _) | (with_reducible refine Ext.drew ?_) | (with_reducible refine Ext.drewN ?_ _) | (refine Ext.trans ?_ (by with_reducible assumption))))
  clear hx8
  go_wp2
  go_ret
  exact ⟨rfl, X_8⟩


theorem readSave_small {l : List UInt8} : (((readSave l).map (·.1)).getD houseZero).cells.length ≤ 1000 ∧ (((readSave l).map (·.1)).getD houseZero).vs.length ≤ 1000 := by
  cases h : readSave l with
  | none => simp [houseZero]
  | some x =>
    obtain ⟨x, n⟩ := x
    have hok := (readSave_some h).1
    have hn := house_nums hok
    simp only [Option.map_some, Option.getD_some]
    refine ⟨?_, by omega⟩
    have := (shape_bd (by have := hn.1; simp only [hallOk, Bool.and_eq_true] at this; exact this.1)).2.2.2.2.2.1
    omega
set_option maxRecDepth 100000 in
set_option maxHeartbeats 1000000 in
theorem exReadSave_long (s : ByteArray) (w : World) (hs : 1048576 < s.size) (h2 : s.size ≤ 9223372036854775807) : Calls Tryz.prog 9 #[.string s] w fun e w' => e = .returned (.bool true) ∧ Ext w w' := by
  go_enter Tryz.func9, Tryz.ntmps9
  go_wp2
  go_ret
  exact ⟨rfl, by (repeat' (first | exact Ext.refl _ | (with_reducible assumption) | (with_reducible refine Ext.alloc ?_ _) | (with_reducible refine Ext.setCell ?_ (by first | exact Nat.le_refl _ | (dsimp only; omega) | (simp; done) | (simp; omega)) _) | (with_reducible refine Ext.drew ?_) | (with_reducible refine Ext.drewN ?_ _) | (refine Ext.trans ?_ (by with_reducible assumption))))⟩
theorem walk_FnExactReadSave (s : ByteArray) (hs : s.size ≤ maxLen) (W : World) (hE : Env W) : Calls Tryz.prog 9 #[.string s] W fun e W' => e = .returned (.bool true) ∧ Ext W W' := by
  by_cases h : s.size ≤ 1048576
  · obtain ⟨s1, s2⟩ := readSave_small (l := s.data.toList)
    exact exReadSave_o s _ _ _ W hE h s1 s2 (fun w => specReadSave s.data.toList w (by rw [toList_length]; exact h)) (fun w hE => implReadSave s.data.toList w (by rw [toList_length]; exact h) hE)
  · exact exReadSave_long s W (by omega) (by unfold maxLen at hs; omega)
end Go.Proofs.YteejdnmmpmcmeaaGreatDoor
