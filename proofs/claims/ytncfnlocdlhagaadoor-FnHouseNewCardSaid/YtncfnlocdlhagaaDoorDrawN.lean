/-
  The reference's draws l20Tariff and DrawHouseNew.
-/
import Derived.Test.YtncfnlocdlhagaaDoorRandC
import Derived.Test.YtncfnlocdlhagaaDoorLawH3
namespace Go.Proofs.YtncfnlocdlhagaaDoor
open Go.RowKit
set_option linter.unusedVariables false

def RandTariff (R k : Nat) (w : World) (e : Ending) (w' : World) : Prop := ∃ f s p c : Int, e = .returned (tariffV f s p c) ∧ Rand w' R (k + 7) ∧ ExtR R w w'
theorem Blk.fourf {w : World} {g : Nat} {t : TypeId} {a b c d : Value} (h : Blk w g t #[a, b, c, d]) : w.cell? ⟨g, 0, none⟩ = some a ∧ w.cell? ⟨g, 1, none⟩ = some b ∧ w.cell? ⟨g, 2, none⟩ = some c ∧ w.cell? ⟨g, 3, none⟩ = some d ∧ w.frozen? ⟨g, 0, none⟩ = false ∧ w.frozen? ⟨g, 1, none⟩ = false ∧ w.frozen? ⟨g, 2, none⟩ = false ∧ w.frozen? ⟨g, 3, none⟩ = false :=
  ⟨h.cell 0, h.cell 1, h.cell 2, h.cell 3, h.frozen 0, h.frozen 1, h.frozen 2, h.frozen 3⟩
theorem Blk.two {w : World} {g : Nat} {t : TypeId} {a b : Value} (h : Blk w g t #[a, b]) : w.cell? ⟨g, 0, none⟩ = some a ∧ w.cell? ⟨g, 1, none⟩ = some b := ⟨h.cell 0, h.cell 1⟩

set_option maxRecDepth 100000 in
set_option maxHeartbeats 1000000 in
set_option maxHeartbeats 40000000 in
theorem l20Tariff_any (R k : Nat) (n : Int) (w : World) (hr : Rand w R k) (hk : k ≤ 1099511627700) (hn : 0 ≤ n) (hn2 : n ≤ 1000000) :
    Calls Tryd.prog 69 #[.pointer (some ⟨R, 0, none⟩), .int .i64 n] w (RandTariff R k w) := by
  have hR := hr.lt
  go_enter Tryd.func69, Tryd.ntmps69
  go_wp2_with fail
  refine (pick_any R (k) (4) _ (hr.ext (by (repeat' (first | exact Ext.refl _ | (with_reducible assumption) | (with_reducible refine Ext.alloc ?_ _) | (with_reducible refine Ext.setCell ?_ (by first | exact Nat.le_refl _ | (dsimp only; omega) | (simp; done) | (simp; omega)) _) | (with_reducible refine Ext.drew ?_) | (with_reducible refine Ext.drewN ?_ _) | (refine Ext.trans ?_ (by with_reducible assumption)))))) (by omega)).mono ?_
  rintro e w1 ⟨a, rfl, a0, a1, r1, x1⟩
  replace a1 : a < 4 := by omega
  have B1 : Blk w1 w.heap.size 49 #[.int .i64 0, .int .i64 0, .int .i64 0, .int .i64 0] := x1.blk (Blk.new _ _ _) (by omega)
  go_wp2_with fail
  refine (pick_any R (k + 1) (6) _ (r1) (by omega)).mono ?_
  rintro e w2 ⟨b, rfl, b0, b1, r2, x2⟩
  replace b1 : b < 6 := by omega
  go_wp2_with fail
  refine (pick_any R (k + 2) (9) _ (r2) (by omega)).mono ?_
  rintro e w3 ⟨c, rfl, c0, c1, r3, x3⟩
  replace c1 : c < 9 := by omega
  go_wp2_with fail
  refine (pick_any R (k + 3) (60) _ (r3) (by omega)).mono ?_
  rintro e w4 ⟨d, rfl, d0, d1, r4, x4⟩
  replace d1 : d < 60 := by omega
  have B4 := x4.blk (x3.blk (x2.blk B1 (by omega)) (by omega)) (by omega)
  have X4 : ExtR R w w4 := (((((ExtR.refl R w).alloc _).trans x1).trans x2).trans x3).trans x4
  have s4 := B4.lt
  have hR4 := r4.lt
  clear B1 x1 x2 x3 x4 r1 r2 r3 hr
  go_wp2_with fail
  refine (odd_any R (k + 4) n _ (r4.ext (by (repeat' (first | exact Ext.refl _ | (with_reducible assumption) | (with_reducible refine Ext.alloc ?_ _) | (with_reducible refine Ext.setCell ?_ (by first | exact Nat.le_refl _ | (dsimp only; omega) | (simp; done) | (simp; omega)) _) | (with_reducible refine Ext.drew ?_) | (with_reducible refine Ext.drewN ?_ _) | (refine Ext.trans ?_ (by with_reducible assumption)))))) (by omega) hn hn2).mono ?_
  rintro e w5 ⟨t, rfl, r5, x5⟩
  have B5 := x5.blk (B4.alloc _) (by omega)
  have T5 := x5.blk (Blk.new w4 _ _) (by omega)
  have X5 : ExtR R w w5 := (X4.alloc _).trans x5
  have s5 := T5.lt
  have hR5 := r5.lt
  clear B4 X4 x5 r4
  cases t with
  | false =>
    obtain ⟨p0, p1, p2, p3, p4, p5, p6, p7⟩ := B5.fourf
    obtain ⟨q0, q1, q2, q3, q4, q5, q6, q7⟩ := T5.fourf
    have hne : w4.heap.size ≠ w.heap.size := by omega
    clear B5 T5
    go_wp2
    refine bodyPost_ret (v := tariffV (a * 10) (10 + b * 20) c (10 + d)) (by simp [results, Tryd.results69, go_sem, *]) rfl ⟨_, _, _, _, rfl, ?_, ?_⟩
    · exact Rand.mono (k := k + 4 + 1) (by (repeat' (first | (with_reducible assumption) | (with_reducible refine Rand.alloc ?_ _) | (with_reducible refine Rand.setCell ?_ (by first | exact Nat.le_refl _ | (dsimp only; omega) | (simp; done) | (simp; omega)) _) | (with_reducible refine Rand.drew ?_) | (with_reducible refine Rand.drewN ?_ _) | (refine Rand.ext ?_ (by with_reducible assumption))))) (by omega)
    · (repeat' (first | exact ExtR.refl _ _ | (with_reducible assumption) | (with_reducible refine ExtR.alloc ?_ _) | (with_reducible refine ExtR.setCell ?_ (.inr (by first | exact Nat.le_refl _ | (dsimp only; omega) | (simp; done) | (simp; omega))) _) | (with_reducible refine ExtR.drew ?_) | (with_reducible refine ExtR.drewN ?_ _) | (refine ExtR.trans ?_ (by with_reducible assumption)) | (refine ExtR.ext ?_ (by with_reducible assumption))))
  | true =>
    go_wp2_with fail
    refine (pick_any R (k + 5) (3) _ (r5) (by omega)).mono ?_
    rintro e w6 ⟨u, rfl, u0, u1, r6, x6⟩
    replace u1 : u < 3 := by omega
    have B6 := x6.blk B5 (by omega)
    have T6 := x6.blk T5 (by omega)
    have X6 := Lib.hid (X5.trans x6)
    have s6 := T6.lt
    have hR6 := r6.lt
    clear B5 T5 x6 X5 r5
    have hu : u = 0 ∨ u = 1 ∨ u = 2 := by omega
    clear u0 u1
    rcases hu with rfl | rfl | rfl
    · skip
      go_wp2_with fail
      refine (pick_any R (k + 6) (2) _ (r6.ext (by (repeat' (first | exact Ext.refl _ | (with_reducible assumption) | (with_reducible refine Ext.alloc ?_ _) | (with_reducible refine Ext.setCell ?_ (by first | exact Nat.le_refl _ | (dsimp only; omega) | (simp; done) | (simp; omega)) _) | (with_reducible refine Ext.drew ?_) | (with_reducible refine Ext.drewN ?_ _) | (refine Ext.trans ?_ (by with_reducible assumption)))))) (by omega)).mono ?_
      rintro e w7 ⟨v, rfl, v0, v1, r7, x7⟩
      replace v1 : v < 2 := by omega
      have B7 := x7.blk (B6.alloc _) (by omega)
      have T7 := x7.blk (T6.alloc _) (by omega)
      have S7 := x7.blk (Blk.new w6 _ _) (by omega)
      have X7 := Lib.hid ((X6.out.alloc _).trans x7)
      have s7 := S7.lt
      have hR7 := r7.lt
      obtain ⟨p0, p1, p2, p3, p4, p5, p6, p7⟩ := B7.fourf
      obtain ⟨q0, q1, q2, q3, q4, q5, q6, q7⟩ := T7.fourf
      obtain ⟨g0, g1⟩ := S7.two
      have hne : w4.heap.size ≠ w.heap.size := by omega
      have hne2 : w6.heap.size ≠ w4.heap.size := by omega
      have hne3 : w6.heap.size ≠ w.heap.size := by omega
      clear B6 T6 B7 T7 S7 x7 r6
      have XX := X7.out
      have hv : v = 0 ∨ v = 1 := by omega
      clear v0 v1 X6 X7
      rcases hv with rfl | rfl
      · go_wp2
        refine bodyPost_ret (v := tariffV (a * 10) 0 c (10 + d)) (by simp [results, Tryd.results69, go_sem, *]) rfl ⟨_, _, _, _, rfl, ?_, ?_⟩
        · (repeat' (first | (with_reducible assumption) | (with_reducible refine Rand.alloc ?_ _) | (with_reducible refine Rand.setCell ?_ (by first | exact Nat.le_refl _ | (dsimp only; omega) | (simp; done) | (simp; omega)) _) | (with_reducible refine Rand.drew ?_) | (with_reducible refine Rand.drewN ?_ _) | (refine Rand.ext ?_ (by with_reducible assumption))))
        · (repeat' (first | exact ExtR.refl _ _ | (with_reducible assumption) | (with_reducible refine ExtR.alloc ?_ _) | (with_reducible refine ExtR.setCell ?_ (.inr (by first | exact Nat.le_refl _ | (dsimp only; omega) | (simp; done) | (simp; omega))) _) | (with_reducible refine ExtR.drew ?_) | (with_reducible refine ExtR.drewN ?_ _) | (refine ExtR.trans ?_ (by with_reducible assumption)) | (refine ExtR.ext ?_ (by with_reducible assumption))))
      · go_wp2
        refine bodyPost_ret (v := tariffV (a * 10) 1441 c (10 + d)) (by simp [results, Tryd.results69, go_sem, *]) rfl ⟨_, _, _, _, rfl, ?_, ?_⟩
        · (repeat' (first | (with_reducible assumption) | (with_reducible refine Rand.alloc ?_ _) | (with_reducible refine Rand.setCell ?_ (by first | exact Nat.le_refl _ | (dsimp only; omega) | (simp; done) | (simp; omega)) _) | (with_reducible refine Rand.drew ?_) | (with_reducible refine Rand.drewN ?_ _) | (refine Rand.ext ?_ (by with_reducible assumption))))
        · (repeat' (first | exact ExtR.refl _ _ | (with_reducible assumption) | (with_reducible refine ExtR.alloc ?_ _) | (with_reducible refine ExtR.setCell ?_ (.inr (by first | exact Nat.le_refl _ | (dsimp only; omega) | (simp; done) | (simp; omega))) _) | (with_reducible refine ExtR.drew ?_) | (with_reducible refine ExtR.drewN ?_ _) | (refine ExtR.trans ?_ (by with_reducible assumption)) | (refine ExtR.ext ?_ (by with_reducible assumption))))
    · skip
      go_wp2_with fail
      refine (pick_any R (k + 6) (2) _ (r6.ext (by (repeat' (first | exact Ext.refl _ | (with_reducible assumption) | (with_reducible refine Ext.alloc ?_ _) | (with_reducible refine Ext.setCell ?_ (by first | exact Nat.le_refl _ | (dsimp only; omega) | (simp; done) | (simp; omega)) _) | (with_reducible refine Ext.drew ?_) | (with_reducible refine Ext.drewN ?_ _) | (refine Ext.trans ?_ (by with_reducible assumption)))))) (by omega)).mono ?_
      rintro e w7 ⟨v, rfl, v0, v1, r7, x7⟩
      replace v1 : v < 2 := by omega
      have B7 := x7.blk (B6.alloc _) (by omega)
      have T7 := x7.blk (T6.alloc _) (by omega)
      have S7 := x7.blk (Blk.new w6 _ _) (by omega)
      have X7 := Lib.hid ((X6.out.alloc _).trans x7)
      have s7 := S7.lt
      have hR7 := r7.lt
      obtain ⟨p0, p1, p2, p3, p4, p5, p6, p7⟩ := B7.fourf
      obtain ⟨q0, q1, q2, q3, q4, q5, q6, q7⟩ := T7.fourf
      obtain ⟨g0, g1⟩ := S7.two
      have hne : w4.heap.size ≠ w.heap.size := by omega
      have hne2 : w6.heap.size ≠ w4.heap.size := by omega
      have hne3 : w6.heap.size ≠ w.heap.size := by omega
      clear B6 T6 B7 T7 S7 x7 r6
      have XX := X7.out
      have hv : v = 0 ∨ v = 1 := by omega
      clear v0 v1 X6 X7
      rcases hv with rfl | rfl
      · go_wp2
        refine bodyPost_ret (v := tariffV (-1) (10 + b * 20) c (10 + d)) (by simp [results, Tryd.results69, go_sem, *]) rfl ⟨_, _, _, _, rfl, ?_, ?_⟩
        · (repeat' (first | (with_reducible assumption) | (with_reducible refine Rand.alloc ?_ _) | (with_reducible refine Rand.setCell ?_ (by first | exact Nat.le_refl _ | (dsimp only; omega) | (simp; done) | (simp; omega)) _) | (with_reducible refine Rand.drew ?_) | (with_reducible refine Rand.drewN ?_ _) | (refine Rand.ext ?_ (by with_reducible assumption))))
        · (repeat' (first | exact ExtR.refl _ _ | (with_reducible assumption) | (with_reducible refine ExtR.alloc ?_ _) | (with_reducible refine ExtR.setCell ?_ (.inr (by first | exact Nat.le_refl _ | (dsimp only; omega) | (simp; done) | (simp; omega))) _) | (with_reducible refine ExtR.drew ?_) | (with_reducible refine ExtR.drewN ?_ _) | (refine ExtR.trans ?_ (by with_reducible assumption)) | (refine ExtR.ext ?_ (by with_reducible assumption))))
      · go_wp2
        refine bodyPost_ret (v := tariffV 1440 (10 + b * 20) c (10 + d)) (by simp [results, Tryd.results69, go_sem, *]) rfl ⟨_, _, _, _, rfl, ?_, ?_⟩
        · (repeat' (first | (with_reducible assumption) | (with_reducible refine Rand.alloc ?_ _) | (with_reducible refine Rand.setCell ?_ (by first | exact Nat.le_refl _ | (dsimp only; omega) | (simp; done) | (simp; omega)) _) | (with_reducible refine Rand.drew ?_) | (with_reducible refine Rand.drewN ?_ _) | (refine Rand.ext ?_ (by with_reducible assumption))))
        · (repeat' (first | exact ExtR.refl _ _ | (with_reducible assumption) | (with_reducible refine ExtR.alloc ?_ _) | (with_reducible refine ExtR.setCell ?_ (.inr (by first | exact Nat.le_refl _ | (dsimp only; omega) | (simp; done) | (simp; omega))) _) | (with_reducible refine ExtR.drew ?_) | (with_reducible refine ExtR.drewN ?_ _) | (refine ExtR.trans ?_ (by with_reducible assumption)) | (refine ExtR.ext ?_ (by with_reducible assumption))))
    · skip
      go_wp2_with fail
      refine (pick_any R (k + 6) (2) _ (r6.ext (by (repeat' (first | exact Ext.refl _ | (with_reducible assumption) | (with_reducible refine Ext.alloc ?_ _) | (with_reducible refine Ext.setCell ?_ (by first | exact Nat.le_refl _ | (dsimp only; omega) | (simp; done) | (simp; omega)) _) | (with_reducible refine Ext.drew ?_) | (with_reducible refine Ext.drewN ?_ _) | (refine Ext.trans ?_ (by with_reducible assumption)))))) (by omega)).mono ?_
      rintro e w7 ⟨v, rfl, v0, v1, r7, x7⟩
      replace v1 : v < 2 := by omega
      have B7 := x7.blk (B6.alloc _) (by omega)
      have T7 := x7.blk (T6.alloc _) (by omega)
      have S7 := x7.blk (Blk.new w6 _ _) (by omega)
      have X7 := Lib.hid ((X6.out.alloc _).trans x7)
      have s7 := S7.lt
      have hR7 := r7.lt
      obtain ⟨p0, p1, p2, p3, p4, p5, p6, p7⟩ := B7.fourf
      obtain ⟨q0, q1, q2, q3, q4, q5, q6, q7⟩ := T7.fourf
      obtain ⟨g0, g1⟩ := S7.two
      have hne : w4.heap.size ≠ w.heap.size := by omega
      have hne2 : w6.heap.size ≠ w4.heap.size := by omega
      have hne3 : w6.heap.size ≠ w.heap.size := by omega
      clear B6 T6 B7 T7 S7 x7 r6
      have XX := X7.out
      have hv : v = 0 ∨ v = 1 := by omega
      clear v0 v1 X6 X7
      rcases hv with rfl | rfl
      · go_wp2
        refine bodyPost_ret (v := tariffV (a * 10) (10 + b * 20) c (-1)) (by simp [results, Tryd.results69, go_sem, *]) rfl ⟨_, _, _, _, rfl, ?_, ?_⟩
        · (repeat' (first | (with_reducible assumption) | (with_reducible refine Rand.alloc ?_ _) | (with_reducible refine Rand.setCell ?_ (by first | exact Nat.le_refl _ | (dsimp only; omega) | (simp; done) | (simp; omega)) _) | (with_reducible refine Rand.drew ?_) | (with_reducible refine Rand.drewN ?_ _) | (refine Rand.ext ?_ (by with_reducible assumption))))
        · (repeat' (first | exact ExtR.refl _ _ | (with_reducible assumption) | (with_reducible refine ExtR.alloc ?_ _) | (with_reducible refine ExtR.setCell ?_ (.inr (by first | exact Nat.le_refl _ | (dsimp only; omega) | (simp; done) | (simp; omega))) _) | (with_reducible refine ExtR.drew ?_) | (with_reducible refine ExtR.drewN ?_ _) | (refine ExtR.trans ?_ (by with_reducible assumption)) | (refine ExtR.ext ?_ (by with_reducible assumption))))
      · go_wp2
        refine bodyPost_ret (v := tariffV (a * 10) (10 + b * 20) c 100) (by simp [results, Tryd.results69, go_sem, *]) rfl ⟨_, _, _, _, rfl, ?_, ?_⟩
        · (repeat' (first | (with_reducible assumption) | (with_reducible refine Rand.alloc ?_ _) | (with_reducible refine Rand.setCell ?_ (by first | exact Nat.le_refl _ | (dsimp only; omega) | (simp; done) | (simp; omega)) _) | (with_reducible refine Rand.drew ?_) | (with_reducible refine Rand.drewN ?_ _) | (refine Rand.ext ?_ (by with_reducible assumption))))
        · (repeat' (first | exact ExtR.refl _ _ | (with_reducible assumption) | (with_reducible refine ExtR.alloc ?_ _) | (with_reducible refine ExtR.setCell ?_ (.inr (by first | exact Nat.le_refl _ | (dsimp only; omega) | (simp; done) | (simp; omega))) _) | (with_reducible refine ExtR.drew ?_) | (with_reducible refine ExtR.drewN ?_ _) | (refine ExtR.trans ?_ (by with_reducible assumption)) | (refine ExtR.ext ?_ (by with_reducible assumption))))


def DrewSizes (w : World) (e : Ending) (w' : World) : Prop := ∃ a b f s p c : Int, e = .returned (.tuple #[.int .i64 a, .int .i64 b, tariffV f s p c]) ∧ Ext w w'
set_option maxRecDepth 100000 in
set_option maxHeartbeats 1000000 in
theorem drawHouseNew (v : Value) (w : World) (hc : Code w v) : Calls Tryd.prog 25 #[v] w (DrewSizes w) := by
  go_enter Tryd.func25, Tryd.ntmps25
  go_wp2_with fail
  refine (l20Open_any v _ (hc.ext (by (repeat' (first | exact Ext.refl _ | (with_reducible assumption) | (with_reducible refine Ext.alloc ?_ _) | (with_reducible refine Ext.setCell ?_ (by first | exact Nat.le_refl _ | (dsimp only; omega) | (simp; done) | (simp; omega)) _) | (with_reducible refine Ext.drew ?_) | (with_reducible refine Ext.drewN ?_ _) | (refine Ext.trans ?_ (by with_reducible assumption))))))).mono ?_
  rintro e w1 ⟨R, rfl, hR, r1, x1⟩
  have hR0 : w.heap.size < R := Nat.lt_of_lt_of_le (by simp) hR
  have B1 : Blk w1 w.heap.size 49 #[.int .i64 0, .int .i64 0, .int .i64 0, .int .i64 0] := (Blk.new _ _ _).ext x1
  have X1 : Ext w w1 := by (repeat' (first | exact Ext.refl _ | (with_reducible assumption) | (with_reducible refine Ext.alloc ?_ _) | (with_reducible refine Ext.setCell ?_ (by first | exact Nat.le_refl _ | (dsimp only; omega) | (simp; done) | (simp; omega)) _) | (with_reducible refine Ext.drew ?_) | (with_reducible refine Ext.drewN ?_ _) | (refine Ext.trans ?_ (by with_reducible assumption))))
  clear x1
  go_wp2_with fail
  refine (pick_any R (0) (6) _ (r1) (by omega)).mono ?_
  rintro e w2 ⟨a, rfl, a0, a1, r2, x2⟩
  replace a1 : a < 6 := by omega
  go_wp2_with fail
  refine (pick_any R (1) (5) _ (r2) (by omega)).mono ?_
  rintro e w3 ⟨b, rfl, b0, b1, r3, x3⟩
  replace b1 : b < 5 := by omega
  go_wp2_with fail
  refine (l20Tariff_any R 2 9 _ r3 (by omega) (by omega) (by omega)).mono ?_
  rintro e w4 ⟨f, s, p, c, rfl, r4, x4⟩
  have B4 := x4.blk (x3.blk (x2.blk B1 (by omega)) (by omega)) (by omega)
  have X4 : Ext w w4 := ExtR.new X1 ((x2.trans x3).trans x4) (by omega)
  have s4 := B4.lt
  obtain ⟨p0, p1, p2, p3, p4, p5, p6, p7⟩ := B4.fourf
  clear B1 B4 x2 x3 x4
  go_wp2
  refine bodyPost_ret (v := .tuple #[.int .i64 a, .int .i64 b, tariffV f s p c]) (by simp [results, Tryd.results25, go_sem, *]) rfl ⟨a, b, f, s, p, c, rfl, ?_⟩
  (repeat' (first | exact Ext.refl _ | (with_reducible assumption) | (with_reducible refine Ext.alloc ?_ _) | (with_reducible refine Ext.setCell ?_ (by first | exact Nat.le_refl _ | (dsimp only; omega) | (simp; done) | (simp; omega)) _) | (with_reducible refine Ext.drew ?_) | (with_reducible refine Ext.drewN ?_ _) | (refine Ext.trans ?_ (by with_reducible assumption))))
end Go.Proofs.YtncfnlocdlhagaaDoor
