/-
  The reference's draw for the law FnEntryText: a number and a deed.
-/
import Derived.Test.YtgojmmhfablapaaDoorDrawB
namespace Go.Proofs.YtgojmmhfablapaaDoor
open Go.RowKit
set_option linter.unusedVariables false

def DrewNumDeed (w : World) (e : Ending) (w' : World) : Prop := ∃ n k a b : Int, e = .returned (.tuple #[.int .i64 n, deedV k a b]) ∧ Ext w w'
def DrewNumOf (n k a b : Int) (w : World) (e : Ending) (w' : World) : Prop := e = .returned (.tuple #[.int .i64 n, deedV k a b]) ∧ Ext w w'

set_option maxRecDepth 100000 in
set_option maxHeartbeats 1000000 in
set_option maxHeartbeats 4000000 in
theorem drawEntryText (v : Value) (w : World) (hc : Code w v) : Calls Tryd.prog 35 #[v] w (DrewNumDeed w) := by
  go_enter Tryd.func35, Tryd.ntmps35
  go_wp2_with fail
  refine (l20Open_any v _ (hc.ext (by (repeat' (first | exact Ext.refl _ | (with_reducible assumption) | (with_reducible refine Ext.alloc ?_ _) | (with_reducible refine Ext.setCell ?_ (by first | exact Nat.le_refl _ | (dsimp only; omega) | (simp; done) | (simp; omega)) _) | (with_reducible refine Ext.drew ?_) | (with_reducible refine Ext.drewN ?_ _) | (refine Ext.trans ?_ (by with_reducible assumption))))))).mono ?_
  rintro e w1 ⟨R, rfl, hR, r1, x1⟩
  have hR0 : w.heap.size < R := Nat.lt_of_lt_of_le (by simp) hR
  have B1 : Blk w1 w.heap.size TD #[.int .i64 0, .int .i64 0, .int .i64 0] := (Blk.new _ _ _).ext x1
  have X1 : Ext w w1 := by (repeat' (first | exact Ext.refl _ | (with_reducible assumption) | (with_reducible refine Ext.alloc ?_ _) | (with_reducible refine Ext.setCell ?_ (by first | exact Nat.le_refl _ | (dsimp only; omega) | (simp; done) | (simp; omega)) _) | (with_reducible refine Ext.drew ?_) | (with_reducible refine Ext.drewN ?_ _) | (refine Ext.trans ?_ (by with_reducible assumption))))
  go_wp2_with fail
  refine (l20Deed_any R 0 _ r1 (by omega)).mono ?_
  rintro e w2 ⟨k, a, b, rfl, hok, r2, x2⟩
  have B2 := x2.blk B1 (by omega)
  clear hok B1
  have hR2 := r2.lt
  go_wp2_with fail
  refine (odd_any R 3 12 _ (r2.alloc _) (by omega) (by omega) (by omega)).mono ?_
  rintro e w3 ⟨t, rfl, r3, x3⟩
  have D3 : Blk w3 w2.heap.size TD #[.int .i64 k, .int .i64 a, .int .i64 b] := x3.blk (Blk.new _ _ _) (by omega)
  have B3 := x3.blk (B2.alloc _) (by omega)
  have hx3 : ExtR R w1 w3 := (x2.alloc _).trans x3
  have hx3' := Lib.hid hx3
  have z2 : w.heap.size < w2.heap.size := B2.lt
  clear B2 hx3 x1 x2 x3
  have key : ∀ (a' : Int) (w4 : World), ExtR R w1 w4 → Rand w4 R 4 → Blk w4 w.heap.size TD #[.int .i64 0, .int .i64 0, .int .i64 0] → Blk w4 w2.heap.size TD #[.int .i64 k, .int .i64 a', .int .i64 b] → True := fun _ _ _ _ _ _ => trivial
  have HD3 := Lib.hid D3
  have HB3 := Lib.hid B3
  obtain ⟨q0, q1, q2, q3, q4, q5⟩ := D3.three
  have z3 : w2.heap.size < w3.heap.size := D3.lt
  clear D3 B3 key
  cases t with
  | true =>
    go_wp2
    obtain ⟨w4, hw4⟩ : ∃ w4, w4 = w3.setCell ⟨w2.heap.size, 1, none⟩ (.int .i64 (-1)) := ⟨_, rfl⟩
    have hR3 := r3.lt
    have r4 : Rand w4 R 4 := by rw [hw4]; exact r3.setCell (by show R < w2.heap.size; exact hR2) _
    have D4 : Blk w4 w2.heap.size TD #[.int .i64 k, .int .i64 (-1), .int .i64 b] := by rw [hw4]; simpa using HD3.out.set 1 (.int .i64 (-1))
    have B4 : Blk w4 w.heap.size TD #[.int .i64 0, .int .i64 0, .int .i64 0] := by rw [hw4]; exact HB3.out.far (by show w.heap.size ≠ w2.heap.size; omega) _
    have X4 : Ext w w4 := by rw [hw4]; exact (ExtR.new X1 hx3'.out (by omega)).setCell (by show w.heap.size ≤ w2.heap.size; omega) _
    rw [← hw4]
    obtain ⟨a', ha'⟩ : ∃ a' : Int, a' = -1 := ⟨_, rfl⟩
    rw [← ha'] at D4
    clear hw4 ha' q0 q1 q2 q3 q4 q5
    clear r3 hx3' HD3 HB3
    have hR4 := r4.lt
    have z4 : w2.heap.size < w4.heap.size := D4.lt
    obtain ⟨q0, q1, q2, q3, q4, q5⟩ := D4.three
    obtain ⟨g0, g1, g2, g3, g4, g5⟩ := B4.three
    replace D4 := Lib.hid D4
    replace B4 := Lib.hid B4
    have tok1 : True := trivial
    have tok2 : True := trivial
    have tok3 : True := trivial
    go_region_with (first | (go_at_call 50; have _t := tok1; clear _t tok1; refine (pick_any R 4 99 _ (by first | exact r4 | exact r4.drew) (by omega)).mono ?_; rintro e w5 ⟨n, rfl, n0, n1, r5, x5⟩; (replace n1 : n < 99 := by omega); (have D5 := x5.blk D4.out (by omega)); (have B5 := x5.blk B4.out (by omega)); clear q0 q1 q2 q3 q4 q5; (obtain ⟨q0, q1, q2, q3, q4, q5⟩ := D5.three); clear g0 g1 g2 g3 g4 g5; (obtain ⟨g0, g1, g2, g3, g4, g5⟩ := B5.three); (have zw5 : w2.heap.size < w5.heap.size := D5.lt); (replace D5 := Lib.hid D5); (replace B5 := Lib.hid B5)) | (go_at_call 50; have _t := tok2; clear _t tok2; refine (pick_any R 5 20 _ (by first | exact r5 | exact r5.drew) (by omega)).mono ?_; rintro e w6 ⟨m, rfl, m0, m1, r6, x6⟩; (replace m1 : m < 20 := by omega); (have D6 := x6.blk D5.out (by omega)); (have B6 := x6.blk B5.out (by omega)); clear q0 q1 q2 q3 q4 q5; (obtain ⟨q0, q1, q2, q3, q4, q5⟩ := D6.three); clear g0 g1 g2 g3 g4 g5; (obtain ⟨g0, g1, g2, g3, g4, g5⟩ := B6.three); (have zw6 : w2.heap.size < w6.heap.size := D6.lt); (replace D6 := Lib.hid D6); (replace B6 := Lib.hid B6)) | (go_at_call 50; have _t := tok3; clear _t tok3; refine (pick_any R 6 20 _ (by first | exact r6 | exact r6.drew) (by omega)).mono ?_; rintro e w7 ⟨l, rfl, l0, l1, r7, x7⟩; (replace l1 : l < 20 := by omega); (have D7 := x7.blk D6.out (by omega)); (have B7 := x7.blk B6.out (by omega)); clear q0 q1 q2 q3 q4 q5; (obtain ⟨q0, q1, q2, q3, q4, q5⟩ := D7.three); clear g0 g1 g2 g3 g4 g5; (obtain ⟨g0, g1, g2, g3, g4, g5⟩ := B7.three); (have zw7 : w2.heap.size < w7.heap.size := D7.lt); (replace D7 := Lib.hid D7); (replace B7 := Lib.hid B7)))
    all_goals generalize IntKind.i64.wrap (IntKind.i64.wrap (IntKind.i64.wrap (1 + n) - IntKind.i64.wrap (m.tdiv 19)) + IntKind.i64.wrap (IntKind.i64.wrap (l.tdiv 19) * 99)) = N
    all_goals have X7 : Ext w w7 := ExtR.new X4 (by (repeat' (first | exact ExtR.refl _ _ | (with_reducible assumption) | (with_reducible refine ExtR.alloc ?_ _) | (with_reducible refine ExtR.setCell ?_ (.inr (by first | exact Nat.le_refl _ | (dsimp only; omega) | (simp; done) | (simp; omega))) _) | (with_reducible refine ExtR.drew ?_) | (with_reducible refine ExtR.drewN ?_ _) | (refine ExtR.trans ?_ (by with_reducible assumption)) | (refine ExtR.ext ?_ (by with_reducible assumption))))) (by omega)
    all_goals go_wp2
    all_goals exact bodyPost_ret (v := .tuple #[.int .i64 N, deedV k a' b]) (by simp [results, Tryd.results35, go_sem, *]) rfl ⟨N, k, a', b, rfl, by (repeat' (first | exact Ext.refl _ | (with_reducible assumption) | (with_reducible refine Ext.alloc ?_ _) | (with_reducible refine Ext.setCell ?_ (by first | exact Nat.le_refl _ | (dsimp only; omega) | (simp; done) | (simp; omega)) _) | (with_reducible refine Ext.drew ?_) | (with_reducible refine Ext.drewN ?_ _) | (refine Ext.trans ?_ (by with_reducible assumption))))⟩
  | false =>
    go_wp2
    obtain ⟨w4, hw4⟩ : ∃ w4, w4 = w3 := ⟨_, rfl⟩
    rw [← hw4]
    have r4 : Rand w4 R 4 := by rw [hw4]; exact r3
    have D4 := HD3.out
    have B4 := HB3.out
    have X4 : Ext w w3 := ExtR.new X1 hx3'.out (by omega)
    rw [← hw4] at D4 B4 X4
    obtain ⟨a', ha'⟩ : ∃ a' : Int, a' = a := ⟨_, rfl⟩
    rw [← ha'] at D4
    clear hw4 ha' q0 q1 q2 q3 q4 q5
    clear r3 hx3' HD3 HB3
    have hR4 := r4.lt
    have z4 : w2.heap.size < w4.heap.size := D4.lt
    obtain ⟨q0, q1, q2, q3, q4, q5⟩ := D4.three
    obtain ⟨g0, g1, g2, g3, g4, g5⟩ := B4.three
    replace D4 := Lib.hid D4
    replace B4 := Lib.hid B4
    have tok1 : True := trivial
    have tok2 : True := trivial
    have tok3 : True := trivial
    go_region_with (first | (go_at_call 50; have _t := tok1; clear _t tok1; refine (pick_any R 4 99 _ (by first | exact r4 | exact r4.drew) (by omega)).mono ?_; rintro e w5 ⟨n, rfl, n0, n1, r5, x5⟩; (replace n1 : n < 99 := by omega); (have D5 := x5.blk D4.out (by omega)); (have B5 := x5.blk B4.out (by omega)); clear q0 q1 q2 q3 q4 q5; (obtain ⟨q0, q1, q2, q3, q4, q5⟩ := D5.three); clear g0 g1 g2 g3 g4 g5; (obtain ⟨g0, g1, g2, g3, g4, g5⟩ := B5.three); (have zw5 : w2.heap.size < w5.heap.size := D5.lt); (replace D5 := Lib.hid D5); (replace B5 := Lib.hid B5)) | (go_at_call 50; have _t := tok2; clear _t tok2; refine (pick_any R 5 20 _ (by first | exact r5 | exact r5.drew) (by omega)).mono ?_; rintro e w6 ⟨m, rfl, m0, m1, r6, x6⟩; (replace m1 : m < 20 := by omega); (have D6 := x6.blk D5.out (by omega)); (have B6 := x6.blk B5.out (by omega)); clear q0 q1 q2 q3 q4 q5; (obtain ⟨q0, q1, q2, q3, q4, q5⟩ := D6.three); clear g0 g1 g2 g3 g4 g5; (obtain ⟨g0, g1, g2, g3, g4, g5⟩ := B6.three); (have zw6 : w2.heap.size < w6.heap.size := D6.lt); (replace D6 := Lib.hid D6); (replace B6 := Lib.hid B6)) | (go_at_call 50; have _t := tok3; clear _t tok3; refine (pick_any R 6 20 _ (by first | exact r6 | exact r6.drew) (by omega)).mono ?_; rintro e w7 ⟨l, rfl, l0, l1, r7, x7⟩; (replace l1 : l < 20 := by omega); (have D7 := x7.blk D6.out (by omega)); (have B7 := x7.blk B6.out (by omega)); clear q0 q1 q2 q3 q4 q5; (obtain ⟨q0, q1, q2, q3, q4, q5⟩ := D7.three); clear g0 g1 g2 g3 g4 g5; (obtain ⟨g0, g1, g2, g3, g4, g5⟩ := B7.three); (have zw7 : w2.heap.size < w7.heap.size := D7.lt); (replace D7 := Lib.hid D7); (replace B7 := Lib.hid B7)))
    all_goals generalize IntKind.i64.wrap (IntKind.i64.wrap (IntKind.i64.wrap (1 + n) - IntKind.i64.wrap (m.tdiv 19)) + IntKind.i64.wrap (IntKind.i64.wrap (l.tdiv 19) * 99)) = N
    all_goals have X7 : Ext w w7 := ExtR.new X4 (by (repeat' (first | exact ExtR.refl _ _ | (with_reducible assumption) | (with_reducible refine ExtR.alloc ?_ _) | (with_reducible refine ExtR.setCell ?_ (.inr (by first | exact Nat.le_refl _ | (dsimp only; omega) | (simp; done) | (simp; omega))) _) | (with_reducible refine ExtR.drew ?_) | (with_reducible refine ExtR.drewN ?_ _) | (refine ExtR.trans ?_ (by with_reducible assumption)) | (refine ExtR.ext ?_ (by with_reducible assumption))))) (by omega)
    all_goals go_wp2
    all_goals exact bodyPost_ret (v := .tuple #[.int .i64 N, deedV k a' b]) (by simp [results, Tryd.results35, go_sem, *]) rfl ⟨N, k, a', b, rfl, by (repeat' (first | exact Ext.refl _ | (with_reducible assumption) | (with_reducible refine Ext.alloc ?_ _) | (with_reducible refine Ext.setCell ?_ (by first | exact Nat.le_refl _ | (dsimp only; omega) | (simp; done) | (simp; omega)) _) | (with_reducible refine Ext.drew ?_) | (with_reducible refine Ext.drewN ?_ _) | (refine Ext.trans ?_ (by with_reducible assumption))))⟩
end Go.Proofs.YtgojmmhfablapaaDoor
