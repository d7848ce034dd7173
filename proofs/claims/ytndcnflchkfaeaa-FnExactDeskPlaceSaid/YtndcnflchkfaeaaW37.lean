/-
  The walk of the law FnExactDeskPlace.
-/
import Derived.Test.YtndcnflchkfaeaaBk12
import Derived.Test.YtndcnflchkfaeaaOpenD
import Derived.Test.YtndcnflchkfaeaaLin
import Derived.Test.YtndcnflchkfaeaaTen0
namespace Go.Proofs.Ytndcnflchkfaeaa
open Go.RowKit
set_option linter.unusedVariables false
set_option linter.unusedSimpArgs false

/-- what of a desk of the call's own reads on -/
theorem RetDesk.is {d : DeskD} {w w' : World} {e : Ending} (h : RetDesk d w e w') : ∃ q c q2 c2, e = .returned (deskV d.places q d.taken.length c q2 d.row.length c2) ∧ IsDesk w' d q c q2 c2 ∧ Ext w w' := by
  obtain ⟨q, c, q2, c2, he, hM⟩ := h
  exact ⟨q, c, q2, c2, he, ⟨hM.sl (i := 0) rfl, hM.sl (i := 1) rfl⟩, hM.ext⟩

set_option maxRecDepth 100000 in
set_option maxHeartbeats 8000000 in
theorem exDp_big (P : Int) (q : Option Addr) (c2 : Nat) (q2 : Option Addr) (d2 : Nat) (T R : List Visit4) (id : Int) (w : World) (HZ : Hid (∀ w, Calls Try.prog 7 #[.agg #[.int .i64 P, .slice q T.length c2, .slice q2 R.length d2], .int .i64 1048576] w fun e w' => e = .returned (.int .i64 (-1)) ∧ Ext w w')) :
    Calls Try.prog 6 #[.agg #[.int .i64 P, .slice q T.length c2, .slice q2 R.length d2], .int .i64 id] w fun e w' => e = .returned (.bool true) ∧ Ext w w' := by
  go_enter Try.func6, Try.ntmps6
  go_wp2_with fail
  refine (HZ.out _).mono ?_
  rintro e w1 ⟨rfl, h1⟩
  go_wp2
  go_ret
  exact ⟨rfl, by (repeat' (first | exact Ext.refl _ | (with_reducible assumption) | (with_reducible refine Ext.alloc ?_ _) | (with_reducible refine Ext.setCell ?_ (by first | exact Nat.le_refl _ | (dsimp only; omega) | (simp; done) | (simp; omega)) _) | (with_reducible refine Ext.drew ?_) | (with_reducible refine Ext.drewN ?_ _) | (refine Ext.trans ?_ (by with_reducible assumption))))⟩
set_option maxRecDepth 100000 in
set_option maxHeartbeats 8000000 in
theorem exDp_o (P : Int) (q : Option Addr) (c2 : Nat) (q2 : Option Addr) (d2 : Nat) (T R : List Visit4) (id X : Int) (w : World) (hsz : T.length + R.length ≤ 1048576)
    (HZ : Hid (∀ w, Calls Try.prog 7 #[.agg #[.int .i64 P, .slice q T.length c2, .slice q2 R.length d2], .int .i64 1048576] w fun e w' => e = .returned (.int .i64 (1048576 - T.length - R.length)) ∧ Ext w w'))
    (HT : Hid (∀ w', Ext w w' → Calls Try.prog 9 #[.agg #[.int .i64 P, .slice q T.length c2, .slice q2 R.length d2]] w' fun e w'' => ∃ q c r d, e = .returned (.agg #[.int .i64 P, .slice q T.length c, .slice r R.length d]) ∧ IsDesk w'' ⟨P, T, R⟩ q c r d ∧ Ext w' w''))
    (HSp : Hid (∀ q c r d w', IsDesk w' ⟨P, T, R⟩ q c r d → Calls Try.prog 25 #[.agg #[.int .i64 P, .slice q T.length c, .slice r R.length d], .int .i64 id] w' fun e w'' => e = .returned (.int .i64 X) ∧ Ext w' w''))
    (HIm : Hid (∀ q c r d w', IsDesk w' ⟨P, T, R⟩ q c r d → Calls Try.prog 26 #[.agg #[.int .i64 P, .slice q T.length c, .slice r R.length d], .int .i64 id] w' fun e w'' => e = .returned (.int .i64 X) ∧ Ext w' w''))
    (HE : Hid (∀ q c r d q' c' r' d' w', IsDesk w' ⟨P, T, R⟩ q c r d → IsDesk w' ⟨P, T, R⟩ q' c' r' d' → Calls Try.prog 11 #[.agg #[.int .i64 P, .slice q T.length c, .slice r R.length d], .agg #[.int .i64 P, .slice q' T.length c', .slice r' R.length d']] w' fun e w'' => e = .returned (.bool true) ∧ Ext w' w'')) :
    Calls Try.prog 6 #[.agg #[.int .i64 P, .slice q T.length c2, .slice q2 R.length d2], .int .i64 id] w fun e w' => e = .returned (.bool true) ∧ Ext w w' := by
  go_enter Try.func6, Try.ntmps6
  go_wp2_with fail
  refine (HZ.out _).mono ?_
  rintro e w1 ⟨rfl, hx1⟩
  have M1 := Lib.hid ((((Mem.start w).blkNew TLD #[.int .i64 P, .slice q T.length c2, .slice q2 R.length d2] (w.heap.size) (by simp))).adv hx1)
  have lt1_0 : w.heap.size < w1.heap.size := (M1.out.lt (i := 0) rfl rfl).2
  clear hx1
  obtain ⟨ca0, ca1, ca2⟩ := (M1.out.blk (i := 0) rfl).tri
  go_wp2_with fail
  clear ca0 ca1 ca2
  refine ((HT.out _ (M1.out).ext)).mono ?_
  rintro e w2 ⟨q5, c5, r5, e5, rfl, hd5, hx2⟩
  have M2 := Lib.hid ((M1.out).adv hx2)
  clear M1
  clear lt1_0
  have lt2_0 : w.heap.size < w2.heap.size := (M2.out.lt (i := 0) rfl rfl).2
  clear hx2
  have ID5 := Lib.hid hd5
  clear hd5
  go_wp2_with fail
  refine (HSp.out _ _ _ _ _ ID5.out).mono ?_
  rintro e w3 ⟨rfl, hx3⟩
  have M3 := Lib.hid ((M2.out).adv hx3)
  clear M2
  clear lt2_0
  have lt3_0 : w.heap.size < w3.heap.size := (M3.out.lt (i := 0) rfl rfl).2
  clear hx3
  obtain ⟨ca0, ca1, ca2⟩ := (M3.out.blk (i := 0) rfl).tri
  go_wp2_with fail
  clear ca0 ca1 ca2
  refine ((HT.out _ (M3.out).ext)).mono ?_
  rintro e w4 ⟨q6, c6, r6, e6, rfl, hd6, hx4⟩
  have M4 := Lib.hid ((M3.out).adv hx4)
  clear M3
  clear lt3_0
  have lt4_0 : w.heap.size < w4.heap.size := (M4.out.lt (i := 0) rfl rfl).2
  clear hx4
  have ID6 := Lib.hid hd6
  clear hd6
  go_wp2_with fail
  have ID6b := Lib.hid (ID6.out.ext ((Ext.refl _).alloc (.cells #[.int .i64 P, .slice q6 T.length c6, .slice r6 R.length e6] TDk)))
  refine (HIm.out _ _ _ _ _ ID6b.out).mono ?_
  rintro e w5 ⟨rfl, hx5⟩
  have M5 := Lib.hid ((((M4.out).blkNew TDk #[.int .i64 P, .slice q6 T.length c6, .slice r6 R.length e6] (w4.heap.size) (by simp))).adv hx5)
  clear M4
  clear lt4_0
  have lt5_0 : w4.heap.size < w5.heap.size := (M5.out.lt (i := 0) rfl rfl).2
  have lt5_1 : w.heap.size < w5.heap.size := (M5.out.lt (i := 1) rfl rfl).2
  have ID7 := Lib.hid (ID6b.out.ext hx5)
  clear hx5
  go_wp2
  refine region_lin (gl [gEq (.agg #[.int .i64 P, .slice q6 T.length c6, .slice r6 R.length e6]), gEq (.agg #[.int .i64 P, .slice q T.length c2, .slice q2 R.length d2]), (fun v w' => ∃ q c r e, v = .agg #[.int .i64 P, .slice q T.length c, .slice r R.length e] ∧ IsDesk w' ⟨P, T, R⟩ q c r e), gEq (.bool true), gEq (.bool false)]) 5 (by kernel_rfl) rfl (by kernel_rfl) (by kernel_rfl) (by kernel_rfl) (gl_mono (gl_cons (gEq_mono _) (gl_cons (gEq_mono _) (gl_cons (fun v w w' ⟨q, c, r, e, he, ho⟩ hx => ⟨q, c, r, e, he, ho.ext hx⟩) (gl_cons (gEq_mono _) (gl_cons (gEq_mono _) (gl_nil))))))) (k := 5) (by kernel_rfl) (by decide) (ls := [(0, some 26), (1, some 27), (2, some 28), (3, some 29), (4, some 30)]) (by kernel_rfl) (ir := [0, 1, 2, 3, 4]) (by kernel_rfl) ?steps (tl := #[true, true, true, true, true]) (by kernel_rfl) ?fin
  case steps =>
    refine StepsL.cons (ps := []) rfl (by kernel_rfl) (fun wi hx => ?_) ?_
    · intro K hK
      have hX : Ext w5 wi := by (repeat' (first | exact Ext.refl _ | (with_reducible assumption) | (with_reducible refine Ext.alloc ?_ _) | (with_reducible refine Ext.setCell ?_ (by first | exact Nat.le_refl _ | (dsimp only; omega) | (simp; done) | (simp; omega)) _) | (with_reducible refine Ext.drew ?_) | (with_reducible refine Ext.drewN ?_ _) | (refine Ext.trans ?_ (by with_reducible assumption))))
      have cl0 : wi.cell? ⟨w4.heap.size, 0, none⟩ = some (.int .i64 P) := ((M5.out.blk (i := 0) rfl).ext hX).cell 0
      have cl1 : wi.cell? ⟨w4.heap.size, 1, none⟩ = some (.slice q6 T.length c6) := ((M5.out.blk (i := 0) rfl).ext hX).cell 1
      have cl2 : wi.cell? ⟨w4.heap.size, 2, none⟩ = some (.slice r6 R.length e6) := ((M5.out.blk (i := 0) rfl).ext hX).cell 2
      go_simp
      exact hK _ _ ⟨.agg #[.int .i64 P, .slice q6 T.length c6, .slice r6 R.length e6], rfl, rfl, Ext.refl _⟩
    refine StepsL.cons (ps := []) rfl (by kernel_rfl) (fun wi hx => ?_) ?_
    · intro K hK
      have hX : Ext w5 wi := by (repeat' (first | exact Ext.refl _ | (with_reducible assumption) | (with_reducible refine Ext.alloc ?_ _) | (with_reducible refine Ext.setCell ?_ (by first | exact Nat.le_refl _ | (dsimp only; omega) | (simp; done) | (simp; omega)) _) | (with_reducible refine Ext.drew ?_) | (with_reducible refine Ext.drewN ?_ _) | (refine Ext.trans ?_ (by with_reducible assumption))))
      have cl0 : wi.cell? ⟨w.heap.size, 0, none⟩ = some (.int .i64 P) := ((M5.out.blk (i := 1) rfl).ext hX).cell 0
      have cl1 : wi.cell? ⟨w.heap.size, 1, none⟩ = some (.slice q T.length c2) := ((M5.out.blk (i := 1) rfl).ext hX).cell 1
      have cl2 : wi.cell? ⟨w.heap.size, 2, none⟩ = some (.slice q2 R.length d2) := ((M5.out.blk (i := 1) rfl).ext hX).cell 2
      go_simp
      exact hK _ _ ⟨.agg #[.int .i64 P, .slice q T.length c2, .slice q2 R.length d2], rfl, rfl, Ext.refl _⟩
    refine StepsL.cons (ps := [(1, some 27)]) rfl (by kernel_rfl) (fun wi hx => ?_) ?_
    · intro v1 h1 K hK
      obtain rfl := h1
      go_simp
      refine (HT.out _ (M5.out.ext.trans hx.of_drew)).mono ?_
      rintro e w5 ⟨q9, c9, r9, e9, rfl, hd9, hx5⟩
      go_simp
      exact hK _ _ ⟨.agg #[.int .i64 P, .slice q9 T.length c9, .slice r9 R.length e9], rfl, ⟨q9, c9, r9, e9, rfl, hd9⟩, hx5⟩
    refine StepsL.cons (ps := [(0, some 26), (2, some 28)]) rfl (by kernel_rfl) (fun wi hx => ?_) ?_
    · intro v0 h0 v2 h2 K hK
      obtain rfl := h0
      obtain ⟨q9, c9, r9, e9, rfl, ho9⟩ := h2
      go_simp
      refine (HE.out _ _ _ _ _ _ _ _ _ (ID7.out.ext hx.of_drew) ho9).mono ?_
      rintro e w5 ⟨rfl, hx5⟩
      go_simp
      exact hK _ _ ⟨.bool true, rfl, rfl, hx5⟩
    refine StepsL.cons (ps := [(3, some 29)]) rfl (by kernel_rfl) (fun wi hx => ?_) StepsL.nil
    · intro v3 h3 K hK
      obtain rfl := h3
      go_simp
      exact hK _ _ ⟨.bool false, rfl, rfl, Ext.refl _⟩
  case fin =>
    intro wi hx v0 h0 v1 h1 v2 h2 v3 h3 v4 h4
    obtain rfl := h0
    obtain rfl := h1
    obtain ⟨q9, c9, r9, e9, rfl, ho9⟩ := h2
    obtain rfl := h3
    obtain rfl := h4
    refine wpAny_done (by kernel_rfl) ?_ _
    try simp only [Act.put, List.setIfInBounds_toArray, List.set_cons_zero, List.set_cons_succ]
    have hx' := hx.of_drew
    go_wp2
    go_ret
    exact ⟨rfl, M5.out.ext.trans hx'⟩
theorem szDesk_small (d : DeskD) (q : Option Addr) (c2 : Nat) (q2 : Option Addr) (d2 : Nat) (w : World) (h : d.taken.length + d.row.length ≤ 1048576) : Calls Try.prog 7 #[deskV d.places q d.taken.length c2 q2 d.row.length d2, .int .i64 1048576] w fun e w' => e = .returned (.int .i64 (1048576 - d.taken.length - d.row.length)) ∧ Ext w w' := by
  have := szDesk_any d.places q d.taken.length c2 q2 d.row.length d2 w (by omega) (by omega)
  rwa [if_neg (by omega)] at this
theorem szDesk_big (d : DeskD) (q : Option Addr) (c2 : Nat) (q2 : Option Addr) (d2 : Nat) (w : World) (h1 : d.taken.length ≤ 9223372036854775807) (h2 : d.row.length ≤ 9223372036854775807) (h : ¬ d.taken.length + d.row.length ≤ 1048576) : Calls Try.prog 7 #[deskV d.places q d.taken.length c2 q2 d.row.length d2, .int .i64 1048576] w fun e w' => e = .returned (.int .i64 (-1)) ∧ Ext w w' := by
  have := szDesk_any d.places q d.taken.length c2 q2 d.row.length d2 w h1 h2
  rwa [if_pos (by omega)] at this
set_option maxRecDepth 100000 in
set_option maxHeartbeats 1000000 in
theorem walk_FnExactDeskPlace (W : World) (v : Value) (y : DeskD × (Option Addr × Nat) × (Option Addr × Nat)) (f : v = deskV y.1.places y.2.1.1 y.1.taken.length y.2.1.2 y.2.2.1 y.1.row.length y.2.2.2 ∧ IsDesk W y.1 y.2.1.1 y.2.1.2 y.2.2.1 y.2.2.2 ∧ goodDesk y.1) (id : Int) (hid : B64 id) :
    Calls Try.prog 6 #[v, .int .i64 id] W fun e w' => e = .returned (.bool true) ∧ Ext W w' := by
  obtain ⟨rfl, hi, _⟩ := f
  obtain ⟨⟨P, T, R⟩, ⟨q, c2⟩, ⟨q2, d2⟩⟩ := y
  by_cases hs : T.length + R.length ≤ 1048576
  · exact exDp_o P q c2 q2 d2 T R id (deskPlace ⟨P, T, R⟩ id) W hs (fun w => szDesk_small ⟨P, T, R⟩ q c2 q2 d2 w hs)
      (fun w' hx => (toDesk_any ⟨P, T, R⟩ q c2 q2 d2 w' (by show T.length ≤ _; omega) (by show R.length ≤ _; omega) (hi.ext hx)).mono (fun e w'' h => h.is))
      (fun q c r d w' h => specDp ⟨P, T, R⟩ q c r d id w' h) (fun q c r d w' h => implDp ⟨P, T, R⟩ q c r d id w' h)
      (fun q c r d q' c' r' d' w' h h' => eqDesk_any ⟨P, T, R⟩ q c r d q' c' r' d' w' h h')
  · exact exDp_big P q c2 q2 d2 T R id W (fun w => szDesk_big ⟨P, T, R⟩ q c2 q2 d2 w hi.tk.bd hi.rw.bd hs)
end Go.Proofs.Ytndcnflchkfaeaa
