/-
  The walk of the law FnExactDeskRun.
-/
import Derived.Test.YtndcnflchkfaeaaQ1
import Derived.Test.YtndcnflchkfaeaaLawI
import Derived.Test.YtndcnflchkfaeaaLawH
import Derived.Test.YtndcnflchkfaeaaOpenD
import Derived.Test.YtndcnflchkfaeaaLin
import Derived.Test.YtndcnflchkfaeaaTen0
/- @merged -/
namespace Go.Proofs.Ytndcnflchkfaeaa
open Go.RowKit
set_option linter.unusedVariables false
set_option linter.unusedSimpArgs false

set_option maxRecDepth 100000 in
set_option maxHeartbeats 8000000 in
theorem exDr_o (P : Int) (q : Option Addr) (c2 : Nat) (q2 : Option Addr) (d2 : Nat) (T R : List Visit4) (q3 : Option Addr) (n3 c3 : Nat) (bs : List Visit4) (Px : Int) (Tx Rx : List Visit4) (w : World) (hsz : T.length + R.length + n3 ≤ 1048576) (hs1 : Tx.length ≤ 1048576) (hs2 : Rx.length ≤ 1048576)
    (HZ : Hid (∀ w, Calls Try.prog 7 #[.agg #[.int .i64 P, .slice q T.length c2, .slice q2 R.length d2], .int .i64 1048576] w fun e w' => e = .returned (.int .i64 (1048576 - T.length - R.length)) ∧ Ext w w'))
    (HZ2 : Hid (∀ w, Calls Try.prog 17 #[.slice q3 n3 c3, .int .i64 (1048576 - T.length - R.length)] w fun e w' => e = .returned (.int .i64 (1048576 - T.length - R.length - n3)) ∧ w = w'))
    (HB : Hid (∀ w', Ext w w' → Calls Try.prog 19 #[.slice q3 n3 c3] w' fun e w'' => ∃ q' c', e = .returned (.slice q' n3 c') ∧ w''.ownsRow w'.heap.size TBk 4 (.slice q' n3 c') n3 (bs.flatMap visitCells) ∧ Ext w' w''))
    (HT : Hid (∀ w', Ext w w' → Calls Try.prog 9 #[.agg #[.int .i64 P, .slice q T.length c2, .slice q2 R.length d2]] w' fun e w'' => ∃ q5 c5 q6 c6, e = .returned (.agg #[.int .i64 P, .slice q5 T.length c5, .slice q6 R.length c6]) ∧ Mem w' w'' [ownI w'.heap.size TBk 4 (q5) (T.length) (c5) (T.flatMap visitCells), ownI w'.heap.size TBk 4 (q6) (R.length) (c6) (R.flatMap visitCells)]))
    (HSp : Hid (∀ q c r d g h w', Sl w' q T.length c 4 (T.flatMap visitCells) → Sl w' r R.length d 4 (R.flatMap visitCells) → Sl w' g n3 h 4 (bs.flatMap visitCells) → Calls Try.prog 23 #[.agg #[.int .i64 P, .slice q T.length c, .slice r R.length d], .slice g n3 h] w' fun e w'' => ∃ qa ca qb cb, e = .returned (.agg #[.int .i64 Px, .slice qa Tx.length ca, .slice qb Rx.length cb]) ∧ Mem w' w'' [ownI w'.heap.size TBk 4 (qa) (Tx.length) (ca) (Tx.flatMap visitCells), ownI w'.heap.size TBk 4 (qb) (Rx.length) (cb) (Rx.flatMap visitCells)]))
    (HIm : Hid (∀ q c r d g h w', Sl w' q T.length c 4 (T.flatMap visitCells) → Sl w' r R.length d 4 (R.flatMap visitCells) → Sl w' g n3 h 4 (bs.flatMap visitCells) → Calls Try.prog 24 #[.agg #[.int .i64 P, .slice q T.length c, .slice r R.length d], .slice g n3 h] w' fun e w'' => ∃ qa ca qb cb, e = .returned (.agg #[.int .i64 Px, .slice qa Tx.length ca, .slice qb Rx.length cb]) ∧ Mem w' w'' [ownI w'.heap.size TBk 4 (qa) (Tx.length) (ca) (Tx.flatMap visitCells), ownI w'.heap.size TBk 4 (qb) (Rx.length) (cb) (Rx.flatMap visitCells)]))
    (HE : Hid (∀ (d : DeskD) q c r e q' c' r' e' w', IsDesk w' d q c r e → IsDesk w' d q' c' r' e' → Calls Try.prog 11 #[deskV d.places q d.taken.length c r d.row.length e, deskV d.places q' d.taken.length c' r' d.row.length e'] w' fun e w'' => e = .returned (.bool true) ∧ Ext w' w'')) :
    Calls Try.prog 5 #[.agg #[.int .i64 P, .slice q T.length c2, .slice q2 R.length d2], .slice q3 n3 c3] w fun e w' => e = .returned (.bool true) ∧ Ext w w' := by
  go_enter Try.func5, Try.ntmps5
  go_wp2_with fail
  refine (HZ.out _).mono ?_
  rintro e w1 ⟨rfl, hx1⟩
  have M1 := Lib.hid ((((Mem.start w).blkNew TLD #[.int .i64 P, .slice q T.length c2, .slice q2 R.length d2] (w.heap.size) (by simp))).adv hx1)
  have lt1_0 : w.heap.size < w1.heap.size := (M1.out.lt (i := 0) rfl rfl).2
  clear hx1
  obtain ⟨ca0, ca1, ca2⟩ := (M1.out.blk (i := 0) rfl).tri
  go_wp2_with fail
  clear ca0 ca1 ca2
  refine (HZ2.out _).mono ?_
  rintro e w' ⟨rfl, rfl⟩
  obtain ⟨ca0, ca1, ca2⟩ := (M1.out.blk (i := 0) rfl).tri
  go_wp2_with fail
  clear ca0 ca1 ca2
  refine (HT.out _ (M1.out).ext).mono ?_
  rintro e w2 ⟨q5, c5, q6, c6, rfl, hm2⟩
  have M2 := Lib.hid ((M1.out).call2 hm2)
  clear M1
  clear lt1_0
  have lt2_2 : w.heap.size < w2.heap.size := (M2.out.lt (i := 2) rfl rfl).2
  clear hm2
  go_wp2_with fail
  refine (HB.out _ (M2.out).ext).mono ?_
  rintro e w3 ⟨q9, c9, rfl, ho3, hx3⟩
  have M3 := Lib.hid ((M2.out).call hx3 ho3)
  clear M2
  clear lt2_2
  have lt3_3 : w.heap.size < w3.heap.size := (M3.out.lt (i := 3) rfl rfl).2
  clear hx3 ho3
  go_wp2_with fail
  refine (HSp.out _ _ _ _ _ _ _ ((M3.out).sl (i := 1) rfl) ((M3.out).sl (i := 2) rfl) ((M3.out).sl (i := 0) rfl)).mono ?_
  rintro e w4 ⟨q7, c7, q8, c8, rfl, hm4⟩
  have M4 := Lib.hid ((M3.out).call2 hm4)
  clear M3
  clear lt3_3
  have lt4_5 : w.heap.size < w4.heap.size := (M4.out.lt (i := 5) rfl rfl).2
  clear hm4
  obtain ⟨ca0, ca1, ca2⟩ := (M4.out.blk (i := 5) rfl).tri
  go_wp2_with fail
  clear ca0 ca1 ca2
  refine (HT.out _ ((show Mem w (w4.alloc (.cells #[.int .i64 Px, .slice q7 Tx.length c7, .slice q8 Rx.length c8] TDk)) [blkI w.heap.size (w4.heap.size) TDk #[.int .i64 Px, .slice q7 Tx.length c7, .slice q8 Rx.length c8], ownI w.heap.size TBk 4 (q7) (Tx.length) (c7) (Tx.flatMap visitCells), ownI w.heap.size TBk 4 (q8) (Rx.length) (c8) (Rx.flatMap visitCells), blkI w.heap.size (w.heap.size) TLD #[.int .i64 P, .slice q T.length c2, .slice q2 R.length d2]] from (((M4.out).blkNew TDk #[.int .i64 Px, .slice q7 Tx.length c7, .slice q8 Rx.length c8] (w4.heap.size) (by simp))).pick [0, 1, 2, 6] (by decide) rfl)).ext).mono ?_
  rintro e w5 ⟨q11, c11, q12, c12, rfl, hm5⟩
  have M5 := Lib.hid (show Mem w w5 [ownI w.heap.size TBk 4 (q11) (T.length) (c11) (T.flatMap visitCells), ownI w.heap.size TBk 4 (q12) (R.length) (c12) (R.flatMap visitCells), blkI w.heap.size (w4.heap.size) TDk #[.int .i64 Px, .slice q7 Tx.length c7, .slice q8 Rx.length c8], ownI w.heap.size TBk 4 (q7) (Tx.length) (c7) (Tx.flatMap visitCells), ownI w.heap.size TBk 4 (q8) (Rx.length) (c8) (Rx.flatMap visitCells), blkI w.heap.size (w.heap.size) TLD #[.int .i64 P, .slice q T.length c2, .slice q2 R.length d2]] from ((show Mem w (w4.alloc (.cells #[.int .i64 Px, .slice q7 Tx.length c7, .slice q8 Rx.length c8] TDk)) [blkI w.heap.size (w4.heap.size) TDk #[.int .i64 Px, .slice q7 Tx.length c7, .slice q8 Rx.length c8], ownI w.heap.size TBk 4 (q7) (Tx.length) (c7) (Tx.flatMap visitCells), ownI w.heap.size TBk 4 (q8) (Rx.length) (c8) (Rx.flatMap visitCells), blkI w.heap.size (w.heap.size) TLD #[.int .i64 P, .slice q T.length c2, .slice q2 R.length d2]] from (((M4.out).blkNew TDk #[.int .i64 Px, .slice q7 Tx.length c7, .slice q8 Rx.length c8] (w4.heap.size) (by simp))).pick [0, 1, 2, 6] (by decide) rfl)).call2 hm5)
  clear M4
  clear lt4_5
  have lt5_2 : w4.heap.size < w5.heap.size := (M5.out.lt (i := 2) rfl rfl).2
  have lt5_5 : w.heap.size < w5.heap.size := (M5.out.lt (i := 5) rfl rfl).2
  clear hm5
  go_wp2_with fail
  refine (HB.out _ (((M5.out).blkNew TDk #[.int .i64 P, .slice q11 T.length c11, .slice q12 R.length c12] (w5.heap.size) (by simp))).ext).mono ?_
  rintro e w6 ⟨q15, c15, rfl, ho6, hx6⟩
  have M6 := Lib.hid ((((M5.out).blkNew TDk #[.int .i64 P, .slice q11 T.length c11, .slice q12 R.length c12] (w5.heap.size) (by simp))).call hx6 ho6)
  clear M5
  clear lt5_2 lt5_5
  have lt6_1 : w5.heap.size < w6.heap.size := (M6.out.lt (i := 1) rfl rfl).2
  have lt6_4 : w4.heap.size < w6.heap.size := (M6.out.lt (i := 4) rfl rfl).2
  have lt6_7 : w.heap.size < w6.heap.size := (M6.out.lt (i := 7) rfl rfl).2
  clear hx6 ho6
  obtain ⟨ca0, ca1, ca2⟩ := (M6.out.blk (i := 1) rfl).tri
  go_wp2_with fail
  clear ca0 ca1 ca2
  refine (HIm.out _ _ _ _ _ _ _ ((M6.out).sl (i := 2) rfl) ((M6.out).sl (i := 3) rfl) ((M6.out).sl (i := 0) rfl)).mono ?_
  rintro e w7 ⟨q13, c13, q14, c14, rfl, hm7⟩
  have M7 := Lib.hid ((M6.out).call2 hm7)
  clear M6
  clear lt6_1 lt6_4 lt6_7
  have lt7_3 : w5.heap.size < w7.heap.size := (M7.out.lt (i := 3) rfl rfl).2
  have lt7_6 : w4.heap.size < w7.heap.size := (M7.out.lt (i := 6) rfl rfl).2
  have lt7_9 : w.heap.size < w7.heap.size := (M7.out.lt (i := 9) rfl rfl).2
  clear hm7
  obtain ⟨cb0, cb1, cb2⟩ := (M7.out.blk (i := 6) rfl).tri
  go_wp2_with fail
  clear cb0 cb1 cb2
  refine (HE.out ⟨Px, Tx, Rx⟩ _ _ _ _ _ _ _ _ _ ⟨((((M7.out).blkNew TDk #[.int .i64 Px, .slice q13 Tx.length c13, .slice q14 Rx.length c14] (w7.heap.size) (by simp))).sl (i := 1) rfl), ((((M7.out).blkNew TDk #[.int .i64 Px, .slice q13 Tx.length c13, .slice q14 Rx.length c14] (w7.heap.size) (by simp))).sl (i := 2) rfl)⟩ ⟨((((M7.out).blkNew TDk #[.int .i64 Px, .slice q13 Tx.length c13, .slice q14 Rx.length c14] (w7.heap.size) (by simp))).sl (i := 8) rfl), ((((M7.out).blkNew TDk #[.int .i64 Px, .slice q13 Tx.length c13, .slice q14 Rx.length c14] (w7.heap.size) (by simp))).sl (i := 9) rfl)⟩).mono ?_
  rintro e w8 ⟨rfl, hx8⟩
  have M8 := Lib.hid ((((M7.out).blkNew TDk #[.int .i64 Px, .slice q13 Tx.length c13, .slice q14 Rx.length c14] (w7.heap.size) (by simp))).adv hx8)
  clear M7
  clear lt7_3 lt7_6 lt7_9
  have lt8_0 : w7.heap.size < w8.heap.size := (M8.out.lt (i := 0) rfl rfl).2
  have lt8_4 : w5.heap.size < w8.heap.size := (M8.out.lt (i := 4) rfl rfl).2
  have lt8_7 : w4.heap.size < w8.heap.size := (M8.out.lt (i := 7) rfl rfl).2
  have lt8_10 : w.heap.size < w8.heap.size := (M8.out.lt (i := 10) rfl rfl).2
  clear hx8
  have ID7 := Lib.hid (show IsDesk w8 ⟨P, T, R⟩ q11 c11 q12 c12 from ⟨(M8.out.sl (i := 5) rfl), (M8.out.sl (i := 6) rfl)⟩)
  go_wp2
  refine region_lin (gl [gEq (.agg #[.int .i64 P, .slice q11 T.length c11, .slice q12 R.length c12]), gEq (.agg #[.int .i64 P, .slice q T.length c2, .slice q2 R.length d2]), (fun v w' => ∃ q c r e, v = .agg #[.int .i64 P, .slice q T.length c, .slice r R.length e] ∧ IsDesk w' ⟨P, T, R⟩ q c r e), gEq (.bool true), gEq (.bool false)]) 5 (by kernel_rfl) rfl (by kernel_rfl) (by kernel_rfl) (by kernel_rfl) (gl_mono (gl_cons (gEq_mono _) (gl_cons (gEq_mono _) (gl_cons (fun v w w' ⟨q, c, r, e, he, ho⟩ hx => ⟨q, c, r, e, he, ho.ext hx⟩) (gl_cons (gEq_mono _) (gl_cons (gEq_mono _) (gl_nil))))))) (k := 5) (by kernel_rfl) (by decide) (ls := [(0, some 40), (1, some 41), (2, some 42), (3, some 43), (4, some 44)]) (by kernel_rfl) (ir := [0, 1, 2, 3, 4]) (by kernel_rfl) ?steps (tl := #[true, true, true, true, true]) (by kernel_rfl) ?fin
  case steps =>
    refine StepsL.cons (ps := []) rfl (by kernel_rfl) (fun wi hx => ?_) ?_
    · intro K hK
      have hX : Ext w8 wi := by (repeat' (first | exact Ext.refl _ | (with_reducible assumption) | (with_reducible refine Ext.alloc ?_ _) | (with_reducible refine Ext.setCell ?_ (by first | exact Nat.le_refl _ | (dsimp only; omega) | (simp; done) | (simp; omega)) _) | (with_reducible refine Ext.drew ?_) | (with_reducible refine Ext.drewN ?_ _) | (refine Ext.trans ?_ (by with_reducible assumption))))
      have cl0 : wi.cell? ⟨w5.heap.size, 0, none⟩ = some (.int .i64 P) := ((M8.out.blk (i := 4) rfl).ext hX).cell 0
      have cl1 : wi.cell? ⟨w5.heap.size, 1, none⟩ = some (.slice q11 T.length c11) := ((M8.out.blk (i := 4) rfl).ext hX).cell 1
      have cl2 : wi.cell? ⟨w5.heap.size, 2, none⟩ = some (.slice q12 R.length c12) := ((M8.out.blk (i := 4) rfl).ext hX).cell 2
      go_simp
      exact hK _ _ ⟨.agg #[.int .i64 P, .slice q11 T.length c11, .slice q12 R.length c12], rfl, rfl, Ext.refl _⟩
    refine StepsL.cons (ps := []) rfl (by kernel_rfl) (fun wi hx => ?_) ?_
    · intro K hK
      have hX : Ext w8 wi := by (repeat' (first | exact Ext.refl _ | (with_reducible assumption) | (with_reducible refine Ext.alloc ?_ _) | (with_reducible refine Ext.setCell ?_ (by first | exact Nat.le_refl _ | (dsimp only; omega) | (simp; done) | (simp; omega)) _) | (with_reducible refine Ext.drew ?_) | (with_reducible refine Ext.drewN ?_ _) | (refine Ext.trans ?_ (by with_reducible assumption))))
      have cl0 : wi.cell? ⟨w.heap.size, 0, none⟩ = some (.int .i64 P) := ((M8.out.blk (i := 10) rfl).ext hX).cell 0
      have cl1 : wi.cell? ⟨w.heap.size, 1, none⟩ = some (.slice q T.length c2) := ((M8.out.blk (i := 10) rfl).ext hX).cell 1
      have cl2 : wi.cell? ⟨w.heap.size, 2, none⟩ = some (.slice q2 R.length d2) := ((M8.out.blk (i := 10) rfl).ext hX).cell 2
      go_simp
      exact hK _ _ ⟨.agg #[.int .i64 P, .slice q T.length c2, .slice q2 R.length d2], rfl, rfl, Ext.refl _⟩
    refine StepsL.cons (ps := [(1, some 41)]) rfl (by kernel_rfl) (fun wi hx => ?_) ?_
    · intro v1 h1 K hK
      obtain rfl := h1
      go_simp
      refine (HT.out _ (M8.out.ext.trans hx.of_drew)).mono ?_
      rintro e w5 ⟨q21, c21, r21, e21, rfl, hm21⟩
      have ho21 : IsDesk w5 ⟨P, T, R⟩ q21 c21 r21 e21 := ⟨hm21.sl (i := 0) rfl, hm21.sl (i := 1) rfl⟩
      have hx5 := hm21.ext
      go_simp
      exact hK _ _ ⟨.agg #[.int .i64 P, .slice q21 T.length c21, .slice r21 R.length e21], rfl, ⟨q21, c21, r21, e21, rfl, ho21⟩, hx5⟩
    refine StepsL.cons (ps := [(0, some 40), (2, some 42)]) rfl (by kernel_rfl) (fun wi hx => ?_) ?_
    · intro v0 h0 v2 h2 K hK
      obtain rfl := h0
      obtain ⟨q21, c21, r21, e21, rfl, ho21⟩ := h2
      go_simp
      refine (HE.out ⟨P, T, R⟩ _ _ _ _ _ _ _ _ _ (ID7.out.ext hx.of_drew) ho21).mono ?_
      rintro e w5 ⟨rfl, hx5⟩
      go_simp
      exact hK _ _ ⟨.bool true, rfl, rfl, hx5⟩
    refine StepsL.cons (ps := [(3, some 43)]) rfl (by kernel_rfl) (fun wi hx => ?_) StepsL.nil
    · intro v3 h3 K hK
      obtain rfl := h3
      go_simp
      exact hK _ _ ⟨.bool false, rfl, rfl, Ext.refl _⟩
  case fin =>
    intro wi hx v0 h0 v1 h1 v2 h2 v3 h3 v4 h4
    obtain rfl := h0
    obtain rfl := h1
    obtain ⟨q21, c21, r21, e21, rfl, ho21⟩ := h2
    obtain rfl := h3
    obtain rfl := h4
    refine wpAny_done (by kernel_rfl) ?_ _
    try simp only [Act.put, List.setIfInBounds_toArray, List.set_cons_zero, List.set_cons_succ]
    have hX : Ext w8 wi := hx.of_drew
    have MI := Lib.hid (M8.out.adv hX)
    clear hX hx ID7 M8 lt8_0 lt8_4 lt8_7 lt8_10
    have lt30_0 : w7.heap.size < wi.heap.size := (MI.out.lt (i := 0) rfl rfl).2
    have lt30_4 : w5.heap.size < wi.heap.size := (MI.out.lt (i := 4) rfl rfl).2
    have lt30_7 : w4.heap.size < wi.heap.size := (MI.out.lt (i := 7) rfl rfl).2
    have lt30_10 : w.heap.size < wi.heap.size := (MI.out.lt (i := 10) rfl rfl).2
    go_wp2_with fail
    refine (HB.out _ (MI.out).ext).mono ?_
    rintro e w31 ⟨q22, c22, rfl, ho31, hx31⟩
    have M31 := Lib.hid ((MI.out).call hx31 ho31)
    clear MI
    clear lt30_0 lt30_4 lt30_7 lt30_10
    have lt31_1 : w7.heap.size < w31.heap.size := (M31.out.lt (i := 1) rfl rfl).2
    have lt31_5 : w5.heap.size < w31.heap.size := (M31.out.lt (i := 5) rfl rfl).2
    have lt31_8 : w4.heap.size < w31.heap.size := (M31.out.lt (i := 8) rfl rfl).2
    have lt31_11 : w.heap.size < w31.heap.size := (M31.out.lt (i := 11) rfl rfl).2
    clear hx31 ho31
    go_wp2_with fail
    refine (eqBookS_any q15 q22 n3 c15 c22 bs _ ((M31.out).sl (i := 4) rfl) ((M31.out).sl (i := 0) rfl)).mono ?_
    rintro e w32 ⟨rfl, hx32⟩
    have M32 := Lib.hid ((M31.out).adv hx32)
    clear M31
    clear lt31_1 lt31_5 lt31_8 lt31_11
    have lt32_1 : w7.heap.size < w32.heap.size := (M32.out.lt (i := 1) rfl rfl).2
    have lt32_5 : w5.heap.size < w32.heap.size := (M32.out.lt (i := 5) rfl rfl).2
    have lt32_8 : w4.heap.size < w32.heap.size := (M32.out.lt (i := 8) rfl rfl).2
    have lt32_11 : w.heap.size < w32.heap.size := (M32.out.lt (i := 11) rfl rfl).2
    clear hx32
    obtain ⟨ca0, ca1, ca2⟩ := (M32.out.blk (i := 5) rfl).tri
    go_wp2_with fail
    clear ca0 ca1 ca2
    refine (markDesk_m P q11 T.length c11 q12 R.length c12 1 _ _ _ _ _ ((show Mem w w32 [ownI w.heap.size TBk 4 (q11) (T.length) (c11) (T.flatMap visitCells), ownI w.heap.size TBk 4 (q12) (R.length) (c12) (R.flatMap visitCells), blkI w.heap.size (w5.heap.size) TDk #[.int .i64 P, .slice q11 T.length c11, .slice q12 R.length c12], ownI w.heap.size TBk 4 (q15) (n3) (c15) (bs.flatMap visitCells), ownI w.heap.size TBk 4 (q13) (Tx.length) (c13) (Tx.flatMap visitCells), ownI w.heap.size TBk 4 (q14) (Rx.length) (c14) (Rx.flatMap visitCells), ownI w.heap.size TBk 4 (q7) (Tx.length) (c7) (Tx.flatMap visitCells), ownI w.heap.size TBk 4 (q8) (Rx.length) (c8) (Rx.flatMap visitCells), blkI w.heap.size (w7.heap.size) TDk #[.int .i64 Px, .slice q13 Tx.length c13, .slice q14 Rx.length c14], blkI w.heap.size (w4.heap.size) TDk #[.int .i64 Px, .slice q7 Tx.length c7, .slice q8 Rx.length c8], blkI w.heap.size (w.heap.size) TLD #[.int .i64 P, .slice q T.length c2, .slice q2 R.length d2]] from (M32.out).pick [6, 7, 5, 4, 2, 3, 9, 10, 1, 8, 11] (by decide) rfl)) (by omega) (by omega) (by omega) (by omega)).mono ?_
    rintro e w33 ⟨rfl, hm33⟩
    have M33 := Lib.hid (hm33)
    clear M32
    clear lt32_1 lt32_5 lt32_8 lt32_11
    have lt33_2 : w5.heap.size < w33.heap.size := (M33.out.lt (i := 2) rfl rfl).2
    have lt33_8 : w7.heap.size < w33.heap.size := (M33.out.lt (i := 8) rfl rfl).2
    have lt33_9 : w4.heap.size < w33.heap.size := (M33.out.lt (i := 9) rfl rfl).2
    have lt33_10 : w.heap.size < w33.heap.size := (M33.out.lt (i := 10) rfl rfl).2
    clear hm33
    go_wp2_with fail
    refine (markBook_m (1 + (T.length * 4 : Nat) + (R.length * 4 : Nat)) _ ((M33.out.own (i := 3) rfl)) (by omega) (by omega) (by omega)).mono ?_
    rintro e w34 ⟨rfl, ho34, hg34⟩
    have M34 := Lib.hid (show Mem w w34 [ownI w.heap.size TBk 4 (q11) (T.length) (c11) (marksFrom 1 (T.length * 4)), ownI w.heap.size TBk 4 (q12) (R.length) (c12) (marksFrom (1 + (T.length * 4 : Nat)) (R.length * 4)), blkI w.heap.size (w5.heap.size) TDk #[.int .i64 P, .slice q11 T.length c11, .slice q12 R.length c12], ownI w.heap.size TBk 4 (q15) (n3) (c15) (marksFrom (1 + (T.length * 4 : Nat) + (R.length * 4 : Nat)) (n3 * 4)), ownI w.heap.size TBk 4 (q13) (Tx.length) (c13) (Tx.flatMap visitCells), ownI w.heap.size TBk 4 (q14) (Rx.length) (c14) (Rx.flatMap visitCells), ownI w.heap.size TBk 4 (q7) (Tx.length) (c7) (Tx.flatMap visitCells), ownI w.heap.size TBk 4 (q8) (Rx.length) (c8) (Rx.flatMap visitCells), blkI w.heap.size (w7.heap.size) TDk #[.int .i64 Px, .slice q13 Tx.length c13, .slice q14 Rx.length c14], blkI w.heap.size (w4.heap.size) TDk #[.int .i64 Px, .slice q7 Tx.length c7, .slice q8 Rx.length c8], blkI w.heap.size (w.heap.size) TLD #[.int .i64 P, .slice q T.length c2, .slice q2 R.length d2]] from (M33.out).app (i := 3) rfl ho34 hg34 (.inl rfl))
    clear M33
    clear lt33_2 lt33_8 lt33_9 lt33_10
    have lt34_2 : w5.heap.size < w34.heap.size := (M34.out.lt (i := 2) rfl rfl).2
    have lt34_8 : w7.heap.size < w34.heap.size := (M34.out.lt (i := 8) rfl rfl).2
    have lt34_9 : w4.heap.size < w34.heap.size := (M34.out.lt (i := 9) rfl rfl).2
    have lt34_10 : w.heap.size < w34.heap.size := (M34.out.lt (i := 10) rfl rfl).2
    clear ho34 hg34
    have k1 : (0 : Int) ≤ 1 + (T.length * 4 : Nat) + (R.length * 4 : Nat) + (n3 * 4 : Nat) := by omega
    have k2 : decide ((1 : Int) + (T.length * 4 : Nat) + (R.length * 4 : Nat) + (n3 * 4 : Nat) < 0) = false := by simp; omega
    obtain ⟨ca0, ca1, ca2⟩ := (M34.out.blk (i := 8) rfl).tri
    obtain ⟨cb0, cb1, cb2⟩ := (M34.out.blk (i := 9) rfl).tri
    go_wp2_with fail
    clear ca0 ca1 ca2 cb0 cb1 cb2
    refine (HE.out ⟨Px, Tx, Rx⟩ _ _ _ _ _ _ _ _ _ ⟨(((show Mem w w34 [ownI w.heap.size TBk 4 (q13) (Tx.length) (c13) (Tx.flatMap visitCells), ownI w.heap.size TBk 4 (q14) (Rx.length) (c14) (Rx.flatMap visitCells), ownI w.heap.size TBk 4 (q7) (Tx.length) (c7) (Tx.flatMap visitCells), ownI w.heap.size TBk 4 (q8) (Rx.length) (c8) (Rx.flatMap visitCells), blkI w.heap.size (w7.heap.size) TDk #[.int .i64 Px, .slice q13 Tx.length c13, .slice q14 Rx.length c14], blkI w.heap.size (w4.heap.size) TDk #[.int .i64 Px, .slice q7 Tx.length c7, .slice q8 Rx.length c8], blkI w.heap.size (w.heap.size) TLD #[.int .i64 P, .slice q T.length c2, .slice q2 R.length d2]] from (M34.out).pick [4, 5, 6, 7, 8, 9, 10] (by decide) rfl)).sl (i := 0) rfl), (((show Mem w w34 [ownI w.heap.size TBk 4 (q13) (Tx.length) (c13) (Tx.flatMap visitCells), ownI w.heap.size TBk 4 (q14) (Rx.length) (c14) (Rx.flatMap visitCells), ownI w.heap.size TBk 4 (q7) (Tx.length) (c7) (Tx.flatMap visitCells), ownI w.heap.size TBk 4 (q8) (Rx.length) (c8) (Rx.flatMap visitCells), blkI w.heap.size (w7.heap.size) TDk #[.int .i64 Px, .slice q13 Tx.length c13, .slice q14 Rx.length c14], blkI w.heap.size (w4.heap.size) TDk #[.int .i64 Px, .slice q7 Tx.length c7, .slice q8 Rx.length c8], blkI w.heap.size (w.heap.size) TLD #[.int .i64 P, .slice q T.length c2, .slice q2 R.length d2]] from (M34.out).pick [4, 5, 6, 7, 8, 9, 10] (by decide) rfl)).sl (i := 1) rfl)⟩ ⟨(((show Mem w w34 [ownI w.heap.size TBk 4 (q13) (Tx.length) (c13) (Tx.flatMap visitCells), ownI w.heap.size TBk 4 (q14) (Rx.length) (c14) (Rx.flatMap visitCells), ownI w.heap.size TBk 4 (q7) (Tx.length) (c7) (Tx.flatMap visitCells), ownI w.heap.size TBk 4 (q8) (Rx.length) (c8) (Rx.flatMap visitCells), blkI w.heap.size (w7.heap.size) TDk #[.int .i64 Px, .slice q13 Tx.length c13, .slice q14 Rx.length c14], blkI w.heap.size (w4.heap.size) TDk #[.int .i64 Px, .slice q7 Tx.length c7, .slice q8 Rx.length c8], blkI w.heap.size (w.heap.size) TLD #[.int .i64 P, .slice q T.length c2, .slice q2 R.length d2]] from (M34.out).pick [4, 5, 6, 7, 8, 9, 10] (by decide) rfl)).sl (i := 2) rfl), (((show Mem w w34 [ownI w.heap.size TBk 4 (q13) (Tx.length) (c13) (Tx.flatMap visitCells), ownI w.heap.size TBk 4 (q14) (Rx.length) (c14) (Rx.flatMap visitCells), ownI w.heap.size TBk 4 (q7) (Tx.length) (c7) (Tx.flatMap visitCells), ownI w.heap.size TBk 4 (q8) (Rx.length) (c8) (Rx.flatMap visitCells), blkI w.heap.size (w7.heap.size) TDk #[.int .i64 Px, .slice q13 Tx.length c13, .slice q14 Rx.length c14], blkI w.heap.size (w4.heap.size) TDk #[.int .i64 Px, .slice q7 Tx.length c7, .slice q8 Rx.length c8], blkI w.heap.size (w.heap.size) TLD #[.int .i64 P, .slice q T.length c2, .slice q2 R.length d2]] from (M34.out).pick [4, 5, 6, 7, 8, 9, 10] (by decide) rfl)).sl (i := 3) rfl)⟩).mono ?_
    rintro e w35 ⟨rfl, hx35⟩
    have M35 := Lib.hid (show Mem w w35 [ownI w.heap.size TBk 4 (q13) (Tx.length) (c13) (Tx.flatMap visitCells), ownI w.heap.size TBk 4 (q14) (Rx.length) (c14) (Rx.flatMap visitCells), ownI w.heap.size TBk 4 (q7) (Tx.length) (c7) (Tx.flatMap visitCells), ownI w.heap.size TBk 4 (q8) (Rx.length) (c8) (Rx.flatMap visitCells), blkI w.heap.size (w7.heap.size) TDk #[.int .i64 Px, .slice q13 Tx.length c13, .slice q14 Rx.length c14], blkI w.heap.size (w4.heap.size) TDk #[.int .i64 Px, .slice q7 Tx.length c7, .slice q8 Rx.length c8], blkI w.heap.size (w.heap.size) TLD #[.int .i64 P, .slice q T.length c2, .slice q2 R.length d2]] from ((show Mem w w34 [ownI w.heap.size TBk 4 (q13) (Tx.length) (c13) (Tx.flatMap visitCells), ownI w.heap.size TBk 4 (q14) (Rx.length) (c14) (Rx.flatMap visitCells), ownI w.heap.size TBk 4 (q7) (Tx.length) (c7) (Tx.flatMap visitCells), ownI w.heap.size TBk 4 (q8) (Rx.length) (c8) (Rx.flatMap visitCells), blkI w.heap.size (w7.heap.size) TDk #[.int .i64 Px, .slice q13 Tx.length c13, .slice q14 Rx.length c14], blkI w.heap.size (w4.heap.size) TDk #[.int .i64 Px, .slice q7 Tx.length c7, .slice q8 Rx.length c8], blkI w.heap.size (w.heap.size) TLD #[.int .i64 P, .slice q T.length c2, .slice q2 R.length d2]] from (M34.out).pick [4, 5, 6, 7, 8, 9, 10] (by decide) rfl)).adv hx35)
    clear M34
    clear lt34_2 lt34_8 lt34_9 lt34_10
    have lt35_4 : w7.heap.size < w35.heap.size := (M35.out.lt (i := 4) rfl rfl).2
    have lt35_5 : w4.heap.size < w35.heap.size := (M35.out.lt (i := 5) rfl rfl).2
    have lt35_6 : w.heap.size < w35.heap.size := (M35.out.lt (i := 6) rfl rfl).2
    clear hx35
    obtain ⟨ca0, ca1, ca2⟩ := (M35.out.blk (i := 4) rfl).tri
    go_wp2_with fail
    clear ca0 ca1 ca2
    refine (markDesk_m Px q13 Tx.length c13 q14 Rx.length c14 1 _ _ _ _ _ ((show Mem w w35 [ownI w.heap.size TBk 4 (q13) (Tx.length) (c13) (Tx.flatMap visitCells), ownI w.heap.size TBk 4 (q14) (Rx.length) (c14) (Rx.flatMap visitCells), ownI w.heap.size TBk 4 (q7) (Tx.length) (c7) (Tx.flatMap visitCells), ownI w.heap.size TBk 4 (q8) (Rx.length) (c8) (Rx.flatMap visitCells), blkI w.heap.size (w7.heap.size) TDk #[.int .i64 Px, .slice q13 Tx.length c13, .slice q14 Rx.length c14], blkI w.heap.size (w4.heap.size) TDk #[.int .i64 Px, .slice q7 Tx.length c7, .slice q8 Rx.length c8], blkI w.heap.size (w.heap.size) TLD #[.int .i64 P, .slice q T.length c2, .slice q2 R.length d2]] from (M35.out).pick [0, 1, 2, 3, 4, 5, 6] (by decide) rfl)) (by omega) (by omega) (by omega) (by omega)).mono ?_
    rintro e w36 ⟨rfl, hm36⟩
    have M36 := Lib.hid (hm36)
    clear M35
    clear lt35_4 lt35_5 lt35_6
    have lt36_4 : w7.heap.size < w36.heap.size := (M36.out.lt (i := 4) rfl rfl).2
    have lt36_5 : w4.heap.size < w36.heap.size := (M36.out.lt (i := 5) rfl rfl).2
    have lt36_6 : w.heap.size < w36.heap.size := (M36.out.lt (i := 6) rfl rfl).2
    clear hm36
    have k3 : (0 : Int) ≤ 1 + (Tx.length * 4 : Nat) + (Rx.length * 4 : Nat) := by omega
    have k4 : decide ((1 : Int) + (Tx.length * 4 : Nat) + (Rx.length * 4 : Nat) < 0) = false := by simp; omega
    obtain ⟨ca0, ca1, ca2⟩ := (M36.out.blk (i := 4) rfl).tri
    go_wp2_with fail
    clear ca0 ca1 ca2
    refine (heldDesk_m Px q13 Tx.length c13 q14 Rx.length c14 1 _ _ ((M36.out.own (i := 0) rfl)) ((M36.out.own (i := 1) rfl)) (by omega) (by omega) (by omega) (by omega)).mono ?_
    rintro e w37 ⟨rfl, hx37⟩
    have M37 := Lib.hid ((M36.out).adv hx37)
    clear M36
    clear lt36_4 lt36_5 lt36_6
    have lt37_4 : w7.heap.size < w37.heap.size := (M37.out.lt (i := 4) rfl rfl).2
    have lt37_5 : w4.heap.size < w37.heap.size := (M37.out.lt (i := 5) rfl rfl).2
    have lt37_6 : w.heap.size < w37.heap.size := (M37.out.lt (i := 6) rfl rfl).2
    clear hx37
    obtain ⟨ca0, ca1, ca2⟩ := (M37.out.blk (i := 6) rfl).tri
    go_wp2_with fail
    clear ca0 ca1 ca2
    refine (HT.out _ (M37.out).ext).mono ?_
    rintro e w38 ⟨q16, c16, q17, c17, rfl, hm38⟩
    have M38 := Lib.hid ((M37.out).call2 hm38)
    clear M37
    clear lt37_4 lt37_5 lt37_6
    have lt38_6 : w7.heap.size < w38.heap.size := (M38.out.lt (i := 6) rfl rfl).2
    have lt38_7 : w4.heap.size < w38.heap.size := (M38.out.lt (i := 7) rfl rfl).2
    have lt38_8 : w.heap.size < w38.heap.size := (M38.out.lt (i := 8) rfl rfl).2
    clear hm38
    go_wp2_with fail
    refine (HB.out _ (M38.out).ext).mono ?_
    rintro e w39 ⟨q20, c20, rfl, ho39, hx39⟩
    have M39 := Lib.hid ((M38.out).call hx39 ho39)
    clear M38
    clear lt38_6 lt38_7 lt38_8
    have lt39_7 : w7.heap.size < w39.heap.size := (M39.out.lt (i := 7) rfl rfl).2
    have lt39_8 : w4.heap.size < w39.heap.size := (M39.out.lt (i := 8) rfl rfl).2
    have lt39_9 : w.heap.size < w39.heap.size := (M39.out.lt (i := 9) rfl rfl).2
    clear hx39 ho39
    go_wp2_with fail
    refine (HIm.out _ _ _ _ _ _ _ ((M39.out).sl (i := 1) rfl) ((M39.out).sl (i := 2) rfl) ((M39.out).sl (i := 0) rfl)).mono ?_
    rintro e w40 ⟨q18, c18, q19, c19, rfl, hm40⟩
    have M40 := Lib.hid ((M39.out).call2 hm40)
    clear M39
    clear lt39_7 lt39_8 lt39_9
    have lt40_9 : w7.heap.size < w40.heap.size := (M40.out.lt (i := 9) rfl rfl).2
    have lt40_10 : w4.heap.size < w40.heap.size := (M40.out.lt (i := 10) rfl rfl).2
    have lt40_11 : w.heap.size < w40.heap.size := (M40.out.lt (i := 11) rfl rfl).2
    clear hm40
    obtain ⟨cb0, cb1, cb2⟩ := (M40.out.blk (i := 10) rfl).tri
    go_wp2_with fail
    clear cb0 cb1 cb2
    refine (HE.out ⟨Px, Tx, Rx⟩ _ _ _ _ _ _ _ _ _ ⟨((((M40.out).blkNew TDk #[.int .i64 Px, .slice q18 Tx.length c18, .slice q19 Rx.length c19] (w40.heap.size) (by simp))).sl (i := 1) rfl), ((((M40.out).blkNew TDk #[.int .i64 Px, .slice q18 Tx.length c18, .slice q19 Rx.length c19] (w40.heap.size) (by simp))).sl (i := 2) rfl)⟩ ⟨((((M40.out).blkNew TDk #[.int .i64 Px, .slice q18 Tx.length c18, .slice q19 Rx.length c19] (w40.heap.size) (by simp))).sl (i := 8) rfl), ((((M40.out).blkNew TDk #[.int .i64 Px, .slice q18 Tx.length c18, .slice q19 Rx.length c19] (w40.heap.size) (by simp))).sl (i := 9) rfl)⟩).mono ?_
    rintro e w41 ⟨rfl, hx41⟩
    have M41 := Lib.hid ((((M40.out).blkNew TDk #[.int .i64 Px, .slice q18 Tx.length c18, .slice q19 Rx.length c19] (w40.heap.size) (by simp))).adv hx41)
    clear M40
    clear lt40_9 lt40_10 lt40_11
    have lt41_0 : w40.heap.size < w41.heap.size := (M41.out.lt (i := 0) rfl rfl).2
    have lt41_10 : w7.heap.size < w41.heap.size := (M41.out.lt (i := 10) rfl rfl).2
    have lt41_11 : w4.heap.size < w41.heap.size := (M41.out.lt (i := 11) rfl rfl).2
    have lt41_12 : w.heap.size < w41.heap.size := (M41.out.lt (i := 12) rfl rfl).2
    clear hx41
    obtain ⟨ca0, ca1, ca2⟩ := (M41.out.blk (i := 10) rfl).tri
    go_wp2_with fail
    clear ca0 ca1 ca2
    refine (heldDesk_m Px q13 Tx.length c13 q14 Rx.length c14 1 _ _ ((M41.out.own (i := 6) rfl)) ((M41.out.own (i := 7) rfl)) (by omega) (by omega) (by omega) (by omega)).mono ?_
    rintro e w42 ⟨rfl, hx42⟩
    have M42 := Lib.hid ((M41.out).adv hx42)
    clear M41
    clear lt41_0 lt41_10 lt41_11 lt41_12
    have lt42_0 : w40.heap.size < w42.heap.size := (M42.out.lt (i := 0) rfl rfl).2
    have lt42_10 : w7.heap.size < w42.heap.size := (M42.out.lt (i := 10) rfl rfl).2
    have lt42_11 : w4.heap.size < w42.heap.size := (M42.out.lt (i := 11) rfl rfl).2
    have lt42_12 : w.heap.size < w42.heap.size := (M42.out.lt (i := 12) rfl rfl).2
    clear hx42
    go_wp2
    go_ret
    exact ⟨rfl, M42.out.ext⟩
theorem szDesk_small (d : DeskD) (q : Option Addr) (c2 : Nat) (q2 : Option Addr) (d2 : Nat) (w : World) (h : d.taken.length + d.row.length ≤ 1048576) : Calls Try.prog 7 #[deskV d.places q d.taken.length c2 q2 d.row.length d2, .int .i64 1048576] w fun e w' => e = .returned (.int .i64 (1048576 - d.taken.length - d.row.length)) ∧ Ext w w' := by
  have := szDesk_any d.places q d.taken.length c2 q2 d.row.length d2 w (by omega) (by omega)
  rwa [if_neg (by omega)] at this
theorem szDesk_big (d : DeskD) (q : Option Addr) (c2 : Nat) (q2 : Option Addr) (d2 : Nat) (w : World) (h1 : d.taken.length ≤ 9223372036854775807) (h2 : d.row.length ≤ 9223372036854775807) (h : ¬ d.taken.length + d.row.length ≤ 1048576) : Calls Try.prog 7 #[deskV d.places q d.taken.length c2 q2 d.row.length d2, .int .i64 1048576] w fun e w' => e = .returned (.int .i64 (-1)) ∧ Ext w w' := by
  have := szDesk_any d.places q d.taken.length c2 q2 d.row.length d2 w h1 h2
  rwa [if_pos (by omega)] at this
set_option maxRecDepth 100000 in
set_option maxHeartbeats 1000000 in
theorem exDr_big (P : Int) (q : Option Addr) (c2 : Nat) (q2 : Option Addr) (d2 : Nat) (T R : List Visit4) (q3 : Option Addr) (n3 c3 : Nat) (w : World) (HZ : Hid (∀ w, Calls Try.prog 7 #[.agg #[.int .i64 P, .slice q T.length c2, .slice q2 R.length d2], .int .i64 1048576] w fun e w' => e = .returned (.int .i64 (-1)) ∧ Ext w w')) :
    Calls Try.prog 5 #[.agg #[.int .i64 P, .slice q T.length c2, .slice q2 R.length d2], .slice q3 n3 c3] w fun e w' => e = .returned (.bool true) ∧ Ext w w' := by
  go_enter Try.func5, Try.ntmps5
  go_wp2_with fail
  refine (HZ.out _).mono ?_
  rintro e w1 ⟨rfl, h1⟩
  go_wp2
  go_ret
  exact ⟨rfl, by (repeat' (first | exact Ext.refl _ | (with_reducible assumption) | (with_reducible refine Ext.alloc ?_ _) | (with_reducible refine Ext.setCell ?_ (by first | exact Nat.le_refl _ | (dsimp only; omega) | (simp; done) | (simp; omega)) _) | (with_reducible refine Ext.drew ?_) | (with_reducible refine Ext.drewN ?_ _) | (refine Ext.trans ?_ (by with_reducible assumption))))⟩
set_option maxRecDepth 100000 in
set_option maxHeartbeats 1000000 in
theorem exDr_big2 (P : Int) (q : Option Addr) (c2 : Nat) (q2 : Option Addr) (d2 : Nat) (T R : List Visit4) (q3 : Option Addr) (n3 c3 : Nat) (w : World) (hsz : T.length + R.length ≤ 1048576)
    (HZ : Hid (∀ w, Calls Try.prog 7 #[.agg #[.int .i64 P, .slice q T.length c2, .slice q2 R.length d2], .int .i64 1048576] w fun e w' => e = .returned (.int .i64 (1048576 - T.length - R.length)) ∧ Ext w w'))
    (HZ2 : Hid (∀ w, Calls Try.prog 17 #[.slice q3 n3 c3, .int .i64 (1048576 - T.length - R.length)] w fun e w' => e = .returned (.int .i64 (-1)) ∧ w = w')) :
    Calls Try.prog 5 #[.agg #[.int .i64 P, .slice q T.length c2, .slice q2 R.length d2], .slice q3 n3 c3] w fun e w' => e = .returned (.bool true) ∧ Ext w w' := by
  go_enter Try.func5, Try.ntmps5
  go_wp2_with fail
  refine (HZ.out _).mono ?_
  rintro e w1 ⟨rfl, h1⟩
  go_wp2_with fail
  refine (HZ2.out _).mono ?_
  rintro e w2 ⟨rfl, rfl⟩
  go_wp2
  go_ret
  exact ⟨rfl, by (repeat' (first | exact Ext.refl _ | (with_reducible assumption) | (with_reducible refine Ext.alloc ?_ _) | (with_reducible refine Ext.setCell ?_ (by first | exact Nat.le_refl _ | (dsimp only; omega) | (simp; done) | (simp; omega)) _) | (with_reducible refine Ext.drew ?_) | (with_reducible refine Ext.drewN ?_ _) | (refine Ext.trans ?_ (by with_reducible assumption))))⟩
theorem RetRun.is {D : DeskD} {w w' : World} {e : Ending} (h : RetRun D w e w') : ∃ qa ca qb cb, e = .returned (.agg #[.int .i64 D.places, .slice qa D.taken.length ca, .slice qb D.row.length cb]) ∧ Mem w w' [ownI w.heap.size TBk 4 (qa) (D.taken.length) (ca) (D.taken.flatMap visitCells), ownI w.heap.size TBk 4 (qb) (D.row.length) (cb) (D.row.flatMap visitCells)] := by
  obtain ⟨qa, na, ca, qb, nb, cb, he, h1, h2, hM⟩ := h
  subst h1 h2
  exact ⟨qa, ca, qb, cb, he, hM⟩
theorem run_len (d : DeskD) (bs : List Visit4) : (deskRun d bs).taken.length ≤ 7 ∧ (deskRun d bs).row.length ≤ 5 := by
  cases hv : deskValid d with
  | false =>
    have : deskRun d bs = ⟨0, [], []⟩ := by unfold deskRun; rw [if_neg (by rw [hv]; decide)]
    rw [this]; simp
  | true => exact desk_len (deskRun_ok hv)
set_option maxRecDepth 100000 in
set_option maxHeartbeats 1000000 in
theorem walk_FnExactDeskRun (W : World) (v : Value) (y : DeskD × (Option Addr × Nat) × (Option Addr × Nat)) (f : v = deskV y.1.places y.2.1.1 y.1.taken.length y.2.1.2 y.2.2.1 y.1.row.length y.2.2.2 ∧ IsDesk W y.1 y.2.1.1 y.2.1.2 y.2.2.1 y.2.2.2 ∧ goodDesk y.1) (v2 : Value) (z : List Visit4 × (Option Addr × Nat)) (f2 : v2 = .slice z.2.1 z.1.length z.2.2 ∧ Sl W z.2.1 z.1.length z.2.2 4 (z.1.flatMap visitCells) ∧ ∀ a ∈ z.1, goodBook a) :
    Calls Try.prog 5 #[v, v2] W fun e w' => e = .returned (.bool true) ∧ Ext W w' := by
  obtain ⟨rfl, hi, _⟩ := f
  obtain ⟨rfl, hB, _⟩ := f2
  obtain ⟨⟨P, T, R⟩, ⟨q, c2⟩, ⟨q2, d2⟩⟩ := y
  obtain ⟨bs, ⟨q3, c3⟩⟩ := z
  have hf := run_len ⟨P, T, R⟩ bs
  by_cases hs : T.length + R.length ≤ 1048576
  · have HZ : Hid (∀ w, Calls Try.prog 7 #[.agg #[.int .i64 P, .slice q T.length c2, .slice q2 R.length d2], .int .i64 1048576] w fun e w' => e = .returned (.int .i64 (1048576 - T.length - R.length)) ∧ Ext w w') := Lib.hid (fun w => szDesk_small ⟨P, T, R⟩ q c2 q2 d2 w hs)
    by_cases hs2 : T.length + R.length + bs.length ≤ 1048576
    · exact exDr_o P q c2 q2 d2 T R q3 bs.length c3 bs (deskRun ⟨P, T, R⟩ bs).places (deskRun ⟨P, T, R⟩ bs).taken (deskRun ⟨P, T, R⟩ bs).row W hs2 (by omega) (by omega) HZ
        (fun w => by have := szBookS_any q3 bs.length c3 (1048576 - T.length - R.length) w (by omega) (by omega) (by omega); rwa [if_neg (by omega)] at this)
        (fun w' hx => toBookS_any q3 _ c3 bs w' (by omega) (hB.ext hx))
        (fun w' hx => (toDesk_any ⟨P, T, R⟩ q c2 q2 d2 w' (by show T.length ≤ _; omega) (by show R.length ≤ _; omega) (hi.ext hx)).mono (fun e w'' h => h))
        (fun q c r d g h w' h1 h2 h3 => (specRun P q T.length c r R.length d g bs.length h T R bs w' (by omega) h1 h2 h3).mono (fun e w'' h => h.is))
        (fun q c r d g h w' h1 h2 h3 => (implRun P q T.length c r R.length d g bs.length h T R bs w' (by omega) h1 h2 h3).mono (fun e w'' h => h.is))
        (fun d q c r e q' c' r' e' w' h h' => eqDesk_any d q c r e q' c' r' e' w' h h')
    · exact exDr_big2 P q c2 q2 d2 T R q3 bs.length c3 W hs HZ (fun w => by have := szBookS_any q3 bs.length c3 (1048576 - T.length - R.length) w hB.bd (by omega) (by omega); rwa [if_pos (by omega)] at this)
  · exact exDr_big P q c2 q2 d2 T R q3 bs.length c3 W (fun w => szDesk_big ⟨P, T, R⟩ q c2 q2 d2 w hi.tk.bd hi.rw.bd hs)
end Go.Proofs.Ytndcnflchkfaeaa
