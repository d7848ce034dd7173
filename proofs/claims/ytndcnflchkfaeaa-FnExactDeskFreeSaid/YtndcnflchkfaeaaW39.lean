/-
  The walk of the law FnExactDeskFree.
-/
import Derived.Test.YtndcnflchkfaeaaBk21
import Derived.Test.YtndcnflchkfaeaaLawI
import Derived.Test.YtndcnflchkfaeaaLawH
import Derived.Test.YtndcnflchkfaeaaOpenD
import Derived.Test.YtndcnflchkfaeaaLin
import Derived.Test.YtndcnflchkfaeaaTen0
namespace Go.Proofs.Ytndcnflchkfaeaa
open Go.RowKit
set_option linter.unusedVariables false
set_option linter.unusedSimpArgs false

theorem Mem.call3 {w0 w w' : World} {L : List Item} {e e2 e3 : TypeId} {sz sz2 sz3 n c n2 c2 n3 c3 : Nat} {q q2 q3 : Option Addr} {xs ys zs : List Value} (h : Mem w0 w L) (hc : Mem w w' [ownI w.heap.size e sz q n c xs, ownI w.heap.size e2 sz2 q2 n2 c2 ys, ownI w.heap.size e3 sz3 q3 n3 c3 zs]) :
    Mem w0 w' (ownI w0.heap.size e sz q n c xs :: ownI w0.heap.size e2 sz2 q2 n2 c2 ys :: ownI w0.heap.size e3 sz3 q3 n3 c3 zs :: L) := by
  have hsz := h.ext.sz
  have ho1 := Mem.own (i := 0) hc rfl
  have ho2 := Mem.own (i := 1) hc rfl
  have ho3 := Mem.own (i := 2) hc rfl
  have h3 := h.ownNew hc.ext ho3 (Nat.le_refl _)
  have hap := List.pairwise_cons.1 hc.apart
  have hap2 := List.pairwise_cons.1 hap.2
  have h2 : Mem w0 w' (ownI w0.heap.size e2 sz2 q2 n2 c2 ys :: ownI w0.heap.size e3 sz3 q3 n3 c3 zs :: L) := by
    refine h3.cons (ownI_good _ _ _ _ _ _ _) (own_low ho2 hsz) ?_
    intro g hg j hj hjg
    rcases List.mem_cons.1 hj with rfl | hj
    · exact hap2.1 (ownI w.heap.size e3 sz3 q3 n3 c3 zs) (by simp) g hg hjg
    · have h4 := (h.good j hj).lt w (h.ok j hj) g hjg
      have h5 := ho2.lt g hg
      omega
  refine h2.cons (ownI_good _ _ _ _ _ _ _) (own_low ho1 hsz) ?_
  intro g hg j hj hjg
  rcases List.mem_cons.1 hj with rfl | hj
  · exact hap.1 (ownI w.heap.size e2 sz2 q2 n2 c2 ys) (by simp) g hg hjg
  · rcases List.mem_cons.1 hj with rfl | hj
    · exact hap.1 (ownI w.heap.size e3 sz3 q3 n3 c3 zs) (by simp) g hg hjg
    · have h4 := (h.good j hj).lt w (h.ok j hj) g hjg
      have h5 := ho1.lt g hg
      omega

set_option maxRecDepth 100000 in
set_option maxHeartbeats 8000000 in
theorem exDf_o (P : Int) (q : Option Addr) (c2 : Nat) (q2 : Option Addr) (d2 : Nat) (T R : List Visit4) (id Px : Int) (Tx Rx : List Visit4) (F : List Int) (w : World) (hsz : T.length + R.length ≤ 1048576) (hs1 : Tx.length ≤ 1048576) (hs2 : Rx.length ≤ 1048576) (hs3 : F.length ≤ 1048576)
    (HZ : Hid (∀ w, Calls Try.prog 7 #[.agg #[.int .i64 P, .slice q T.length c2, .slice q2 R.length d2], .int .i64 1048576] w fun e w' => e = .returned (.int .i64 (1048576 - T.length - R.length)) ∧ Ext w w'))
    (HT : Hid (∀ w', Ext w w' → Calls Try.prog 9 #[.agg #[.int .i64 P, .slice q T.length c2, .slice q2 R.length d2]] w' fun e w'' => ∃ q5 c5 q6 c6, e = .returned (.agg #[.int .i64 P, .slice q5 T.length c5, .slice q6 R.length c6]) ∧ Mem w' w'' [ownI w'.heap.size TBk 4 (q5) (T.length) (c5) (T.flatMap visitCells), ownI w'.heap.size TBk 4 (q6) (R.length) (c6) (R.flatMap visitCells)]))
    (HSp : Hid (∀ q c r d w', Sl w' q T.length c 4 (T.flatMap visitCells) → Sl w' r R.length d 4 (R.flatMap visitCells) → Calls Try.prog 8 #[.agg #[.int .i64 P, .slice q T.length c, .slice r R.length d], .int .i64 id] w' fun e w'' => ∃ qa ca qb cb qc cc, e = .returned (.tuple #[.agg #[.int .i64 Px, .slice qa Tx.length ca, .slice qb Rx.length cb], .slice qc F.length cc]) ∧ Mem w' w'' [ownI w'.heap.size TBk 4 (qa) (Tx.length) (ca) (Tx.flatMap visitCells), ownI w'.heap.size TBk 4 (qb) (Rx.length) (cb) (Rx.flatMap visitCells), ownI w'.heap.size TI 1 (qc) (F.length) (cc) (ivs F)]))
    (HIm : Hid (∀ q c r d w', Sl w' q T.length c 4 (T.flatMap visitCells) → Sl w' r R.length d 4 (R.flatMap visitCells) → Calls Try.prog 10 #[.agg #[.int .i64 P, .slice q T.length c, .slice r R.length d], .int .i64 id] w' fun e w'' => ∃ qa ca qb cb qc cc, e = .returned (.tuple #[.agg #[.int .i64 Px, .slice qa Tx.length ca, .slice qb Rx.length cb], .slice qc F.length cc]) ∧ Mem w' w'' [ownI w'.heap.size TBk 4 (qa) (Tx.length) (ca) (Tx.flatMap visitCells), ownI w'.heap.size TBk 4 (qb) (Rx.length) (cb) (Rx.flatMap visitCells), ownI w'.heap.size TI 1 (qc) (F.length) (cc) (ivs F)]))
    (HE : Hid (∀ (d : DeskD) q c r e q' c' r' e' w', IsDesk w' d q c r e → IsDesk w' d q' c' r' e' → Calls Try.prog 11 #[deskV d.places q d.taken.length c r d.row.length e, deskV d.places q' d.taken.length c' r' d.row.length e'] w' fun e w'' => e = .returned (.bool true) ∧ Ext w' w'')) :
    Calls Try.prog 3 #[.agg #[.int .i64 P, .slice q T.length c2, .slice q2 R.length d2], .int .i64 id] w fun e w' => e = .returned (.bool true) ∧ Ext w w' := by
  go_enter Try.func3, Try.ntmps3
  go_wp2_with fail
  refine (HZ.out _).mono ?_
  rintro e w1 ⟨rfl, hx1⟩
  have M1 := Lib.hid ((((Mem.start w).blkNew TLD #[.int .i64 P, .slice q T.length c2, .slice q2 R.length d2] (w.heap.size) (by simp))).adv hx1)
  have lt1_0 : w.heap.size < w1.heap.size := (M1.out.lt (i := 0) rfl rfl).2
  clear hx1
  obtain ⟨ca0, ca1, ca2⟩ := (M1.out.blk (i := 0) rfl).tri
  go_wp2_with fail
  clear ca0 ca1 ca2
  refine (HT.out _ (M1.out).ext).mono ?_
  rintro e w2 ⟨q5, c5, q6, c6, rfl, hm2⟩
  have M2 := Lib.hid ((M1.out).call2 hm2)
  clear M1
  clear lt1_0
  have lt2_2 : w.heap.size < w2.heap.size := (M2.out.lt (i := 2) rfl rfl).2
  clear hm2
  go_wp2_with fail
  refine (HSp.out _ _ _ _ _ ((M2.out).sl (i := 0) rfl) ((M2.out).sl (i := 1) rfl)).mono ?_
  rintro e w3 ⟨q7, c7, q8, c8, q9, c9, rfl, hm3⟩
  have M3 := Lib.hid ((M2.out).call3 hm3)
  clear M2
  clear lt2_2
  have lt3_5 : w.heap.size < w3.heap.size := (M3.out.lt (i := 5) rfl rfl).2
  clear hm3
  obtain ⟨ca0, ca1, ca2⟩ := (M3.out.blk (i := 5) rfl).tri
  go_wp2_with fail
  clear ca0 ca1 ca2
  refine (HT.out _ ((show Mem w (w3.alloc (.cells #[.int .i64 Px, .slice q7 Tx.length c7, .slice q8 Rx.length c8] TDk)) [blkI w.heap.size (w3.heap.size) TDk #[.int .i64 Px, .slice q7 Tx.length c7, .slice q8 Rx.length c8], ownI w.heap.size TBk 4 (q7) (Tx.length) (c7) (Tx.flatMap visitCells), ownI w.heap.size TBk 4 (q8) (Rx.length) (c8) (Rx.flatMap visitCells), ownI w.heap.size TI 1 (q9) (F.length) (c9) (ivs F), blkI w.heap.size (w.heap.size) TLD #[.int .i64 P, .slice q T.length c2, .slice q2 R.length d2]] from (((M3.out).blkNew TDk #[.int .i64 Px, .slice q7 Tx.length c7, .slice q8 Rx.length c8] (w3.heap.size) (by simp))).pick [0, 1, 2, 3, 6] (by decide) rfl)).ext).mono ?_
  rintro e w4 ⟨q11, c11, q12, c12, rfl, hm4⟩
  have M4 := Lib.hid (show Mem w w4 [ownI w.heap.size TBk 4 (q11) (T.length) (c11) (T.flatMap visitCells), ownI w.heap.size TBk 4 (q12) (R.length) (c12) (R.flatMap visitCells), blkI w.heap.size (w3.heap.size) TDk #[.int .i64 Px, .slice q7 Tx.length c7, .slice q8 Rx.length c8], ownI w.heap.size TBk 4 (q7) (Tx.length) (c7) (Tx.flatMap visitCells), ownI w.heap.size TBk 4 (q8) (Rx.length) (c8) (Rx.flatMap visitCells), ownI w.heap.size TI 1 (q9) (F.length) (c9) (ivs F), blkI w.heap.size (w.heap.size) TLD #[.int .i64 P, .slice q T.length c2, .slice q2 R.length d2]] from ((show Mem w (w3.alloc (.cells #[.int .i64 Px, .slice q7 Tx.length c7, .slice q8 Rx.length c8] TDk)) [blkI w.heap.size (w3.heap.size) TDk #[.int .i64 Px, .slice q7 Tx.length c7, .slice q8 Rx.length c8], ownI w.heap.size TBk 4 (q7) (Tx.length) (c7) (Tx.flatMap visitCells), ownI w.heap.size TBk 4 (q8) (Rx.length) (c8) (Rx.flatMap visitCells), ownI w.heap.size TI 1 (q9) (F.length) (c9) (ivs F), blkI w.heap.size (w.heap.size) TLD #[.int .i64 P, .slice q T.length c2, .slice q2 R.length d2]] from (((M3.out).blkNew TDk #[.int .i64 Px, .slice q7 Tx.length c7, .slice q8 Rx.length c8] (w3.heap.size) (by simp))).pick [0, 1, 2, 3, 6] (by decide) rfl)).call2 hm4)
  clear M3
  clear lt3_5
  have lt4_2 : w3.heap.size < w4.heap.size := (M4.out.lt (i := 2) rfl rfl).2
  have lt4_6 : w.heap.size < w4.heap.size := (M4.out.lt (i := 6) rfl rfl).2
  clear hm4
  go_wp2_with fail
  refine (HIm.out _ _ _ _ _ ((((M4.out).blkNew TDk #[.int .i64 P, .slice q11 T.length c11, .slice q12 R.length c12] (w4.heap.size) (by simp))).sl (i := 1) rfl) ((((M4.out).blkNew TDk #[.int .i64 P, .slice q11 T.length c11, .slice q12 R.length c12] (w4.heap.size) (by simp))).sl (i := 2) rfl)).mono ?_
  rintro e w5 ⟨q13, c13, q14, c14, q15, c15, rfl, hm5⟩
  have M5 := Lib.hid ((((M4.out).blkNew TDk #[.int .i64 P, .slice q11 T.length c11, .slice q12 R.length c12] (w4.heap.size) (by simp))).call3 hm5)
  clear M4
  clear lt4_2 lt4_6
  have lt5_3 : w4.heap.size < w5.heap.size := (M5.out.lt (i := 3) rfl rfl).2
  have lt5_6 : w3.heap.size < w5.heap.size := (M5.out.lt (i := 6) rfl rfl).2
  have lt5_10 : w.heap.size < w5.heap.size := (M5.out.lt (i := 10) rfl rfl).2
  clear hm5
  obtain ⟨cb0, cb1, cb2⟩ := (M5.out.blk (i := 6) rfl).tri
  go_wp2_with fail
  clear cb0 cb1 cb2
  refine (HE.out ⟨Px, Tx, Rx⟩ _ _ _ _ _ _ _ _ _ ⟨((((M5.out).blkNew TDk #[.int .i64 Px, .slice q13 Tx.length c13, .slice q14 Rx.length c14] (w5.heap.size) (by simp))).sl (i := 1) rfl), ((((M5.out).blkNew TDk #[.int .i64 Px, .slice q13 Tx.length c13, .slice q14 Rx.length c14] (w5.heap.size) (by simp))).sl (i := 2) rfl)⟩ ⟨((((M5.out).blkNew TDk #[.int .i64 Px, .slice q13 Tx.length c13, .slice q14 Rx.length c14] (w5.heap.size) (by simp))).sl (i := 8) rfl), ((((M5.out).blkNew TDk #[.int .i64 Px, .slice q13 Tx.length c13, .slice q14 Rx.length c14] (w5.heap.size) (by simp))).sl (i := 9) rfl)⟩).mono ?_
  rintro e w6 ⟨rfl, hx6⟩
  have M6 := Lib.hid ((((M5.out).blkNew TDk #[.int .i64 Px, .slice q13 Tx.length c13, .slice q14 Rx.length c14] (w5.heap.size) (by simp))).adv hx6)
  clear M5
  clear lt5_3 lt5_6 lt5_10
  have lt6_0 : w5.heap.size < w6.heap.size := (M6.out.lt (i := 0) rfl rfl).2
  have lt6_4 : w4.heap.size < w6.heap.size := (M6.out.lt (i := 4) rfl rfl).2
  have lt6_7 : w3.heap.size < w6.heap.size := (M6.out.lt (i := 7) rfl rfl).2
  have lt6_11 : w.heap.size < w6.heap.size := (M6.out.lt (i := 11) rfl rfl).2
  clear hx6
  go_wp2_with fail
  refine (eqIntS_any q15 q9 F.length c15 c9 F _ ((M6.out).sl (i := 3) rfl) ((M6.out).sl (i := 10) rfl)).mono ?_
  rintro e w7 ⟨rfl, hx7⟩
  have M7 := Lib.hid ((M6.out).adv hx7)
  clear M6
  clear lt6_0 lt6_4 lt6_7 lt6_11
  have lt7_0 : w5.heap.size < w7.heap.size := (M7.out.lt (i := 0) rfl rfl).2
  have lt7_4 : w4.heap.size < w7.heap.size := (M7.out.lt (i := 4) rfl rfl).2
  have lt7_7 : w3.heap.size < w7.heap.size := (M7.out.lt (i := 7) rfl rfl).2
  have lt7_11 : w.heap.size < w7.heap.size := (M7.out.lt (i := 11) rfl rfl).2
  clear hx7
  have ID7 := Lib.hid (show IsDesk w7 ⟨P, T, R⟩ q11 c11 q12 c12 from ⟨(M7.out.sl (i := 5) rfl), (M7.out.sl (i := 6) rfl)⟩)
  go_wp2
  refine region_lin (gl [gEq (.agg #[.int .i64 P, .slice q11 T.length c11, .slice q12 R.length c12]), gEq (.agg #[.int .i64 P, .slice q T.length c2, .slice q2 R.length d2]), (fun v w' => ∃ q c r e, v = .agg #[.int .i64 P, .slice q T.length c, .slice r R.length e] ∧ IsDesk w' ⟨P, T, R⟩ q c r e), gEq (.bool true), gEq (.bool false)]) 5 (by kernel_rfl) rfl (by kernel_rfl) (by kernel_rfl) (by kernel_rfl) (gl_mono (gl_cons (gEq_mono _) (gl_cons (gEq_mono _) (gl_cons (fun v w w' ⟨q, c, r, e, he, ho⟩ hx => ⟨q, c, r, e, he, ho.ext hx⟩) (gl_cons (gEq_mono _) (gl_cons (gEq_mono _) (gl_nil))))))) (k := 5) (by kernel_rfl) (by decide) (ls := [(0, some 46), (1, some 47), (2, some 48), (3, some 49), (4, some 50)]) (by kernel_rfl) (ir := [0, 1, 2, 3, 4]) (by kernel_rfl) ?steps (tl := #[true, true, true, true, true]) (by kernel_rfl) ?fin
  case steps =>
    refine StepsL.cons (ps := []) rfl (by kernel_rfl) (fun wi hx => ?_) ?_
    · intro K hK
      have hX : Ext w7 wi := by (repeat' (first | exact Ext.refl _ | (with_reducible assumption) | (with_reducible refine Ext.alloc ?_ _) | (with_reducible refine Ext.setCell ?_ (by first | exact Nat.le_refl _ | (dsimp only; omega) | (simp; done) | (simp; omega)) _) | (with_reducible refine Ext.drew ?_) | (with_reducible refine Ext.drewN ?_ _) | (refine Ext.trans ?_ (by with_reducible assumption))))
      have cl0 : wi.cell? ⟨w4.heap.size, 0, none⟩ = some (.int .i64 P) := ((M7.out.blk (i := 4) rfl).ext hX).cell 0
      have cl1 : wi.cell? ⟨w4.heap.size, 1, none⟩ = some (.slice q11 T.length c11) := ((M7.out.blk (i := 4) rfl).ext hX).cell 1
      have cl2 : wi.cell? ⟨w4.heap.size, 2, none⟩ = some (.slice q12 R.length c12) := ((M7.out.blk (i := 4) rfl).ext hX).cell 2
      go_simp
      exact hK _ _ ⟨.agg #[.int .i64 P, .slice q11 T.length c11, .slice q12 R.length c12], rfl, rfl, Ext.refl _⟩
    refine StepsL.cons (ps := []) rfl (by kernel_rfl) (fun wi hx => ?_) ?_
    · intro K hK
      have hX : Ext w7 wi := by (repeat' (first | exact Ext.refl _ | (with_reducible assumption) | (with_reducible refine Ext.alloc ?_ _) | (with_reducible refine Ext.setCell ?_ (by first | exact Nat.le_refl _ | (dsimp only; omega) | (simp; done) | (simp; omega)) _) | (with_reducible refine Ext.drew ?_) | (with_reducible refine Ext.drewN ?_ _) | (refine Ext.trans ?_ (by with_reducible assumption))))
      have cl0 : wi.cell? ⟨w.heap.size, 0, none⟩ = some (.int .i64 P) := ((M7.out.blk (i := 11) rfl).ext hX).cell 0
      have cl1 : wi.cell? ⟨w.heap.size, 1, none⟩ = some (.slice q T.length c2) := ((M7.out.blk (i := 11) rfl).ext hX).cell 1
      have cl2 : wi.cell? ⟨w.heap.size, 2, none⟩ = some (.slice q2 R.length d2) := ((M7.out.blk (i := 11) rfl).ext hX).cell 2
      go_simp
      exact hK _ _ ⟨.agg #[.int .i64 P, .slice q T.length c2, .slice q2 R.length d2], rfl, rfl, Ext.refl _⟩
    refine StepsL.cons (ps := [(1, some 47)]) rfl (by kernel_rfl) (fun wi hx => ?_) ?_
    · intro v1 h1 K hK
      obtain rfl := h1
      go_simp
      refine (HT.out _ (M7.out.ext.trans hx.of_drew)).mono ?_
      rintro e w5 ⟨q21, c21, r21, e21, rfl, hm21⟩
      have ho21 : IsDesk w5 ⟨P, T, R⟩ q21 c21 r21 e21 := ⟨hm21.sl (i := 0) rfl, hm21.sl (i := 1) rfl⟩
      have hx5 := hm21.ext
      go_simp
      exact hK _ _ ⟨.agg #[.int .i64 P, .slice q21 T.length c21, .slice r21 R.length e21], rfl, ⟨q21, c21, r21, e21, rfl, ho21⟩, hx5⟩
    refine StepsL.cons (ps := [(0, some 46), (2, some 48)]) rfl (by kernel_rfl) (fun wi hx => ?_) ?_
    · intro v0 h0 v2 h2 K hK
      obtain rfl := h0
      obtain ⟨q21, c21, r21, e21, rfl, ho21⟩ := h2
      go_simp
      refine (HE.out ⟨P, T, R⟩ _ _ _ _ _ _ _ _ _ (ID7.out.ext hx.of_drew) ho21).mono ?_
      rintro e w5 ⟨rfl, hx5⟩
      go_simp
      exact hK _ _ ⟨.bool true, rfl, rfl, hx5⟩
    refine StepsL.cons (ps := [(3, some 49)]) rfl (by kernel_rfl) (fun wi hx => ?_) StepsL.nil
    · intro v3 h3 K hK
      obtain rfl := h3
      go_simp
      exact hK _ _ ⟨.bool false, rfl, rfl, Ext.refl _⟩
  case fin =>
    intro wi hx v0 h0 v1 h1 v2 h2 v3 h3 v4 h4
    obtain rfl := h0
    obtain rfl := h1
    obtain ⟨q21, c21, r21, e21, rfl, ho21⟩ := h2
    obtain rfl := h3
    obtain rfl := h4
    refine wpAny_done (by kernel_rfl) ?_ _
    try simp only [Act.put, List.setIfInBounds_toArray, List.set_cons_zero, List.set_cons_succ]
    have hX : Ext w7 wi := hx.of_drew
    have MI := Lib.hid (M7.out.adv hX)
    clear hX hx ID7 M7 lt7_0 lt7_4 lt7_7 lt7_11
    have lt30_0 : w5.heap.size < wi.heap.size := (MI.out.lt (i := 0) rfl rfl).2
    have lt30_4 : w4.heap.size < wi.heap.size := (MI.out.lt (i := 4) rfl rfl).2
    have lt30_7 : w3.heap.size < wi.heap.size := (MI.out.lt (i := 7) rfl rfl).2
    have lt30_11 : w.heap.size < wi.heap.size := (MI.out.lt (i := 11) rfl rfl).2
    obtain ⟨ca0, ca1, ca2⟩ := (MI.out.blk (i := 4) rfl).tri
    go_wp2_with fail
    clear ca0 ca1 ca2
    refine (markDesk_m P q11 T.length c11 q12 R.length c12 1 _ _ _ _ _ ((show Mem w wi [ownI w.heap.size TBk 4 (q11) (T.length) (c11) (T.flatMap visitCells), ownI w.heap.size TBk 4 (q12) (R.length) (c12) (R.flatMap visitCells), blkI w.heap.size (w4.heap.size) TDk #[.int .i64 P, .slice q11 T.length c11, .slice q12 R.length c12], ownI w.heap.size TBk 4 (q13) (Tx.length) (c13) (Tx.flatMap visitCells), ownI w.heap.size TBk 4 (q14) (Rx.length) (c14) (Rx.flatMap visitCells), ownI w.heap.size TI 1 (q15) (F.length) (c15) (ivs F), ownI w.heap.size TBk 4 (q7) (Tx.length) (c7) (Tx.flatMap visitCells), ownI w.heap.size TBk 4 (q8) (Rx.length) (c8) (Rx.flatMap visitCells), ownI w.heap.size TI 1 (q9) (F.length) (c9) (ivs F), blkI w.heap.size (w5.heap.size) TDk #[.int .i64 Px, .slice q13 Tx.length c13, .slice q14 Rx.length c14], blkI w.heap.size (w3.heap.size) TDk #[.int .i64 Px, .slice q7 Tx.length c7, .slice q8 Rx.length c8], blkI w.heap.size (w.heap.size) TLD #[.int .i64 P, .slice q T.length c2, .slice q2 R.length d2]] from (MI.out).pick [5, 6, 4, 1, 2, 3, 8, 9, 10, 0, 7, 11] (by decide) rfl)) (by omega) (by omega) (by omega) (by omega)).mono ?_
    rintro e w31 ⟨rfl, hm31⟩
    have M31 := Lib.hid (hm31)
    clear MI
    clear lt30_0 lt30_4 lt30_7 lt30_11
    have lt31_2 : w4.heap.size < w31.heap.size := (M31.out.lt (i := 2) rfl rfl).2
    have lt31_9 : w5.heap.size < w31.heap.size := (M31.out.lt (i := 9) rfl rfl).2
    have lt31_10 : w3.heap.size < w31.heap.size := (M31.out.lt (i := 10) rfl rfl).2
    have lt31_11 : w.heap.size < w31.heap.size := (M31.out.lt (i := 11) rfl rfl).2
    clear hm31
    have k1 : (0 : Int) ≤ 1 + (T.length * 4 : Nat) + (R.length * 4 : Nat) := by omega
    have k2 : decide ((1 : Int) + (T.length * 4 : Nat) + (R.length * 4 : Nat) < 0) = false := by simp; omega
    obtain ⟨ca0, ca1, ca2⟩ := (M31.out.blk (i := 9) rfl).tri
    obtain ⟨cb0, cb1, cb2⟩ := (M31.out.blk (i := 10) rfl).tri
    go_wp2_with fail
    clear ca0 ca1 ca2 cb0 cb1 cb2
    refine (HE.out ⟨Px, Tx, Rx⟩ _ _ _ _ _ _ _ _ _ ⟨(((show Mem w w31 [ownI w.heap.size TBk 4 (q13) (Tx.length) (c13) (Tx.flatMap visitCells), ownI w.heap.size TBk 4 (q14) (Rx.length) (c14) (Rx.flatMap visitCells), ownI w.heap.size TI 1 (q15) (F.length) (c15) (ivs F), ownI w.heap.size TBk 4 (q7) (Tx.length) (c7) (Tx.flatMap visitCells), ownI w.heap.size TBk 4 (q8) (Rx.length) (c8) (Rx.flatMap visitCells), ownI w.heap.size TI 1 (q9) (F.length) (c9) (ivs F), blkI w.heap.size (w5.heap.size) TDk #[.int .i64 Px, .slice q13 Tx.length c13, .slice q14 Rx.length c14], blkI w.heap.size (w3.heap.size) TDk #[.int .i64 Px, .slice q7 Tx.length c7, .slice q8 Rx.length c8], blkI w.heap.size (w.heap.size) TLD #[.int .i64 P, .slice q T.length c2, .slice q2 R.length d2]] from (M31.out).pick [3, 4, 5, 6, 7, 8, 9, 10, 11] (by decide) rfl)).sl (i := 0) rfl), (((show Mem w w31 [ownI w.heap.size TBk 4 (q13) (Tx.length) (c13) (Tx.flatMap visitCells), ownI w.heap.size TBk 4 (q14) (Rx.length) (c14) (Rx.flatMap visitCells), ownI w.heap.size TI 1 (q15) (F.length) (c15) (ivs F), ownI w.heap.size TBk 4 (q7) (Tx.length) (c7) (Tx.flatMap visitCells), ownI w.heap.size TBk 4 (q8) (Rx.length) (c8) (Rx.flatMap visitCells), ownI w.heap.size TI 1 (q9) (F.length) (c9) (ivs F), blkI w.heap.size (w5.heap.size) TDk #[.int .i64 Px, .slice q13 Tx.length c13, .slice q14 Rx.length c14], blkI w.heap.size (w3.heap.size) TDk #[.int .i64 Px, .slice q7 Tx.length c7, .slice q8 Rx.length c8], blkI w.heap.size (w.heap.size) TLD #[.int .i64 P, .slice q T.length c2, .slice q2 R.length d2]] from (M31.out).pick [3, 4, 5, 6, 7, 8, 9, 10, 11] (by decide) rfl)).sl (i := 1) rfl)⟩ ⟨(((show Mem w w31 [ownI w.heap.size TBk 4 (q13) (Tx.length) (c13) (Tx.flatMap visitCells), ownI w.heap.size TBk 4 (q14) (Rx.length) (c14) (Rx.flatMap visitCells), ownI w.heap.size TI 1 (q15) (F.length) (c15) (ivs F), ownI w.heap.size TBk 4 (q7) (Tx.length) (c7) (Tx.flatMap visitCells), ownI w.heap.size TBk 4 (q8) (Rx.length) (c8) (Rx.flatMap visitCells), ownI w.heap.size TI 1 (q9) (F.length) (c9) (ivs F), blkI w.heap.size (w5.heap.size) TDk #[.int .i64 Px, .slice q13 Tx.length c13, .slice q14 Rx.length c14], blkI w.heap.size (w3.heap.size) TDk #[.int .i64 Px, .slice q7 Tx.length c7, .slice q8 Rx.length c8], blkI w.heap.size (w.heap.size) TLD #[.int .i64 P, .slice q T.length c2, .slice q2 R.length d2]] from (M31.out).pick [3, 4, 5, 6, 7, 8, 9, 10, 11] (by decide) rfl)).sl (i := 3) rfl), (((show Mem w w31 [ownI w.heap.size TBk 4 (q13) (Tx.length) (c13) (Tx.flatMap visitCells), ownI w.heap.size TBk 4 (q14) (Rx.length) (c14) (Rx.flatMap visitCells), ownI w.heap.size TI 1 (q15) (F.length) (c15) (ivs F), ownI w.heap.size TBk 4 (q7) (Tx.length) (c7) (Tx.flatMap visitCells), ownI w.heap.size TBk 4 (q8) (Rx.length) (c8) (Rx.flatMap visitCells), ownI w.heap.size TI 1 (q9) (F.length) (c9) (ivs F), blkI w.heap.size (w5.heap.size) TDk #[.int .i64 Px, .slice q13 Tx.length c13, .slice q14 Rx.length c14], blkI w.heap.size (w3.heap.size) TDk #[.int .i64 Px, .slice q7 Tx.length c7, .slice q8 Rx.length c8], blkI w.heap.size (w.heap.size) TLD #[.int .i64 P, .slice q T.length c2, .slice q2 R.length d2]] from (M31.out).pick [3, 4, 5, 6, 7, 8, 9, 10, 11] (by decide) rfl)).sl (i := 4) rfl)⟩).mono ?_
    rintro e w32 ⟨rfl, hx32⟩
    have M32 := Lib.hid (show Mem w w32 [ownI w.heap.size TBk 4 (q13) (Tx.length) (c13) (Tx.flatMap visitCells), ownI w.heap.size TBk 4 (q14) (Rx.length) (c14) (Rx.flatMap visitCells), ownI w.heap.size TI 1 (q15) (F.length) (c15) (ivs F), ownI w.heap.size TBk 4 (q7) (Tx.length) (c7) (Tx.flatMap visitCells), ownI w.heap.size TBk 4 (q8) (Rx.length) (c8) (Rx.flatMap visitCells), ownI w.heap.size TI 1 (q9) (F.length) (c9) (ivs F), blkI w.heap.size (w5.heap.size) TDk #[.int .i64 Px, .slice q13 Tx.length c13, .slice q14 Rx.length c14], blkI w.heap.size (w3.heap.size) TDk #[.int .i64 Px, .slice q7 Tx.length c7, .slice q8 Rx.length c8], blkI w.heap.size (w.heap.size) TLD #[.int .i64 P, .slice q T.length c2, .slice q2 R.length d2]] from ((show Mem w w31 [ownI w.heap.size TBk 4 (q13) (Tx.length) (c13) (Tx.flatMap visitCells), ownI w.heap.size TBk 4 (q14) (Rx.length) (c14) (Rx.flatMap visitCells), ownI w.heap.size TI 1 (q15) (F.length) (c15) (ivs F), ownI w.heap.size TBk 4 (q7) (Tx.length) (c7) (Tx.flatMap visitCells), ownI w.heap.size TBk 4 (q8) (Rx.length) (c8) (Rx.flatMap visitCells), ownI w.heap.size TI 1 (q9) (F.length) (c9) (ivs F), blkI w.heap.size (w5.heap.size) TDk #[.int .i64 Px, .slice q13 Tx.length c13, .slice q14 Rx.length c14], blkI w.heap.size (w3.heap.size) TDk #[.int .i64 Px, .slice q7 Tx.length c7, .slice q8 Rx.length c8], blkI w.heap.size (w.heap.size) TLD #[.int .i64 P, .slice q T.length c2, .slice q2 R.length d2]] from (M31.out).pick [3, 4, 5, 6, 7, 8, 9, 10, 11] (by decide) rfl)).adv hx32)
    clear M31
    clear lt31_2 lt31_9 lt31_10 lt31_11
    have lt32_6 : w5.heap.size < w32.heap.size := (M32.out.lt (i := 6) rfl rfl).2
    have lt32_7 : w3.heap.size < w32.heap.size := (M32.out.lt (i := 7) rfl rfl).2
    have lt32_8 : w.heap.size < w32.heap.size := (M32.out.lt (i := 8) rfl rfl).2
    clear hx32
    go_wp2_with fail
    refine (eqIntS_any q15 q9 F.length c15 c9 F _ ((M32.out).sl (i := 2) rfl) ((M32.out).sl (i := 5) rfl)).mono ?_
    rintro e w33 ⟨rfl, hx33⟩
    have M33 := Lib.hid ((M32.out).adv hx33)
    clear M32
    clear lt32_6 lt32_7 lt32_8
    have lt33_6 : w5.heap.size < w33.heap.size := (M33.out.lt (i := 6) rfl rfl).2
    have lt33_7 : w3.heap.size < w33.heap.size := (M33.out.lt (i := 7) rfl rfl).2
    have lt33_8 : w.heap.size < w33.heap.size := (M33.out.lt (i := 8) rfl rfl).2
    clear hx33
    obtain ⟨ca0, ca1, ca2⟩ := (M33.out.blk (i := 6) rfl).tri
    go_wp2_with fail
    clear ca0 ca1 ca2
    refine (markDesk_m Px q13 Tx.length c13 q14 Rx.length c14 1 _ _ _ _ _ ((show Mem w w33 [ownI w.heap.size TBk 4 (q13) (Tx.length) (c13) (Tx.flatMap visitCells), ownI w.heap.size TBk 4 (q14) (Rx.length) (c14) (Rx.flatMap visitCells), ownI w.heap.size TI 1 (q15) (F.length) (c15) (ivs F), ownI w.heap.size TBk 4 (q7) (Tx.length) (c7) (Tx.flatMap visitCells), ownI w.heap.size TBk 4 (q8) (Rx.length) (c8) (Rx.flatMap visitCells), ownI w.heap.size TI 1 (q9) (F.length) (c9) (ivs F), blkI w.heap.size (w5.heap.size) TDk #[.int .i64 Px, .slice q13 Tx.length c13, .slice q14 Rx.length c14], blkI w.heap.size (w3.heap.size) TDk #[.int .i64 Px, .slice q7 Tx.length c7, .slice q8 Rx.length c8], blkI w.heap.size (w.heap.size) TLD #[.int .i64 P, .slice q T.length c2, .slice q2 R.length d2]] from (M33.out).pick [0, 1, 2, 3, 4, 5, 6, 7, 8] (by decide) rfl)) (by omega) (by omega) (by omega) (by omega)).mono ?_
    rintro e w34 ⟨rfl, hm34⟩
    have M34 := Lib.hid (hm34)
    clear M33
    clear lt33_6 lt33_7 lt33_8
    have lt34_6 : w5.heap.size < w34.heap.size := (M34.out.lt (i := 6) rfl rfl).2
    have lt34_7 : w3.heap.size < w34.heap.size := (M34.out.lt (i := 7) rfl rfl).2
    have lt34_8 : w.heap.size < w34.heap.size := (M34.out.lt (i := 8) rfl rfl).2
    clear hm34
    have k3 : (0 : Int) ≤ 1 + (Tx.length * 4 : Nat) + (Rx.length * 4 : Nat) := by omega
    have k4 : decide ((1 : Int) + (Tx.length * 4 : Nat) + (Rx.length * 4 : Nat) < 0) = false := by simp; omega
    go_wp2_with fail
    refine (markInt_m (1 + (Tx.length * 4 : Nat) + (Rx.length * 4 : Nat)) _ ((M34.out.own (i := 2) rfl)) (by omega) (by omega) (by omega)).mono ?_
    rintro e w35 ⟨rfl, ho35, hg35⟩
    have M35 := Lib.hid (show Mem w w35 [ownI w.heap.size TBk 4 (q13) (Tx.length) (c13) (marksFrom 1 (Tx.length * 4)), ownI w.heap.size TBk 4 (q14) (Rx.length) (c14) (marksFrom (1 + (Tx.length * 4 : Nat)) (Rx.length * 4)), ownI w.heap.size TI 1 (q15) (F.length) (c15) (marksFrom (1 + (Tx.length * 4 : Nat) + (Rx.length * 4 : Nat)) (F.length * 1)), ownI w.heap.size TBk 4 (q7) (Tx.length) (c7) (Tx.flatMap visitCells), ownI w.heap.size TBk 4 (q8) (Rx.length) (c8) (Rx.flatMap visitCells), ownI w.heap.size TI 1 (q9) (F.length) (c9) (ivs F), blkI w.heap.size (w5.heap.size) TDk #[.int .i64 Px, .slice q13 Tx.length c13, .slice q14 Rx.length c14], blkI w.heap.size (w3.heap.size) TDk #[.int .i64 Px, .slice q7 Tx.length c7, .slice q8 Rx.length c8], blkI w.heap.size (w.heap.size) TLD #[.int .i64 P, .slice q T.length c2, .slice q2 R.length d2]] from (M34.out).app (i := 2) rfl ho35 hg35 (.inl rfl))
    clear M34
    clear lt34_6 lt34_7 lt34_8
    have lt35_6 : w5.heap.size < w35.heap.size := (M35.out.lt (i := 6) rfl rfl).2
    have lt35_7 : w3.heap.size < w35.heap.size := (M35.out.lt (i := 7) rfl rfl).2
    have lt35_8 : w.heap.size < w35.heap.size := (M35.out.lt (i := 8) rfl rfl).2
    clear ho35 hg35
    have k5 : (0 : Int) ≤ 1 + (Tx.length * 4 : Nat) + (Rx.length * 4 : Nat) + (F.length * 1 : Nat) := by omega
    have k6 : decide ((1 : Int) + (Tx.length * 4 : Nat) + (Rx.length * 4 : Nat) + (F.length * 1 : Nat) < 0) = false := by simp; omega
    obtain ⟨ca0, ca1, ca2⟩ := (M35.out.blk (i := 6) rfl).tri
    go_wp2_with fail
    clear ca0 ca1 ca2
    refine (heldDesk_m Px q13 Tx.length c13 q14 Rx.length c14 1 _ _ ((M35.out.own (i := 0) rfl)) ((M35.out.own (i := 1) rfl)) (by omega) (by omega) (by omega) (by omega)).mono ?_
    rintro e w36 ⟨rfl, hx36⟩
    have M36 := Lib.hid ((M35.out).adv hx36)
    clear M35
    clear lt35_6 lt35_7 lt35_8
    have lt36_6 : w5.heap.size < w36.heap.size := (M36.out.lt (i := 6) rfl rfl).2
    have lt36_7 : w3.heap.size < w36.heap.size := (M36.out.lt (i := 7) rfl rfl).2
    have lt36_8 : w.heap.size < w36.heap.size := (M36.out.lt (i := 8) rfl rfl).2
    clear hx36
    go_wp2_with fail
    refine (heldInt_m (1 + (Tx.length * 4 : Nat) + (Rx.length * 4 : Nat)) _ ((M36.out.own (i := 2) rfl)) (by omega) (by omega) (by omega)).mono ?_
    rintro e w' ⟨rfl, rfl⟩
    obtain ⟨ca0, ca1, ca2⟩ := (M36.out.blk (i := 8) rfl).tri
    go_wp2_with fail
    clear ca0 ca1 ca2
    refine (HT.out _ (M36.out).ext).mono ?_
    rintro e w37 ⟨q16, c16, q17, c17, rfl, hm37⟩
    have M37 := Lib.hid ((M36.out).call2 hm37)
    clear M36
    clear lt36_6 lt36_7 lt36_8
    have lt37_8 : w5.heap.size < w37.heap.size := (M37.out.lt (i := 8) rfl rfl).2
    have lt37_9 : w3.heap.size < w37.heap.size := (M37.out.lt (i := 9) rfl rfl).2
    have lt37_10 : w.heap.size < w37.heap.size := (M37.out.lt (i := 10) rfl rfl).2
    clear hm37
    go_wp2_with fail
    refine (HIm.out _ _ _ _ _ ((M37.out).sl (i := 0) rfl) ((M37.out).sl (i := 1) rfl)).mono ?_
    rintro e w38 ⟨q18, c18, q19, c19, q20, c20, rfl, hm38⟩
    have M38 := Lib.hid ((M37.out).call3 hm38)
    clear M37
    clear lt37_8 lt37_9 lt37_10
    have lt38_11 : w5.heap.size < w38.heap.size := (M38.out.lt (i := 11) rfl rfl).2
    have lt38_12 : w3.heap.size < w38.heap.size := (M38.out.lt (i := 12) rfl rfl).2
    have lt38_13 : w.heap.size < w38.heap.size := (M38.out.lt (i := 13) rfl rfl).2
    clear hm38
    obtain ⟨cb0, cb1, cb2⟩ := (M38.out.blk (i := 12) rfl).tri
    go_wp2_with fail
    clear cb0 cb1 cb2
    refine (HE.out ⟨Px, Tx, Rx⟩ _ _ _ _ _ _ _ _ _ ⟨((((M38.out).blkNew TDk #[.int .i64 Px, .slice q18 Tx.length c18, .slice q19 Rx.length c19] (w38.heap.size) (by simp))).sl (i := 1) rfl), ((((M38.out).blkNew TDk #[.int .i64 Px, .slice q18 Tx.length c18, .slice q19 Rx.length c19] (w38.heap.size) (by simp))).sl (i := 2) rfl)⟩ ⟨((((M38.out).blkNew TDk #[.int .i64 Px, .slice q18 Tx.length c18, .slice q19 Rx.length c19] (w38.heap.size) (by simp))).sl (i := 9) rfl), ((((M38.out).blkNew TDk #[.int .i64 Px, .slice q18 Tx.length c18, .slice q19 Rx.length c19] (w38.heap.size) (by simp))).sl (i := 10) rfl)⟩).mono ?_
    rintro e w39 ⟨rfl, hx39⟩
    have M39 := Lib.hid ((((M38.out).blkNew TDk #[.int .i64 Px, .slice q18 Tx.length c18, .slice q19 Rx.length c19] (w38.heap.size) (by simp))).adv hx39)
    clear M38
    clear lt38_11 lt38_12 lt38_13
    have lt39_0 : w38.heap.size < w39.heap.size := (M39.out.lt (i := 0) rfl rfl).2
    have lt39_12 : w5.heap.size < w39.heap.size := (M39.out.lt (i := 12) rfl rfl).2
    have lt39_13 : w3.heap.size < w39.heap.size := (M39.out.lt (i := 13) rfl rfl).2
    have lt39_14 : w.heap.size < w39.heap.size := (M39.out.lt (i := 14) rfl rfl).2
    clear hx39
    go_wp2_with fail
    refine (eqIntS_any q20 q9 F.length c20 c9 F _ ((M39.out).sl (i := 3) rfl) ((M39.out).sl (i := 11) rfl)).mono ?_
    rintro e w40 ⟨rfl, hx40⟩
    have M40 := Lib.hid ((M39.out).adv hx40)
    clear M39
    clear lt39_0 lt39_12 lt39_13 lt39_14
    have lt40_0 : w38.heap.size < w40.heap.size := (M40.out.lt (i := 0) rfl rfl).2
    have lt40_12 : w5.heap.size < w40.heap.size := (M40.out.lt (i := 12) rfl rfl).2
    have lt40_13 : w3.heap.size < w40.heap.size := (M40.out.lt (i := 13) rfl rfl).2
    have lt40_14 : w.heap.size < w40.heap.size := (M40.out.lt (i := 14) rfl rfl).2
    clear hx40
    obtain ⟨ca0, ca1, ca2⟩ := (M40.out.blk (i := 12) rfl).tri
    go_wp2_with fail
    clear ca0 ca1 ca2
    refine (heldDesk_m Px q13 Tx.length c13 q14 Rx.length c14 1 _ _ ((M40.out.own (i := 6) rfl)) ((M40.out.own (i := 7) rfl)) (by omega) (by omega) (by omega) (by omega)).mono ?_
    rintro e w41 ⟨rfl, hx41⟩
    have M41 := Lib.hid ((M40.out).adv hx41)
    clear M40
    clear lt40_0 lt40_12 lt40_13 lt40_14
    have lt41_0 : w38.heap.size < w41.heap.size := (M41.out.lt (i := 0) rfl rfl).2
    have lt41_12 : w5.heap.size < w41.heap.size := (M41.out.lt (i := 12) rfl rfl).2
    have lt41_13 : w3.heap.size < w41.heap.size := (M41.out.lt (i := 13) rfl rfl).2
    have lt41_14 : w.heap.size < w41.heap.size := (M41.out.lt (i := 14) rfl rfl).2
    clear hx41
    go_wp2_with fail
    refine (heldInt_m (1 + (Tx.length * 4 : Nat) + (Rx.length * 4 : Nat)) _ ((M41.out.own (i := 8) rfl)) (by omega) (by omega) (by omega)).mono ?_
    rintro e w' ⟨rfl, rfl⟩
    go_wp2
    go_ret
    exact ⟨rfl, M41.out.ext⟩
theorem szDesk_small (d : DeskD) (q : Option Addr) (c2 : Nat) (q2 : Option Addr) (d2 : Nat) (w : World) (h : d.taken.length + d.row.length ≤ 1048576) : Calls Try.prog 7 #[deskV d.places q d.taken.length c2 q2 d.row.length d2, .int .i64 1048576] w fun e w' => e = .returned (.int .i64 (1048576 - d.taken.length - d.row.length)) ∧ Ext w w' := by
  have := szDesk_any d.places q d.taken.length c2 q2 d.row.length d2 w (by omega) (by omega)
  rwa [if_neg (by omega)] at this
theorem szDesk_big (d : DeskD) (q : Option Addr) (c2 : Nat) (q2 : Option Addr) (d2 : Nat) (w : World) (h1 : d.taken.length ≤ 9223372036854775807) (h2 : d.row.length ≤ 9223372036854775807) (h : ¬ d.taken.length + d.row.length ≤ 1048576) : Calls Try.prog 7 #[deskV d.places q d.taken.length c2 q2 d.row.length d2, .int .i64 1048576] w fun e w' => e = .returned (.int .i64 (-1)) ∧ Ext w w' := by
  have := szDesk_any d.places q d.taken.length c2 q2 d.row.length d2 w h1 h2
  rwa [if_pos (by omega)] at this
theorem free_len (d : DeskD) (id : Int) : (deskFree d id).1.taken.length ≤ 7 ∧ (deskFree d id).1.row.length ≤ 5 ∧ (deskFree d id).2.length ≤ 5 := by
  cases hv : deskValid d with
  | false =>
    have : deskFree d id = (⟨0, [], []⟩, []) := by unfold deskFree; rw [if_neg (by rw [hv]; decide)]
    rw [this]; simp
  | true =>
    have h1 := desk_len (free_ok (id := id) hv)
    refine ⟨h1.1, h1.2, ?_⟩
    unfold deskFree; rw [if_pos hv]
    have hl := desk_len hv
    cases idxOf id d.row with
    | some i => simp
    | none =>
      cases idxOf id d.taken with
      | none => simp
      | some i =>
        have h := (freeFold_len d.places d.row (d.taken.eraseIdx i, [], [])).2
        simp only [List.length_nil] at h
        show (freeRun d.places (d.taken.eraseIdx i) d.row).2.2.length ≤ 5
        unfold freeRun
        omega
set_option maxRecDepth 100000 in
set_option maxHeartbeats 1000000 in
theorem exDf_big (P : Int) (q : Option Addr) (c2 : Nat) (q2 : Option Addr) (d2 : Nat) (T R : List Visit4) (id : Int) (w : World) (HZ : Hid (∀ w, Calls Try.prog 7 #[.agg #[.int .i64 P, .slice q T.length c2, .slice q2 R.length d2], .int .i64 1048576] w fun e w' => e = .returned (.int .i64 (-1)) ∧ Ext w w')) :
    Calls Try.prog 3 #[.agg #[.int .i64 P, .slice q T.length c2, .slice q2 R.length d2], .int .i64 id] w fun e w' => e = .returned (.bool true) ∧ Ext w w' := by
  go_enter Try.func3, Try.ntmps3
  go_wp2_with fail
  refine (HZ.out _).mono ?_
  rintro e w1 ⟨rfl, h1⟩
  go_wp2
  go_ret
  exact ⟨rfl, by (repeat' (first | exact Ext.refl _ | (with_reducible assumption) | (with_reducible refine Ext.alloc ?_ _) | (with_reducible refine Ext.setCell ?_ (by first | exact Nat.le_refl _ | (dsimp only; omega) | (simp; done) | (simp; omega)) _) | (with_reducible refine Ext.drew ?_) | (with_reducible refine Ext.drewN ?_ _) | (refine Ext.trans ?_ (by with_reducible assumption))))⟩
theorem RetFree.is {D : DeskD × List Int} {w w' : World} {e : Ending} (h : RetFree D w e w') : ∃ qa ca qb cb qc cc, e = .returned (.tuple #[.agg #[.int .i64 D.1.places, .slice qa D.1.taken.length ca, .slice qb D.1.row.length cb], .slice qc D.2.length cc]) ∧ Mem w w' [ownI w.heap.size TBk 4 (qa) (D.1.taken.length) (ca) (D.1.taken.flatMap visitCells), ownI w.heap.size TBk 4 (qb) (D.1.row.length) (cb) (D.1.row.flatMap visitCells), ownI w.heap.size TI 1 (qc) (D.2.length) (cc) (ivs D.2)] := by
  obtain ⟨qa, na, ca, qb, nb, cb, qc, nc, cc, he, h1, h2, h3, hM⟩ := h
  subst h1 h2 h3
  exact ⟨qa, ca, qb, cb, qc, cc, he, hM⟩
set_option maxRecDepth 100000 in
set_option maxHeartbeats 1000000 in
theorem walk_FnExactDeskFree (W : World) (v : Value) (y : DeskD × (Option Addr × Nat) × (Option Addr × Nat)) (f : v = deskV y.1.places y.2.1.1 y.1.taken.length y.2.1.2 y.2.2.1 y.1.row.length y.2.2.2 ∧ IsDesk W y.1 y.2.1.1 y.2.1.2 y.2.2.1 y.2.2.2 ∧ goodDesk y.1) (id : Int) (hid : B64 id) :
    Calls Try.prog 3 #[v, .int .i64 id] W fun e w' => e = .returned (.bool true) ∧ Ext W w' := by
  obtain ⟨rfl, hi, _⟩ := f
  obtain ⟨⟨P, T, R⟩, ⟨q, c2⟩, ⟨q2, d2⟩⟩ := y
  have hf := free_len ⟨P, T, R⟩ id
  by_cases hs : T.length + R.length ≤ 1048576
  · exact exDf_o P q c2 q2 d2 T R id (deskFree ⟨P, T, R⟩ id).1.places (deskFree ⟨P, T, R⟩ id).1.taken (deskFree ⟨P, T, R⟩ id).1.row (deskFree ⟨P, T, R⟩ id).2 W hs (by omega) (by omega) (by omega) (fun w => szDesk_small ⟨P, T, R⟩ q c2 q2 d2 w hs)
      (fun w' hx => (toDesk_any ⟨P, T, R⟩ q c2 q2 d2 w' (by show T.length ≤ _; omega) (by show R.length ≤ _; omega) (hi.ext hx)).mono (fun e w'' h => h))
      (fun q c r d w' h1 h2 => (specFree P q T.length c r R.length d id T R w' h1 h2).mono (fun e w'' h => h.is))
      (fun q c r d w' h1 h2 => (implFree P q T.length c r R.length d id T R w' h1 h2).mono (fun e w'' h => h.is))
      (fun d q c r e q' c' r' e' w' h h' => eqDesk_any d q c r e q' c' r' e' w' h h')
  · exact exDf_big P q c2 q2 d2 T R id W (fun w => szDesk_big ⟨P, T, R⟩ q c2 q2 d2 w hi.tk.bd hi.rw.bd hs)
end Go.Proofs.Ytndcnflchkfaeaa
