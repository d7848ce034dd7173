/-
  The walk of the law FnExactBooksKeep.
-/
import Derived.Test.YtndcnflchkfaeaaBk14
import Derived.Test.YtndcnflchkfaeaaLawI
import Derived.Test.YtndcnflchkfaeaaLawH
namespace Go.Proofs.Ytndcnflchkfaeaa
open Go.RowKit
set_option linter.unusedVariables false
set_option linter.unusedSimpArgs false

set_option maxRecDepth 100000 in
set_option maxHeartbeats 8000000 in
theorem exBk_big (q : Option Addr) (m c2 : Nat) (P : Int) (w : World) (HZ : Hid (∀ w, Calls Try.prog 17 #[.slice q m c2, .int .i64 1048576] w fun e w' => e = .returned (.int .i64 (-1)) ∧ w = w')) :
    Calls Try.prog 4 #[.slice q m c2, .int .i64 P] w fun e w' => e = .returned (.bool true) ∧ Ext w w' := by
  go_enter Try.func4, Try.ntmps4
  go_wp2_with fail
  refine (HZ.out _).mono ?_
  rintro e w1 ⟨rfl, rfl⟩
  go_wp2
  go_ret
  exact ⟨rfl, by (repeat' (first | exact Ext.refl _ | (with_reducible assumption) | (with_reducible refine Ext.alloc ?_ _) | (with_reducible refine Ext.setCell ?_ (by first | exact Nat.le_refl _ | (dsimp only; omega) | (simp; done) | (simp; omega)) _) | (with_reducible refine Ext.drew ?_) | (with_reducible refine Ext.drewN ?_ _) | (refine Ext.trans ?_ (by with_reducible assumption))))⟩
set_option maxRecDepth 100000 in
set_option maxHeartbeats 8000000 in
theorem exBk_o (q : Option Addr) (m c2 n : Nat) (P : Int) (bs : List Visit4) (rs : List Int) (w : World) (hm : m ≤ 1048576) (hn : n ≤ 1000)
    (HZ : Hid (∀ w, Calls Try.prog 17 #[.slice q m c2, .int .i64 1048576] w fun e w' => e = .returned (.int .i64 (1048576 - m)) ∧ w = w'))
    (HT : Hid (∀ w', Ext w w' → Calls Try.prog 19 #[.slice q m c2] w' fun e w'' => ∃ q' c', e = .returned (.slice q' m c') ∧ w''.ownsRow w'.heap.size TBk 4 (.slice q' m c') m (bs.flatMap visitCells) ∧ Ext w' w''))
    (HSp : Hid (∀ q c w', Sl w' q m c 4 (bs.flatMap visitCells) → Calls Try.prog 18 #[.slice q m c, .int .i64 P] w' fun e w'' => ∃ q c, e = .returned (.slice q n c) ∧ w''.ownsRow w'.heap.size TI 1 (.slice q n c) n (ivs rs) ∧ Ext w' w''))
    (HIm : Hid (∀ q c w', Sl w' q m c 4 (bs.flatMap visitCells) → Calls Try.prog 20 #[.slice q m c, .int .i64 P] w' fun e w'' => ∃ q c, e = .returned (.slice q n c) ∧ w''.ownsRow w'.heap.size TI 1 (.slice q n c) n (ivs rs) ∧ Ext w' w'')) :
    Calls Try.prog 4 #[.slice q m c2, .int .i64 P] w fun e w' => e = .returned (.bool true) ∧ Ext w w' := by
  go_enter Try.func4, Try.ntmps4
  go_wp2_with fail
  refine (HZ.out _).mono ?_
  rintro e w' ⟨rfl, rfl⟩
  go_wp2_with fail
  refine (HT.out _ (Mem.start w).ext).mono ?_
  rintro e w1 ⟨q5, c5, rfl, ho1, hx1⟩
  have M1 := Lib.hid ((Mem.start w).call hx1 ho1)
  clear hx1 ho1
  go_wp2_with fail
  refine (HSp.out _ _ _ ((M1.out.sl (i := 0) rfl))).mono ?_
  rintro e w2 ⟨q6, c6, rfl, ho2, hx2⟩
  have M2 := Lib.hid ((M1.out).call hx2 ho2)
  clear M1
  clear hx2 ho2
  go_wp2_with fail
  refine (HT.out _ ((show Mem w w2 [ownI w.heap.size TI 1 (q6) (n) (c6) (ivs (rs))] from (M2.out).pick [0] (by decide) rfl)).ext).mono ?_
  rintro e w3 ⟨q7, c7, rfl, ho3, hx3⟩
  have M3 := Lib.hid (show Mem w w3 [ownI w.heap.size TBk 4 (q7) (m) (c7) (bs.flatMap visitCells), ownI w.heap.size TI 1 (q6) (n) (c6) (ivs (rs))] from ((show Mem w w2 [ownI w.heap.size TI 1 (q6) (n) (c6) (ivs (rs))] from (M2.out).pick [0] (by decide) rfl)).call hx3 ho3)
  clear M2
  clear hx3 ho3
  go_wp2_with fail
  refine (HIm.out _ _ _ ((M3.out.sl (i := 0) rfl))).mono ?_
  rintro e w4 ⟨q8, c8, rfl, ho4, hx4⟩
  have M4 := Lib.hid ((M3.out).call hx4 ho4)
  clear M3
  clear hx4 ho4
  go_wp2_with fail
  refine (eqIntS_any q8 q6 n c8 c6 rs _ (M4.out.sl (i := 0) rfl) (M4.out.sl (i := 2) rfl)).mono ?_
  rintro e w5 ⟨rfl, hx5⟩
  have M5 := Lib.hid ((M4.out).adv hx5)
  clear M4
  clear hx5
  go_wp2_with fail
  refine (HT.out _ (M5.out).ext).mono ?_
  rintro e w6 ⟨q9, c9, rfl, ho6, hx6⟩
  have M6 := Lib.hid ((M5.out).call hx6 ho6)
  clear M5
  clear hx6 ho6
  go_wp2_with fail
  refine (eqBookS_any q7 q9 m c7 c9 bs _ (M6.out.sl (i := 2) rfl) (M6.out.sl (i := 0) rfl)).mono ?_
  rintro e w7 ⟨rfl, hx7⟩
  have M7 := Lib.hid ((M6.out).adv hx7)
  clear M6
  clear hx7
  go_wp2_with fail
  refine (markBook_m 1 _ ((M7.out.own (i := 2) rfl)) (by omega) (by omega) (by omega)).mono ?_
  rintro e w8 ⟨rfl, ho8, hg8⟩
  have M8 := Lib.hid (show Mem w w8 [ownI w.heap.size TI 1 (q8) (n) (c8) (ivs (rs)), ownI w.heap.size TBk 4 (q7) (m) (c7) (marksFrom 1 (m * 4)), ownI w.heap.size TI 1 (q6) (n) (c6) (ivs (rs))] from ((show Mem w w7 [ownI w.heap.size TI 1 (q8) (n) (c8) (ivs (rs)), ownI w.heap.size TBk 4 (q7) (m) (c7) (bs.flatMap visitCells), ownI w.heap.size TI 1 (q6) (n) (c6) (ivs (rs))] from (M7.out).pick [1, 2, 3] (by decide) rfl)).app (i := 1) rfl ho8 hg8 (.inl rfl))
  clear M7
  clear ho8 hg8
  have k1 : (0 : Int) ≤ 1 + (m * 4 : Nat) := by omega
  have k2 : decide ((1 : Int) + (m * 4 : Nat) < 0) = false := by simp; omega
  go_wp2_with fail
  refine (eqIntS_any q8 q6 n c8 c6 rs _ (M8.out.sl (i := 0) rfl) (M8.out.sl (i := 2) rfl)).mono ?_
  rintro e w9 ⟨rfl, hx9⟩
  have M9 := Lib.hid (show Mem w w9 [ownI w.heap.size TI 1 (q8) (n) (c8) (ivs (rs)), ownI w.heap.size TI 1 (q6) (n) (c6) (ivs (rs))] from ((show Mem w w8 [ownI w.heap.size TI 1 (q8) (n) (c8) (ivs (rs)), ownI w.heap.size TI 1 (q6) (n) (c6) (ivs (rs))] from (M8.out).pick [0, 2] (by decide) rfl)).adv hx9)
  clear M8
  clear hx9
  go_wp2_with fail
  refine (markInt_m 1 _ ((M9.out.own (i := 0) rfl)) (by omega) (by omega) (by omega)).mono ?_
  rintro e w10 ⟨rfl, ho10, hg10⟩
  have M10 := Lib.hid (show Mem w w10 [ownI w.heap.size TI 1 (q8) (n) (c8) (marksFrom 1 (n * 1)), ownI w.heap.size TI 1 (q6) (n) (c6) (ivs (rs))] from (M9.out).app (i := 0) rfl ho10 hg10 (.inl rfl))
  clear M9
  clear ho10 hg10
  have k3 : (0 : Int) ≤ 1 + (n * 1 : Nat) := by omega
  have k4 : decide ((1 : Int) + (n * 1 : Nat) < 0) = false := by simp; omega
  go_wp2_with fail
  refine (heldInt_m 1 _ ((M10.out.own (i := 0) rfl)) (by omega) (by omega) (by omega)).mono ?_
  rintro e w' ⟨rfl, rfl⟩
  go_wp2_with fail
  refine (HT.out _ (M10.out).ext).mono ?_
  rintro e w11 ⟨q11, c11, rfl, ho11, hx11⟩
  have M11 := Lib.hid ((M10.out).call hx11 ho11)
  clear M10
  clear hx11 ho11
  go_wp2_with fail
  refine (HIm.out _ _ _ ((M11.out.sl (i := 0) rfl))).mono ?_
  rintro e w12 ⟨q12, c12, rfl, ho12, hx12⟩
  have M12 := Lib.hid ((M11.out).call hx12 ho12)
  clear M11
  clear hx12 ho12
  go_wp2_with fail
  refine (eqIntS_any q12 q6 n c12 c6 rs _ (M12.out.sl (i := 0) rfl) (M12.out.sl (i := 3) rfl)).mono ?_
  rintro e w13 ⟨rfl, hx13⟩
  have M13 := Lib.hid ((M12.out).adv hx13)
  clear M12
  clear hx13
  go_wp2_with fail
  refine (heldInt_m 1 _ ((M13.out.own (i := 2) rfl)) (by omega) (by omega) (by omega)).mono ?_
  rintro e w' ⟨rfl, rfl⟩
  go_wp2
  go_ret
  exact ⟨rfl, M13.out.ext⟩
set_option maxRecDepth 100000 in
set_option maxHeartbeats 1000000 in
theorem walk_FnExactBooksKeep (W : World) (v : Value) (y : List Visit4 × (Option Addr × Nat)) (f : v = .slice y.2.1 y.1.length y.2.2 ∧ Sl W y.2.1 y.1.length y.2.2 4 (y.1.flatMap visitCells) ∧ ∀ a ∈ y.1, goodBook a) (P : Int) (hP : B64 P) :
    Calls Try.prog 4 #[v, .int .i64 P] W fun e w' => e = .returned (.bool true) ∧ Ext W w' := by
  obtain ⟨rfl, hS, _⟩ := f
  obtain ⟨bs, ⟨q, c2⟩⟩ := y
  by_cases hs : bs.length ≤ 1048576
  · exact exBk_o q bs.length c2 (booksKeep bs P).length P bs (booksKeep bs P) W hs (by have := booksKeep_len bs P; omega)
      (fun w => by have := szBookS_any q bs.length c2 1048576 w (by omega) (by omega) (by omega); rwa [if_neg (by omega)] at this)
      (fun w' hx => toBookS_any q _ c2 bs w' (by omega) (hS.ext hx)) (fun q c w' h => specBk q _ c P bs w' h) (fun q c w' h => implBk q _ c P bs w' h)
  · exact exBk_big q bs.length c2 P W (fun w => by have := szBookS_any q bs.length c2 1048576 w hS.bd (by omega) (by omega); rwa [if_pos (by omega)] at this)
end Go.Proofs.Ytndcnflchkfaeaa
