/-
  The rewrite's copyDesk, the reference's l6Copy. Conditions: the slices read as lists.
-/
import Derived.Test.YtndcnflchkfaeaaBk9
import Derived.Test.YtndcnflchkfaeaaTen0
import Derived.Test.YtndcnflchkfaeaaLawD
namespace Go.Proofs.Ytndcnflchkfaeaa
open Go.RowKit
set_option linter.unusedVariables false
set_option linter.unusedSimpArgs false

set_option maxRecDepth 100000 in
set_option maxHeartbeats 8000000 in
theorem copyDesk_o (P : Int) (q : Option Addr) (m c2 : Nat) (q2 : Option Addr) (m2 d2 : Nat) (T R : List Visit4) (w : World)
    (HC1 : Hid (∀ w', Ext w w' → Calls Try.prog 47 #[.slice q m c2] w' fun e w'' => ∃ q' c', e = .returned (.slice q' m c') ∧ w''.ownsRow w'.heap.size TBk 4 (.slice q' m c') m (T.flatMap visitCells) ∧ Ext w' w''))
    (HC2 : Hid (∀ w', Ext w w' → Calls Try.prog 47 #[.slice q2 m2 d2] w' fun e w'' => ∃ q' c', e = .returned (.slice q' m2 c') ∧ w''.ownsRow w'.heap.size TBk 4 (.slice q' m2 c') m2 (R.flatMap visitCells) ∧ Ext w' w'')) :
    Calls Try.prog 33 #[.agg #[.int .i64 P, .slice q m c2, .slice q2 m2 d2]] w fun e w' => ∃ q5 c5 q6 c6, e = .returned (.agg #[.int .i64 P, .slice q5 m c5, .slice q6 m2 c6]) ∧ Mem w w' [ownI w.heap.size TBk 4 (q5) (m) (c5) (T.flatMap visitCells), ownI w.heap.size TBk 4 (q6) (m2) (c6) (R.flatMap visitCells)] := by
  have M0 := Lib.hid (show Mem w ((w.alloc (.cells #[.int .i64 P, .slice q m c2, .slice q2 m2 d2] TDk)).alloc (.cells #[.int .i64 0, .slice none 0 0, .slice none 0 0] TDk)) [blkI w.heap.size (w.heap.size + 1) TDk #[.int .i64 0, .slice none 0 0, .slice none 0 0], blkI w.heap.size (w.heap.size) TDk #[.int .i64 P, .slice q m c2, .slice q2 m2 d2]] from (((Mem.start w).blkNew TDk #[.int .i64 P, .slice q m c2, .slice q2 m2 d2] (w.heap.size) rfl).blkNew TDk #[.int .i64 0, .slice none 0 0, .slice none 0 0] (w.heap.size + 1) (by simp)))
  go_enter Try.func33, Try.ntmps33
  go_wp2
  generalize hwr : World.alloc (World.alloc w _) _ = wr at M0 ⊢
  obtain ⟨ca0, ca1, ca2⟩ := (M0.out.blk (i := 1) rfl).tri
  have lt0 : w.heap.size < wr.heap.size := (M0.out.lt (i := 1) rfl rfl).2
  clear hwr
  go_region_law ((first
    | (go_simp; go_at_call 47
       (with_reducible refine (HC1.out _ (M0.out.ext.trans (by (repeat' (first | exact Ext.refl _ | (with_reducible assumption) | (with_reducible refine Ext.alloc ?_ _) | (with_reducible refine Ext.setCell ?_ (by first | exact Nat.le_refl _ | (dsimp only; omega) | (simp; done) | (simp; omega)) _) | (with_reducible refine Ext.drew ?_) | (with_reducible refine Ext.drewN ?_ _) | (refine Ext.trans ?_ (by with_reducible assumption))))))).mono ?_)
       rintro e w3 ⟨q5, c5, rfl, o5, hx3⟩
       (try replace hx3 := hx3.of_drew)
       (first | (have MZ := Lib.hid (MB.out.call hx3 o5); obtain ⟨y0, yf0, y1, yf1, y2, yf2⟩ := (MZ.out.blk (i := 2) rfl).trif; obtain ⟨cb0, cb1, cb2⟩ := (MZ.out.blk (i := 3) rfl).tri) | (have MA := Lib.hid (M0.out.call hx3 o5); obtain ⟨cb0, cb1, cb2⟩ := (MA.out.blk (i := 2) rfl).tri)))
    | (go_simp; go_at_call 47
       (with_reducible refine (HC2.out _ (M0.out.ext.trans (by (repeat' (first | exact Ext.refl _ | (with_reducible assumption) | (with_reducible refine Ext.alloc ?_ _) | (with_reducible refine Ext.setCell ?_ (by first | exact Nat.le_refl _ | (dsimp only; omega) | (simp; done) | (simp; omega)) _) | (with_reducible refine Ext.drew ?_) | (with_reducible refine Ext.drewN ?_ _) | (refine Ext.trans ?_ (by with_reducible assumption))))))).mono ?_)
       rintro e w4 ⟨q6, c6, rfl, o6, hx4⟩
       (try replace hx4 := hx4.of_drew)
       (first | (have MZ := Lib.hid (MA.out.call hx4 o6); obtain ⟨y0, yf0, y1, yf1, y2, yf2⟩ := (MZ.out.blk (i := 2) rfl).trif; obtain ⟨cb0, cb1, cb2⟩ := (MZ.out.blk (i := 3) rfl).tri) | (have MB := Lib.hid (M0.out.call hx4 o6); obtain ⟨cb0, cb1, cb2⟩ := (MB.out.blk (i := 2) rfl).tri)))))
  all_goals (
    have MS := Lib.hid (MZ.out.put3 (i := 2) rfl (.int .i64 P) (.slice q5 m c5) (.slice q6 m2 c6))
    generalize hwz : World.setCell _ _ _ = wz
    rw [hwz] at MS
    clear hwz MZ MA HC1 HC2 ca0 ca1 ca2 cb0 cb1 cb2 y0 y1 y2 yf0 yf1 yf2 M0 hx3 hx4 o5 o6
    obtain ⟨y0, y1, y2⟩ := (MS.out.blk (i := 2) rfl).tri
    go_wp2
    exact bodyPost_ret (v := .agg #[.int .i64 P, .slice q5 m c5, .slice q6 m2 c6]) (by simp [results, Try.results33, go_sem, *]) rfl ⟨q5, c5, q6, c6, rfl, show Mem w wz [ownI w.heap.size TBk 4 (q5) (m) (c5) (T.flatMap visitCells), ownI w.heap.size TBk 4 (q6) (m2) (c6) (R.flatMap visitCells)] from (MS.out.pick [1, 0] (by decide) rfl)⟩)
set_option maxRecDepth 100000 in
set_option maxHeartbeats 8000000 in
theorem l6Copy_o (P : Int) (q : Option Addr) (m c2 : Nat) (q2 : Option Addr) (m2 d2 : Nat) (T R : List Visit4) (w : World) (hm : m ≤ 1000) (hm2 : m2 ≤ 1000) (HS : Hid (Sl w q m c2 4 (T.flatMap visitCells))) (HS2 : Hid (Sl w q2 m2 d2 4 (R.flatMap visitCells))) :
    Calls Try.prog 28 #[.agg #[.int .i64 P, .slice q m c2, .slice q2 m2 d2]] w fun e w' => ∃ q5 c5 q6 c6, e = .returned (.agg #[.int .i64 P, .slice q5 m c5, .slice q6 m2 c6]) ∧ Mem w w' [ownI w.heap.size TBk 4 (q5) (m) (c5) (T.flatMap visitCells), ownI w.heap.size TBk 4 (q6) (m2) (c6) (R.flatMap visitCells)] := by
  have M0 := Lib.hid (show Mem w ((w.alloc (.cells #[.int .i64 P, .slice q m c2, .slice q2 m2 d2] TDk)).alloc (.cells #[.int .i64 0, .slice none 0 0, .slice none 0 0] TDk)) [blkI w.heap.size (w.heap.size + 1) TDk #[.int .i64 0, .slice none 0 0, .slice none 0 0], blkI w.heap.size (w.heap.size) TDk #[.int .i64 P, .slice q m c2, .slice q2 m2 d2]] from (((Mem.start w).blkNew TDk #[.int .i64 P, .slice q m c2, .slice q2 m2 d2] (w.heap.size) rfl).blkNew TDk #[.int .i64 0, .slice none 0 0, .slice none 0 0] (w.heap.size + 1) (by simp)))
  go_enter Try.func28, Try.ntmps28
  go_wp2
  generalize hwr : World.alloc (World.alloc w _) _ = wr at M0 ⊢
  obtain ⟨ca0, ca1, ca2⟩ := (M0.out.blk (i := 1) rfl).tri
  have lt0 : w.heap.size < wr.heap.size := (M0.out.lt (i := 1) rfl rfl).2
  clear hwr
  go_region_held3 (fun w' => w'.cell? ⟨w.heap.size, 0, none⟩ = some (.int .i64 P) ∧ w'.cell? ⟨w.heap.size, 1, none⟩ = some (.slice q m c2) ∧ w'.cell? ⟨w.heap.size, 2, none⟩ = some (.slice q2 m2 d2)) (first | (refine ⟨?_, ?_, ?_⟩ <;> assumption) | go_keep) (first
    | (refine step_appM elBk (by rfl) _ _ (by rfl) (by first | exact ((M0.out.made0 TBk 4 (wr.heap.size) rfl).made0 TBk 4 (wr.heap.size + 1) (by simp)).adv (Ext.drew (Ext.refl _)) | exact ((M0.out.made0 TBk 4 (wr.heap.size) rfl).made0 TBk 4 (wr.heap.size + 1) (by simp))) 0 (by rfl) (by rfl) (T.flatMap visitCells) (by rfl) (HS.out.ext (M0.out.ext.trans (by (repeat' (first | exact Ext.refl _ | (with_reducible assumption) | (with_reducible refine Ext.alloc ?_ _) | (with_reducible refine Ext.setCell ?_ (by first | exact Nat.le_refl _ | (dsimp only; omega) | (simp; done) | (simp; omega)) _) | (with_reducible refine Ext.drew ?_) | (with_reducible refine Ext.drewN ?_ _) | (refine Ext.trans ?_ (by with_reducible assumption))))))) (books_one _) (by omega) ?_
       intro q5 c5 w3 M3
       have MAx := Lib.hid (show Mem w w3 [ownI w.heap.size TBk 4 (q5) (m) (c5) (T.flatMap visitCells), ownI w.heap.size TBk 4 (some ⟨wr.heap.size, 0, none⟩) (0) (0) ([]), blkI w.heap.size (w.heap.size + 1) TDk #[.int .i64 0, .slice none 0 0, .slice none 0 0], blkI w.heap.size (w.heap.size) TDk #[.int .i64 P, .slice q m c2, .slice q2 m2 d2]] from by simpa only [Nat.zero_add, List.nil_append, List.set_cons_zero, List.set_cons_succ] using M3)
       obtain ⟨cb0, cb1, cb2⟩ := (MAx.out.blk (i := 3) rfl).tri
       have lt3 : w.heap.size < w3.heap.size := (MAx.out.lt (i := 3) rfl rfl).2)
    | (refine step_appM elBk (by rfl) _ _ (by rfl) (by first | exact ((M0.out.made0 TBk 4 (wr.heap.size) rfl).made0 TBk 4 (wr.heap.size + 1) (by simp)).adv (Ext.drew (Ext.refl _)) | exact ((M0.out.made0 TBk 4 (wr.heap.size) rfl).made0 TBk 4 (wr.heap.size + 1) (by simp))) 1 (by rfl) (by rfl) (T.flatMap visitCells) (by rfl) (HS.out.ext (M0.out.ext.trans (by (repeat' (first | exact Ext.refl _ | (with_reducible assumption) | (with_reducible refine Ext.alloc ?_ _) | (with_reducible refine Ext.setCell ?_ (by first | exact Nat.le_refl _ | (dsimp only; omega) | (simp; done) | (simp; omega)) _) | (with_reducible refine Ext.drew ?_) | (with_reducible refine Ext.drewN ?_ _) | (refine Ext.trans ?_ (by with_reducible assumption))))))) (books_one _) (by omega) ?_
       intro q5 c5 w3 M3
       have MAy := Lib.hid (show Mem w w3 [ownI w.heap.size TBk 4 (some ⟨wr.heap.size + 1, 0, none⟩) (0) (0) ([]), ownI w.heap.size TBk 4 (q5) (m) (c5) (T.flatMap visitCells), blkI w.heap.size (w.heap.size + 1) TDk #[.int .i64 0, .slice none 0 0, .slice none 0 0], blkI w.heap.size (w.heap.size) TDk #[.int .i64 P, .slice q m c2, .slice q2 m2 d2]] from by simpa only [Nat.zero_add, List.nil_append, List.set_cons_zero, List.set_cons_succ] using M3)
       obtain ⟨cb0, cb1, cb2⟩ := (MAy.out.blk (i := 3) rfl).tri
       have lt3 : w.heap.size < w3.heap.size := (MAy.out.lt (i := 3) rfl rfl).2)
    | (refine step_appM elBk (by rfl) _ _ (by rfl) (by first | exact (M0.out.made0 TBk 4 (wr.heap.size) rfl).adv (Ext.drew (Ext.refl _)) | exact (M0.out.made0 TBk 4 (wr.heap.size) rfl)) 0 (by rfl) (by rfl) (T.flatMap visitCells) (by rfl) (HS.out.ext (M0.out.ext.trans (by (repeat' (first | exact Ext.refl _ | (with_reducible assumption) | (with_reducible refine Ext.alloc ?_ _) | (with_reducible refine Ext.setCell ?_ (by first | exact Nat.le_refl _ | (dsimp only; omega) | (simp; done) | (simp; omega)) _) | (with_reducible refine Ext.drew ?_) | (with_reducible refine Ext.drewN ?_ _) | (refine Ext.trans ?_ (by with_reducible assumption))))))) (books_one _) (by omega) ?_
       intro q5 c5 w3 M3
       have MA := Lib.hid (show Mem w w3 [ownI w.heap.size TBk 4 (q5) (m) (c5) (T.flatMap visitCells), blkI w.heap.size (w.heap.size + 1) TDk #[.int .i64 0, .slice none 0 0, .slice none 0 0], blkI w.heap.size (w.heap.size) TDk #[.int .i64 P, .slice q m c2, .slice q2 m2 d2]] from by simpa only [Nat.zero_add, List.nil_append, List.set_cons_zero, List.set_cons_succ] using M3)
       obtain ⟨cb0, cb1, cb2⟩ := (MA.out.blk (i := 2) rfl).tri
       have lt3 : w.heap.size < w3.heap.size := (MA.out.lt (i := 2) rfl rfl).2)
    | (refine step_appM elBk (by rfl) _ _ (by rfl) (MAx.out) 1 (by rfl) (by rfl) (R.flatMap visitCells) (by rfl) (HS2.out.ext (MAx.out.ext.trans (by (repeat' (first | exact Ext.refl _ | (with_reducible assumption) | (with_reducible refine Ext.alloc ?_ _) | (with_reducible refine Ext.setCell ?_ (by first | exact Nat.le_refl _ | (dsimp only; omega) | (simp; done) | (simp; omega)) _) | (with_reducible refine Ext.drew ?_) | (with_reducible refine Ext.drewN ?_ _) | (refine Ext.trans ?_ (by with_reducible assumption))))))) (books_one _) (by omega) ?_
       intro q6 c6 w4 M4
       have MZ := Lib.hid (show Mem w w4 [ownI w.heap.size TBk 4 (q5) (m) (c5) (T.flatMap visitCells), ownI w.heap.size TBk 4 (q6) (m2) (c6) (R.flatMap visitCells), blkI w.heap.size (w.heap.size + 1) TDk #[.int .i64 0, .slice none 0 0, .slice none 0 0], blkI w.heap.size (w.heap.size) TDk #[.int .i64 P, .slice q m c2, .slice q2 m2 d2]] from by simpa only [Nat.zero_add, List.nil_append, List.set_cons_zero, List.set_cons_succ] using M4)
       obtain ⟨y0, yf0, y1, yf1, y2, yf2⟩ := (MZ.out.blk (i := 2) rfl).trif; obtain ⟨cb0, cb1, cb2⟩ := (MZ.out.blk (i := 3) rfl).tri)
    | (refine step_appM elBk (by rfl) _ _ (by rfl) (MAy.out) 0 (by rfl) (by rfl) (R.flatMap visitCells) (by rfl) (HS2.out.ext (MAy.out.ext.trans (by (repeat' (first | exact Ext.refl _ | (with_reducible assumption) | (with_reducible refine Ext.alloc ?_ _) | (with_reducible refine Ext.setCell ?_ (by first | exact Nat.le_refl _ | (dsimp only; omega) | (simp; done) | (simp; omega)) _) | (with_reducible refine Ext.drew ?_) | (with_reducible refine Ext.drewN ?_ _) | (refine Ext.trans ?_ (by with_reducible assumption))))))) (books_one _) (by omega) ?_
       intro q6 c6 w4 M4
       have MZ := Lib.hid (show Mem w w4 [ownI w.heap.size TBk 4 (q5) (m) (c5) (T.flatMap visitCells), ownI w.heap.size TBk 4 (q6) (m2) (c6) (R.flatMap visitCells), blkI w.heap.size (w.heap.size + 1) TDk #[.int .i64 0, .slice none 0 0, .slice none 0 0], blkI w.heap.size (w.heap.size) TDk #[.int .i64 P, .slice q m c2, .slice q2 m2 d2]] from by have h := M4; simp only [Nat.zero_add, List.nil_append, List.set_cons_zero, List.set_cons_succ] at h; exact h.pick [1, 0, 2, 3] (by decide) rfl)
       obtain ⟨y0, yf0, y1, yf1, y2, yf2⟩ := (MZ.out.blk (i := 2) rfl).trif; obtain ⟨cb0, cb1, cb2⟩ := (MZ.out.blk (i := 3) rfl).tri)
    | (refine step_appM elBk (by rfl) _ _ (by rfl) (by first | exact MA.out.made0 TBk 4 _ rfl | exact (MA.out.made0 TBk 4 _ rfl).adv (Ext.drew (Ext.refl _))) 0 (by rfl) (by rfl) (R.flatMap visitCells) (by rfl) (HS2.out.ext (MA.out.ext.trans (by (repeat' (first | exact Ext.refl _ | (with_reducible assumption) | (with_reducible refine Ext.alloc ?_ _) | (with_reducible refine Ext.setCell ?_ (by first | exact Nat.le_refl _ | (dsimp only; omega) | (simp; done) | (simp; omega)) _) | (with_reducible refine Ext.drew ?_) | (with_reducible refine Ext.drewN ?_ _) | (refine Ext.trans ?_ (by with_reducible assumption))))))) (books_one _) (by omega) ?_
       intro q6 c6 w4 M4
       have MZ := Lib.hid (show Mem w w4 [ownI w.heap.size TBk 4 (q5) (m) (c5) (T.flatMap visitCells), ownI w.heap.size TBk 4 (q6) (m2) (c6) (R.flatMap visitCells), blkI w.heap.size (w.heap.size + 1) TDk #[.int .i64 0, .slice none 0 0, .slice none 0 0], blkI w.heap.size (w.heap.size) TDk #[.int .i64 P, .slice q m c2, .slice q2 m2 d2]] from by have h := M4; simp only [Nat.zero_add, List.nil_append, List.set_cons_zero, List.set_cons_succ] at h; exact h.pick [1, 0, 2, 3] (by decide) rfl)
       obtain ⟨y0, yf0, y1, yf1, y2, yf2⟩ := (MZ.out.blk (i := 2) rfl).trif; obtain ⟨cb0, cb1, cb2⟩ := (MZ.out.blk (i := 3) rfl).tri))
  all_goals (
    have MS := Lib.hid (MZ.out.put3 (i := 2) rfl (.int .i64 P) (.slice q5 m c5) (.slice q6 m2 c6))
    generalize hwz : World.setCell _ _ _ = wz
    rw [hwz] at MS
    clear hwz MZ y0 y1 y2 yf0 yf1 yf2 ca0 ca1 ca2 cb0 cb1 cb2
    obtain ⟨y0, y1, y2⟩ := (MS.out.blk (i := 2) rfl).tri
    go_wp2
    exact bodyPost_ret (v := .agg #[.int .i64 P, .slice q5 m c5, .slice q6 m2 c6]) (by simp [results, Try.results28, go_sem, *]) rfl ⟨q5, c5, q6, c6, rfl, show Mem w wz [ownI w.heap.size TBk 4 (q5) (m) (c5) (T.flatMap visitCells), ownI w.heap.size TBk 4 (q6) (m2) (c6) (R.flatMap visitCells)] from (MS.out.pick [0, 1] (by decide) rfl)⟩)
end Go.Proofs.Ytndcnflchkfaeaa
