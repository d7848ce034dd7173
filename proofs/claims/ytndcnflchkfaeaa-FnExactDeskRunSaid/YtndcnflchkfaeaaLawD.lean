/-
  The laws' helpers on desks: to, sz, eq, marks. Conditions: slices read as lists of at most 2^40 elements.
-/
import Derived.Test.YtndcnflchkfaeaaLawB
import Derived.Test.YtndcnflchkfaeaaTen0
namespace Go.Proofs.Ytndcnflchkfaeaa
open Go.RowKit
set_option linter.unusedVariables false
set_option linter.unusedSimpArgs false

abbrev TDk : TypeId := 28
abbrev TLD : TypeId := 24
abbrev deskV (P : Int) (q : Option Addr) (m c2 : Nat) (q2 : Option Addr) (m2 d2 : Nat) : Value := .agg #[.int .i64 P, .slice q m c2, .slice q2 m2 d2]
/-- a desk of the call's own -/
def RetDesk (d : DeskD) (w : World) (e : Ending) (w' : World) : Prop :=
  ∃ q c q2 c2, e = .returned (deskV d.places q d.taken.length c q2 d.row.length c2) ∧ Mem w w' [ownI w.heap.size TBk 4 q d.taken.length c (d.taken.flatMap visitCells), ownI w.heap.size TBk 4 q2 d.row.length c2 (d.row.flatMap visitCells)]
structure IsDesk (w : World) (d : DeskD) (q : Option Addr) (c2 : Nat) (q2 : Option Addr) (d2 : Nat) : Prop where
  tk : Sl w q d.taken.length c2 4 (d.taken.flatMap visitCells)
  rw : Sl w q2 d.row.length d2 4 (d.row.flatMap visitCells)
theorem IsDesk.ext {w w' : World} {d : DeskD} {q q2 : Option Addr} {c2 d2 : Nat} (h : IsDesk w d q c2 q2 d2) (hx : Ext w w') : IsDesk w' d q c2 q2 d2 := ⟨h.tk.ext hx, h.rw.ext hx⟩

set_option maxRecDepth 100000 in
set_option maxHeartbeats 8000000 in
theorem toDesk_o (P : Int) (q : Option Addr) (m c2 : Nat) (q2 : Option Addr) (m2 d2 : Nat) (T R : List Visit4) (w : World)
    (HT1 : Hid (∀ w', Ext w w' → Calls Try.prog 19 #[.slice q m c2] w' fun e w'' => ∃ q' c', e = .returned (.slice q' m c') ∧ w''.ownsRow w'.heap.size TBk 4 (.slice q' m c') m (T.flatMap visitCells) ∧ Ext w' w''))
    (HT2 : Hid (∀ w', Ext w w' → Calls Try.prog 19 #[.slice q2 m2 d2] w' fun e w'' => ∃ q' c', e = .returned (.slice q' m2 c') ∧ w''.ownsRow w'.heap.size TBk 4 (.slice q' m2 c') m2 (R.flatMap visitCells) ∧ Ext w' w'')) :
    Calls Try.prog 9 #[.agg #[.int .i64 P, .slice q m c2, .slice q2 m2 d2]] w fun e w' => ∃ q5 c5 q6 c6, e = .returned (.agg #[.int .i64 P, .slice q5 m c5, .slice q6 m2 c6]) ∧ Mem w w' [ownI w.heap.size TBk 4 (q5) (m) (c5) (T.flatMap visitCells), ownI w.heap.size TBk 4 (q6) (m2) (c6) (R.flatMap visitCells)] := by
  go_enter Try.func9, Try.ntmps9
  go_wp2_with fail
  refine (HT1.out _ (((((((Mem.start w).blkNew TLD #[.int .i64 P, .slice q m c2, .slice q2 m2 d2] (w.heap.size) (by simp))).blkNew TDk #[.int .i64 0, .slice none 0 0, .slice none 0 0] (w.heap.size + 1) (by simp))).blkNew TDk #[.int .i64 P, .slice none 0 0, .slice none 0 0] (w.heap.size + 1 + 1) (by simp))).ext).mono ?_
  rintro e w1 ⟨q5, c5, rfl, ho1, hx1⟩
  have M1 := Lib.hid ((((((((Mem.start w).blkNew TLD #[.int .i64 P, .slice q m c2, .slice q2 m2 d2] (w.heap.size) (by simp))).blkNew TDk #[.int .i64 0, .slice none 0 0, .slice none 0 0] (w.heap.size + 1) (by simp))).blkNew TDk #[.int .i64 P, .slice none 0 0, .slice none 0 0] (w.heap.size + 1 + 1) (by simp))).call hx1 ho1)
  have lt1_1 : w.heap.size + 1 + 1 < w1.heap.size := (M1.out.lt (i := 1) rfl rfl).2
  have lt1_2 : w.heap.size + 1 < w1.heap.size := (M1.out.lt (i := 2) rfl rfl).2
  have lt1_3 : w.heap.size < w1.heap.size := (M1.out.lt (i := 3) rfl rfl).2
  clear hx1 ho1
  have ca2 : w1.cell? ⟨w.heap.size, 2, none⟩ = some (.slice q2 m2 d2) := (M1.out.blk (i := 3) rfl).cell 2
  have cb1 : w1.cell? ⟨w.heap.size + 1 + 1, 1, none⟩ = some (.slice none 0 0) := (M1.out.blk (i := 1) rfl).cell 1
  have cbf1 : w1.frozen? ⟨w.heap.size + 1 + 1, 1, none⟩ = false := (M1.out.blk (i := 1) rfl).frozen 1
  go_wp2_with fail
  clear ca2 cb1 cbf1
  refine (HT2.out _ (((M1.out).store (i := 1) rfl 1 (.slice q5 m c5))).ext).mono ?_
  rintro e w2 ⟨q6, c6, rfl, ho2, hx2⟩
  have M2 := Lib.hid (show Mem w w2 [ownI w.heap.size TBk 4 (q6) (m2) (c6) (R.flatMap visitCells), ownI w.heap.size TBk 4 (q5) (m) (c5) (T.flatMap visitCells), blkI w.heap.size (w.heap.size + 1 + 1) TDk #[.int .i64 P, .slice q5 m c5, .slice none 0 0], blkI w.heap.size (w.heap.size + 1) TDk #[.int .i64 0, .slice none 0 0, .slice none 0 0], blkI w.heap.size (w.heap.size) TLD #[.int .i64 P, .slice q m c2, .slice q2 m2 d2]] from (((M1.out).store (i := 1) rfl 1 (.slice q5 m c5))).call hx2 ho2)
  clear M1
  clear lt1_1 lt1_2 lt1_3
  have lt2_2 : w.heap.size + 1 + 1 < w2.heap.size := (M2.out.lt (i := 2) rfl rfl).2
  have lt2_3 : w.heap.size + 1 < w2.heap.size := (M2.out.lt (i := 3) rfl rfl).2
  have lt2_4 : w.heap.size < w2.heap.size := (M2.out.lt (i := 4) rfl rfl).2
  clear hx2 ho2
  have cb0 : w2.cell? ⟨w.heap.size + 1 + 1, 0, none⟩ = some (.int .i64 P) := (M2.out.blk (i := 2) rfl).cell 0
  have cb1 : w2.cell? ⟨w.heap.size + 1 + 1, 1, none⟩ = some (.slice q5 m c5) := (M2.out.blk (i := 2) rfl).cell 1
  have cx2 : w2.cell? ⟨w.heap.size + 1 + 1, 2, none⟩ = some (.slice none 0 0) := (M2.out.blk (i := 2) rfl).cell 2
  have cxf2 : w2.frozen? ⟨w.heap.size + 1 + 1, 2, none⟩ = false := (M2.out.blk (i := 2) rfl).frozen 2
  obtain ⟨cy0, cyf0, cy1, cyf1, cy2, cyf2⟩ := (M2.out.blk (i := 3) rfl).trif
  have ne0_1a : ¬ (w.heap.size + 1 + 1 = w.heap.size + 1) := M2.out.ne (i := 2) (j := 3) (by omega) rfl rfl rfl rfl
  have ne0_1b : ¬ (w.heap.size + 1 = w.heap.size + 1 + 1) := fun h => ne0_1a h.symm
  go_wp2
  clear cb0 cb1 cx2 cxf2 cy0 cyf0 cy1 cyf1 cy2 cyf2 ne0_1a ne0_1b lt2_2 lt2_3 lt2_4
  have M3 := Lib.hid (show Mem w ((((w2.setCell ⟨w.heap.size + 1 + 1, 2, none⟩ (.slice q6 m2 c6)).setCell ⟨w.heap.size + 1, 0, none⟩ (.int .i64 P)).setCell ⟨w.heap.size + 1, 1, none⟩ (.slice q5 m c5)).setCell ⟨w.heap.size + 1, 2, none⟩ (.slice q6 m2 c6)) [ownI w.heap.size TBk 4 (q6) (m2) (c6) (R.flatMap visitCells), ownI w.heap.size TBk 4 (q5) (m) (c5) (T.flatMap visitCells), blkI w.heap.size (w.heap.size + 1 + 1) TDk #[.int .i64 P, .slice q5 m c5, .slice q6 m2 c6], blkI w.heap.size (w.heap.size + 1) TDk #[.int .i64 P, .slice q5 m c5, .slice q6 m2 c6], blkI w.heap.size (w.heap.size) TLD #[.int .i64 P, .slice q m c2, .slice q2 m2 d2]] from ((((M2.out).store (i := 2) rfl 2 (.slice q6 m2 c6))).put3 (i := 3) rfl (.int .i64 P) (.slice q5 m c5) (.slice q6 m2 c6)))
  generalize hwz : World.setCell _ _ _ = wz
  rw [hwz] at M3
  clear hwz M2
  obtain ⟨y0, y1, y2⟩ := (M3.out.blk (i := 3) rfl).tri
  exact bodyPost_ret (v := .agg #[.int .i64 P, .slice q5 m c5, .slice q6 m2 c6]) (by simp [results, Try.results9, go_sem, *]) rfl ⟨q5, c5, q6, c6, rfl, show Mem w wz [ownI w.heap.size TBk 4 (q5) (m) (c5) (T.flatMap visitCells), ownI w.heap.size TBk 4 (q6) (m2) (c6) (R.flatMap visitCells)] from (M3.out.pick [1, 0] (by decide) rfl)⟩
theorem toDesk_any (d : DeskD) (q : Option Addr) (c2 : Nat) (q2 : Option Addr) (d2 : Nat) (w : World) (h1 : d.taken.length ≤ 1099511627776) (h2 : d.row.length ≤ 1099511627776) (hi : IsDesk w d q c2 q2 d2) :
    Calls Try.prog 9 #[deskV d.places q d.taken.length c2 q2 d.row.length d2] w (RetDesk d w) :=
  toDesk_o d.places q d.taken.length c2 q2 d.row.length d2 d.taken d.row w (Lib.hid fun w' hx => toBookS_any q _ c2 d.taken w' h1 (hi.tk.ext hx)) (Lib.hid fun w' hx => toBookS_any q2 _ d2 d.row w' h2 (hi.rw.ext hx))
set_option maxRecDepth 100000 in
set_option maxHeartbeats 8000000 in
theorem szDesk_any (P : Int) (q : Option Addr) (m c2 : Nat) (q2 : Option Addr) (m2 d2 : Nat) (w : World) (hn : m ≤ 9223372036854775807) (hm : m2 ≤ 9223372036854775807) :
    Calls Try.prog 7 #[.agg #[.int .i64 P, .slice q m c2, .slice q2 m2 d2], .int .i64 1048576] w fun e w' => e = .returned (.int .i64 (if 1048576 < m + m2 then -1 else 1048576 - m - m2)) ∧ Ext w w' := by
  by_cases h1 : (1048576 : Int) < m
  · have HA : Hid (∀ w, Calls Try.prog 17 #[.slice q m c2, .int .i64 1048576] w fun e w' => e = .returned (.int .i64 (-1)) ∧ w = w') := fun w => by have := szBookS_any q m c2 1048576 w hn (by omega) (by omega); rwa [if_pos h1] at this
    rw [if_pos (by omega)]
    go_enter Try.func7, Try.ntmps7
    go_wp2_with fail
    refine (HA.out _).mono ?_
    rintro e w1 ⟨rfl, rfl⟩
    go_wp2
    go_ret
    exact ⟨rfl, by (repeat' (first | exact Ext.refl _ | (with_reducible assumption) | (with_reducible refine Ext.alloc ?_ _) | (with_reducible refine Ext.setCell ?_ (by first | exact Nat.le_refl _ | (dsimp only; omega) | (simp; done) | (simp; omega)) _) | (with_reducible refine Ext.drew ?_) | (with_reducible refine Ext.drewN ?_ _) | (refine Ext.trans ?_ (by with_reducible assumption))))⟩
  · have HA : Hid (∀ w, Calls Try.prog 17 #[.slice q m c2, .int .i64 1048576] w fun e w' => e = .returned (.int .i64 (1048576 - m)) ∧ w = w') := fun w => by have := szBookS_any q m c2 1048576 w hn (by omega) (by omega); rwa [if_neg h1] at this
    by_cases h2 : (1048576 - m : Int) < m2
    · have HB : Hid (∀ w, Calls Try.prog 17 #[.slice q2 m2 d2, .int .i64 (1048576 - m)] w fun e w' => e = .returned (.int .i64 (-1)) ∧ w = w') := fun w => by have := szBookS_any q2 m2 d2 (1048576 - m) w hm (by omega) (by omega); rwa [if_pos h2] at this
      rw [if_pos (by omega)]
      go_enter Try.func7, Try.ntmps7
      go_wp2_with fail
      refine (HA.out _).mono ?_
      rintro e w1 ⟨rfl, rfl⟩
      go_wp2_with fail
      refine (HB.out _).mono ?_
      rintro e w1 ⟨rfl, rfl⟩
      go_wp2
      go_ret
      exact ⟨rfl, by (repeat' (first | exact Ext.refl _ | (with_reducible assumption) | (with_reducible refine Ext.alloc ?_ _) | (with_reducible refine Ext.setCell ?_ (by first | exact Nat.le_refl _ | (dsimp only; omega) | (simp; done) | (simp; omega)) _) | (with_reducible refine Ext.drew ?_) | (with_reducible refine Ext.drewN ?_ _) | (refine Ext.trans ?_ (by with_reducible assumption))))⟩
    · have HB : Hid (∀ w, Calls Try.prog 17 #[.slice q2 m2 d2, .int .i64 (1048576 - m)] w fun e w' => e = .returned (.int .i64 (1048576 - m - m2)) ∧ w = w') := fun w => by have := szBookS_any q2 m2 d2 (1048576 - m) w hm (by omega) (by omega); rwa [if_neg h2] at this
      rw [if_neg (by omega)]
      go_enter Try.func7, Try.ntmps7
      go_wp2_with fail
      refine (HA.out _).mono ?_
      rintro e w1 ⟨rfl, rfl⟩
      go_wp2_with fail
      refine (HB.out _).mono ?_
      rintro e w1 ⟨rfl, rfl⟩
      go_wp2
      go_ret
      exact ⟨rfl, by (repeat' (first | exact Ext.refl _ | (with_reducible assumption) | (with_reducible refine Ext.alloc ?_ _) | (with_reducible refine Ext.setCell ?_ (by first | exact Nat.le_refl _ | (dsimp only; omega) | (simp; done) | (simp; omega)) _) | (with_reducible refine Ext.drew ?_) | (with_reducible refine Ext.drewN ?_ _) | (refine Ext.trans ?_ (by with_reducible assumption))))⟩
set_option maxRecDepth 100000 in
set_option maxHeartbeats 8000000 in
theorem eqDesk_o (P : Int) (q : Option Addr) (m c2 : Nat) (q2 : Option Addr) (m2 d2 : Nat) (q5 : Option Addr) (c5 : Nat) (q6 : Option Addr) (c6 : Nat) (w : World)
    (HE1 : Hid (∀ w', Ext w w' → Calls Try.prog 21 #[.slice q m c2, .slice q5 m c5] w' fun e w'' => e = .returned (.bool true) ∧ Ext w' w''))
    (HE2 : Hid (∀ w', Ext w w' → Calls Try.prog 21 #[.slice q2 m2 d2, .slice q6 m2 c6] w' fun e w'' => e = .returned (.bool true) ∧ Ext w' w'')) :
    Calls Try.prog 11 #[.agg #[.int .i64 P, .slice q m c2, .slice q2 m2 d2], .agg #[.int .i64 P, .slice q5 m c5, .slice q6 m2 c6]] w fun e w' => e = .returned (.bool true) ∧ Ext w w' := by
  go_enter Try.func11, Try.ntmps11
  go_wp2_with fail
  refine (HE1.out _ (((((Mem.start w).blkNew TDk #[.int .i64 P, .slice q m c2, .slice q2 m2 d2] (w.heap.size) (by simp))).blkNew TDk #[.int .i64 P, .slice q5 m c5, .slice q6 m2 c6] (w.heap.size + 1) (by simp))).ext).mono ?_
  rintro e w1 ⟨rfl, hx1⟩
  have M1 := Lib.hid ((((((Mem.start w).blkNew TDk #[.int .i64 P, .slice q m c2, .slice q2 m2 d2] (w.heap.size) (by simp))).blkNew TDk #[.int .i64 P, .slice q5 m c5, .slice q6 m2 c6] (w.heap.size + 1) (by simp))).adv hx1)
  have lt1_0 : w.heap.size + 1 < w1.heap.size := (M1.out.lt (i := 0) rfl rfl).2
  have lt1_1 : w.heap.size < w1.heap.size := (M1.out.lt (i := 1) rfl rfl).2
  clear hx1
  have ca2 : w1.cell? ⟨w.heap.size, 2, none⟩ = some (.slice q2 m2 d2) := (M1.out.blk (i := 1) rfl).cell 2
  have cb2 : w1.cell? ⟨w.heap.size + 1, 2, none⟩ = some (.slice q6 m2 c6) := (M1.out.blk (i := 0) rfl).cell 2
  go_wp2_with fail
  clear ca2 cb2
  refine (HE2.out _ (M1.out).ext).mono ?_
  rintro e w2 ⟨rfl, hx2⟩
  have M2 := Lib.hid ((M1.out).adv hx2)
  clear M1
  clear lt1_0 lt1_1
  have lt2_0 : w.heap.size + 1 < w2.heap.size := (M2.out.lt (i := 0) rfl rfl).2
  have lt2_1 : w.heap.size < w2.heap.size := (M2.out.lt (i := 1) rfl rfl).2
  clear hx2
  go_wp2
  go_ret
  exact ⟨rfl, M2.out.ext⟩
theorem eqDesk_any (d : DeskD) (q : Option Addr) (c2 : Nat) (q2 : Option Addr) (d2 : Nat) (q5 : Option Addr) (c5 : Nat) (q6 : Option Addr) (c6 : Nat) (w : World) (h1 : IsDesk w d q c2 q2 d2) (h2 : IsDesk w d q5 c5 q6 c6) :
    Calls Try.prog 11 #[deskV d.places q d.taken.length c2 q2 d.row.length d2, deskV d.places q5 d.taken.length c5 q6 d.row.length c6] w fun e w' => e = .returned (.bool true) ∧ Ext w w' :=
  eqDesk_o d.places q _ c2 q2 _ d2 q5 c5 q6 c6 w (Lib.hid fun w' hx => eqBookS_any q q5 _ c2 c5 d.taken w' (h1.tk.ext hx) (h2.tk.ext hx)) (Lib.hid fun w' hx => eqBookS_any q2 q6 _ d2 c6 d.row w' (h1.rw.ext hx) (h2.rw.ext hx))
set_option maxRecDepth 100000 in
set_option maxHeartbeats 8000000 in
theorem markDesk_m (P : Int) (q : Option Addr) (m c2 : Nat) (q2 : Option Addr) (m2 d2 : Nat) (K : Int) (xs ys : List Value) (w0 w : World) (L : List Item) (h : Mem w0 w (ownI w0.heap.size TBk 4 q m c2 xs :: ownI w0.heap.size TBk 4 q2 m2 d2 ys :: L)) (hm : m ≤ 1099511627776) (hm2 : m2 ≤ 1099511627776) (h0 : 0 ≤ K) (h1 : K ≤ 1099511627776) :
    Calls Try.prog 13 #[.agg #[.int .i64 P, .slice q m c2, .slice q2 m2 d2], .int .i64 K] w fun e w' => e = .returned (.int .i64 (K + (m * 4 : Nat) + (m2 * 4 : Nat))) ∧ Mem w0 w' (ownI w0.heap.size TBk 4 q m c2 (marksFrom K (m * 4)) :: ownI w0.heap.size TBk 4 q2 m2 d2 (marksFrom (K + (m * 4 : Nat)) (m2 * 4)) :: L) := by
  have M1 := Lib.hid (h.blkNew TDk #[.int .i64 P, .slice q m c2, .slice q2 m2 d2] (w.heap.size) rfl)
  clear h
  go_enter Try.func13, Try.ntmps13
  go_wp2_with fail
  refine (markBook_m K _ (M1.out.own (i := 1) rfl) hm h0 (by omega)).mono ?_
  rintro e w1 ⟨rfl, ho, hg⟩
  have M2 := Lib.hid (show Mem w0 w1 (blkI w0.heap.size (w.heap.size) TDk #[.int .i64 P, .slice q m c2, .slice q2 m2 d2] :: ownI w0.heap.size TBk 4 q m c2 (marksFrom K (m * 4)) :: ownI w0.heap.size TBk 4 q2 m2 d2 ys :: L) from M1.out.app (i := 1) rfl ho hg (.inl rfl))
  clear ho hg M1
  obtain ⟨ce0, ce1, ce2⟩ := (M2.out.blk (i := 0) rfl).tri
  go_wp2_with fail
  clear ce0 ce1 ce2
  refine (markBook_m (K + (m * 4 : Nat)) _ (M2.out.own (i := 2) rfl) hm2 (by omega) (by omega)).mono ?_
  rintro e w2 ⟨rfl, ho, hg⟩
  have M3 := Lib.hid (show Mem w0 w2 (blkI w0.heap.size (w.heap.size) TDk #[.int .i64 P, .slice q m c2, .slice q2 m2 d2] :: ownI w0.heap.size TBk 4 q m c2 (marksFrom K (m * 4)) :: ownI w0.heap.size TBk 4 q2 m2 d2 (marksFrom (K + (m * 4 : Nat)) (m2 * 4)) :: L) from M2.out.app (i := 2) rfl ho hg (.inl rfl))
  clear ho hg M2
  go_wp2
  go_ret
  exact ⟨rfl, M3.out.sub (List.sublist_cons_self _ _)⟩
set_option maxRecDepth 100000 in
set_option maxHeartbeats 8000000 in
theorem heldDesk_m (P : Int) (q : Option Addr) (m c2 : Nat) (q2 : Option Addr) (m2 d2 : Nat) (K : Int) (B : Nat) (w : World) (h : w.ownsRow B TBk 4 (.slice q m c2) m (marksFrom K (m * 4))) (h2 : w.ownsRow B TBk 4 (.slice q2 m2 d2) m2 (marksFrom (K + (m * 4 : Nat)) (m2 * 4))) (hm : m ≤ 1099511627776) (hm2 : m2 ≤ 1099511627776) (h0 : 0 ≤ K) (h1 : K ≤ 1099511627776) :
    Calls Try.prog 15 #[.agg #[.int .i64 P, .slice q m c2, .slice q2 m2 d2], .int .i64 K] w fun e w' => e = .returned (.int .i64 (K + (m * 4 : Nat) + (m2 * 4 : Nat))) ∧ Ext w w' := by
  have H1 := Lib.hid h
  have H2 := Lib.hid h2
  clear h h2
  have k1 : 0 ≤ K + (m * 4 : Nat) := by omega
  have k2 : 0 ≤ K + (m * 4 : Nat) + (m2 * 4 : Nat) := by omega
  go_enter Try.func15, Try.ntmps15
  go_wp2_with fail
  refine (heldBook_m K _ (own_ext H1.out ((Ext.refl _).alloc _)) hm h0 (by omega)).mono ?_
  rintro e w1 ⟨rfl, rfl⟩
  go_wp2_with fail
  refine (heldBook_m (K + (m * 4 : Nat)) _ (own_ext H2.out ((Ext.refl _).alloc _)) hm2 (by omega) (by omega)).mono ?_
  rintro e w1 ⟨rfl, rfl⟩
  go_wp2
  go_ret
  exact ⟨rfl, by (repeat' (first | exact Ext.refl _ | (with_reducible assumption) | (with_reducible refine Ext.alloc ?_ _) | (with_reducible refine Ext.setCell ?_ (by first | exact Nat.le_refl _ | (dsimp only; omega) | (simp; done) | (simp; omega)) _) | (with_reducible refine Ext.drew ?_) | (with_reducible refine Ext.drewN ?_ _) | (refine Ext.trans ?_ (by with_reducible assumption))))⟩
end Go.Proofs.Ytndcnflchkfaeaa
