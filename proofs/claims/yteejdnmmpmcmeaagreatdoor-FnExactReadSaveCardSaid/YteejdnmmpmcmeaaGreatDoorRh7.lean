/-
  The reference's ReadHouse returns the house whose text a text is. Condition: the text is at most 2^20 bytes long.
-/
import Derived.Test.YteejdnmmpmcmeaaGreatDoorQ3
import Derived.Test.YteejdnmmpmcmeaaGreatDoorLin
import Derived.Deep.RegionHeld3
/- @merged -/
namespace Go.Proofs.YteejdnmmpmcmeaaGreatDoor
open Go.RowKit
set_option linter.unusedVariables false
set_option linter.unusedSimpArgs false

set_option maxRecDepth 100000 in
set_option maxHeartbeats 4000000 in
theorem specReadHouse (l : List UInt8) (w : World) (hs : l.length ≤ 1048576) : Calls Tryz.prog 38 #[str l] w (RetHB ((readHouse l).getD houseZero) (readHouse l).isSome w) := by
  have HS : Hid (∀ w, Calls Tryz.prog 81 #[str l, .int .u8 59] w fun e w' => ∃ v, e = .returned v ∧ w'.ownsRow w.heap.size TStr 1 v (cutL 59 l).length (strs (cutL 59 l)) ∧ Ext w w') :=
    fun w => l1Cut_any ⟨l.toArray⟩ 59 59 rfl w (by simp only [ByteArray.size, List.size_toArray]; omega)
  have hlen := cutL_len 59 l
  have HL : Hid (∀ p ∈ cutL 59 l, p.length ≤ 1048576) := fun p hp => Nat.le_trans (hlen.1 p hp) hs
  have hlen2 := hlen.2
  have hpos : 0 < (cutL 59 l).length := List.length_pos_iff.2 (cutL_ne 59 l)
  have HF4 : Hid (∀ (q : List UInt8), q.length ≤ 1048576 → ∀ w, Calls Tryz.prog 83 #[str q] w (RetFour q w)) := fun q hq w => specFour q w (by omega)
  have HWH : Hid (∀ (q : List UInt8) (x : Int), q.length ≤ 1048576 → wholeS q = x → ∀ w, Calls Tryz.prog 84 #[str q] w fun e w' => e = .returned (.int .i64 x) ∧ Ext w w') := fun q x hq hx w => by subst hx; exact l8Whole_any q w (by unfold maxLen; omega)
  clear hlen
  go_enter Tryz.func38, Tryz.ntmps38
  go_wp2_with fail
  refine (HS.out _).mono ?_
  rintro e w1 ⟨v, rfl, hown, h1⟩
  have hown1 := Lib.hid (show w1.ownsRow (w.heap.size + 1) TStr 1 v (cutL 59 l).length (strs (cutL 59 l)) by simpa using hown)
  have hX1 : Ext w w1 := by (repeat' (first | exact Ext.refl _ | (with_reducible assumption) | (with_reducible refine Ext.alloc ?_ _) | (with_reducible refine Ext.setCell ?_ (by first | exact Nat.le_refl _ | (dsimp only; omega) | (simp; done) | (simp; omega)) _) | (with_reducible refine Ext.drew ?_) | (with_reducible refine Ext.drewN ?_ _) | (refine Ext.trans ?_ (by with_reducible assumption))))
  have HZ1 : Hid (Blk w1 w.heap.size THouse #[.int .i64 0, .int .i64 0, .slice none 0 0, .int .i64 0, .int .i64 0, .int .i64 0, .int .i64 0, .int .i64 0, .int .i64 0, .slice none 0 0]) := (Blk.new w _ _).ext h1
  have hz1 : w.heap.size < w1.heap.size := HZ1.out.lt
  have HX1 := Lib.hid hX1
  clear hown h1 hX1
  obtain ⟨gr, cr, rfl⟩ := Joins.ownsRow_form hown1.out hpos
  generalize hRq : (cutL 59 l).length = R at *
  have HRq := Lib.hid hRq
  clear hRq
  have X1 := Lib.hid (Ext.refl w1)
  by_cases hR3 : R < 4
  · have hno : Hid (readHouse l = none) := house_noS (by unfold houseFineS; rw [HRq.out]; simp; omega)
    have hR3' : (R : Int) < 4 := by omega
    have z0 : w1.cell? ⟨w.heap.size, 0, none⟩ = some (.int .i64 0) := (HZ1.out.ext (Ext.refl w1)).cell 0
    have z1 : w1.cell? ⟨w.heap.size, 1, none⟩ = some (.int .i64 0) := (HZ1.out.ext (Ext.refl w1)).cell 1
    have z2 : w1.cell? ⟨w.heap.size, 2, none⟩ = some (.slice none 0 0) := (HZ1.out.ext (Ext.refl w1)).cell 2
    have z3 : w1.cell? ⟨w.heap.size, 3, none⟩ = some (.int .i64 0) := (HZ1.out.ext (Ext.refl w1)).cell 3
    have z4 : w1.cell? ⟨w.heap.size, 4, none⟩ = some (.int .i64 0) := (HZ1.out.ext (Ext.refl w1)).cell 4
    have z5 : w1.cell? ⟨w.heap.size, 5, none⟩ = some (.int .i64 0) := (HZ1.out.ext (Ext.refl w1)).cell 5
    have z6 : w1.cell? ⟨w.heap.size, 6, none⟩ = some (.int .i64 0) := (HZ1.out.ext (Ext.refl w1)).cell 6
    have z7 : w1.cell? ⟨w.heap.size, 7, none⟩ = some (.int .i64 0) := (HZ1.out.ext (Ext.refl w1)).cell 7
    have z8 : w1.cell? ⟨w.heap.size, 8, none⟩ = some (.int .i64 0) := (HZ1.out.ext (Ext.refl w1)).cell 8
    have z9 : w1.cell? ⟨w.heap.size, 9, none⟩ = some (.slice none 0 0) := (HZ1.out.ext (Ext.refl w1)).cell 9
    have zf0 : w1.frozen? ⟨w.heap.size, 0, none⟩ = false := (HZ1.out.ext (Ext.refl w1)).frozen 0
    have zf1 : w1.frozen? ⟨w.heap.size, 1, none⟩ = false := (HZ1.out.ext (Ext.refl w1)).frozen 1
    have zf2 : w1.frozen? ⟨w.heap.size, 2, none⟩ = false := (HZ1.out.ext (Ext.refl w1)).frozen 2
    have zf3 : w1.frozen? ⟨w.heap.size, 3, none⟩ = false := (HZ1.out.ext (Ext.refl w1)).frozen 3
    have zf4 : w1.frozen? ⟨w.heap.size, 4, none⟩ = false := (HZ1.out.ext (Ext.refl w1)).frozen 4
    have zf5 : w1.frozen? ⟨w.heap.size, 5, none⟩ = false := (HZ1.out.ext (Ext.refl w1)).frozen 5
    have zf6 : w1.frozen? ⟨w.heap.size, 6, none⟩ = false := (HZ1.out.ext (Ext.refl w1)).frozen 6
    have zf7 : w1.frozen? ⟨w.heap.size, 7, none⟩ = false := (HZ1.out.ext (Ext.refl w1)).frozen 7
    have zf8 : w1.frozen? ⟨w.heap.size, 8, none⟩ = false := (HZ1.out.ext (Ext.refl w1)).frozen 8
    have zf9 : w1.frozen? ⟨w.heap.size, 9, none⟩ = false := (HZ1.out.ext (Ext.refl w1)).frozen 9
    have hzz : w.heap.size < w1.heap.size := (HZ1.out.ext (Ext.refl w1)).lt
    go_wp2
    generalize hw9 : World.setCell _ _ _ = w9
    have hR9 : ExtR w.heap.size w1 w9 := by rw [← hw9]; exact ((((((((((ExtR.refl _ w1).setCell (p := ⟨w.heap.size, 0, none⟩) (.inl rfl) (.int .i64 0)).setCell (p := ⟨w.heap.size, 1, none⟩) (.inl rfl) (.int .i64 0)).setCell (p := ⟨w.heap.size, 2, none⟩) (.inl rfl) (.slice none 0 0)).setCell (p := ⟨w.heap.size, 3, none⟩) (.inl rfl) (.int .i64 0)).setCell (p := ⟨w.heap.size, 4, none⟩) (.inl rfl) (.int .i64 0)).setCell (p := ⟨w.heap.size, 5, none⟩) (.inl rfl) (.int .i64 0)).setCell (p := ⟨w.heap.size, 6, none⟩) (.inl rfl) (.int .i64 0)).setCell (p := ⟨w.heap.size, 7, none⟩) (.inl rfl) (.int .i64 0)).setCell (p := ⟨w.heap.size, 8, none⟩) (.inl rfl) (.int .i64 0)).setCell (p := ⟨w.heap.size, 9, none⟩) (.inl rfl) (.slice none 0 0)
    have Y9 := (((((((((((HZ1.out.ext (Ext.refl w1))).set 0 (.int .i64 0)).set 1 (.int .i64 0)).set 2 (.slice none 0 0)).set 3 (.int .i64 0)).set 4 (.int .i64 0)).set 5 (.int .i64 0)).set 6 (.int .i64 0)).set 7 (.int .i64 0)).set 8 (.int .i64 0)).set 9 (.slice none 0 0)
    simp only [List.setIfInBounds_toArray, List.set_cons_zero, List.set_cons_succ] at Y9
    rw [hw9] at Y9
    have X9 : Ext w w9 := ExtR.new (HX1.out.trans (Ext.refl w1)) hR9 (Nat.le_refl _)
    clear hw9 hR9 z0 z1 z2 z3 z4 z5 z6 z7 z8 z9 zf0 zf1 zf2 zf3 zf4 zf5 zf6 zf7 zf8 zf9
    have y0 : w9.cell? ⟨w.heap.size, 0, none⟩ = some (.int .i64 0) := Y9.cell 0
    have y1 : w9.cell? ⟨w.heap.size, 1, none⟩ = some (.int .i64 0) := Y9.cell 1
    have y2 : w9.cell? ⟨w.heap.size, 2, none⟩ = some (.slice none 0 0) := Y9.cell 2
    have y3 : w9.cell? ⟨w.heap.size, 3, none⟩ = some (.int .i64 0) := Y9.cell 3
    have y4 : w9.cell? ⟨w.heap.size, 4, none⟩ = some (.int .i64 0) := Y9.cell 4
    have y5 : w9.cell? ⟨w.heap.size, 5, none⟩ = some (.int .i64 0) := Y9.cell 5
    have y6 : w9.cell? ⟨w.heap.size, 6, none⟩ = some (.int .i64 0) := Y9.cell 6
    have y7 : w9.cell? ⟨w.heap.size, 7, none⟩ = some (.int .i64 0) := Y9.cell 7
    have y8 : w9.cell? ⟨w.heap.size, 8, none⟩ = some (.int .i64 0) := Y9.cell 8
    have y9 : w9.cell? ⟨w.heap.size, 9, none⟩ = some (.slice none 0 0) := Y9.cell 9
    exact bodyPost_ret (v := .tuple #[.agg #[.int .i64 0, .int .i64 0, .slice none 0 0, .int .i64 0, .int .i64 0, .int .i64 0, .int .i64 0, .int .i64 0, .int .i64 0, .slice none 0 0], .bool false]) (by simp [results, Tryz.results38, go_sem, *]) rfl (ret_hb_no hno.out X9)
  · have hR3' : ¬ (R : Int) < 4 := by omega
    obtain ⟨p0, hp0⟩ : ∃ q, (cutL 59 l)[0]? = some q := ⟨_, List.getElem?_eq_getElem (by rw [HRq.out]; omega)⟩
    have HP0 := Lib.hid hp0
    have PA0 : Hid (part (cutL 59 l) 0 = p0) := part_at hp0
    have hl0 : p0.length ≤ 1048576 := HL.out p0 (List.mem_of_getElem? hp0)
    clear hp0
    obtain ⟨p1, hp1⟩ : ∃ q, (cutL 59 l)[1]? = some q := ⟨_, List.getElem?_eq_getElem (by rw [HRq.out]; omega)⟩
    have HP1 := Lib.hid hp1
    have PA1 : Hid (part (cutL 59 l) 1 = p1) := part_at hp1
    have hl1 : p1.length ≤ 1048576 := HL.out p1 (List.mem_of_getElem? hp1)
    clear hp1
    obtain ⟨p2, hp2⟩ : ∃ q, (cutL 59 l)[2]? = some q := ⟨_, List.getElem?_eq_getElem (by rw [HRq.out]; omega)⟩
    have HP2 := Lib.hid hp2
    have PA2 : Hid (part (cutL 59 l) 2 = p2) := part_at hp2
    have hl2 : p2.length ≤ 1048576 := HL.out p2 (List.mem_of_getElem? hp2)
    clear hp2
    obtain ⟨p3, hp3⟩ : ∃ q, (cutL 59 l)[3]? = some q := ⟨_, List.getElem?_eq_getElem (by rw [HRq.out]; omega)⟩
    have HP3 := Lib.hid hp3
    have PA3 : Hid (part (cutL 59 l) 3 = p3) := part_at hp3
    have hl3 : p3.length ≤ 1048576 := HL.out p3 (List.mem_of_getElem? hp3)
    clear hp3
    obtain ⟨W, D, xs, b0, H0, H0s⟩ : ∃ (W D : Int) (xs : List Int) (b : Bool), Hid ((readHall p0).getD (0, 0, []) = (W, D, xs)) ∧ Hid ((readHall p0).isSome = b) := ⟨_, _, _, _, rfl, rfl⟩
    have HRH : Hid (∀ w, Calls Tryz.prog 82 #[str p0] w fun e w' => ∃ p n cap, n = xs.length ∧ e = .returned (.tuple #[hallV W D p n cap, .bool b0]) ∧ w'.ownsRow w.heap.size TI 1 (.slice p n cap) n (ivs xs) ∧ Ext w w') := by
      intro w
      have h := specReadHall p0 w hl0
      unfold RetHallB at h
      rw [H0.out, H0s.out] at h
      exact h
    have hgr1 : gr < w1.heap.size := (hown1.out.lt gr rfl).2
    have e0 : w1.cell? ⟨gr, 0, none⟩ = some (str p0) := part_cell hown1.out 0 (by omega) _ HP0.out
    go_wp2_with fail
    refine (HRH.out _).mono ?_
    rintro e w2 ⟨p, n, cap, hnx, rfl, oh, hx2⟩
    have LN0 := Lib.hid hnx
    clear hnx
    have X2 := Lib.hid (show Ext w1 w2 by (repeat' (first | exact Ext.refl _ | (with_reducible assumption) | (with_reducible refine Ext.alloc ?_ _) | (with_reducible refine Ext.setCell ?_ (by first | exact Nat.le_refl _ | (dsimp only; omega) | (simp; done) | (simp; omega)) _) | (with_reducible refine Ext.drew ?_) | (with_reducible refine Ext.drewN ?_ _) | (refine Ext.trans ?_ (by with_reducible assumption)))))
    have OH2 := Lib.hid (own_base oh (show w1.heap.size ≤ _ by simp))
    have z2 : w1.heap.size ≤ w2.heap.size := X2.out.sz
    clear oh hx2 e0
    have hgr2 : gr < w2.heap.size := Nat.lt_of_lt_of_le hgr1 X2.out.sz
    have e1 : w2.cell? ⟨gr, 1, none⟩ = some (str p1) := part_cell (own_ext hown1.out X2.out) 1 (by omega) _ HP1.out
    obtain ⟨m4, hm4⟩ : ∃ m, (cutL 44 p1).length = m := ⟨_, rfl⟩
    have HM4 := Lib.hid hm4
    have HF1 : Hid (∀ w, Calls Tryz.prog 83 #[str p1] w fun e w' => ∃ p n cap, n = m4 ∧ e = .returned (.tuple #[.slice p n cap, .bool ((n : Int) == 4)]) ∧ w'.ownsRow w.heap.size TI 1 (.slice p n cap) n (ivs (fourS p1)) ∧ Ext w w') := by
      intro w
      have h := HF4.out p1 hl1 w
      unfold RetFour at h
      rw [hm4] at h
      exact h
    clear hm4
    go_wp2_with fail
    refine (HF1.out (w2.alloc (.cells #[.int .i64 W, .int .i64 D, .slice p n cap] THall))).mono ?_
    rintro e w3 ⟨t1, n1, c1, hn1, rfl, ot1, hx1⟩
    subst hn1
    have HB3 := Lib.hid ((Blk.new w2 THall #[.int .i64 W, .int .i64 D, .slice p n cap]).ext hx1)
    have hy3 : Ext w2 w3 := by (repeat' (first | exact Ext.refl _ | (with_reducible assumption) | (with_reducible refine Ext.alloc ?_ _) | (with_reducible refine Ext.setCell ?_ (by first | exact Nat.le_refl _ | (dsimp only; omega) | (simp; done) | (simp; omega)) _) | (with_reducible refine Ext.drew ?_) | (with_reducible refine Ext.drewN ?_ _) | (refine Ext.trans ?_ (by with_reducible assumption))))
    have X3 := Lib.hid (X2.out.trans hy3)
    have OT13 := Lib.hid (own_base ot1 (show w1.heap.size ≤ _ by simp; omega))
    have OH3 := Lib.hid (own_ext OH2.out hy3)
    have z3 : w2.heap.size < w3.heap.size := HB3.out.lt
    clear hx1 hy3 ot1 e1
    cases b0 with
    | false =>
      have hno : Hid (readHouse l = none) := house_noS (fineS_bad (.inl (by rw [PA0.out, H0s.out])))
      have z0 : w3.cell? ⟨w.heap.size, 0, none⟩ = some (.int .i64 0) := (HZ1.out.ext X3.out).cell 0
      have z1 : w3.cell? ⟨w.heap.size, 1, none⟩ = some (.int .i64 0) := (HZ1.out.ext X3.out).cell 1
      have z2 : w3.cell? ⟨w.heap.size, 2, none⟩ = some (.slice none 0 0) := (HZ1.out.ext X3.out).cell 2
      have z3 : w3.cell? ⟨w.heap.size, 3, none⟩ = some (.int .i64 0) := (HZ1.out.ext X3.out).cell 3
      have z4 : w3.cell? ⟨w.heap.size, 4, none⟩ = some (.int .i64 0) := (HZ1.out.ext X3.out).cell 4
      have z5 : w3.cell? ⟨w.heap.size, 5, none⟩ = some (.int .i64 0) := (HZ1.out.ext X3.out).cell 5
      have z6 : w3.cell? ⟨w.heap.size, 6, none⟩ = some (.int .i64 0) := (HZ1.out.ext X3.out).cell 6
      have z7 : w3.cell? ⟨w.heap.size, 7, none⟩ = some (.int .i64 0) := (HZ1.out.ext X3.out).cell 7
      have z8 : w3.cell? ⟨w.heap.size, 8, none⟩ = some (.int .i64 0) := (HZ1.out.ext X3.out).cell 8
      have z9 : w3.cell? ⟨w.heap.size, 9, none⟩ = some (.slice none 0 0) := (HZ1.out.ext X3.out).cell 9
      have zf0 : w3.frozen? ⟨w.heap.size, 0, none⟩ = false := (HZ1.out.ext X3.out).frozen 0
      have zf1 : w3.frozen? ⟨w.heap.size, 1, none⟩ = false := (HZ1.out.ext X3.out).frozen 1
      have zf2 : w3.frozen? ⟨w.heap.size, 2, none⟩ = false := (HZ1.out.ext X3.out).frozen 2
      have zf3 : w3.frozen? ⟨w.heap.size, 3, none⟩ = false := (HZ1.out.ext X3.out).frozen 3
      have zf4 : w3.frozen? ⟨w.heap.size, 4, none⟩ = false := (HZ1.out.ext X3.out).frozen 4
      have zf5 : w3.frozen? ⟨w.heap.size, 5, none⟩ = false := (HZ1.out.ext X3.out).frozen 5
      have zf6 : w3.frozen? ⟨w.heap.size, 6, none⟩ = false := (HZ1.out.ext X3.out).frozen 6
      have zf7 : w3.frozen? ⟨w.heap.size, 7, none⟩ = false := (HZ1.out.ext X3.out).frozen 7
      have zf8 : w3.frozen? ⟨w.heap.size, 8, none⟩ = false := (HZ1.out.ext X3.out).frozen 8
      have zf9 : w3.frozen? ⟨w.heap.size, 9, none⟩ = false := (HZ1.out.ext X3.out).frozen 9
      have hzz : w.heap.size < w3.heap.size := (HZ1.out.ext X3.out).lt
      go_wp2
      generalize hw9 : World.setCell _ _ _ = w9
      have hR9 : ExtR w.heap.size w3 w9 := by rw [← hw9]; exact ((((((((((ExtR.refl _ w3).setCell (p := ⟨w.heap.size, 0, none⟩) (.inl rfl) (.int .i64 0)).setCell (p := ⟨w.heap.size, 1, none⟩) (.inl rfl) (.int .i64 0)).setCell (p := ⟨w.heap.size, 2, none⟩) (.inl rfl) (.slice none 0 0)).setCell (p := ⟨w.heap.size, 3, none⟩) (.inl rfl) (.int .i64 0)).setCell (p := ⟨w.heap.size, 4, none⟩) (.inl rfl) (.int .i64 0)).setCell (p := ⟨w.heap.size, 5, none⟩) (.inl rfl) (.int .i64 0)).setCell (p := ⟨w.heap.size, 6, none⟩) (.inl rfl) (.int .i64 0)).setCell (p := ⟨w.heap.size, 7, none⟩) (.inl rfl) (.int .i64 0)).setCell (p := ⟨w.heap.size, 8, none⟩) (.inl rfl) (.int .i64 0)).setCell (p := ⟨w.heap.size, 9, none⟩) (.inl rfl) (.slice none 0 0)
      have Y9 := (((((((((((HZ1.out.ext X3.out)).set 0 (.int .i64 0)).set 1 (.int .i64 0)).set 2 (.slice none 0 0)).set 3 (.int .i64 0)).set 4 (.int .i64 0)).set 5 (.int .i64 0)).set 6 (.int .i64 0)).set 7 (.int .i64 0)).set 8 (.int .i64 0)).set 9 (.slice none 0 0)
      simp only [List.setIfInBounds_toArray, List.set_cons_zero, List.set_cons_succ] at Y9
      rw [hw9] at Y9
      have X9 : Ext w w9 := ExtR.new (HX1.out.trans X3.out) hR9 (Nat.le_refl _)
      clear hw9 hR9 z0 z1 z2 z3 z4 z5 z6 z7 z8 z9 zf0 zf1 zf2 zf3 zf4 zf5 zf6 zf7 zf8 zf9
      have y0 : w9.cell? ⟨w.heap.size, 0, none⟩ = some (.int .i64 0) := Y9.cell 0
      have y1 : w9.cell? ⟨w.heap.size, 1, none⟩ = some (.int .i64 0) := Y9.cell 1
      have y2 : w9.cell? ⟨w.heap.size, 2, none⟩ = some (.slice none 0 0) := Y9.cell 2
      have y3 : w9.cell? ⟨w.heap.size, 3, none⟩ = some (.int .i64 0) := Y9.cell 3
      have y4 : w9.cell? ⟨w.heap.size, 4, none⟩ = some (.int .i64 0) := Y9.cell 4
      have y5 : w9.cell? ⟨w.heap.size, 5, none⟩ = some (.int .i64 0) := Y9.cell 5
      have y6 : w9.cell? ⟨w.heap.size, 6, none⟩ = some (.int .i64 0) := Y9.cell 6
      have y7 : w9.cell? ⟨w.heap.size, 7, none⟩ = some (.int .i64 0) := Y9.cell 7
      have y8 : w9.cell? ⟨w.heap.size, 8, none⟩ = some (.int .i64 0) := Y9.cell 8
      have y9 : w9.cell? ⟨w.heap.size, 9, none⟩ = some (.slice none 0 0) := Y9.cell 9
      exact bodyPost_ret (v := .tuple #[.agg #[.int .i64 0, .int .i64 0, .slice none 0 0, .int .i64 0, .int .i64 0, .int .i64 0, .int .i64 0, .int .i64 0, .int .i64 0, .slice none 0 0], .bool false]) (by simp [results, Tryz.results38, go_sem, *]) rfl (ret_hb_no hno.out X9)
    | true =>
      by_cases hm4 : n1 = 4
      · subst hm4
        obtain ⟨f, s, pr, cp, q1⟩ := list_four (show (fourS p1).length = 4 by simp [fourS, HM4.out])
        have HQ1 := Lib.hid q1
        obtain ⟨ck, hck⟩ : ∃ x, wholeS p2 = x := ⟨_, rfl⟩
        obtain ⟨bk, hbk⟩ : ∃ x, wholeS p3 = x := ⟨_, rfl⟩
        have HCK := Lib.hid hck
        have HBK := Lib.hid hbk
        have HW2 := Lib.hid (HWH.out p2 ck hl2 hck)
        have HW3 := Lib.hid (HWH.out p3 bk hl3 hbk)
        rw [q1] at OT13
        clear q1 hck hbk HRH HF1
        obtain ⟨g1, c1', hg1⟩ := Joins.ownsRow_form OT13.out (by omega)
        injection hg1 with hg1 _ hg1'
        subst hg1; subst hg1'
        have hgr3 : gr < w3.heap.size := Nat.lt_of_lt_of_le hgr2 (by omega)
        have hg1 := (OT13.out.lt g1 rfl).2
        have i2 : (2 : Int) < (R : Int) := by omega
        have i3 : (3 : Int) < (R : Int) := by omega
        go_wp2
        refine region_lin (gl [gEq (.agg #[.int .i64 W, .int .i64 D, .slice p n cap]), gEq (.slice (some ⟨g1, 0, none⟩) 4 c1), gEq (.pointer (some ⟨g1, 0, none⟩)), gEq (.int .i64 f), gEq (.slice (some ⟨g1, 0, none⟩) 4 c1), gEq (.pointer (some ⟨g1, 1, none⟩)), gEq (.int .i64 s), gEq (.slice (some ⟨g1, 0, none⟩) 4 c1), gEq (.pointer (some ⟨g1, 2, none⟩)), gEq (.int .i64 pr), gEq (.slice (some ⟨g1, 0, none⟩) 4 c1), gEq (.pointer (some ⟨g1, 3, none⟩)), gEq (.int .i64 cp), gEq (.agg #[.int .i64 f, .int .i64 s, .int .i64 pr, .int .i64 cp]), gEq (.slice (some ⟨gr, 0, none⟩) R cr), gEq (.pointer (some ⟨gr, 2, none⟩)), gEq (str p2), gEq (.int .i64 ck), gEq (.slice (some ⟨gr, 0, none⟩) R cr), gEq (.pointer (some ⟨gr, 3, none⟩)), gEq (str p3), gEq (.int .i64 bk), gEq (.agg #[.int .i64 W, .int .i64 D, .slice p n cap, .int .i64 f, .int .i64 s, .int .i64 pr, .int .i64 cp, .int .i64 ck, .int .i64 bk, .slice none 0 0]), gBlk (w3.heap.size) THouse #[.int .i64 0, .int .i64 0, .slice none 0 0, .int .i64 0, .int .i64 0, .int .i64 0, .int .i64 0, .int .i64 0, .int .i64 0, .slice none 0 0]]) 24 (by kernel_rfl) rfl (by kernel_rfl) (by kernel_rfl) (by kernel_rfl) (gl_mono (gl_cons (gEq_mono _) (gl_cons (gEq_mono _) (gl_cons (gEq_mono _) (gl_cons (gEq_mono _) (gl_cons (gEq_mono _) (gl_cons (gEq_mono _) (gl_cons (gEq_mono _) (gl_cons (gEq_mono _) (gl_cons (gEq_mono _) (gl_cons (gEq_mono _) (gl_cons (gEq_mono _) (gl_cons (gEq_mono _) (gl_cons (gEq_mono _) (gl_cons (gEq_mono _) (gl_cons (gEq_mono _) (gl_cons (gEq_mono _) (gl_cons (gEq_mono _) (gl_cons (gEq_mono _) (gl_cons (gEq_mono _) (gl_cons (gEq_mono _) (gl_cons (gEq_mono _) (gl_cons (gEq_mono _) (gl_cons (gEq_mono _) (gl_cons (gBlk_mono _ _ _) (gl_nil)))))))))))))))))))))))))) (k := 25) (by kernel_rfl) (by decide) (ls := [(0, some 40), (1, some 41), (2, some 42), (3, some 43), (4, some 44), (5, some 45), (6, some 46), (7, some 47), (8, some 48), (9, some 49), (10, some 50), (11, some 51), (12, some 52), (13, some 53), (14, some 54), (15, some 55), (16, some 56), (17, some 57), (18, some 58), (19, some 59), (20, some 60), (21, some 61), (22, some 62), (23, some 9)]) (by kernel_rfl) (ir := [0, 1, 2, 3, 4, 5, 6, 7, 8, 9, 10, 11, 12, 13, 14, 15, 16, 17, 18, 19, 20, 21, 22, 23]) (by kernel_rfl) ?steps (tl := #[true, true, true, true, true, true, true, true, true, true, true, true, true, true, true, true, true, true, true, true, true, true, true, true, false]) (by kernel_rfl) ?fin
        case steps =>
          refine StepsL.cons (ps := []) rfl (by kernel_rfl) (fun wi hx => ?_) ?_
          · intro K hK
            have hX : Ext w3 wi := by (repeat' (first | exact Ext.refl _ | (with_reducible assumption) | (with_reducible refine Ext.alloc ?_ _) | (with_reducible refine Ext.setCell ?_ (by first | exact Nat.le_refl _ | (dsimp only; omega) | (simp; done) | (simp; omega)) _) | (with_reducible refine Ext.drew ?_) | (with_reducible refine Ext.drewN ?_ _) | (refine Ext.trans ?_ (by with_reducible assumption))))
            have v0 : wi.cell? ⟨w2.heap.size, 0, none⟩ = some (.int .i64 W) := (HB3.out.ext hX).cell 0
            have v1 : wi.cell? ⟨w2.heap.size, 1, none⟩ = some (.int .i64 D) := (HB3.out.ext hX).cell 1
            have v2 : wi.cell? ⟨w2.heap.size, 2, none⟩ = some (.slice p n cap) := (HB3.out.ext hX).cell 2
            go_simp
            exact hK _ _ ⟨.agg #[.int .i64 W, .int .i64 D, .slice p n cap], rfl, rfl, Ext.refl _⟩
          refine StepsL.cons (ps := []) rfl (by kernel_rfl) (fun wi hx => ?_) ?_
          · intro K hK
            go_simp
            exact hK _ _ ⟨.slice (some ⟨g1, 0, none⟩) 4 c1, rfl, rfl, Ext.refl _⟩
          refine StepsL.cons (ps := [(1, some 41)]) rfl (by kernel_rfl) (fun wi hx => ?_) ?_
          · intro v1 h1 K hK
            obtain rfl := h1
            go_simp
            exact hK _ _ ⟨.pointer (some ⟨g1, 0, none⟩), rfl, rfl, Ext.refl _⟩
          refine StepsL.cons (ps := [(2, some 42)]) rfl (by kernel_rfl) (fun wi hx => ?_) ?_
          · intro v2 h2 K hK
            obtain rfl := h2
            have hX : Ext w3 wi := by (repeat' (first | exact Ext.refl _ | (with_reducible assumption) | (with_reducible refine Ext.alloc ?_ _) | (with_reducible refine Ext.setCell ?_ (by first | exact Nat.le_refl _ | (dsimp only; omega) | (simp; done) | (simp; omega)) _) | (with_reducible refine Ext.drew ?_) | (with_reducible refine Ext.drewN ?_ _) | (refine Ext.trans ?_ (by with_reducible assumption))))
            have t0 : wi.cell? ⟨g1, 0, none⟩ = some (.int .i64 f) := ints_cell (own_ext OT13.out hX) 0 (by omega) _ rfl
            go_simp
            exact hK _ _ ⟨.int .i64 f, rfl, rfl, Ext.refl _⟩
          refine StepsL.cons (ps := []) rfl (by kernel_rfl) (fun wi hx => ?_) ?_
          · intro K hK
            go_simp
            exact hK _ _ ⟨.slice (some ⟨g1, 0, none⟩) 4 c1, rfl, rfl, Ext.refl _⟩
          refine StepsL.cons (ps := [(4, some 44)]) rfl (by kernel_rfl) (fun wi hx => ?_) ?_
          · intro v4 h4 K hK
            obtain rfl := h4
            go_simp
            exact hK _ _ ⟨.pointer (some ⟨g1, 1, none⟩), rfl, rfl, Ext.refl _⟩
          refine StepsL.cons (ps := [(5, some 45)]) rfl (by kernel_rfl) (fun wi hx => ?_) ?_
          · intro v5 h5 K hK
            obtain rfl := h5
            have hX : Ext w3 wi := by (repeat' (first | exact Ext.refl _ | (with_reducible assumption) | (with_reducible refine Ext.alloc ?_ _) | (with_reducible refine Ext.setCell ?_ (by first | exact Nat.le_refl _ | (dsimp only; omega) | (simp; done) | (simp; omega)) _) | (with_reducible refine Ext.drew ?_) | (with_reducible refine Ext.drewN ?_ _) | (refine Ext.trans ?_ (by with_reducible assumption))))
            have t0 : wi.cell? ⟨g1, 1, none⟩ = some (.int .i64 s) := ints_cell (own_ext OT13.out hX) 1 (by omega) _ rfl
            go_simp
            exact hK _ _ ⟨.int .i64 s, rfl, rfl, Ext.refl _⟩
          refine StepsL.cons (ps := []) rfl (by kernel_rfl) (fun wi hx => ?_) ?_
          · intro K hK
            go_simp
            exact hK _ _ ⟨.slice (some ⟨g1, 0, none⟩) 4 c1, rfl, rfl, Ext.refl _⟩
          refine StepsL.cons (ps := [(7, some 47)]) rfl (by kernel_rfl) (fun wi hx => ?_) ?_
          · intro v7 h7 K hK
            obtain rfl := h7
            go_simp
            exact hK _ _ ⟨.pointer (some ⟨g1, 2, none⟩), rfl, rfl, Ext.refl _⟩
          refine StepsL.cons (ps := [(8, some 48)]) rfl (by kernel_rfl) (fun wi hx => ?_) ?_
          · intro v8 h8 K hK
            obtain rfl := h8
            have hX : Ext w3 wi := by (repeat' (first | exact Ext.refl _ | (with_reducible assumption) | (with_reducible refine Ext.alloc ?_ _) | (with_reducible refine Ext.setCell ?_ (by first | exact Nat.le_refl _ | (dsimp only; omega) | (simp; done) | (simp; omega)) _) | (with_reducible refine Ext.drew ?_) | (with_reducible refine Ext.drewN ?_ _) | (refine Ext.trans ?_ (by with_reducible assumption))))
            have t0 : wi.cell? ⟨g1, 2, none⟩ = some (.int .i64 pr) := ints_cell (own_ext OT13.out hX) 2 (by omega) _ rfl
            go_simp
            exact hK _ _ ⟨.int .i64 pr, rfl, rfl, Ext.refl _⟩
          refine StepsL.cons (ps := []) rfl (by kernel_rfl) (fun wi hx => ?_) ?_
          · intro K hK
            go_simp
            exact hK _ _ ⟨.slice (some ⟨g1, 0, none⟩) 4 c1, rfl, rfl, Ext.refl _⟩
          refine StepsL.cons (ps := [(10, some 50)]) rfl (by kernel_rfl) (fun wi hx => ?_) ?_
          · intro v10 h10 K hK
            obtain rfl := h10
            go_simp
            exact hK _ _ ⟨.pointer (some ⟨g1, 3, none⟩), rfl, rfl, Ext.refl _⟩
          refine StepsL.cons (ps := [(11, some 51)]) rfl (by kernel_rfl) (fun wi hx => ?_) ?_
          · intro v11 h11 K hK
            obtain rfl := h11
            have hX : Ext w3 wi := by (repeat' (first | exact Ext.refl _ | (with_reducible assumption) | (with_reducible refine Ext.alloc ?_ _) | (with_reducible refine Ext.setCell ?_ (by first | exact Nat.le_refl _ | (dsimp only; omega) | (simp; done) | (simp; omega)) _) | (with_reducible refine Ext.drew ?_) | (with_reducible refine Ext.drewN ?_ _) | (refine Ext.trans ?_ (by with_reducible assumption))))
            have t0 : wi.cell? ⟨g1, 3, none⟩ = some (.int .i64 cp) := ints_cell (own_ext OT13.out hX) 3 (by omega) _ rfl
            go_simp
            exact hK _ _ ⟨.int .i64 cp, rfl, rfl, Ext.refl _⟩
          refine StepsL.cons (ps := [(3, some 43), (6, some 46), (9, some 49), (12, some 52)]) rfl (by kernel_rfl) (fun wi hx => ?_) ?_
          · intro v3 h3 v6 h6 v9 h9 v12 h12 K hK
            obtain rfl := h3
            obtain rfl := h6
            obtain rfl := h9
            obtain rfl := h12
            go_simp
            exact hK _ _ ⟨.agg #[.int .i64 f, .int .i64 s, .int .i64 pr, .int .i64 cp], rfl, rfl, Ext.refl _⟩
          refine StepsL.cons (ps := []) rfl (by kernel_rfl) (fun wi hx => ?_) ?_
          · intro K hK
            go_simp
            exact hK _ _ ⟨.slice (some ⟨gr, 0, none⟩) R cr, rfl, rfl, Ext.refl _⟩
          refine StepsL.cons (ps := [(14, some 54)]) rfl (by kernel_rfl) (fun wi hx => ?_) ?_
          · intro v14 h14 K hK
            obtain rfl := h14
            go_simp
            exact hK _ _ ⟨.pointer (some ⟨gr, 2, none⟩), rfl, rfl, Ext.refl _⟩
          refine StepsL.cons (ps := [(15, some 55)]) rfl (by kernel_rfl) (fun wi hx => ?_) ?_
          · intro v15 h15 K hK
            obtain rfl := h15
            have hX : Ext w3 wi := by (repeat' (first | exact Ext.refl _ | (with_reducible assumption) | (with_reducible refine Ext.alloc ?_ _) | (with_reducible refine Ext.setCell ?_ (by first | exact Nat.le_refl _ | (dsimp only; omega) | (simp; done) | (simp; omega)) _) | (with_reducible refine Ext.drew ?_) | (with_reducible refine Ext.drewN ?_ _) | (refine Ext.trans ?_ (by with_reducible assumption))))
            have t0 : wi.cell? ⟨gr, 2, none⟩ = some (str p2) := part_cell (own_ext hown1.out (X3.out.trans hX)) 2 (by omega) _ HP2.out
            go_simp
            exact hK _ _ ⟨str p2, rfl, rfl, Ext.refl _⟩
          refine StepsL.cons (ps := [(16, some 56)]) rfl (by kernel_rfl) (fun wi hx => ?_) ?_
          · intro v16 h16 K hK
            obtain rfl := h16
            go_wp2_with fail
            refine (HW2.out _).mono ?_
            rintro e w6 ⟨rfl, hx6⟩
            go_simp
            exact hK _ _ ⟨.int .i64 ck, rfl, rfl, hx6⟩
          refine StepsL.cons (ps := []) rfl (by kernel_rfl) (fun wi hx => ?_) ?_
          · intro K hK
            go_simp
            exact hK _ _ ⟨.slice (some ⟨gr, 0, none⟩) R cr, rfl, rfl, Ext.refl _⟩
          refine StepsL.cons (ps := [(18, some 58)]) rfl (by kernel_rfl) (fun wi hx => ?_) ?_
          · intro v18 h18 K hK
            obtain rfl := h18
            go_simp
            exact hK _ _ ⟨.pointer (some ⟨gr, 3, none⟩), rfl, rfl, Ext.refl _⟩
          refine StepsL.cons (ps := [(19, some 59)]) rfl (by kernel_rfl) (fun wi hx => ?_) ?_
          · intro v19 h19 K hK
            obtain rfl := h19
            have hX : Ext w3 wi := by (repeat' (first | exact Ext.refl _ | (with_reducible assumption) | (with_reducible refine Ext.alloc ?_ _) | (with_reducible refine Ext.setCell ?_ (by first | exact Nat.le_refl _ | (dsimp only; omega) | (simp; done) | (simp; omega)) _) | (with_reducible refine Ext.drew ?_) | (with_reducible refine Ext.drewN ?_ _) | (refine Ext.trans ?_ (by with_reducible assumption))))
            have t0 : wi.cell? ⟨gr, 3, none⟩ = some (str p3) := part_cell (own_ext hown1.out (X3.out.trans hX)) 3 (by omega) _ HP3.out
            go_simp
            exact hK _ _ ⟨str p3, rfl, rfl, Ext.refl _⟩
          refine StepsL.cons (ps := [(20, some 60)]) rfl (by kernel_rfl) (fun wi hx => ?_) ?_
          · intro v20 h20 K hK
            obtain rfl := h20
            go_wp2_with fail
            refine (HW3.out _).mono ?_
            rintro e w6 ⟨rfl, hx6⟩
            go_simp
            exact hK _ _ ⟨.int .i64 bk, rfl, rfl, hx6⟩
          refine StepsL.cons (ps := [(0, some 40), (13, some 53), (17, some 57), (21, some 61)]) rfl (by kernel_rfl) (fun wi hx => ?_) ?_
          · intro v0 h0 v13 h13 v17 h17 v21 h21 K hK
            obtain rfl := h0
            obtain rfl := h13
            obtain rfl := h17
            obtain rfl := h21
            go_simp
            exact hK _ _ ⟨.agg #[.int .i64 W, .int .i64 D, .slice p n cap, .int .i64 f, .int .i64 s, .int .i64 pr, .int .i64 cp, .int .i64 ck, .int .i64 bk, .slice none 0 0], rfl, rfl, Ext.refl _⟩
          refine StepsL.cons (ps := []) rfl (by kernel_rfl) (fun wi hx => ?_) StepsL.nil
          · intro K hK
            go_simp
            exact hK _ _ ⟨.pointer (some ⟨wi.heap.size, 0, none⟩), rfl, ⟨wi.heap.size, rfl, by have := hx.sz; simp at this; omega, Blk.new _ _ _⟩, (Ext.refl _).alloc _⟩
        case fin =>
          intro wi hx v0 h0 v1 h1 v2 h2 v3 h3 v4 h4 v5 h5 v6 h6 v7 h7 v8 h8 v9 h9 v10 h10 v11 h11 v12 h12 v13 h13 v14 h14 v15 h15 v16 h16 v17 h17 v18 h18 v19 h19 v20 h20 v21 h21 v22 h22 v23 h23
          obtain rfl := h0
          obtain rfl := h1
          obtain rfl := h2
          obtain rfl := h3
          obtain rfl := h4
          obtain rfl := h5
          obtain rfl := h6
          obtain rfl := h7
          obtain rfl := h8
          obtain rfl := h9
          obtain rfl := h10
          obtain rfl := h11
          obtain rfl := h12
          obtain rfl := h13
          obtain rfl := h14
          obtain rfl := h15
          obtain rfl := h16
          obtain rfl := h17
          obtain rfl := h18
          obtain rfl := h19
          obtain rfl := h20
          obtain rfl := h21
          obtain rfl := h22
          obtain ⟨g23, rfl, hg23, B23⟩ := h23
          have hX : Ext w3 wi := by (repeat' (first | exact Ext.refl _ | (with_reducible assumption) | (with_reducible refine Ext.alloc ?_ _) | (with_reducible refine Ext.setCell ?_ (by first | exact Nat.le_refl _ | (dsimp only; omega) | (simp; done) | (simp; omega)) _) | (with_reducible refine Ext.drew ?_) | (with_reducible refine Ext.drewN ?_ _) | (refine Ext.trans ?_ (by with_reducible assumption))))
          have hz6 : g23 < wi.heap.size := B23.lt
          have z0 : wi.cell? ⟨g23, 0, none⟩ = some (.int .i64 0) := B23.cell 0
          have z1 : wi.cell? ⟨g23, 1, none⟩ = some (.int .i64 0) := B23.cell 1
          have z2 : wi.cell? ⟨g23, 2, none⟩ = some (.slice none 0 0) := B23.cell 2
          have z3 : wi.cell? ⟨g23, 3, none⟩ = some (.int .i64 0) := B23.cell 3
          have z4 : wi.cell? ⟨g23, 4, none⟩ = some (.int .i64 0) := B23.cell 4
          have z5 : wi.cell? ⟨g23, 5, none⟩ = some (.int .i64 0) := B23.cell 5
          have z6 : wi.cell? ⟨g23, 6, none⟩ = some (.int .i64 0) := B23.cell 6
          have z7 : wi.cell? ⟨g23, 7, none⟩ = some (.int .i64 0) := B23.cell 7
          have z8 : wi.cell? ⟨g23, 8, none⟩ = some (.int .i64 0) := B23.cell 8
          have z9 : wi.cell? ⟨g23, 9, none⟩ = some (.slice none 0 0) := B23.cell 9
          have zf0 : wi.frozen? ⟨g23, 0, none⟩ = false := B23.frozen 0
          have zf1 : wi.frozen? ⟨g23, 1, none⟩ = false := B23.frozen 1
          have zf2 : wi.frozen? ⟨g23, 2, none⟩ = false := B23.frozen 2
          have zf3 : wi.frozen? ⟨g23, 3, none⟩ = false := B23.frozen 3
          have zf4 : wi.frozen? ⟨g23, 4, none⟩ = false := B23.frozen 4
          have zf5 : wi.frozen? ⟨g23, 5, none⟩ = false := B23.frozen 5
          have zf6 : wi.frozen? ⟨g23, 6, none⟩ = false := B23.frozen 6
          have zf7 : wi.frozen? ⟨g23, 7, none⟩ = false := B23.frozen 7
          have zf8 : wi.frozen? ⟨g23, 8, none⟩ = false := B23.frozen 8
          have zf9 : wi.frozen? ⟨g23, 9, none⟩ = false := B23.frozen 9
          have BN := ((((((((((B23).set 0 (.int .i64 W)).set 1 (.int .i64 D)).set 2 (.slice p n cap)).set 3 (.int .i64 f)).set 4 (.int .i64 s)).set 5 (.int .i64 pr)).set 6 (.int .i64 cp)).set 7 (.int .i64 ck)).set 8 (.int .i64 bk)).set 9 (.slice none 0 0)
          simp only [List.setIfInBounds_toArray, List.set_cons_zero, List.set_cons_succ] at BN
          refine wpAny_ready (rs := [24]) (by kernel_rfl) (by simp) ?_
          refine AllReady.cons rfl (fun K hK => ?_) AllReady.nil
          go_simp
          refine hK _ _ ?_
          clear hK K
          clear z0 z1 z2 z3 z4 z5 z6 z7 z8 z9 zf0 zf1 zf2 zf3 zf4 zf5 zf6 zf7 zf8 zf9
          generalize hw6 : World.setCell _ _ _ = w6
          rw [hw6] at BN
          have hR6 : ExtR g23 wi w6 := by rw [← hw6]; exact ((((((((((ExtR.refl g23 wi).setCell (p := ⟨g23, 0, none⟩) (.inl rfl) (.int .i64 W)).setCell (p := ⟨g23, 1, none⟩) (.inl rfl) (.int .i64 D)).setCell (p := ⟨g23, 2, none⟩) (.inl rfl) (.slice p n cap)).setCell (p := ⟨g23, 3, none⟩) (.inl rfl) (.int .i64 f)).setCell (p := ⟨g23, 4, none⟩) (.inl rfl) (.int .i64 s)).setCell (p := ⟨g23, 5, none⟩) (.inl rfl) (.int .i64 pr)).setCell (p := ⟨g23, 6, none⟩) (.inl rfl) (.int .i64 cp)).setCell (p := ⟨g23, 7, none⟩) (.inl rfl) (.int .i64 ck)).setCell (p := ⟨g23, 8, none⟩) (.inl rfl) (.int .i64 bk)).setCell (p := ⟨g23, 9, none⟩) (.inl rfl) (.slice none 0 0)
          clear hw6
          have HXB := Lib.hid (ExtR.new hX hR6 hg23)
          have B6 := Lib.hid BN
          have z6 : g23 < w6.heap.size := BN.lt
          clear BN hX hx B23 hR6 hz6
          refine wpAny_done (by kernel_rfl) ?_ _
          try simp only [Act.put, List.setIfInBounds_toArray, List.set_cons_zero, List.set_cons_succ]
          obtain ⟨N, rfl⟩ : ∃ N, R = N + 4 := ⟨R - 4, by omega⟩
          have HRN : Hid ((cutL 59 l).length = N + 4) := HRq.out
          go_wp2
          go_loopw [10] (fun i wr => ∃ (k : Nat) (q : Option Addr) (d : Nat), k ≤ N ∧ i = .int .i64 ((4 + k : Nat) : Int) ∧ Ext w3 wr ∧ Blk wr g23 THouse #[.int .i64 W, .int .i64 D, .slice p n cap, .int .i64 f, .int .i64 s, .int .i64 pr, .int .i64 cp, .int .i64 ck, .int .i64 bk, .slice q k d] ∧ wr.ownsRow (g23 + 1) TVis 4 (.slice q k d) k ((visitsTo (cutL 59 l) k).flatMap visitCells) ∧ ∀ q ∈ ((cutL 59 l).drop 4).take k, (cutL 44 q).length = 4) (fun i _ => N + 4 - (intOf i).toNat)
          case atStart => exact ⟨0, none, 0, Nat.zero_le _, rfl, HXB.out, B6.out, World.ownsRow_nil _ _ _ _, by simp⟩
          case round =>
            obtain ⟨k, q, d, hk, rfl, hEr, hB, hO, hfn⟩ := hrel
            have XR := Lib.hid hEr
            have BR := Lib.hid hB
            have OR := Lib.hid hO
            have HF := Lib.hid hfn
            have hzr : g23 < wr.heap.size := hB.lt
            clear hEr hB hO hfn
            by_cases hlt : k < N
            · obtain ⟨x, hx⟩ : ∃ q, (cutL 59 l)[4 + k]? = some q := ⟨_, List.getElem?_eq_getElem (by rw [HRN.out]; omega)⟩
              have HXq := Lib.hid hx
              have hxl : x.length ≤ 1048576 := HL.out x (List.mem_of_getElem? hx)
              have XWR := Lib.hid (X3.out.trans XR.out)
              have e1 : wr.cell? ⟨gr, 4 + k, none⟩ = some (str x) := part_cell (own_ext hown1.out XWR.out) (4 + k) (by omega) _ hx
              have hgrr : gr < wr.heap.size := Nat.lt_of_lt_of_le hgr1 XWR.out.sz
              clear hx
              have i1 : (0 : Int) ≤ ((4 + k : Nat) : Int) := by omega
              have i2 : ((4 + k : Nat) : Int) < ((N + 4 : Nat) : Int) := by omega
              obtain ⟨mv, hmv⟩ : ∃ m, (cutL 44 x).length = m := ⟨_, rfl⟩
              have HMV := Lib.hid hmv
              have HNV : Hid (∀ w, Calls Tryz.prog 83 #[str x] w fun e w' => ∃ p n cap, n = mv ∧ e = .returned (.tuple #[.slice p n cap, .bool ((n : Int) == 4)]) ∧ w'.ownsRow w.heap.size TI 1 (.slice p n cap) n (ivs (fourS x)) ∧ Ext w w') := by
                intro w
                have h := HF4.out x hxl w
                unfold RetFour at h
                rw [hmv] at h
                exact h
              clear hmv
              go_wp2_with fail
              refine (HNV.out wr).mono ?_
              rintro e w7 ⟨tv, nv, cv, hnv, rfl, otv, hx7⟩
              subst hnv
              have X7 := Lib.hid (XR.out.trans hx7)
              have B7 := Lib.hid (BR.out.ext hx7)
              have O7 := Lib.hid (own_ext OR.out hx7)
              have OV7 := Lib.hid (own_base otv (show g23 + 1 ≤ _ by omega))
              have hz7 : g23 < w7.heap.size := B7.out.lt
              clear hx7 otv e1
              by_cases hm4 : nv = 4
              · subst hm4
                obtain ⟨a0, a1, a2, a3, q1⟩ := list_four (show (fourS x).length = 4 by simp [fourS, HMV.out])
                have HQX := Lib.hid q1
                rw [q1] at OV7
                clear q1 HNV
                obtain ⟨gv, cv', hgv⟩ := Joins.ownsRow_form OV7.out (by omega)
                injection hgv with hgv _ hgv'
                subst hgv; subst hgv'
                have t0 : w7.cell? ⟨gv, 0, none⟩ = some (.int .i64 a0) := ints_cell OV7.out 0 (by omega) _ rfl
                have t1 : w7.cell? ⟨gv, 1, none⟩ = some (.int .i64 a1) := ints_cell OV7.out 1 (by omega) _ rfl
                have t2 : w7.cell? ⟨gv, 2, none⟩ = some (.int .i64 a2) := ints_cell OV7.out 2 (by omega) _ rfl
                have t3 : w7.cell? ⟨gv, 3, none⟩ = some (.int .i64 a3) := ints_cell OV7.out 3 (by omega) _ rfl
                have v9 : w7.cell? ⟨g23, 9, none⟩ = some (.slice q k d) := B7.out.cell 9
                have vf9 : w7.frozen? ⟨g23, 9, none⟩ = false := B7.out.frozen 9
                have hgv := (OV7.out.lt gv rfl).2
                have hgn : ¬ gv = g23 := by have := (OV7.out.lt gv rfl).1; omega
                have hkb : k ≤ 1048577 := by omega
                go_wp2
                refine region_lin (gl [gEq (.pointer (some ⟨g23, 9, none⟩)), gEq (.slice q k d), gEq (.slice (some ⟨gv, 0, none⟩) 4 cv), gEq (.pointer (some ⟨gv, 0, none⟩)), gEq (.int .i64 a0), gEq (.slice (some ⟨gv, 0, none⟩) 4 cv), gEq (.pointer (some ⟨gv, 1, none⟩)), gEq (.int .i64 a1), gEq (.slice (some ⟨gv, 0, none⟩) 4 cv), gEq (.pointer (some ⟨gv, 2, none⟩)), gEq (.int .i64 a2), gEq (.slice (some ⟨gv, 0, none⟩) 4 cv), gEq (.pointer (some ⟨gv, 3, none⟩)), gEq (.int .i64 a3), gEq (.agg #[.int .i64 a1, .int .i64 a2, .int .i64 a3]), gEq (.agg #[.int .i64 a0, .int .i64 a1, .int .i64 a2, .int .i64 a3]), gLit (0) TVis #[.int .i64 a0, .int .i64 a1, .int .i64 a2, .int .i64 a3] 1]) 17 (by kernel_rfl) rfl (by kernel_rfl) (by kernel_rfl) (by kernel_rfl) (gl_mono (gl_cons (gEq_mono _) (gl_cons (gEq_mono _) (gl_cons (gEq_mono _) (gl_cons (gEq_mono _) (gl_cons (gEq_mono _) (gl_cons (gEq_mono _) (gl_cons (gEq_mono _) (gl_cons (gEq_mono _) (gl_cons (gEq_mono _) (gl_cons (gEq_mono _) (gl_cons (gEq_mono _) (gl_cons (gEq_mono _) (gl_cons (gEq_mono _) (gl_cons (gEq_mono _) (gl_cons (gEq_mono _) (gl_cons (gEq_mono _) (gl_cons (gLit_mono _ _ _ _) (gl_nil))))))))))))))))))) (k := 20) (by kernel_rfl) (by decide) (ls := [(0, some 80), (1, some 81), (2, some 82), (3, some 83), (4, some 84), (5, some 85), (6, some 86), (7, some 87), (8, some 88), (9, some 89), (10, some 90), (11, some 91), (12, some 92), (13, some 93), (14, some 94), (15, some 95), (16, some 96)]) (by kernel_rfl) (ir := [0, 1, 2, 3, 4, 5, 6, 7, 8, 9, 10, 11, 12, 13, 14, 15, 16]) (by kernel_rfl) ?steps (tl := #[true, true, true, true, true, true, true, true, true, true, true, true, true, true, true, true, true, false, false, false]) (by kernel_rfl) ?fin
                case steps =>
                  refine StepsL.cons (ps := []) rfl (by kernel_rfl) (fun wi hx => ?_) ?_
                  · intro K hK
                    go_simp
                    exact hK _ _ ⟨.pointer (some ⟨g23, 9, none⟩), rfl, rfl, Ext.refl _⟩
                  refine StepsL.cons (ps := [(0, some 80)]) rfl (by kernel_rfl) (fun wi hx => ?_) ?_
                  · intro v0 h0 K hK
                    obtain rfl := h0
                    have hX : Ext w7 wi := by (repeat' (first | exact Ext.refl _ | (with_reducible assumption) | (with_reducible refine Ext.alloc ?_ _) | (with_reducible refine Ext.setCell ?_ (by first | exact Nat.le_refl _ | (dsimp only; omega) | (simp; done) | (simp; omega)) _) | (with_reducible refine Ext.drew ?_) | (with_reducible refine Ext.drewN ?_ _) | (refine Ext.trans ?_ (by with_reducible assumption))))
                    have v9 : wi.cell? ⟨g23, 9, none⟩ = some (.slice q k d) := (B7.out.ext hX).cell 9
                    go_simp
                    exact hK _ _ ⟨.slice q k d, rfl, rfl, Ext.refl _⟩
                  refine StepsL.cons (ps := []) rfl (by kernel_rfl) (fun wi hx => ?_) ?_
                  · intro K hK
                    go_simp
                    exact hK _ _ ⟨.slice (some ⟨gv, 0, none⟩) 4 cv, rfl, rfl, Ext.refl _⟩
                  refine StepsL.cons (ps := [(2, some 82)]) rfl (by kernel_rfl) (fun wi hx => ?_) ?_
                  · intro v2 h2 K hK
                    obtain rfl := h2
                    go_simp
                    exact hK _ _ ⟨.pointer (some ⟨gv, 0, none⟩), rfl, rfl, Ext.refl _⟩
                  refine StepsL.cons (ps := [(3, some 83)]) rfl (by kernel_rfl) (fun wi hx => ?_) ?_
                  · intro v3 h3 K hK
                    obtain rfl := h3
                    have hX : Ext w7 wi := by (repeat' (first | exact Ext.refl _ | (with_reducible assumption) | (with_reducible refine Ext.alloc ?_ _) | (with_reducible refine Ext.setCell ?_ (by first | exact Nat.le_refl _ | (dsimp only; omega) | (simp; done) | (simp; omega)) _) | (with_reducible refine Ext.drew ?_) | (with_reducible refine Ext.drewN ?_ _) | (refine Ext.trans ?_ (by with_reducible assumption))))
                    have t0 : wi.cell? ⟨gv, 0, none⟩ = some (.int .i64 a0) := ints_cell (own_ext OV7.out hX) 0 (by omega) _ rfl
                    go_simp
                    exact hK _ _ ⟨.int .i64 a0, rfl, rfl, Ext.refl _⟩
                  refine StepsL.cons (ps := []) rfl (by kernel_rfl) (fun wi hx => ?_) ?_
                  · intro K hK
                    go_simp
                    exact hK _ _ ⟨.slice (some ⟨gv, 0, none⟩) 4 cv, rfl, rfl, Ext.refl _⟩
                  refine StepsL.cons (ps := [(5, some 85)]) rfl (by kernel_rfl) (fun wi hx => ?_) ?_
                  · intro v5 h5 K hK
                    obtain rfl := h5
                    go_simp
                    exact hK _ _ ⟨.pointer (some ⟨gv, 1, none⟩), rfl, rfl, Ext.refl _⟩
                  refine StepsL.cons (ps := [(6, some 86)]) rfl (by kernel_rfl) (fun wi hx => ?_) ?_
                  · intro v6 h6 K hK
                    obtain rfl := h6
                    have hX : Ext w7 wi := by (repeat' (first | exact Ext.refl _ | (with_reducible assumption) | (with_reducible refine Ext.alloc ?_ _) | (with_reducible refine Ext.setCell ?_ (by first | exact Nat.le_refl _ | (dsimp only; omega) | (simp; done) | (simp; omega)) _) | (with_reducible refine Ext.drew ?_) | (with_reducible refine Ext.drewN ?_ _) | (refine Ext.trans ?_ (by with_reducible assumption))))
                    have t0 : wi.cell? ⟨gv, 1, none⟩ = some (.int .i64 a1) := ints_cell (own_ext OV7.out hX) 1 (by omega) _ rfl
                    go_simp
                    exact hK _ _ ⟨.int .i64 a1, rfl, rfl, Ext.refl _⟩
                  refine StepsL.cons (ps := []) rfl (by kernel_rfl) (fun wi hx => ?_) ?_
                  · intro K hK
                    go_simp
                    exact hK _ _ ⟨.slice (some ⟨gv, 0, none⟩) 4 cv, rfl, rfl, Ext.refl _⟩
                  refine StepsL.cons (ps := [(8, some 88)]) rfl (by kernel_rfl) (fun wi hx => ?_) ?_
                  · intro v8 h8 K hK
                    obtain rfl := h8
                    go_simp
                    exact hK _ _ ⟨.pointer (some ⟨gv, 2, none⟩), rfl, rfl, Ext.refl _⟩
                  refine StepsL.cons (ps := [(9, some 89)]) rfl (by kernel_rfl) (fun wi hx => ?_) ?_
                  · intro v9 h9 K hK
                    obtain rfl := h9
                    have hX : Ext w7 wi := by (repeat' (first | exact Ext.refl _ | (with_reducible assumption) | (with_reducible refine Ext.alloc ?_ _) | (with_reducible refine Ext.setCell ?_ (by first | exact Nat.le_refl _ | (dsimp only; omega) | (simp; done) | (simp; omega)) _) | (with_reducible refine Ext.drew ?_) | (with_reducible refine Ext.drewN ?_ _) | (refine Ext.trans ?_ (by with_reducible assumption))))
                    have t0 : wi.cell? ⟨gv, 2, none⟩ = some (.int .i64 a2) := ints_cell (own_ext OV7.out hX) 2 (by omega) _ rfl
                    go_simp
                    exact hK _ _ ⟨.int .i64 a2, rfl, rfl, Ext.refl _⟩
                  refine StepsL.cons (ps := []) rfl (by kernel_rfl) (fun wi hx => ?_) ?_
                  · intro K hK
                    go_simp
                    exact hK _ _ ⟨.slice (some ⟨gv, 0, none⟩) 4 cv, rfl, rfl, Ext.refl _⟩
                  refine StepsL.cons (ps := [(11, some 91)]) rfl (by kernel_rfl) (fun wi hx => ?_) ?_
                  · intro v11 h11 K hK
                    obtain rfl := h11
                    go_simp
                    exact hK _ _ ⟨.pointer (some ⟨gv, 3, none⟩), rfl, rfl, Ext.refl _⟩
                  refine StepsL.cons (ps := [(12, some 92)]) rfl (by kernel_rfl) (fun wi hx => ?_) ?_
                  · intro v12 h12 K hK
                    obtain rfl := h12
                    have hX : Ext w7 wi := by (repeat' (first | exact Ext.refl _ | (with_reducible assumption) | (with_reducible refine Ext.alloc ?_ _) | (with_reducible refine Ext.setCell ?_ (by first | exact Nat.le_refl _ | (dsimp only; omega) | (simp; done) | (simp; omega)) _) | (with_reducible refine Ext.drew ?_) | (with_reducible refine Ext.drewN ?_ _) | (refine Ext.trans ?_ (by with_reducible assumption))))
                    have t0 : wi.cell? ⟨gv, 3, none⟩ = some (.int .i64 a3) := ints_cell (own_ext OV7.out hX) 3 (by omega) _ rfl
                    go_simp
                    exact hK _ _ ⟨.int .i64 a3, rfl, rfl, Ext.refl _⟩
                  refine StepsL.cons (ps := [(7, some 87), (10, some 90), (13, some 93)]) rfl (by kernel_rfl) (fun wi hx => ?_) ?_
                  · intro v7 h7 v10 h10 v13 h13 K hK
                    obtain rfl := h7
                    obtain rfl := h10
                    obtain rfl := h13
                    go_simp
                    exact hK _ _ ⟨.agg #[.int .i64 a1, .int .i64 a2, .int .i64 a3], rfl, rfl, Ext.refl _⟩
                  refine StepsL.cons (ps := [(4, some 84), (14, some 94)]) rfl (by kernel_rfl) (fun wi hx => ?_) ?_
                  · intro v4 h4 v14 h14 K hK
                    obtain rfl := h4
                    obtain rfl := h14
                    go_simp
                    exact hK _ _ ⟨.agg #[.int .i64 a0, .int .i64 a1, .int .i64 a2, .int .i64 a3], rfl, rfl, Ext.refl _⟩
                  refine StepsL.cons (ps := [(15, some 95)]) rfl (by kernel_rfl) (fun wi hx => ?_) StepsL.nil
                  · intro v15 h15 K hK
                    obtain rfl := h15
                    go_simp
                    exact hK _ _ ⟨.slice (some ⟨wi.heap.size, 0, none⟩) 1 1, rfl, ⟨wi.heap.size, rfl, Nat.zero_le _, Blk.new _ _ _⟩, (Ext.refl _).alloc _⟩
                case fin =>
                  intro wi hx v0 h0 v1 h1 v2 h2 v3 h3 v4 h4 v5 h5 v6 h6 v7 h7 v8 h8 v9 h9 v10 h10 v11 h11 v12 h12 v13 h13 v14 h14 v15 h15 v16 h16
                  obtain rfl := h0
                  obtain rfl := h1
                  obtain rfl := h2
                  obtain rfl := h3
                  obtain rfl := h4
                  obtain rfl := h5
                  obtain rfl := h6
                  obtain rfl := h7
                  obtain rfl := h8
                  obtain rfl := h9
                  obtain rfl := h10
                  obtain rfl := h11
                  obtain rfl := h12
                  obtain rfl := h13
                  obtain rfl := h14
                  obtain rfl := h15
                  obtain ⟨g16, rfl, hg16, B16⟩ := h16
                  have hX : Ext w7 wi := by (repeat' (first | exact Ext.refl _ | (with_reducible assumption) | (with_reducible refine Ext.alloc ?_ _) | (with_reducible refine Ext.setCell ?_ (by first | exact Nat.le_refl _ | (dsimp only; omega) | (simp; done) | (simp; omega)) _) | (with_reducible refine Ext.drew ?_) | (with_reducible refine Ext.drewN ?_ _) | (refine Ext.trans ?_ (by with_reducible assumption))))
                  have XF : Ext w3 wi := X7.out.trans hX
                  have BF := B7.out.ext hX
                  have OF := own_ext O7.out hX
                  have OVF := own_ext OV7.out hX
                  clear hX hx hg16
                  simp only [Act.put, List.setIfInBounds_toArray, List.set_cons_zero, List.set_cons_succ]
                  refine wpAny_ready (rs := [17]) (by kernel_rfl) (by simp) ?_
                  refine AllReady.cons rfl (fun K hK => ?_) AllReady.nil
                  refine step_append_sl _ elVis rfl (.tmp 81) (.tmp 96) rfl (g23 + 1) (.slice q k d) k _ rfl OF (some ⟨g16, 0, none⟩) 1 1 (visitCells (a0, a1, a2, a3)) rfl (Sl.blkS B16) (vis_one _) (by omega) (by have := BF.lt; omega) (fun p2 cap2 w8 hown8 hgrow8 => hK _ _ ?_)
                  clear hK K
                  obtain ⟨X8, B8⟩ := app_mid0 XF BF (by decide) OF (by omega) hgrow8
                  have OV8 := app_own0 OF hgrow8 OVF (by decide)
                  clear hgrow8 XF BF OF OVF B16
                  have x9 : w8.cell? ⟨g23, 9, none⟩ = some (.slice q k d) := B8.cell 9
                  have xf9 : w8.frozen? ⟨g23, 9, none⟩ = false := B8.frozen 9
                  have hz8 : g23 < w8.heap.size := B8.lt
                  try simp only [Act.put, List.setIfInBounds_toArray, List.set_cons_zero, List.set_cons_succ]
                  refine wpAny_ready (rs := [18]) (by kernel_rfl) (by simp) ?_
                  refine AllReady.cons rfl (fun K hK => ?_) AllReady.nil
                  go_simp
                  refine hK _ _ ?_
                  clear hK K
                  refine wpAny_ready (rs := [19]) (by kernel_rfl) (by simp) ?_
                  refine AllReady.cons rfl (fun K hK => ?_) AllReady.nil
                  go_simp
                  refine hK _ _ ?_
                  clear hK K
                  refine wpAny_done (by kernel_rfl) ?_ _
                  have HFN : Hid (∀ q ∈ ((cutL 59 l).drop 4).take (k + 1), (cutL 44 q).length = 4) := by
                    have e : ((cutL 59 l).drop 4)[k]? = some x := by rw [List.getElem?_drop]; exact HXq.out
                    rw [Lib.hid (take_snocL e)]
                    intro y hy
                    rcases List.mem_append.1 hy with h | h
                    · exact HF.out y h
                    · obtain rfl : y = x := by simpa using h
                      exact HMV.out
                  have HVS : Hid (visitsTo (cutL 59 l) (k + 1) = visitsTo (cutL 59 l) k ++ [(a0, a1, a2, a3)]) := by
                    show _ = _
                    rw [visitsTo_snoc HXq.out, HQX.out]; rfl
                  have B9 := Lib.hid (show Blk (w8.setCell ⟨g23, 9, none⟩ (.slice p2 (k + 1) cap2)) g23 THouse #[.int .i64 W, .int .i64 D, .slice p n cap, .int .i64 f, .int .i64 s, .int .i64 pr, .int .i64 cp, .int .i64 ck, .int .i64 bk, .slice p2 (k + 1) cap2] by have := B8.set 9 (.slice p2 (k + 1) cap2); simpa using this)
                  have O9 := Lib.hid (show (w8.setCell ⟨g23, 9, none⟩ (.slice p2 (k + 1) cap2)).ownsRow (g23 + 1) TVis 4 (.slice p2 (k + 1) cap2) (k + 1) ((visitsTo (cutL 59 l) (k + 1)).flatMap visitCells) by
                    rw [HVS.out, List.flatMap_append]
                    have := set_own (i := 9) (u := .slice p2 (k + 1) cap2) B8 hown8 (by decide)
                    simpa using this)
                  have X9 : Ext w3 (w8.setCell ⟨g23, 9, none⟩ (.slice p2 (k + 1) cap2)) := X8.setCell (by omega) _
                  clear hown8 OV8 B8 X8 t0 t1 t2 t3 v9 vf9 x9 xf9
                  go_wp2
                  go_roundw
                  case rel =>
                    first
                      | exact ⟨k + 1, p2, cap2, by omega, by go_num, X9, B9.out, O9.out, HFN.out⟩
                      | ((repeat apply Exists.intro); refine ⟨⟨k + 1, p2, cap2, by omega, by go_num, X9, B9.out, O9.out, HFN.out⟩, rfl⟩)
                  case measure => simp [intOf]; omega
              · have hno : Hid (readHouse l = none) := house_noS (fineS_part HXq.out (by rw [HMV.out]; exact hm4))
                have hq0 : ((nv : Int) == 4) = false := by rw [beq_eq_false_iff_ne]; omega
                have X7' := Lib.hid (X3.out.trans X7.out)
                clear hm4
                have z0 : w7.cell? ⟨w.heap.size, 0, none⟩ = some (.int .i64 0) := (HZ1.out.ext X7'.out).cell 0
                have z1 : w7.cell? ⟨w.heap.size, 1, none⟩ = some (.int .i64 0) := (HZ1.out.ext X7'.out).cell 1
                have z2 : w7.cell? ⟨w.heap.size, 2, none⟩ = some (.slice none 0 0) := (HZ1.out.ext X7'.out).cell 2
                have z3 : w7.cell? ⟨w.heap.size, 3, none⟩ = some (.int .i64 0) := (HZ1.out.ext X7'.out).cell 3
                have z4 : w7.cell? ⟨w.heap.size, 4, none⟩ = some (.int .i64 0) := (HZ1.out.ext X7'.out).cell 4
                have z5 : w7.cell? ⟨w.heap.size, 5, none⟩ = some (.int .i64 0) := (HZ1.out.ext X7'.out).cell 5
                have z6 : w7.cell? ⟨w.heap.size, 6, none⟩ = some (.int .i64 0) := (HZ1.out.ext X7'.out).cell 6
                have z7 : w7.cell? ⟨w.heap.size, 7, none⟩ = some (.int .i64 0) := (HZ1.out.ext X7'.out).cell 7
                have z8 : w7.cell? ⟨w.heap.size, 8, none⟩ = some (.int .i64 0) := (HZ1.out.ext X7'.out).cell 8
                have z9 : w7.cell? ⟨w.heap.size, 9, none⟩ = some (.slice none 0 0) := (HZ1.out.ext X7'.out).cell 9
                have zf0 : w7.frozen? ⟨w.heap.size, 0, none⟩ = false := (HZ1.out.ext X7'.out).frozen 0
                have zf1 : w7.frozen? ⟨w.heap.size, 1, none⟩ = false := (HZ1.out.ext X7'.out).frozen 1
                have zf2 : w7.frozen? ⟨w.heap.size, 2, none⟩ = false := (HZ1.out.ext X7'.out).frozen 2
                have zf3 : w7.frozen? ⟨w.heap.size, 3, none⟩ = false := (HZ1.out.ext X7'.out).frozen 3
                have zf4 : w7.frozen? ⟨w.heap.size, 4, none⟩ = false := (HZ1.out.ext X7'.out).frozen 4
                have zf5 : w7.frozen? ⟨w.heap.size, 5, none⟩ = false := (HZ1.out.ext X7'.out).frozen 5
                have zf6 : w7.frozen? ⟨w.heap.size, 6, none⟩ = false := (HZ1.out.ext X7'.out).frozen 6
                have zf7 : w7.frozen? ⟨w.heap.size, 7, none⟩ = false := (HZ1.out.ext X7'.out).frozen 7
                have zf8 : w7.frozen? ⟨w.heap.size, 8, none⟩ = false := (HZ1.out.ext X7'.out).frozen 8
                have zf9 : w7.frozen? ⟨w.heap.size, 9, none⟩ = false := (HZ1.out.ext X7'.out).frozen 9
                have hzz : w.heap.size < w7.heap.size := (HZ1.out.ext X7'.out).lt
                go_wp2
                generalize hw9 : World.setCell _ _ _ = w9
                have hR9 : ExtR w.heap.size w7 w9 := by rw [← hw9]; exact ((((((((((ExtR.refl _ w7).setCell (p := ⟨w.heap.size, 0, none⟩) (.inl rfl) (.int .i64 0)).setCell (p := ⟨w.heap.size, 1, none⟩) (.inl rfl) (.int .i64 0)).setCell (p := ⟨w.heap.size, 2, none⟩) (.inl rfl) (.slice none 0 0)).setCell (p := ⟨w.heap.size, 3, none⟩) (.inl rfl) (.int .i64 0)).setCell (p := ⟨w.heap.size, 4, none⟩) (.inl rfl) (.int .i64 0)).setCell (p := ⟨w.heap.size, 5, none⟩) (.inl rfl) (.int .i64 0)).setCell (p := ⟨w.heap.size, 6, none⟩) (.inl rfl) (.int .i64 0)).setCell (p := ⟨w.heap.size, 7, none⟩) (.inl rfl) (.int .i64 0)).setCell (p := ⟨w.heap.size, 8, none⟩) (.inl rfl) (.int .i64 0)).setCell (p := ⟨w.heap.size, 9, none⟩) (.inl rfl) (.slice none 0 0)
                have Y9 := (((((((((((HZ1.out.ext X7'.out)).set 0 (.int .i64 0)).set 1 (.int .i64 0)).set 2 (.slice none 0 0)).set 3 (.int .i64 0)).set 4 (.int .i64 0)).set 5 (.int .i64 0)).set 6 (.int .i64 0)).set 7 (.int .i64 0)).set 8 (.int .i64 0)).set 9 (.slice none 0 0)
                simp only [List.setIfInBounds_toArray, List.set_cons_zero, List.set_cons_succ] at Y9
                rw [hw9] at Y9
                have X9 : Ext w w9 := ExtR.new (HX1.out.trans X7'.out) hR9 (Nat.le_refl _)
                clear hw9 hR9 z0 z1 z2 z3 z4 z5 z6 z7 z8 z9 zf0 zf1 zf2 zf3 zf4 zf5 zf6 zf7 zf8 zf9
                have y0 : w9.cell? ⟨w.heap.size, 0, none⟩ = some (.int .i64 0) := Y9.cell 0
                have y1 : w9.cell? ⟨w.heap.size, 1, none⟩ = some (.int .i64 0) := Y9.cell 1
                have y2 : w9.cell? ⟨w.heap.size, 2, none⟩ = some (.slice none 0 0) := Y9.cell 2
                have y3 : w9.cell? ⟨w.heap.size, 3, none⟩ = some (.int .i64 0) := Y9.cell 3
                have y4 : w9.cell? ⟨w.heap.size, 4, none⟩ = some (.int .i64 0) := Y9.cell 4
                have y5 : w9.cell? ⟨w.heap.size, 5, none⟩ = some (.int .i64 0) := Y9.cell 5
                have y6 : w9.cell? ⟨w.heap.size, 6, none⟩ = some (.int .i64 0) := Y9.cell 6
                have y7 : w9.cell? ⟨w.heap.size, 7, none⟩ = some (.int .i64 0) := Y9.cell 7
                have y8 : w9.cell? ⟨w.heap.size, 8, none⟩ = some (.int .i64 0) := Y9.cell 8
                have y9 : w9.cell? ⟨w.heap.size, 9, none⟩ = some (.slice none 0 0) := Y9.cell 9
                exact bodyPost_ret (v := .tuple #[.agg #[.int .i64 0, .int .i64 0, .slice none 0 0, .int .i64 0, .int .i64 0, .int .i64 0, .int .i64 0, .int .i64 0, .int .i64 0, .slice none 0 0], .bool false]) (by simp [results, Tryz.results38, go_sem, *]) rfl (ret_hb_no hno.out X9)
            · obtain rfl : k = N := by omega
              have HT : Hid (((cutL 59 l).drop 4).take k = (cutL 59 l).drop 4) := List.take_of_length_le (by rw [List.length_drop, HRN.out]; omega)
              have hfine : houseFineS (cutL 59 l) = true := by
                have h2 := HF.out
                rw [HT.out] at h2
                unfold houseFineS
                rw [HRN.out, PA0.out, PA1.out, HM4.out, H0s.out]
                have h4 : 4 ≤ k + 4 := by omega
                have h5 : ((cutL 59 l).drop 4).all (fun p => decide ((cutL 44 p).length = 4)) = true := by
                  rw [List.all_eq_true]; intro z hz; exact decide_eq_true (h2 z hz)
                simp [h4, h5]
              have HHP : Hid (houseParse (cutL 59 l) = ⟨W, D, xs, f, s, pr, cp, ck, bk, visitsTo (cutL 59 l) k⟩) := by
                show _ = _
                rw [parse_four (W := W) (D := D) (xs := xs) HRN.out (by rw [PA0.out]; exact H0.out) (t := [f, s, pr, cp]) (by rw [PA1.out]; exact HQ1.out), PA2.out, PA3.out, HCK.out, HBK.out]
                rfl
              have HRV := Lib.hid (readHouse_valS (by rw [HRN.out]; omega) hfine)
              rw [HHP.out] at HRV
              have HVL : Hid (k = (visitsTo (cutL 59 l) k).length) := (visitsTo_len HRN.out (Nat.le_refl _)).symm
              clear hfine HF HT
              generalize hvs : visitsTo (cutL 59 l) k = vs at *
              clear hvs
              have XRR := Lib.hid (X3.out.trans XR.out)
              have OHR := Lib.hid (own_ext OH3.out XR.out)
              have HI : Hid (IsHouse wr ⟨W, D, xs, f, s, pr, cp, ck, bk, vs⟩ p n cap q k d) := ⟨Sl.own OHR.out, Sl.own OR.out⟩
              have HT : Hid (∀ (w' : World), Ext wr w' → Calls Tryz.prog 47 #[.agg #[.int .i64 W, .int .i64 D, .slice p n cap, .int .i64 f, .int .i64 s, .int .i64 pr, .int .i64 cp, .int .i64 ck, .int .i64 bk, .slice q k d]] w' fun e w'' => e = .returned (str (houseText ⟨W, D, xs, f, s, pr, cp, ck, bk, vs⟩)) ∧ Ext w' w'') := fun w' hx => specHouseText ⟨W, D, xs, f, s, pr, cp, ck, bk, vs⟩ p n cap q k d w' (HI.out.ext hx)
              generalize hht : houseText ⟨W, D, xs, f, s, pr, cp, ck, bk, vs⟩ = t at *
              clear hht
              have b0 : wr.cell? ⟨g23, 0, none⟩ = some (.int .i64 W) := BR.out.cell 0
              have b1 : wr.cell? ⟨g23, 1, none⟩ = some (.int .i64 D) := BR.out.cell 1
              have b2 : wr.cell? ⟨g23, 2, none⟩ = some (.slice p n cap) := BR.out.cell 2
              have b3 : wr.cell? ⟨g23, 3, none⟩ = some (.int .i64 f) := BR.out.cell 3
              have b4 : wr.cell? ⟨g23, 4, none⟩ = some (.int .i64 s) := BR.out.cell 4
              have b5 : wr.cell? ⟨g23, 5, none⟩ = some (.int .i64 pr) := BR.out.cell 5
              have b6 : wr.cell? ⟨g23, 6, none⟩ = some (.int .i64 cp) := BR.out.cell 6
              have b7 : wr.cell? ⟨g23, 7, none⟩ = some (.int .i64 ck) := BR.out.cell 7
              have b8 : wr.cell? ⟨g23, 8, none⟩ = some (.int .i64 bk) := BR.out.cell 8
              have b9 : wr.cell? ⟨g23, 9, none⟩ = some (.slice q k d) := BR.out.cell 9
              go_wp2_with fail
              refine (HT.out _ (by (repeat' (first | exact Ext.refl _ | (with_reducible assumption) | (with_reducible refine Ext.alloc ?_ _) | (with_reducible refine Ext.setCell ?_ (by first | exact Nat.le_refl _ | (dsimp only; omega) | (simp; done) | (simp; omega)) _) | (with_reducible refine Ext.drew ?_) | (with_reducible refine Ext.drewN ?_ _) | (refine Ext.trans ?_ (by with_reducible assumption)))))).mono ?_
              rintro e w8 ⟨rfl, h8⟩
              clear b0 b1 b2 b3 b4 b5 b6 b7 b8 b9
              have hy8 : Ext wr w8 := by (repeat' (first | exact Ext.refl _ | (with_reducible assumption) | (with_reducible refine Ext.alloc ?_ _) | (with_reducible refine Ext.setCell ?_ (by first | exact Nat.le_refl _ | (dsimp only; omega) | (simp; done) | (simp; omega)) _) | (with_reducible refine Ext.drew ?_) | (with_reducible refine Ext.drewN ?_ _) | (refine Ext.trans ?_ (by with_reducible assumption))))
              have B8 := Lib.hid (BR.out.ext hy8)
              have hz8 : g23 < w8.heap.size := B8.out.lt
              have HY8 := Lib.hid hy8
              have X8' := Lib.hid (XRR.out.trans HY8.out)
              clear h8 hy8
              by_cases ht : t = l
              · have hd2 : (t == l) = true := by simp [ht]
                have hyes : Hid (readHouse l = some ⟨W, D, xs, f, s, pr, cp, ck, bk, vs⟩) := by show _ = _; rw [HRV.out]; simp [ht]
                clear ht
                have b0 : w8.cell? ⟨g23, 0, none⟩ = some (.int .i64 W) := B8.out.cell 0
                have b1 : w8.cell? ⟨g23, 1, none⟩ = some (.int .i64 D) := B8.out.cell 1
                have b2 : w8.cell? ⟨g23, 2, none⟩ = some (.slice p n cap) := B8.out.cell 2
                have b3 : w8.cell? ⟨g23, 3, none⟩ = some (.int .i64 f) := B8.out.cell 3
                have b4 : w8.cell? ⟨g23, 4, none⟩ = some (.int .i64 s) := B8.out.cell 4
                have b5 : w8.cell? ⟨g23, 5, none⟩ = some (.int .i64 pr) := B8.out.cell 5
                have b6 : w8.cell? ⟨g23, 6, none⟩ = some (.int .i64 cp) := B8.out.cell 6
                have b7 : w8.cell? ⟨g23, 7, none⟩ = some (.int .i64 ck) := B8.out.cell 7
                have b8 : w8.cell? ⟨g23, 8, none⟩ = some (.int .i64 bk) := B8.out.cell 8
                have b9 : w8.cell? ⟨g23, 9, none⟩ = some (.slice q k d) := B8.out.cell 9
                have z0 : w8.cell? ⟨w.heap.size, 0, none⟩ = some (.int .i64 0) := (HZ1.out.ext X8'.out).cell 0
                have z1 : w8.cell? ⟨w.heap.size, 1, none⟩ = some (.int .i64 0) := (HZ1.out.ext X8'.out).cell 1
                have z2 : w8.cell? ⟨w.heap.size, 2, none⟩ = some (.slice none 0 0) := (HZ1.out.ext X8'.out).cell 2
                have z3 : w8.cell? ⟨w.heap.size, 3, none⟩ = some (.int .i64 0) := (HZ1.out.ext X8'.out).cell 3
                have z4 : w8.cell? ⟨w.heap.size, 4, none⟩ = some (.int .i64 0) := (HZ1.out.ext X8'.out).cell 4
                have z5 : w8.cell? ⟨w.heap.size, 5, none⟩ = some (.int .i64 0) := (HZ1.out.ext X8'.out).cell 5
                have z6 : w8.cell? ⟨w.heap.size, 6, none⟩ = some (.int .i64 0) := (HZ1.out.ext X8'.out).cell 6
                have z7 : w8.cell? ⟨w.heap.size, 7, none⟩ = some (.int .i64 0) := (HZ1.out.ext X8'.out).cell 7
                have z8 : w8.cell? ⟨w.heap.size, 8, none⟩ = some (.int .i64 0) := (HZ1.out.ext X8'.out).cell 8
                have z9 : w8.cell? ⟨w.heap.size, 9, none⟩ = some (.slice none 0 0) := (HZ1.out.ext X8'.out).cell 9
                have zf0 : w8.frozen? ⟨w.heap.size, 0, none⟩ = false := (HZ1.out.ext X8'.out).frozen 0
                have zf1 : w8.frozen? ⟨w.heap.size, 1, none⟩ = false := (HZ1.out.ext X8'.out).frozen 1
                have zf2 : w8.frozen? ⟨w.heap.size, 2, none⟩ = false := (HZ1.out.ext X8'.out).frozen 2
                have zf3 : w8.frozen? ⟨w.heap.size, 3, none⟩ = false := (HZ1.out.ext X8'.out).frozen 3
                have zf4 : w8.frozen? ⟨w.heap.size, 4, none⟩ = false := (HZ1.out.ext X8'.out).frozen 4
                have zf5 : w8.frozen? ⟨w.heap.size, 5, none⟩ = false := (HZ1.out.ext X8'.out).frozen 5
                have zf6 : w8.frozen? ⟨w.heap.size, 6, none⟩ = false := (HZ1.out.ext X8'.out).frozen 6
                have zf7 : w8.frozen? ⟨w.heap.size, 7, none⟩ = false := (HZ1.out.ext X8'.out).frozen 7
                have zf8 : w8.frozen? ⟨w.heap.size, 8, none⟩ = false := (HZ1.out.ext X8'.out).frozen 8
                have zf9 : w8.frozen? ⟨w.heap.size, 9, none⟩ = false := (HZ1.out.ext X8'.out).frozen 9
                have hzz : w.heap.size < w8.heap.size := (HZ1.out.ext X8'.out).lt
                have hne : ¬ w.heap.size = g23 := by have := X3.out.sz; omega
                go_wp2
                generalize hw9 : World.setCell _ _ _ = w9
                have hR9 : ExtR w.heap.size w8 w9 := by rw [← hw9]; exact ((((((((((ExtR.refl _ w8).setCell (p := ⟨w.heap.size, 0, none⟩) (.inl rfl) (.int .i64 W)).setCell (p := ⟨w.heap.size, 1, none⟩) (.inl rfl) (.int .i64 D)).setCell (p := ⟨w.heap.size, 2, none⟩) (.inl rfl) (.slice p n cap)).setCell (p := ⟨w.heap.size, 3, none⟩) (.inl rfl) (.int .i64 f)).setCell (p := ⟨w.heap.size, 4, none⟩) (.inl rfl) (.int .i64 s)).setCell (p := ⟨w.heap.size, 5, none⟩) (.inl rfl) (.int .i64 pr)).setCell (p := ⟨w.heap.size, 6, none⟩) (.inl rfl) (.int .i64 cp)).setCell (p := ⟨w.heap.size, 7, none⟩) (.inl rfl) (.int .i64 ck)).setCell (p := ⟨w.heap.size, 8, none⟩) (.inl rfl) (.int .i64 bk)).setCell (p := ⟨w.heap.size, 9, none⟩) (.inl rfl) (.slice q k d)
                have Y9 := (((((((((((HZ1.out.ext X8'.out)).set 0 (.int .i64 W)).set 1 (.int .i64 D)).set 2 (.slice p n cap)).set 3 (.int .i64 f)).set 4 (.int .i64 s)).set 5 (.int .i64 pr)).set 6 (.int .i64 cp)).set 7 (.int .i64 ck)).set 8 (.int .i64 bk)).set 9 (.slice q k d)
                simp only [List.setIfInBounds_toArray, List.set_cons_zero, List.set_cons_succ] at Y9
                rw [hw9] at Y9
                have X9 : Ext w w9 := ExtR.new (HX1.out.trans X8'.out) hR9 (Nat.le_refl _)
                have OC9 : w9.ownsRow w.heap.size TI 1 (.slice p n cap) n (ivs xs) := own_base ((own_ext OHR.out HY8.out).kept hR9 (.inr (own_ty_blk (own_ext OHR.out HY8.out) (HZ1.out.ext X8'.out) (by decide)))) (by omega)
                have OS9 : w9.ownsRow w.heap.size TVis 4 (.slice q k d) k (vs.flatMap visitCells) := own_base ((own_ext OR.out HY8.out).kept hR9 (.inr (own_ty_blk (own_ext OR.out HY8.out) (HZ1.out.ext X8'.out) (by decide)))) (by have := X3.out.sz; omega)
                clear hw9 hR9 z0 z1 z2 z3 z4 z5 z6 z7 z8 z9 zf0 zf1 zf2 zf3 zf4 zf5 zf6 zf7 zf8 zf9 b0 b1 b2 b3 b4 b5 b6 b7 b8 b9
                have y0 : w9.cell? ⟨w.heap.size, 0, none⟩ = some (.int .i64 W) := Y9.cell 0
                have y1 : w9.cell? ⟨w.heap.size, 1, none⟩ = some (.int .i64 D) := Y9.cell 1
                have y2 : w9.cell? ⟨w.heap.size, 2, none⟩ = some (.slice p n cap) := Y9.cell 2
                have y3 : w9.cell? ⟨w.heap.size, 3, none⟩ = some (.int .i64 f) := Y9.cell 3
                have y4 : w9.cell? ⟨w.heap.size, 4, none⟩ = some (.int .i64 s) := Y9.cell 4
                have y5 : w9.cell? ⟨w.heap.size, 5, none⟩ = some (.int .i64 pr) := Y9.cell 5
                have y6 : w9.cell? ⟨w.heap.size, 6, none⟩ = some (.int .i64 cp) := Y9.cell 6
                have y7 : w9.cell? ⟨w.heap.size, 7, none⟩ = some (.int .i64 ck) := Y9.cell 7
                have y8 : w9.cell? ⟨w.heap.size, 8, none⟩ = some (.int .i64 bk) := Y9.cell 8
                have y9 : w9.cell? ⟨w.heap.size, 9, none⟩ = some (.slice q k d) := Y9.cell 9
                exact bodyPost_ret (v := .tuple #[.agg #[.int .i64 W, .int .i64 D, .slice p n cap, .int .i64 f, .int .i64 s, .int .i64 pr, .int .i64 cp, .int .i64 ck, .int .i64 bk, .slice q k d], .bool true]) (by simp [results, Tryz.results38, go_sem, *]) rfl (ret_hb_yes hyes.out LN0.out HVL.out OC9 OS9 X9)
              · have hd2 : (t == l) = false := by simp [ht]
                have hno : Hid (readHouse l = none) := by show _ = _; rw [HRV.out]; simp [ht]
                clear ht
                have z0 : w8.cell? ⟨w.heap.size, 0, none⟩ = some (.int .i64 0) := (HZ1.out.ext X8'.out).cell 0
                have z1 : w8.cell? ⟨w.heap.size, 1, none⟩ = some (.int .i64 0) := (HZ1.out.ext X8'.out).cell 1
                have z2 : w8.cell? ⟨w.heap.size, 2, none⟩ = some (.slice none 0 0) := (HZ1.out.ext X8'.out).cell 2
                have z3 : w8.cell? ⟨w.heap.size, 3, none⟩ = some (.int .i64 0) := (HZ1.out.ext X8'.out).cell 3
                have z4 : w8.cell? ⟨w.heap.size, 4, none⟩ = some (.int .i64 0) := (HZ1.out.ext X8'.out).cell 4
                have z5 : w8.cell? ⟨w.heap.size, 5, none⟩ = some (.int .i64 0) := (HZ1.out.ext X8'.out).cell 5
                have z6 : w8.cell? ⟨w.heap.size, 6, none⟩ = some (.int .i64 0) := (HZ1.out.ext X8'.out).cell 6
                have z7 : w8.cell? ⟨w.heap.size, 7, none⟩ = some (.int .i64 0) := (HZ1.out.ext X8'.out).cell 7
                have z8 : w8.cell? ⟨w.heap.size, 8, none⟩ = some (.int .i64 0) := (HZ1.out.ext X8'.out).cell 8
                have z9 : w8.cell? ⟨w.heap.size, 9, none⟩ = some (.slice none 0 0) := (HZ1.out.ext X8'.out).cell 9
                have zf0 : w8.frozen? ⟨w.heap.size, 0, none⟩ = false := (HZ1.out.ext X8'.out).frozen 0
                have zf1 : w8.frozen? ⟨w.heap.size, 1, none⟩ = false := (HZ1.out.ext X8'.out).frozen 1
                have zf2 : w8.frozen? ⟨w.heap.size, 2, none⟩ = false := (HZ1.out.ext X8'.out).frozen 2
                have zf3 : w8.frozen? ⟨w.heap.size, 3, none⟩ = false := (HZ1.out.ext X8'.out).frozen 3
                have zf4 : w8.frozen? ⟨w.heap.size, 4, none⟩ = false := (HZ1.out.ext X8'.out).frozen 4
                have zf5 : w8.frozen? ⟨w.heap.size, 5, none⟩ = false := (HZ1.out.ext X8'.out).frozen 5
                have zf6 : w8.frozen? ⟨w.heap.size, 6, none⟩ = false := (HZ1.out.ext X8'.out).frozen 6
                have zf7 : w8.frozen? ⟨w.heap.size, 7, none⟩ = false := (HZ1.out.ext X8'.out).frozen 7
                have zf8 : w8.frozen? ⟨w.heap.size, 8, none⟩ = false := (HZ1.out.ext X8'.out).frozen 8
                have zf9 : w8.frozen? ⟨w.heap.size, 9, none⟩ = false := (HZ1.out.ext X8'.out).frozen 9
                have hzz : w.heap.size < w8.heap.size := (HZ1.out.ext X8'.out).lt
                go_wp2
                generalize hw9 : World.setCell _ _ _ = w9
                have hR9 : ExtR w.heap.size w8 w9 := by rw [← hw9]; exact ((((((((((ExtR.refl _ w8).setCell (p := ⟨w.heap.size, 0, none⟩) (.inl rfl) (.int .i64 0)).setCell (p := ⟨w.heap.size, 1, none⟩) (.inl rfl) (.int .i64 0)).setCell (p := ⟨w.heap.size, 2, none⟩) (.inl rfl) (.slice none 0 0)).setCell (p := ⟨w.heap.size, 3, none⟩) (.inl rfl) (.int .i64 0)).setCell (p := ⟨w.heap.size, 4, none⟩) (.inl rfl) (.int .i64 0)).setCell (p := ⟨w.heap.size, 5, none⟩) (.inl rfl) (.int .i64 0)).setCell (p := ⟨w.heap.size, 6, none⟩) (.inl rfl) (.int .i64 0)).setCell (p := ⟨w.heap.size, 7, none⟩) (.inl rfl) (.int .i64 0)).setCell (p := ⟨w.heap.size, 8, none⟩) (.inl rfl) (.int .i64 0)).setCell (p := ⟨w.heap.size, 9, none⟩) (.inl rfl) (.slice none 0 0)
                have Y9 := (((((((((((HZ1.out.ext X8'.out)).set 0 (.int .i64 0)).set 1 (.int .i64 0)).set 2 (.slice none 0 0)).set 3 (.int .i64 0)).set 4 (.int .i64 0)).set 5 (.int .i64 0)).set 6 (.int .i64 0)).set 7 (.int .i64 0)).set 8 (.int .i64 0)).set 9 (.slice none 0 0)
                simp only [List.setIfInBounds_toArray, List.set_cons_zero, List.set_cons_succ] at Y9
                rw [hw9] at Y9
                have X9 : Ext w w9 := ExtR.new (HX1.out.trans X8'.out) hR9 (Nat.le_refl _)
                clear hw9 hR9 z0 z1 z2 z3 z4 z5 z6 z7 z8 z9 zf0 zf1 zf2 zf3 zf4 zf5 zf6 zf7 zf8 zf9
                have y0 : w9.cell? ⟨w.heap.size, 0, none⟩ = some (.int .i64 0) := Y9.cell 0
                have y1 : w9.cell? ⟨w.heap.size, 1, none⟩ = some (.int .i64 0) := Y9.cell 1
                have y2 : w9.cell? ⟨w.heap.size, 2, none⟩ = some (.slice none 0 0) := Y9.cell 2
                have y3 : w9.cell? ⟨w.heap.size, 3, none⟩ = some (.int .i64 0) := Y9.cell 3
                have y4 : w9.cell? ⟨w.heap.size, 4, none⟩ = some (.int .i64 0) := Y9.cell 4
                have y5 : w9.cell? ⟨w.heap.size, 5, none⟩ = some (.int .i64 0) := Y9.cell 5
                have y6 : w9.cell? ⟨w.heap.size, 6, none⟩ = some (.int .i64 0) := Y9.cell 6
                have y7 : w9.cell? ⟨w.heap.size, 7, none⟩ = some (.int .i64 0) := Y9.cell 7
                have y8 : w9.cell? ⟨w.heap.size, 8, none⟩ = some (.int .i64 0) := Y9.cell 8
                have y9 : w9.cell? ⟨w.heap.size, 9, none⟩ = some (.slice none 0 0) := Y9.cell 9
                exact bodyPost_ret (v := .tuple #[.agg #[.int .i64 0, .int .i64 0, .slice none 0 0, .int .i64 0, .int .i64 0, .int .i64 0, .int .i64 0, .int .i64 0, .int .i64 0, .slice none 0 0], .bool false]) (by simp [results, Tryz.results38, go_sem, *]) rfl (ret_hb_no hno.out X9)
      · have hno : Hid (readHouse l = none) := house_noS (fineS_bad (.inr (by rw [PA1.out, HM4.out]; exact hm4)))
        have hq0 : ((n1 : Int) == 4) = false := by rw [beq_eq_false_iff_ne]; omega
        clear hm4
        have z0 : w3.cell? ⟨w.heap.size, 0, none⟩ = some (.int .i64 0) := (HZ1.out.ext X3.out).cell 0
        have z1 : w3.cell? ⟨w.heap.size, 1, none⟩ = some (.int .i64 0) := (HZ1.out.ext X3.out).cell 1
        have z2 : w3.cell? ⟨w.heap.size, 2, none⟩ = some (.slice none 0 0) := (HZ1.out.ext X3.out).cell 2
        have z3 : w3.cell? ⟨w.heap.size, 3, none⟩ = some (.int .i64 0) := (HZ1.out.ext X3.out).cell 3
        have z4 : w3.cell? ⟨w.heap.size, 4, none⟩ = some (.int .i64 0) := (HZ1.out.ext X3.out).cell 4
        have z5 : w3.cell? ⟨w.heap.size, 5, none⟩ = some (.int .i64 0) := (HZ1.out.ext X3.out).cell 5
        have z6 : w3.cell? ⟨w.heap.size, 6, none⟩ = some (.int .i64 0) := (HZ1.out.ext X3.out).cell 6
        have z7 : w3.cell? ⟨w.heap.size, 7, none⟩ = some (.int .i64 0) := (HZ1.out.ext X3.out).cell 7
        have z8 : w3.cell? ⟨w.heap.size, 8, none⟩ = some (.int .i64 0) := (HZ1.out.ext X3.out).cell 8
        have z9 : w3.cell? ⟨w.heap.size, 9, none⟩ = some (.slice none 0 0) := (HZ1.out.ext X3.out).cell 9
        have zf0 : w3.frozen? ⟨w.heap.size, 0, none⟩ = false := (HZ1.out.ext X3.out).frozen 0
        have zf1 : w3.frozen? ⟨w.heap.size, 1, none⟩ = false := (HZ1.out.ext X3.out).frozen 1
        have zf2 : w3.frozen? ⟨w.heap.size, 2, none⟩ = false := (HZ1.out.ext X3.out).frozen 2
        have zf3 : w3.frozen? ⟨w.heap.size, 3, none⟩ = false := (HZ1.out.ext X3.out).frozen 3
        have zf4 : w3.frozen? ⟨w.heap.size, 4, none⟩ = false := (HZ1.out.ext X3.out).frozen 4
        have zf5 : w3.frozen? ⟨w.heap.size, 5, none⟩ = false := (HZ1.out.ext X3.out).frozen 5
        have zf6 : w3.frozen? ⟨w.heap.size, 6, none⟩ = false := (HZ1.out.ext X3.out).frozen 6
        have zf7 : w3.frozen? ⟨w.heap.size, 7, none⟩ = false := (HZ1.out.ext X3.out).frozen 7
        have zf8 : w3.frozen? ⟨w.heap.size, 8, none⟩ = false := (HZ1.out.ext X3.out).frozen 8
        have zf9 : w3.frozen? ⟨w.heap.size, 9, none⟩ = false := (HZ1.out.ext X3.out).frozen 9
        have hzz : w.heap.size < w3.heap.size := (HZ1.out.ext X3.out).lt
        go_wp2
        generalize hw9 : World.setCell _ _ _ = w9
        have hR9 : ExtR w.heap.size w3 w9 := by rw [← hw9]; exact ((((((((((ExtR.refl _ w3).setCell (p := ⟨w.heap.size, 0, none⟩) (.inl rfl) (.int .i64 0)).setCell (p := ⟨w.heap.size, 1, none⟩) (.inl rfl) (.int .i64 0)).setCell (p := ⟨w.heap.size, 2, none⟩) (.inl rfl) (.slice none 0 0)).setCell (p := ⟨w.heap.size, 3, none⟩) (.inl rfl) (.int .i64 0)).setCell (p := ⟨w.heap.size, 4, none⟩) (.inl rfl) (.int .i64 0)).setCell (p := ⟨w.heap.size, 5, none⟩) (.inl rfl) (.int .i64 0)).setCell (p := ⟨w.heap.size, 6, none⟩) (.inl rfl) (.int .i64 0)).setCell (p := ⟨w.heap.size, 7, none⟩) (.inl rfl) (.int .i64 0)).setCell (p := ⟨w.heap.size, 8, none⟩) (.inl rfl) (.int .i64 0)).setCell (p := ⟨w.heap.size, 9, none⟩) (.inl rfl) (.slice none 0 0)
        have Y9 := (((((((((((HZ1.out.ext X3.out)).set 0 (.int .i64 0)).set 1 (.int .i64 0)).set 2 (.slice none 0 0)).set 3 (.int .i64 0)).set 4 (.int .i64 0)).set 5 (.int .i64 0)).set 6 (.int .i64 0)).set 7 (.int .i64 0)).set 8 (.int .i64 0)).set 9 (.slice none 0 0)
        simp only [List.setIfInBounds_toArray, List.set_cons_zero, List.set_cons_succ] at Y9
        rw [hw9] at Y9
        have X9 : Ext w w9 := ExtR.new (HX1.out.trans X3.out) hR9 (Nat.le_refl _)
        clear hw9 hR9 z0 z1 z2 z3 z4 z5 z6 z7 z8 z9 zf0 zf1 zf2 zf3 zf4 zf5 zf6 zf7 zf8 zf9
        have y0 : w9.cell? ⟨w.heap.size, 0, none⟩ = some (.int .i64 0) := Y9.cell 0
        have y1 : w9.cell? ⟨w.heap.size, 1, none⟩ = some (.int .i64 0) := Y9.cell 1
        have y2 : w9.cell? ⟨w.heap.size, 2, none⟩ = some (.slice none 0 0) := Y9.cell 2
        have y3 : w9.cell? ⟨w.heap.size, 3, none⟩ = some (.int .i64 0) := Y9.cell 3
        have y4 : w9.cell? ⟨w.heap.size, 4, none⟩ = some (.int .i64 0) := Y9.cell 4
        have y5 : w9.cell? ⟨w.heap.size, 5, none⟩ = some (.int .i64 0) := Y9.cell 5
        have y6 : w9.cell? ⟨w.heap.size, 6, none⟩ = some (.int .i64 0) := Y9.cell 6
        have y7 : w9.cell? ⟨w.heap.size, 7, none⟩ = some (.int .i64 0) := Y9.cell 7
        have y8 : w9.cell? ⟨w.heap.size, 8, none⟩ = some (.int .i64 0) := Y9.cell 8
        have y9 : w9.cell? ⟨w.heap.size, 9, none⟩ = some (.slice none 0 0) := Y9.cell 9
        exact bodyPost_ret (v := .tuple #[.agg #[.int .i64 0, .int .i64 0, .slice none 0 0, .int .i64 0, .int .i64 0, .int .i64 0, .int .i64 0, .int .i64 0, .int .i64 0, .slice none 0 0], .bool false]) (by simp [results, Tryz.results38, go_sem, *]) rfl (ret_hb_no hno.out X9)
end Go.Proofs.YteejdnmmpmcmeaaGreatDoor
