/-
  The walk of the law FnHouseNew.
-/
import Derived.Test.YtncfnlocdlhagaaDoorDrawN
import Derived.Test.YtncfnlocdlhagaaDoorSameH
import Derived.Test.YtncfnlocdlhagaaDoorHnew
import Derived.Test.YtncfnlocdlhagaaDoorQ1
import Derived.Test.YtncfnlocdlhagaaDoorAlive
/- @merged -/
namespace Go.Proofs.YtncfnlocdlhagaaDoor
open Go.RowKit
set_option linter.unusedVariables false
set_option linter.unusedSimpArgs false

set_option maxRecDepth 100000 in
set_option maxHeartbeats 1000000 in
theorem fnHouseNew_big (p : Option Addr) (n cap : Nat) (w : World) (h : (1048576 : Int) < n) :
    Calls Tryd.prog 7 #[.slice p n cap] w fun e w' => e = .returned (.bool true) ∧ Ext w w' := by
  go_enter Tryd.func7, Tryd.ntmps7
  go_wp2
  go_ret
  exact ⟨rfl, by (repeat' (first | exact Ext.refl _ | (with_reducible assumption) | (with_reducible refine Ext.alloc ?_ _) | (with_reducible refine Ext.setCell ?_ (by first | exact Nat.le_refl _ | (dsimp only; omega) | (simp; done) | (simp; omega)) _) | (with_reducible refine Ext.drew ?_) | (with_reducible refine Ext.drewN ?_ _) | (refine Ext.trans ?_ (by with_reducible assumption))))⟩

theorem cars_zero {wide deep : Int} {xs : List Int} (hx : ∀ x ∈ xs, x = 0) : (if hallOk wide deep xs then carsOf xs else []) = [] := by
  have h0 : posOfL xs = [] := by
    unfold posOfL; rw [List.filter_eq_nil_iff]; intro x h; rw [hx x h]; simp
  unfold carsOf
  rw [h0]; simp [sortL]
theorem owed_new (wide deep f s p c : Int) (xs : List Int) (hok : houseOk ⟨wide, deep, xs, f, s, p, c, 0, 0, []⟩ = true) : houseOwed ⟨wide, deep, xs, f, s, p, c, 0, 0, []⟩ = 0 := by
  unfold houseOwed
  rw [hok, if_pos rfl]; rfl
theorem houseNew_two (a b f s p c : Int) : houseNew a b f s p c = houseZero ∨ ∃ xs, houseNew a b f s p c = ⟨a, b, xs, f, s, p, c, 0, 0, []⟩ ∧ a ≠ 0 ∧ (∀ x ∈ xs, x = 0) ∧ houseOk ⟨a, b, xs, f, s, p, c, 0, 0, []⟩ = true := by
  unfold houseNew
  split
  · rename_i h
    refine .inr ⟨_, rfl, by omega, fun x hx => (List.mem_replicate.1 hx).2, ?_⟩
    rw [houseOk_new _ _ _ _ _ _ _ (fun x hx => (List.mem_replicate.1 hx).2), hallOk_new h.2, h.1]; rfl
  · exact .inl rfl

set_option maxRecDepth 100000 in
set_option maxHeartbeats 1000000 in
set_option maxHeartbeats 4000000 in
theorem fnHouseNew_o (p0 : Option Addr) (n cap : Nat) (w : World) (h : (n : Int) ≤ 1048576) (hE : Hid (Env w)) (HD : Hid (Calls Tryd.prog 25 #[.slice p0 n cap] w (DrewSizes w))) :
    Calls Tryd.prog 7 #[.slice p0 n cap] w fun e w' => e = .returned (.bool true) ∧ Ext w w' := by
  go_enter Tryd.func7, Tryd.ntmps7
  go_wp2_with fail
  refine HD.out.mono ?_
  rintro e w1 ⟨a, b, f, s, pr, cp, rfl, hx1⟩
  rcases houseNew_two a b f s pr cp with hz | ⟨xs, hz, ha, hx0, hok⟩
  · have HIm : Hid (∀ w, Calls Tryd.prog 26 #[.int .i64 a, .int .i64 b, .agg #[.int .i64 f, .int .i64 s, .int .i64 pr, .int .i64 cp]] w (RetHouse houseZero w)) := fun w => by have := implHn a b f s pr cp w; rw [hz] at this; exact this
    have HSp : Hid (∀ w, Calls Tryd.prog 28 #[.int .i64 a, .int .i64 b, .agg #[.int .i64 f, .int .i64 s, .int .i64 pr, .int .i64 cp]] w (RetHouse houseZero w)) := fun w => by have := specHn a b f s pr cp w; rw [hz] at this; exact this
    have HNo : Hid (∀ p c q d w, IsHouse w houseZero p 0 c q 0 d → Calls Tryd.prog 29 #[.agg #[.int .i64 0, .int .i64 0, .slice p 0 c, .int .i64 0, .int .i64 0, .int .i64 0, .int .i64 0, .int .i64 0, .int .i64 0, .slice q 0 d]] w fun e w' => e = .returned (.bool true) ∧ Ext w w') := fun p c q d w hi => noHouse_zero p c q d w hi
    have HSa : Hid (∀ p c q d p2 c2 q2 d2 w, IsHouse w houseZero p 0 c q 0 d → IsHouse w houseZero p2 0 c2 q2 0 d2 → Calls Tryd.prog 27 #[.agg #[.int .i64 0, .int .i64 0, .slice p 0 c, .int .i64 0, .int .i64 0, .int .i64 0, .int .i64 0, .int .i64 0, .int .i64 0, .slice q 0 d], .agg #[.int .i64 0, .int .i64 0, .slice p2 0 c2, .int .i64 0, .int .i64 0, .int .i64 0, .int .i64 0, .int .i64 0, .int .i64 0, .slice q2 0 d2]] w fun e w' => e = .returned (.bool true) ∧ Ext w w') := fun p c q d p2 c2 q2 d2 w h1 h2 => sameHouse_any houseZero p 0 c q 0 d p2 c2 q2 d2 w h1 h2
    clear hz
    have z_1 : w.heap.size ≤ w1.heap.size := hx1.sz
    have EN_1 := Lib.hid (hE.out.ext hx1)
    have X_1 : Ext w w1 := by (repeat' (first | exact Ext.refl _ | (with_reducible assumption) | (with_reducible refine Ext.alloc ?_ _) | (with_reducible refine Ext.setCell ?_ (by first | exact Nat.le_refl _ | (dsimp only; omega) | (simp; done) | (simp; omega)) _) | (with_reducible refine Ext.drew ?_) | (with_reducible refine Ext.drewN ?_ _) | (refine Ext.trans ?_ (by with_reducible assumption))))
    clear hx1
    go_wp2_with fail
    refine (HIm.out _).mono ?_
    rintro e w2 ⟨p, c, q, d, he0, o2, v2, hx2⟩
    have z_2 : w1.heap.size ≤ w2.heap.size := by have := hx2.sz; (try simp at this); omega
    have hy2 : Ext w1 w2 := by (repeat' (first | exact Ext.refl _ | (with_reducible assumption) | (with_reducible refine Ext.alloc ?_ _) | (with_reducible refine Ext.setCell ?_ (by first | exact Nat.le_refl _ | (dsimp only; omega) | (simp; done) | (simp; omega)) _) | (with_reducible refine Ext.drew ?_) | (with_reducible refine Ext.drewN ?_ _) | (refine Ext.trans ?_ (by with_reducible assumption))))
    have EN_2 := Lib.hid (EN_1.out.ext hy2)
    clear EN_1
    clear hy2
    have he2 : e = .returned (.agg #[.int .i64 0, .int .i64 0, .slice p 0 c, .int .i64 0, .int .i64 0, .int .i64 0, .int .i64 0, .int .i64 0, .int .i64 0, .slice q 0 d]) := he0
    clear he0
    subst he2
    have BT_2 := Lib.hid ((Blk.new w1 49 #[.int .i64 f, .int .i64 s, .int .i64 pr, .int .i64 cp]).ext hx2)
    replace z_2 : w1.heap.size + 1 ≤ w2.heap.size := by have := hx2.sz; simp at this; omega
    have IH_2 := Lib.hid ((⟨Sl.own o2, Sl.own v2⟩ : IsHouse w2 houseZero p 0 c q 0 d))
    have X_2 : Ext w w2 := by (repeat' (first | exact Ext.refl _ | (with_reducible assumption) | (with_reducible refine Ext.alloc ?_ _) | (with_reducible refine Ext.setCell ?_ (by first | exact Nat.le_refl _ | (dsimp only; omega) | (simp; done) | (simp; omega)) _) | (with_reducible refine Ext.drew ?_) | (with_reducible refine Ext.drewN ?_ _) | (refine Ext.trans ?_ (by with_reducible assumption))))
    clear hx2 o2 v2
    have p_2 : w1.heap.size < w2.heap.size := by omega
    have t0 : w2.cell? ⟨w1.heap.size, 0, none⟩ = some (.int .i64 f) := BT_2.out.cell 0
    have t1 : w2.cell? ⟨w1.heap.size, 1, none⟩ = some (.int .i64 s) := BT_2.out.cell 1
    have t2 : w2.cell? ⟨w1.heap.size, 2, none⟩ = some (.int .i64 pr) := BT_2.out.cell 2
    have t3 : w2.cell? ⟨w1.heap.size, 3, none⟩ = some (.int .i64 cp) := BT_2.out.cell 3
    go_wp2
    obtain ⟨w3, hw3⟩ : ∃ w3, w3 = w2.alloc (.cells #[.int .i64 0, .int .i64 0, .slice p 0 c, .int .i64 0, .int .i64 0, .int .i64 0, .int .i64 0, .int .i64 0, .int .i64 0, .slice q 0 d] 52) := ⟨_, rfl⟩
    rw [← hw3]
    have hy3 : Ext w2 w3 := by rw [hw3]; exact (Ext.refl _).alloc _
    have BHx : Blk w3 w2.heap.size 52 #[.int .i64 0, .int .i64 0, .slice p 0 c, .int .i64 0, .int .i64 0, .int .i64 0, .int .i64 0, .int .i64 0, .int .i64 0, .slice q 0 d] := by rw [hw3]; exact Blk.new _ _ _
    clear hw3 t0 t1 t2 t3
    have EN_3 := Lib.hid (EN_2.out.ext hy3)
    have BT_3 := Lib.hid (BT_2.out.ext hy3)
    have IH_3 := Lib.hid (IH_2.out.ext hy3)
    clear EN_2 BT_2 IH_2
    have z_3 : w2.heap.size < w3.heap.size := BHx.lt
    have BH_3 := Lib.hid (BHx)
    have X_3 : Ext w w3 := by (repeat' (first | exact Ext.refl _ | (with_reducible assumption) | (with_reducible refine Ext.alloc ?_ _) | (with_reducible refine Ext.setCell ?_ (by first | exact Nat.le_refl _ | (dsimp only; omega) | (simp; done) | (simp; omega)) _) | (with_reducible refine Ext.drew ?_) | (with_reducible refine Ext.drewN ?_ _) | (refine Ext.trans ?_ (by with_reducible assumption))))
    clear hy3 BHx
    have t0 : w3.cell? ⟨w1.heap.size, 0, none⟩ = some (.int .i64 f) := BT_3.out.cell 0
    have t1 : w3.cell? ⟨w1.heap.size, 1, none⟩ = some (.int .i64 s) := BT_3.out.cell 1
    have t2 : w3.cell? ⟨w1.heap.size, 2, none⟩ = some (.int .i64 pr) := BT_3.out.cell 2
    have t3 : w3.cell? ⟨w1.heap.size, 3, none⟩ = some (.int .i64 cp) := BT_3.out.cell 3
    have b0 : w3.cell? ⟨w2.heap.size, 0, none⟩ = some (.int .i64 0) := BH_3.out.cell 0
    have b1 : w3.cell? ⟨w2.heap.size, 1, none⟩ = some (.int .i64 0) := BH_3.out.cell 1
    have b2 : w3.cell? ⟨w2.heap.size, 2, none⟩ = some (.slice p 0 c) := BH_3.out.cell 2
    have b3 : w3.cell? ⟨w2.heap.size, 3, none⟩ = some (.int .i64 0) := BH_3.out.cell 3
    have b4 : w3.cell? ⟨w2.heap.size, 4, none⟩ = some (.int .i64 0) := BH_3.out.cell 4
    have b5 : w3.cell? ⟨w2.heap.size, 5, none⟩ = some (.int .i64 0) := BH_3.out.cell 5
    have b6 : w3.cell? ⟨w2.heap.size, 6, none⟩ = some (.int .i64 0) := BH_3.out.cell 6
    have b7 : w3.cell? ⟨w2.heap.size, 7, none⟩ = some (.int .i64 0) := BH_3.out.cell 7
    have b8 : w3.cell? ⟨w2.heap.size, 8, none⟩ = some (.int .i64 0) := BH_3.out.cell 8
    have b9 : w3.cell? ⟨w2.heap.size, 9, none⟩ = some (.slice q 0 d) := BH_3.out.cell 9
    go_wp2_with fail
    go_region_held3 (fun w' => w'.cell? ⟨w1.heap.size, 0, none⟩ = some (.int .i64 f) ∧ w'.cell? ⟨w1.heap.size, 1, none⟩ = some (.int .i64 s) ∧ w'.cell? ⟨w1.heap.size, 2, none⟩ = some (.int .i64 pr) ∧ w'.cell? ⟨w1.heap.size, 3, none⟩ = some (.int .i64 cp) ∧ w'.cell? ⟨w2.heap.size, 0, none⟩ = some (.int .i64 0) ∧ w'.cell? ⟨w2.heap.size, 1, none⟩ = some (.int .i64 0) ∧ w'.cell? ⟨w2.heap.size, 2, none⟩ = some (.slice p 0 c) ∧ w'.cell? ⟨w2.heap.size, 3, none⟩ = some (.int .i64 0) ∧ w'.cell? ⟨w2.heap.size, 4, none⟩ = some (.int .i64 0) ∧ w'.cell? ⟨w2.heap.size, 5, none⟩ = some (.int .i64 0) ∧ w'.cell? ⟨w2.heap.size, 6, none⟩ = some (.int .i64 0) ∧ w'.cell? ⟨w2.heap.size, 7, none⟩ = some (.int .i64 0) ∧ w'.cell? ⟨w2.heap.size, 8, none⟩ = some (.int .i64 0) ∧ w'.cell? ⟨w2.heap.size, 9, none⟩ = some (.slice q 0 d)) (first | (refine ⟨?_, ?_, ?_, ?_, ?_, ?_, ?_, ?_, ?_, ?_, ?_, ?_, ?_, ?_⟩ <;> assumption) | go_keep)
      (first
        | (go_at_call 28
           refine (HSp.out _).mono ?_
           rintro e w4 ⟨p4, c4, q4, d4, he0, o4, v4, h4⟩
           have he2 : e = .returned (.agg #[.int .i64 0, .int .i64 0, .slice p4 0 c4, .int .i64 0, .int .i64 0, .int .i64 0, .int .i64 0, .int .i64 0, .int .i64 0, .slice q4 0 d4]) := he0
           clear he0
           subst he2
           (try replace h4 := h4.of_drew)
           have I4 := Lib.hid (⟨Sl.own o4, Sl.own v4⟩ : IsHouse w4 houseZero p4 0 c4 q4 0 d4)
           have IH4 := Lib.hid (IH_3.out.ext h4)
           have EN4 := Lib.hid (EN_3.out.ext h4)
           have BT4 := Lib.hid (BT_3.out.ext h4)
           have BH4 := Lib.hid (BH_3.out.ext h4)
           have X4 := Lib.hid (X_3.trans h4)
           have z4 := BH4.out.lt
           clear o4 v4 h4
           have g0 : w4.cell? ⟨w1.heap.size, 0, none⟩ = some (.int .i64 f) := BT4.out.cell 0
           have g1 : w4.cell? ⟨w1.heap.size, 1, none⟩ = some (.int .i64 s) := BT4.out.cell 1
           have g2 : w4.cell? ⟨w1.heap.size, 2, none⟩ = some (.int .i64 pr) := BT4.out.cell 2
           have g3 : w4.cell? ⟨w1.heap.size, 3, none⟩ = some (.int .i64 cp) := BT4.out.cell 3
           have k0 : w4.cell? ⟨w2.heap.size, 0, none⟩ = some (.int .i64 0) := BH4.out.cell 0
           have k1 : w4.cell? ⟨w2.heap.size, 1, none⟩ = some (.int .i64 0) := BH4.out.cell 1
           have k2 : w4.cell? ⟨w2.heap.size, 2, none⟩ = some (.slice p 0 c) := BH4.out.cell 2
           have k3 : w4.cell? ⟨w2.heap.size, 3, none⟩ = some (.int .i64 0) := BH4.out.cell 3
           have k4 : w4.cell? ⟨w2.heap.size, 4, none⟩ = some (.int .i64 0) := BH4.out.cell 4
           have k5 : w4.cell? ⟨w2.heap.size, 5, none⟩ = some (.int .i64 0) := BH4.out.cell 5
           have k6 : w4.cell? ⟨w2.heap.size, 6, none⟩ = some (.int .i64 0) := BH4.out.cell 6
           have k7 : w4.cell? ⟨w2.heap.size, 7, none⟩ = some (.int .i64 0) := BH4.out.cell 7
           have k8 : w4.cell? ⟨w2.heap.size, 8, none⟩ = some (.int .i64 0) := BH4.out.cell 8
           have k9 : w4.cell? ⟨w2.heap.size, 9, none⟩ = some (.slice q 0 d) := BH4.out.cell 9)
        | (go_at_call 27
           refine (HSa.out _ _ _ _ _ _ _ _ _ IH4.out I4.out).mono ?_
           rintro e w5 ⟨rfl, h5⟩
           have IH5 := Lib.hid (IH4.out.ext h5)
           have EN5 := Lib.hid (EN4.out.ext h5)
           have BT5 := Lib.hid (BT4.out.ext h5)
           have BH5 := Lib.hid (BH4.out.ext h5)
           have X5 := Lib.hid (X4.out.trans h5)
           have z5 := BH5.out.lt
           clear h5
           have gg0 : w5.cell? ⟨w1.heap.size, 0, none⟩ = some (.int .i64 f) := BT5.out.cell 0
           have gg1 : w5.cell? ⟨w1.heap.size, 1, none⟩ = some (.int .i64 s) := BT5.out.cell 1
           have gg2 : w5.cell? ⟨w1.heap.size, 2, none⟩ = some (.int .i64 pr) := BT5.out.cell 2
           have gg3 : w5.cell? ⟨w1.heap.size, 3, none⟩ = some (.int .i64 cp) := BT5.out.cell 3
           have kk0 : w5.cell? ⟨w2.heap.size, 0, none⟩ = some (.int .i64 0) := BH5.out.cell 0
           have kk1 : w5.cell? ⟨w2.heap.size, 1, none⟩ = some (.int .i64 0) := BH5.out.cell 1
           have kk2 : w5.cell? ⟨w2.heap.size, 2, none⟩ = some (.slice p 0 c) := BH5.out.cell 2
           have kk3 : w5.cell? ⟨w2.heap.size, 3, none⟩ = some (.int .i64 0) := BH5.out.cell 3
           have kk4 : w5.cell? ⟨w2.heap.size, 4, none⟩ = some (.int .i64 0) := BH5.out.cell 4
           have kk5 : w5.cell? ⟨w2.heap.size, 5, none⟩ = some (.int .i64 0) := BH5.out.cell 5
           have kk6 : w5.cell? ⟨w2.heap.size, 6, none⟩ = some (.int .i64 0) := BH5.out.cell 6
           have kk7 : w5.cell? ⟨w2.heap.size, 7, none⟩ = some (.int .i64 0) := BH5.out.cell 7
           have kk8 : w5.cell? ⟨w2.heap.size, 8, none⟩ = some (.int .i64 0) := BH5.out.cell 8
           have kk9 : w5.cell? ⟨w2.heap.size, 9, none⟩ = some (.slice q 0 d) := BH5.out.cell 9))
    all_goals clear t0 t1 t2 t3 b0 b1 b2 b3 b4 b5 b6 b7 b8 b9 g0 g1 g2 g3 k0 k1 k2 k3 k4 k5 k6 k7 k8 k9
    all_goals go_wp2_with fail
    all_goals
      clear gg0 gg1 gg2 gg3 kk0 kk1 kk2 kk3 kk4 kk5 kk6 kk7 kk8 kk9
      refine (HNo.out _ _ _ _ _ IH5.out).mono ?_
      rintro e w6 ⟨rfl, h6⟩
      have IH6 := Lib.hid (IH5.out.ext h6)
      have EN6 := Lib.hid (EN5.out.ext h6)
      have BT6 := Lib.hid (BT5.out.ext h6)
      have BH6 := Lib.hid (BH5.out.ext h6)
      have X6 := Lib.hid (X5.out.trans h6)
      have z6 := BH6.out.lt
      clear h6 IH5 EN5 BT5 BH5 X5
      go_wp2_with fail
      refine (alive_any _ EN6.out).mono ?_
      rintro e w7 ⟨rfl, h7⟩
      go_wp2
      go_ret
      exact ⟨rfl, X6.out.trans h7⟩
  · have HIm : Hid (∀ w, Calls Tryd.prog 26 #[.int .i64 a, .int .i64 b, .agg #[.int .i64 f, .int .i64 s, .int .i64 pr, .int .i64 cp]] w (RetHouse (⟨a, b, xs, f, s, pr, cp, 0, 0, []⟩ : HouseD) w)) := fun w => by have := implHn a b f s pr cp w; rw [hz] at this; exact this
    have HSp : Hid (∀ w, Calls Tryd.prog 28 #[.int .i64 a, .int .i64 b, .agg #[.int .i64 f, .int .i64 s, .int .i64 pr, .int .i64 cp]] w (RetHouse (⟨a, b, xs, f, s, pr, cp, 0, 0, []⟩ : HouseD) w)) := fun w => by have := specHn a b f s pr cp w; rw [hz] at this; exact this
    have HNo : Hid (∀ p c q d w, IsHouse w (⟨a, b, xs, f, s, pr, cp, 0, 0, []⟩ : HouseD) p xs.length c q 0 d → Calls Tryd.prog 29 #[.agg #[.int .i64 a, .int .i64 b, .slice p xs.length c, .int .i64 f, .int .i64 s, .int .i64 pr, .int .i64 cp, .int .i64 0, .int .i64 0, .slice q 0 d]] w fun e w' => e = .returned (.bool false) ∧ Ext w w') := fun p c q d w hi => noHouse_wide a b f s pr cp 0 0 ha p xs.length c q 0 d w
    have HSa : Hid (∀ p c q d p2 c2 q2 d2 w, IsHouse w (⟨a, b, xs, f, s, pr, cp, 0, 0, []⟩ : HouseD) p xs.length c q 0 d → IsHouse w (⟨a, b, xs, f, s, pr, cp, 0, 0, []⟩ : HouseD) p2 xs.length c2 q2 0 d2 → Calls Tryd.prog 27 #[.agg #[.int .i64 a, .int .i64 b, .slice p xs.length c, .int .i64 f, .int .i64 s, .int .i64 pr, .int .i64 cp, .int .i64 0, .int .i64 0, .slice q 0 d], .agg #[.int .i64 a, .int .i64 b, .slice p2 xs.length c2, .int .i64 f, .int .i64 s, .int .i64 pr, .int .i64 cp, .int .i64 0, .int .i64 0, .slice q2 0 d2]] w fun e w' => e = .returned (.bool true) ∧ Ext w w') := fun p c q d p2 c2 q2 d2 w h1 h2 => sameHouse_any (⟨a, b, xs, f, s, pr, cp, 0, 0, []⟩ : HouseD) p xs.length c q 0 d p2 c2 q2 d2 w h1 h2
    have HVa : Hid (∀ p c q d w, IsHouse w (⟨a, b, xs, f, s, pr, cp, 0, 0, []⟩ : HouseD) p xs.length c q 0 d → Calls Tryd.prog 30 #[.agg #[.int .i64 a, .int .i64 b, .slice p xs.length c, .int .i64 f, .int .i64 s, .int .i64 pr, .int .i64 cp, .int .i64 0, .int .i64 0, .slice q 0 d]] w fun e w' => e = .returned (.bool true) ∧ Ext w w') := fun p c q d w hi => by have := implHouse ⟨a, b, xs, f, s, pr, cp, 0, 0, []⟩ p xs.length c q 0 d w hi; rwa [hok] at this
    have HOw : Hid (∀ p c q d w, IsHouse w (⟨a, b, xs, f, s, pr, cp, 0, 0, []⟩ : HouseD) p xs.length c q 0 d → Calls Tryd.prog 32 #[.agg #[.int .i64 a, .int .i64 b, .slice p xs.length c, .int .i64 f, .int .i64 s, .int .i64 pr, .int .i64 cp, .int .i64 0, .int .i64 0, .slice q 0 d]] w fun e w' => e = .returned (.int .i64 0) ∧ Ext w w') := fun p c q d w hi => by have := implHouseOwed ⟨a, b, xs, f, s, pr, cp, 0, 0, []⟩ p xs.length c q 0 d w hi; rwa [owed_new a b f s pr cp xs hok] at this
    have HCa : Hid (∀ p c w, Sl w p xs.length c 1 (ivs xs) → Calls Tryd.prog 31 #[.agg #[.int .i64 a, .int .i64 b, .slice p xs.length c]] w (RetInts [] w)) := fun p c w hi => by have := implHc a b p xs.length c xs w hi; rwa [cars_zero hx0] at this
    clear hz ha hok hx0
    have z_1 : w.heap.size ≤ w1.heap.size := hx1.sz
    have EN_1 := Lib.hid (hE.out.ext hx1)
    have X_1 : Ext w w1 := by (repeat' (first | exact Ext.refl _ | (with_reducible assumption) | (with_reducible refine Ext.alloc ?_ _) | (with_reducible refine Ext.setCell ?_ (by first | exact Nat.le_refl _ | (dsimp only; omega) | (simp; done) | (simp; omega)) _) | (with_reducible refine Ext.drew ?_) | (with_reducible refine Ext.drewN ?_ _) | (refine Ext.trans ?_ (by with_reducible assumption))))
    clear hx1
    go_wp2_with fail
    refine (HIm.out _).mono ?_
    rintro e w2 ⟨p, c, q, d, he0, o2, v2, hx2⟩
    have z_2 : w1.heap.size ≤ w2.heap.size := by have := hx2.sz; (try simp at this); omega
    have hy2 : Ext w1 w2 := by (repeat' (first | exact Ext.refl _ | (with_reducible assumption) | (with_reducible refine Ext.alloc ?_ _) | (with_reducible refine Ext.setCell ?_ (by first | exact Nat.le_refl _ | (dsimp only; omega) | (simp; done) | (simp; omega)) _) | (with_reducible refine Ext.drew ?_) | (with_reducible refine Ext.drewN ?_ _) | (refine Ext.trans ?_ (by with_reducible assumption))))
    have EN_2 := Lib.hid (EN_1.out.ext hy2)
    clear EN_1
    clear hy2
    have he2 : e = .returned (.agg #[.int .i64 a, .int .i64 b, .slice p xs.length c, .int .i64 f, .int .i64 s, .int .i64 pr, .int .i64 cp, .int .i64 0, .int .i64 0, .slice q 0 d]) := he0
    clear he0
    subst he2
    have BT_2 := Lib.hid ((Blk.new w1 49 #[.int .i64 f, .int .i64 s, .int .i64 pr, .int .i64 cp]).ext hx2)
    replace z_2 : w1.heap.size + 1 ≤ w2.heap.size := by have := hx2.sz; simp at this; omega
    have IH_2 := Lib.hid ((⟨Sl.own o2, Sl.own v2⟩ : IsHouse w2 (⟨a, b, xs, f, s, pr, cp, 0, 0, []⟩ : HouseD) p xs.length c q 0 d))
    have X_2 : Ext w w2 := by (repeat' (first | exact Ext.refl _ | (with_reducible assumption) | (with_reducible refine Ext.alloc ?_ _) | (with_reducible refine Ext.setCell ?_ (by first | exact Nat.le_refl _ | (dsimp only; omega) | (simp; done) | (simp; omega)) _) | (with_reducible refine Ext.drew ?_) | (with_reducible refine Ext.drewN ?_ _) | (refine Ext.trans ?_ (by with_reducible assumption))))
    clear hx2 o2 v2
    have p_2 : w1.heap.size < w2.heap.size := by omega
    have t0 : w2.cell? ⟨w1.heap.size, 0, none⟩ = some (.int .i64 f) := BT_2.out.cell 0
    have t1 : w2.cell? ⟨w1.heap.size, 1, none⟩ = some (.int .i64 s) := BT_2.out.cell 1
    have t2 : w2.cell? ⟨w1.heap.size, 2, none⟩ = some (.int .i64 pr) := BT_2.out.cell 2
    have t3 : w2.cell? ⟨w1.heap.size, 3, none⟩ = some (.int .i64 cp) := BT_2.out.cell 3
    go_wp2
    obtain ⟨w3, hw3⟩ : ∃ w3, w3 = w2.alloc (.cells #[.int .i64 a, .int .i64 b, .slice p xs.length c, .int .i64 f, .int .i64 s, .int .i64 pr, .int .i64 cp, .int .i64 0, .int .i64 0, .slice q 0 d] 52) := ⟨_, rfl⟩
    rw [← hw3]
    have hy3 : Ext w2 w3 := by rw [hw3]; exact (Ext.refl _).alloc _
    have BHx : Blk w3 w2.heap.size 52 #[.int .i64 a, .int .i64 b, .slice p xs.length c, .int .i64 f, .int .i64 s, .int .i64 pr, .int .i64 cp, .int .i64 0, .int .i64 0, .slice q 0 d] := by rw [hw3]; exact Blk.new _ _ _
    clear hw3 t0 t1 t2 t3
    have EN_3 := Lib.hid (EN_2.out.ext hy3)
    have BT_3 := Lib.hid (BT_2.out.ext hy3)
    have IH_3 := Lib.hid (IH_2.out.ext hy3)
    clear EN_2 BT_2 IH_2
    have z_3 : w2.heap.size < w3.heap.size := BHx.lt
    have BH_3 := Lib.hid (BHx)
    have X_3 : Ext w w3 := by (repeat' (first | exact Ext.refl _ | (with_reducible assumption) | (with_reducible refine Ext.alloc ?_ _) | (with_reducible refine Ext.setCell ?_ (by first | exact Nat.le_refl _ | (dsimp only; omega) | (simp; done) | (simp; omega)) _) | (with_reducible refine Ext.drew ?_) | (with_reducible refine Ext.drewN ?_ _) | (refine Ext.trans ?_ (by with_reducible assumption))))
    clear hy3 BHx
    have t0 : w3.cell? ⟨w1.heap.size, 0, none⟩ = some (.int .i64 f) := BT_3.out.cell 0
    have t1 : w3.cell? ⟨w1.heap.size, 1, none⟩ = some (.int .i64 s) := BT_3.out.cell 1
    have t2 : w3.cell? ⟨w1.heap.size, 2, none⟩ = some (.int .i64 pr) := BT_3.out.cell 2
    have t3 : w3.cell? ⟨w1.heap.size, 3, none⟩ = some (.int .i64 cp) := BT_3.out.cell 3
    have b0 : w3.cell? ⟨w2.heap.size, 0, none⟩ = some (.int .i64 a) := BH_3.out.cell 0
    have b1 : w3.cell? ⟨w2.heap.size, 1, none⟩ = some (.int .i64 b) := BH_3.out.cell 1
    have b2 : w3.cell? ⟨w2.heap.size, 2, none⟩ = some (.slice p xs.length c) := BH_3.out.cell 2
    have b3 : w3.cell? ⟨w2.heap.size, 3, none⟩ = some (.int .i64 f) := BH_3.out.cell 3
    have b4 : w3.cell? ⟨w2.heap.size, 4, none⟩ = some (.int .i64 s) := BH_3.out.cell 4
    have b5 : w3.cell? ⟨w2.heap.size, 5, none⟩ = some (.int .i64 pr) := BH_3.out.cell 5
    have b6 : w3.cell? ⟨w2.heap.size, 6, none⟩ = some (.int .i64 cp) := BH_3.out.cell 6
    have b7 : w3.cell? ⟨w2.heap.size, 7, none⟩ = some (.int .i64 0) := BH_3.out.cell 7
    have b8 : w3.cell? ⟨w2.heap.size, 8, none⟩ = some (.int .i64 0) := BH_3.out.cell 8
    have b9 : w3.cell? ⟨w2.heap.size, 9, none⟩ = some (.slice q 0 d) := BH_3.out.cell 9
    go_wp2_with fail
    go_region_held3 (fun w' => w'.cell? ⟨w1.heap.size, 0, none⟩ = some (.int .i64 f) ∧ w'.cell? ⟨w1.heap.size, 1, none⟩ = some (.int .i64 s) ∧ w'.cell? ⟨w1.heap.size, 2, none⟩ = some (.int .i64 pr) ∧ w'.cell? ⟨w1.heap.size, 3, none⟩ = some (.int .i64 cp) ∧ w'.cell? ⟨w2.heap.size, 0, none⟩ = some (.int .i64 a) ∧ w'.cell? ⟨w2.heap.size, 1, none⟩ = some (.int .i64 b) ∧ w'.cell? ⟨w2.heap.size, 2, none⟩ = some (.slice p xs.length c) ∧ w'.cell? ⟨w2.heap.size, 3, none⟩ = some (.int .i64 f) ∧ w'.cell? ⟨w2.heap.size, 4, none⟩ = some (.int .i64 s) ∧ w'.cell? ⟨w2.heap.size, 5, none⟩ = some (.int .i64 pr) ∧ w'.cell? ⟨w2.heap.size, 6, none⟩ = some (.int .i64 cp) ∧ w'.cell? ⟨w2.heap.size, 7, none⟩ = some (.int .i64 0) ∧ w'.cell? ⟨w2.heap.size, 8, none⟩ = some (.int .i64 0) ∧ w'.cell? ⟨w2.heap.size, 9, none⟩ = some (.slice q 0 d)) (first | (refine ⟨?_, ?_, ?_, ?_, ?_, ?_, ?_, ?_, ?_, ?_, ?_, ?_, ?_, ?_⟩ <;> assumption) | go_keep)
      (first
        | (go_at_call 28
           refine (HSp.out _).mono ?_
           rintro e w4 ⟨p4, c4, q4, d4, he0, o4, v4, h4⟩
           have he2 : e = .returned (.agg #[.int .i64 a, .int .i64 b, .slice p4 xs.length c4, .int .i64 f, .int .i64 s, .int .i64 pr, .int .i64 cp, .int .i64 0, .int .i64 0, .slice q4 0 d4]) := he0
           clear he0
           subst he2
           (try replace h4 := h4.of_drew)
           have I4 := Lib.hid (⟨Sl.own o4, Sl.own v4⟩ : IsHouse w4 (⟨a, b, xs, f, s, pr, cp, 0, 0, []⟩ : HouseD) p4 xs.length c4 q4 0 d4)
           have IH4 := Lib.hid (IH_3.out.ext h4)
           have EN4 := Lib.hid (EN_3.out.ext h4)
           have BT4 := Lib.hid (BT_3.out.ext h4)
           have BH4 := Lib.hid (BH_3.out.ext h4)
           have X4 := Lib.hid (X_3.trans h4)
           have z4 := BH4.out.lt
           clear o4 v4 h4
           have g0 : w4.cell? ⟨w1.heap.size, 0, none⟩ = some (.int .i64 f) := BT4.out.cell 0
           have g1 : w4.cell? ⟨w1.heap.size, 1, none⟩ = some (.int .i64 s) := BT4.out.cell 1
           have g2 : w4.cell? ⟨w1.heap.size, 2, none⟩ = some (.int .i64 pr) := BT4.out.cell 2
           have g3 : w4.cell? ⟨w1.heap.size, 3, none⟩ = some (.int .i64 cp) := BT4.out.cell 3
           have k0 : w4.cell? ⟨w2.heap.size, 0, none⟩ = some (.int .i64 a) := BH4.out.cell 0
           have k1 : w4.cell? ⟨w2.heap.size, 1, none⟩ = some (.int .i64 b) := BH4.out.cell 1
           have k2 : w4.cell? ⟨w2.heap.size, 2, none⟩ = some (.slice p xs.length c) := BH4.out.cell 2
           have k3 : w4.cell? ⟨w2.heap.size, 3, none⟩ = some (.int .i64 f) := BH4.out.cell 3
           have k4 : w4.cell? ⟨w2.heap.size, 4, none⟩ = some (.int .i64 s) := BH4.out.cell 4
           have k5 : w4.cell? ⟨w2.heap.size, 5, none⟩ = some (.int .i64 pr) := BH4.out.cell 5
           have k6 : w4.cell? ⟨w2.heap.size, 6, none⟩ = some (.int .i64 cp) := BH4.out.cell 6
           have k7 : w4.cell? ⟨w2.heap.size, 7, none⟩ = some (.int .i64 0) := BH4.out.cell 7
           have k8 : w4.cell? ⟨w2.heap.size, 8, none⟩ = some (.int .i64 0) := BH4.out.cell 8
           have k9 : w4.cell? ⟨w2.heap.size, 9, none⟩ = some (.slice q 0 d) := BH4.out.cell 9)
        | (go_at_call 27
           refine (HSa.out _ _ _ _ _ _ _ _ _ IH4.out I4.out).mono ?_
           rintro e w5 ⟨rfl, h5⟩
           have IH5 := Lib.hid (IH4.out.ext h5)
           have EN5 := Lib.hid (EN4.out.ext h5)
           have BT5 := Lib.hid (BT4.out.ext h5)
           have BH5 := Lib.hid (BH4.out.ext h5)
           have X5 := Lib.hid (X4.out.trans h5)
           have z5 := BH5.out.lt
           clear h5
           have gg0 : w5.cell? ⟨w1.heap.size, 0, none⟩ = some (.int .i64 f) := BT5.out.cell 0
           have gg1 : w5.cell? ⟨w1.heap.size, 1, none⟩ = some (.int .i64 s) := BT5.out.cell 1
           have gg2 : w5.cell? ⟨w1.heap.size, 2, none⟩ = some (.int .i64 pr) := BT5.out.cell 2
           have gg3 : w5.cell? ⟨w1.heap.size, 3, none⟩ = some (.int .i64 cp) := BT5.out.cell 3
           have kk0 : w5.cell? ⟨w2.heap.size, 0, none⟩ = some (.int .i64 a) := BH5.out.cell 0
           have kk1 : w5.cell? ⟨w2.heap.size, 1, none⟩ = some (.int .i64 b) := BH5.out.cell 1
           have kk2 : w5.cell? ⟨w2.heap.size, 2, none⟩ = some (.slice p xs.length c) := BH5.out.cell 2
           have kk3 : w5.cell? ⟨w2.heap.size, 3, none⟩ = some (.int .i64 f) := BH5.out.cell 3
           have kk4 : w5.cell? ⟨w2.heap.size, 4, none⟩ = some (.int .i64 s) := BH5.out.cell 4
           have kk5 : w5.cell? ⟨w2.heap.size, 5, none⟩ = some (.int .i64 pr) := BH5.out.cell 5
           have kk6 : w5.cell? ⟨w2.heap.size, 6, none⟩ = some (.int .i64 cp) := BH5.out.cell 6
           have kk7 : w5.cell? ⟨w2.heap.size, 7, none⟩ = some (.int .i64 0) := BH5.out.cell 7
           have kk8 : w5.cell? ⟨w2.heap.size, 8, none⟩ = some (.int .i64 0) := BH5.out.cell 8
           have kk9 : w5.cell? ⟨w2.heap.size, 9, none⟩ = some (.slice q 0 d) := BH5.out.cell 9))
    all_goals clear t0 t1 t2 t3 b0 b1 b2 b3 b4 b5 b6 b7 b8 b9 g0 g1 g2 g3 k0 k1 k2 k3 k4 k5 k6 k7 k8 k9
    all_goals go_wp2_with fail
    all_goals
      clear gg0 gg1 gg2 gg3 kk0 kk1 kk2 kk3 kk4 kk5 kk6 kk7 kk8 kk9
      refine (HNo.out _ _ _ _ _ IH5.out).mono ?_
      rintro e w6 ⟨rfl, h6⟩
      have IH6 := Lib.hid (IH5.out.ext h6)
      have EN6 := Lib.hid (EN5.out.ext h6)
      have BT6 := Lib.hid (BT5.out.ext h6)
      have BH6 := Lib.hid (BH5.out.ext h6)
      have X6 := Lib.hid (X5.out.trans h6)
      have z6 := BH6.out.lt
      clear h6 IH5 EN5 BT5 BH5 X5
      have g0 : w6.cell? ⟨w1.heap.size, 0, none⟩ = some (.int .i64 f) := BT6.out.cell 0
      have g1 : w6.cell? ⟨w1.heap.size, 1, none⟩ = some (.int .i64 s) := BT6.out.cell 1
      have g2 : w6.cell? ⟨w1.heap.size, 2, none⟩ = some (.int .i64 pr) := BT6.out.cell 2
      have g3 : w6.cell? ⟨w1.heap.size, 3, none⟩ = some (.int .i64 cp) := BT6.out.cell 3
      have k0 : w6.cell? ⟨w2.heap.size, 0, none⟩ = some (.int .i64 a) := BH6.out.cell 0
      have k1 : w6.cell? ⟨w2.heap.size, 1, none⟩ = some (.int .i64 b) := BH6.out.cell 1
      have k2 : w6.cell? ⟨w2.heap.size, 2, none⟩ = some (.slice p xs.length c) := BH6.out.cell 2
      have k3 : w6.cell? ⟨w2.heap.size, 3, none⟩ = some (.int .i64 f) := BH6.out.cell 3
      have k4 : w6.cell? ⟨w2.heap.size, 4, none⟩ = some (.int .i64 s) := BH6.out.cell 4
      have k5 : w6.cell? ⟨w2.heap.size, 5, none⟩ = some (.int .i64 pr) := BH6.out.cell 5
      have k6 : w6.cell? ⟨w2.heap.size, 6, none⟩ = some (.int .i64 cp) := BH6.out.cell 6
      have k7 : w6.cell? ⟨w2.heap.size, 7, none⟩ = some (.int .i64 0) := BH6.out.cell 7
      have k8 : w6.cell? ⟨w2.heap.size, 8, none⟩ = some (.int .i64 0) := BH6.out.cell 8
      have k9 : w6.cell? ⟨w2.heap.size, 9, none⟩ = some (.slice q 0 d) := BH6.out.cell 9
      go_wp2_with fail
      clear g0 g1 g2 g3 k0 k1 k2 k3 k4 k5 k6 k7 k8 k9
      refine (HVa.out _ _ _ _ _ IH6.out).mono ?_
      rintro e w7 ⟨rfl, h7⟩
      have IH7 := Lib.hid (IH6.out.ext h7)
      have BT7 := Lib.hid (BT6.out.ext h7)
      have BH7 := Lib.hid (BH6.out.ext h7)
      have X7 := Lib.hid (X6.out.trans h7)
      have z7 := BH7.out.lt
      clear h7 IH6 BT6 BH6 X6
      have g0 : w7.cell? ⟨w1.heap.size, 0, none⟩ = some (.int .i64 f) := BT7.out.cell 0
      have g1 : w7.cell? ⟨w1.heap.size, 1, none⟩ = some (.int .i64 s) := BT7.out.cell 1
      have g2 : w7.cell? ⟨w1.heap.size, 2, none⟩ = some (.int .i64 pr) := BT7.out.cell 2
      have g3 : w7.cell? ⟨w1.heap.size, 3, none⟩ = some (.int .i64 cp) := BT7.out.cell 3
      have k0 : w7.cell? ⟨w2.heap.size, 0, none⟩ = some (.int .i64 a) := BH7.out.cell 0
      have k1 : w7.cell? ⟨w2.heap.size, 1, none⟩ = some (.int .i64 b) := BH7.out.cell 1
      have k2 : w7.cell? ⟨w2.heap.size, 2, none⟩ = some (.slice p xs.length c) := BH7.out.cell 2
      have k3 : w7.cell? ⟨w2.heap.size, 3, none⟩ = some (.int .i64 f) := BH7.out.cell 3
      have k4 : w7.cell? ⟨w2.heap.size, 4, none⟩ = some (.int .i64 s) := BH7.out.cell 4
      have k5 : w7.cell? ⟨w2.heap.size, 5, none⟩ = some (.int .i64 pr) := BH7.out.cell 5
      have k6 : w7.cell? ⟨w2.heap.size, 6, none⟩ = some (.int .i64 cp) := BH7.out.cell 6
      have k7 : w7.cell? ⟨w2.heap.size, 7, none⟩ = some (.int .i64 0) := BH7.out.cell 7
      have k8 : w7.cell? ⟨w2.heap.size, 8, none⟩ = some (.int .i64 0) := BH7.out.cell 8
      have k9 : w7.cell? ⟨w2.heap.size, 9, none⟩ = some (.slice q 0 d) := BH7.out.cell 9
      go_wp2_with fail
      clear g0 g1 g2 g3 k0 k1 k2 k3 k4 k5 k6 k7 k8 k9
      refine (HCa.out _ _ _ IH7.out.cells).mono ?_
      rintro e w8 ⟨p8, c8, rfl, o8, h8⟩
      clear o8
      have IH8 := Lib.hid (IH7.out.ext h8)
      have BT8 := Lib.hid (BT7.out.ext h8)
      have BH8 := Lib.hid (BH7.out.ext h8)
      have X8 := Lib.hid (X7.out.trans h8)
      have z8 := BH8.out.lt
      clear h8 IH7 BT7 BH7 X7
      have g0 : w8.cell? ⟨w1.heap.size, 0, none⟩ = some (.int .i64 f) := BT8.out.cell 0
      have g1 : w8.cell? ⟨w1.heap.size, 1, none⟩ = some (.int .i64 s) := BT8.out.cell 1
      have g2 : w8.cell? ⟨w1.heap.size, 2, none⟩ = some (.int .i64 pr) := BT8.out.cell 2
      have g3 : w8.cell? ⟨w1.heap.size, 3, none⟩ = some (.int .i64 cp) := BT8.out.cell 3
      have k0 : w8.cell? ⟨w2.heap.size, 0, none⟩ = some (.int .i64 a) := BH8.out.cell 0
      have k1 : w8.cell? ⟨w2.heap.size, 1, none⟩ = some (.int .i64 b) := BH8.out.cell 1
      have k2 : w8.cell? ⟨w2.heap.size, 2, none⟩ = some (.slice p xs.length c) := BH8.out.cell 2
      have k3 : w8.cell? ⟨w2.heap.size, 3, none⟩ = some (.int .i64 f) := BH8.out.cell 3
      have k4 : w8.cell? ⟨w2.heap.size, 4, none⟩ = some (.int .i64 s) := BH8.out.cell 4
      have k5 : w8.cell? ⟨w2.heap.size, 5, none⟩ = some (.int .i64 pr) := BH8.out.cell 5
      have k6 : w8.cell? ⟨w2.heap.size, 6, none⟩ = some (.int .i64 cp) := BH8.out.cell 6
      have k7 : w8.cell? ⟨w2.heap.size, 7, none⟩ = some (.int .i64 0) := BH8.out.cell 7
      have k8 : w8.cell? ⟨w2.heap.size, 8, none⟩ = some (.int .i64 0) := BH8.out.cell 8
      have k9 : w8.cell? ⟨w2.heap.size, 9, none⟩ = some (.slice q 0 d) := BH8.out.cell 9
      go_wp2_with fail
      clear g0 g1 g2 g3 k0 k1 k2 k3 k4 k5 k6 k7 k8 k9
      refine (HOw.out _ _ _ _ _ IH8.out).mono ?_
      rintro e w9 ⟨rfl, h9⟩
      have IH9 := Lib.hid (IH8.out.ext h9)
      have BT9 := Lib.hid (BT8.out.ext h9)
      have BH9 := Lib.hid (BH8.out.ext h9)
      have X9 := Lib.hid (X8.out.trans h9)
      have z9 := BH9.out.lt
      clear h9 IH8 BT8 BH8 X8
      have g0 : w9.cell? ⟨w1.heap.size, 0, none⟩ = some (.int .i64 f) := BT9.out.cell 0
      have g1 : w9.cell? ⟨w1.heap.size, 1, none⟩ = some (.int .i64 s) := BT9.out.cell 1
      have g2 : w9.cell? ⟨w1.heap.size, 2, none⟩ = some (.int .i64 pr) := BT9.out.cell 2
      have g3 : w9.cell? ⟨w1.heap.size, 3, none⟩ = some (.int .i64 cp) := BT9.out.cell 3
      have k0 : w9.cell? ⟨w2.heap.size, 0, none⟩ = some (.int .i64 a) := BH9.out.cell 0
      have k1 : w9.cell? ⟨w2.heap.size, 1, none⟩ = some (.int .i64 b) := BH9.out.cell 1
      have k2 : w9.cell? ⟨w2.heap.size, 2, none⟩ = some (.slice p xs.length c) := BH9.out.cell 2
      have k3 : w9.cell? ⟨w2.heap.size, 3, none⟩ = some (.int .i64 f) := BH9.out.cell 3
      have k4 : w9.cell? ⟨w2.heap.size, 4, none⟩ = some (.int .i64 s) := BH9.out.cell 4
      have k5 : w9.cell? ⟨w2.heap.size, 5, none⟩ = some (.int .i64 pr) := BH9.out.cell 5
      have k6 : w9.cell? ⟨w2.heap.size, 6, none⟩ = some (.int .i64 cp) := BH9.out.cell 6
      have k7 : w9.cell? ⟨w2.heap.size, 7, none⟩ = some (.int .i64 0) := BH9.out.cell 7
      have k8 : w9.cell? ⟨w2.heap.size, 8, none⟩ = some (.int .i64 0) := BH9.out.cell 8
      have k9 : w9.cell? ⟨w2.heap.size, 9, none⟩ = some (.slice q 0 d) := BH9.out.cell 9
      go_wp2
      go_ret
      exact ⟨rfl, X9.out⟩

theorem walk_FnHouseNew (W : World) (v : Value) (u : Unit) (hc : Code W v) (hE : Env W) : Calls Tryd.prog 7 #[v] W fun e w' => e = .returned (.bool true) ∧ Ext W w' := by
  have hD := drawHouseNew v W hc
  obtain ⟨p0, n, cap, bs, rfl, h, hb⟩ := hc
  by_cases hn : (n : Int) ≤ 1048576
  · exact fnHouseNew_o p0 n cap W hn hE hD
  · exact fnHouseNew_big p0 n cap W (by omega)
end Go.Proofs.YtncfnlocdlhagaaDoor
