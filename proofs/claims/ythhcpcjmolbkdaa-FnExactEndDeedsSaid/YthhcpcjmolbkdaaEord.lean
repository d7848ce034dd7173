/-
  Both packages' EndOrder return the cars in the order in which they leave in the end. Condition: the house's slices read as lists.
-/
import Derived.Test.YthhcpcjmolbkdaaHowed
import Derived.Test.YthhcpcjmolbkdaaFree
namespace Go.Proofs.Ythhcpcjmolbkdaa
open Go.RowKit
set_option linter.unusedVariables false
set_option linter.unusedSimpArgs false

theorem full_iff {wide deep : Int} {xs : List Int} (h : hallOk wide deep xs = true) : (carsOf xs).length < xs.length ↔ (0 : Int) ∈ xs := by
  unfold hallOk at h
  rw [Bool.and_eq_true] at h
  have hc := ((cellsOk_iff _ _).1 h.2).1
  rw [carsOf_len]
  clear h
  induction xs with
  | nil => simp [posOfL]
  | cons x xs ih =>
    have hx := hc x (by simp)
    have := ih (fun y hy => hc y (by simp [hy]))
    have hle := posOfL_le xs
    unfold posOfL at this hle ⊢
    by_cases h0 : 0 < x
    · rw [List.filter_cons_of_pos (by simpa using h0)]
      simp only [List.length_cons, List.mem_cons]
      constructor
      · intro h; exact .inr (this.1 (by omega))
      · rintro (h | h)
        · omega
        · have := this.2 h; omega
    · rw [List.filter_cons_of_neg (by simpa using h0)]
      simp only [List.length_cons, List.mem_cons]
      constructor
      · intro _; exact .inl (by omega)
      · intro _; omega
theorem own_made1 (w : World) (x : Int) : (w.alloc (.cells #[.int .i64 x] TI)).ownsRow w.heap.size TI 1 (.slice (some ⟨w.heap.size, 0, none⟩) 1 1) 1 (ivs [x]) :=
  ⟨rfl, .inr ⟨w.heap.size, 1, _, rfl, Nat.le_refl _, heap_alloc_new w _, Nat.le_refl _, by simp [maxLen], rfl, rfl⟩⟩
/-- the cars behind those that leave first -/
def restOf (base : List Int) (C : List Int) : List Int := base ++ C.filter (fun x => !base.contains x)
theorem restOf_yes {base C : List Int} {k : Nat} {x : Int} (hx : C[k]? = some x) (h : base.contains x = false) : restOf base (C.take (k + 1)) = restOf base (C.take k) ++ [x] := by
  unfold restOf; rw [take_snocL hx, List.filter_append]; simp [h] at *; simp [h]
theorem restOf_no {base C : List Int} {k : Nat} {x : Int} (hx : C[k]? = some x) (h : base.contains x = true) : restOf base (C.take (k + 1)) = restOf base (C.take k) := by
  unfold restOf; rw [take_snocL hx, List.filter_append]; simp [h] at *; simp [h]
theorem restOf_le (base C : List Int) : (restOf base C).length ≤ base.length + C.length := by
  unfold restOf; rw [List.length_append]; have := List.length_filter_le (fun x => !base.contains x) C; omega
theorem restOf_has {base C : List Int} {k : Nat} {x : Int} (hn : C.Nodup) (hx : C[k]? = some x) : (restOf base (C.take k)).contains x = base.contains x := by
  unfold restOf
  obtain ⟨hk, rfl⟩ := List.getElem?_eq_some_iff.1 hx
  have hnt : C[k] ∉ C.take k := by
    intro hm
    obtain ⟨j, hj, e⟩ := List.getElem_of_mem hm
    rw [List.getElem_take] at e
    rw [List.length_take] at hj
    exact (List.pairwise_iff_getElem.1 hn j k (by omega) hk (by omega)) e
  simp only [List.contains_eq_mem, List.mem_append, List.mem_filter]
  simp [hnt]
theorem endOrder_rest {h : HouseD} (hok : houseOk h = true) : endOrder h = restOf (if (0 : Int) ∈ h.cells then [] else [h.cells.headD 0]) (carsOf h.cells) := by
  unfold endOrder restOf
  rw [if_pos hok]
  by_cases h0 : (0 : Int) ∈ h.cells
  · rw [if_pos h0, if_pos h0]
    exact (List.filter_eq_self.2 (by simp)).symm
  · rw [if_neg h0, if_neg h0]
    simp only [List.cons_append, List.nil_append]
    congr 1
    apply List.filter_congr
    intro x _
    by_cases hx : x = h.cells.headD 0 <;> simp [bne, hx, List.contains_eq_mem]
    rfl
theorem cars_visits {h : HouseD} (hok : houseOk h = true) : h.vs.map (·.1) = carsOf h.cells ∧ (carsOf h.cells).Nodup := by
  have hn := (visits_nodup hok).1
  unfold houseOk at hok
  simp only [Bool.and_eq_true] at hok
  have := (visitsOk_len hok.2).1
  exact ⟨this, by rw [← this]; exact hn⟩
theorem house_hall {h : HouseD} (hok : houseOk h = true) : hallOk h.wide h.deep h.cells = true := by
  unfold houseOk at hok
  simp only [Bool.and_eq_true] at hok
  exact hok.1.1.1

set_option maxRecDepth 100000 in
set_option maxHeartbeats 1000000 in
theorem implEo_bad (wide deep free step price capp clock bank : Int) (p : Option Addr) (n cap : Nat) (q : Option Addr) (m c2 : Nat) (w : World) (HV : Hid (∀ w', Ext w w' → Calls Try.prog 37 #[.agg #[.int .i64 wide, .int .i64 deep, .slice p n cap, .int .i64 free, .int .i64 step, .int .i64 price, .int .i64 capp, .int .i64 clock, .int .i64 bank, .slice q m c2]] w' fun e w'' => e = .returned (.bool false) ∧ Ext w' w'')) :
    Calls Try.prog 21 #[.agg #[.int .i64 wide, .int .i64 deep, .slice p n cap, .int .i64 free, .int .i64 step, .int .i64 price, .int .i64 capp, .int .i64 clock, .int .i64 bank, .slice q m c2]] w (RetInts [] w) := by
  go_enter Try.func21, Try.ntmps21
  go_wp2_with fail
  refine (HV.out _ (by (repeat' (first | exact Ext.refl _ | (with_reducible assumption) | (with_reducible refine Ext.alloc ?_ _) | (with_reducible refine Ext.setCell ?_ (by first | exact Nat.le_refl _ | (dsimp only; omega) | (simp; done) | (simp; omega)) _) | (with_reducible refine Ext.drew ?_) | (with_reducible refine Ext.drewN ?_ _) | (refine Ext.trans ?_ (by with_reducible assumption)))))).mono ?_
  rintro e w1 ⟨rfl, hh1⟩
  go_wp2
  go_ret
  exact ret_ints (xs := []) rfl (World.ownsRow_nil _ _ _ _) (by (repeat' (first | exact Ext.refl _ | (with_reducible assumption) | (with_reducible refine Ext.alloc ?_ _) | (with_reducible refine Ext.setCell ?_ (by first | exact Nat.le_refl _ | (dsimp only; omega) | (simp; done) | (simp; omega)) _) | (with_reducible refine Ext.drew ?_) | (with_reducible refine Ext.drewN ?_ _) | (refine Ext.trans ?_ (by with_reducible assumption)))))

set_option maxRecDepth 100000 in
set_option maxHeartbeats 1000000 in
theorem specEo_bad (wide deep free step price capp clock bank : Int) (p : Option Addr) (n cap : Nat) (q : Option Addr) (m c2 : Nat) (w : World) (HV : Hid (∀ w', Ext w w' → Calls Try.prog 30 #[.agg #[.int .i64 wide, .int .i64 deep, .slice p n cap, .int .i64 free, .int .i64 step, .int .i64 price, .int .i64 capp, .int .i64 clock, .int .i64 bank, .slice q m c2]] w' fun e w'' => e = .returned (.bool false) ∧ Ext w' w'')) :
    Calls Try.prog 15 #[.agg #[.int .i64 wide, .int .i64 deep, .slice p n cap, .int .i64 free, .int .i64 step, .int .i64 price, .int .i64 capp, .int .i64 clock, .int .i64 bank, .slice q m c2]] w (RetInts [] w) := by
  go_enter Try.func15, Try.ntmps15
  go_wp2_with fail
  refine (HV.out _ (by (repeat' (first | exact Ext.refl _ | (with_reducible assumption) | (with_reducible refine Ext.alloc ?_ _) | (with_reducible refine Ext.setCell ?_ (by first | exact Nat.le_refl _ | (dsimp only; omega) | (simp; done) | (simp; omega)) _) | (with_reducible refine Ext.drew ?_) | (with_reducible refine Ext.drewN ?_ _) | (refine Ext.trans ?_ (by with_reducible assumption)))))).mono ?_
  rintro e w1 ⟨rfl, hh1⟩
  have ho : ((w.alloc (.cells #[.int .i64 wide, .int .i64 deep, .slice p n cap, .int .i64 free, .int .i64 step, .int .i64 price, .int .i64 capp, .int .i64 clock, .int .i64 bank, .slice q m c2] 37)).alloc (.cells #[] TI)).ownsRow w.heap.size TI 1 (.slice (some ⟨(w.alloc (.cells #[.int .i64 wide, .int .i64 deep, .slice p n cap, .int .i64 free, .int .i64 step, .int .i64 price, .int .i64 capp, .int .i64 clock, .int .i64 bank, .slice q m c2] 37)).heap.size, 0, none⟩) 0 0) 0 [] := World.ownsRow_made _ #[] 0 (by simp) (by simp [maxLen]) rfl
  have HO0 := Lib.hid (own_ext ho hh1)
  clear ho
  go_wp2
  go_ret
  exact ret_ints (xs := []) rfl (by simpa using HO0.out) (by (repeat' (first | exact Ext.refl _ | (with_reducible assumption) | (with_reducible refine Ext.alloc ?_ _) | (with_reducible refine Ext.setCell ?_ (by first | exact Nat.le_refl _ | (dsimp only; omega) | (simp; done) | (simp; omega)) _) | (with_reducible refine Ext.drew ?_) | (with_reducible refine Ext.drewN ?_ _) | (refine Ext.trans ?_ (by with_reducible assumption)))))

set_option maxRecDepth 100000 in
set_option maxHeartbeats 1000000 in
theorem implEo_free (wide deep free step price capp clock bank : Int) (p : Option Addr) (n cap : Nat) (q : Option Addr) (m c2 : Nat) (C : List Int) (w : World) (hn : n ≤ 12) (hl : C.length < n) (HV : Hid (∀ w', Ext w w' → Calls Try.prog 37 #[.agg #[.int .i64 wide, .int .i64 deep, .slice p n cap, .int .i64 free, .int .i64 step, .int .i64 price, .int .i64 capp, .int .i64 clock, .int .i64 bank, .slice q m c2]] w' fun e w'' => e = .returned (.bool true) ∧ Ext w' w''))
    (HC : Hid (∀ w', Ext w w' → Calls Try.prog 38 #[hallV wide deep p n cap] w' (RetInts C w'))) :
    Calls Try.prog 21 #[.agg #[.int .i64 wide, .int .i64 deep, .slice p n cap, .int .i64 free, .int .i64 step, .int .i64 price, .int .i64 capp, .int .i64 clock, .int .i64 bank, .slice q m c2]] w (RetInts C w) := by
  go_enter Try.func21, Try.ntmps21
  go_wp2_with fail
  refine (HV.out _ (by (repeat' (first | exact Ext.refl _ | (with_reducible assumption) | (with_reducible refine Ext.alloc ?_ _) | (with_reducible refine Ext.setCell ?_ (by first | exact Nat.le_refl _ | (dsimp only; omega) | (simp; done) | (simp; omega)) _) | (with_reducible refine Ext.drew ?_) | (with_reducible refine Ext.drewN ?_ _) | (refine Ext.trans ?_ (by with_reducible assumption)))))).mono ?_
  rintro e w1 ⟨rfl, hh1⟩
  have BA : Blk w1 w.heap.size 37 #[.int .i64 wide, .int .i64 deep, .slice p n cap, .int .i64 free, .int .i64 step, .int .i64 price, .int .i64 capp, .int .i64 clock, .int .i64 bank, .slice q m c2] := (Blk.new w _ _).ext hh1
  have BAH := Lib.hid BA
  have X1 : Ext w w1 := by (repeat' (first | exact Ext.refl _ | (with_reducible assumption) | (with_reducible refine Ext.alloc ?_ _) | (with_reducible refine Ext.setCell ?_ (by first | exact Nat.le_refl _ | (dsimp only; omega) | (simp; done) | (simp; omega)) _) | (with_reducible refine Ext.drew ?_) | (with_reducible refine Ext.drewN ?_ _) | (refine Ext.trans ?_ (by with_reducible assumption))))
  have z1 : w.heap.size < w1.heap.size := BA.lt
  clear hh1
  have a0 : w1.cell? ⟨w.heap.size, 0, none⟩ = some (.int .i64 wide) := BA.cell 0
  have a1 : w1.cell? ⟨w.heap.size, 1, none⟩ = some (.int .i64 deep) := BA.cell 1
  have a2 : w1.cell? ⟨w.heap.size, 2, none⟩ = some (.slice p n cap) := BA.cell 2
  have a3 : w1.cell? ⟨w.heap.size, 3, none⟩ = some (.int .i64 free) := BA.cell 3
  have a4 : w1.cell? ⟨w.heap.size, 4, none⟩ = some (.int .i64 step) := BA.cell 4
  have a5 : w1.cell? ⟨w.heap.size, 5, none⟩ = some (.int .i64 price) := BA.cell 5
  have a6 : w1.cell? ⟨w.heap.size, 6, none⟩ = some (.int .i64 capp) := BA.cell 6
  have a7 : w1.cell? ⟨w.heap.size, 7, none⟩ = some (.int .i64 clock) := BA.cell 7
  have a8 : w1.cell? ⟨w.heap.size, 8, none⟩ = some (.int .i64 bank) := BA.cell 8
  have a9 : w1.cell? ⟨w.heap.size, 9, none⟩ = some (.slice q m c2) := BA.cell 9
  clear BA
  go_wp2_with fail
  clear a0 a1 a2 a3 a4 a5 a6 a7 a8 a9
  refine (HC.out _ X1).mono ?_
  rintro e w2 ⟨pc, cc, rfl, hoc, hh2⟩
  have BA2 := Lib.hid (BAH.out.ext hh2)
  have X2 : Ext w w2 := X1.trans hh2
  have HO := Lib.hid hoc
  have z2 : w.heap.size < w2.heap.size := BA2.out.lt
  have z12 := hh2.sz
  clear hoc hh2 BAH
  have b2 : w2.cell? ⟨w.heap.size, 2, none⟩ = some (.slice p n cap) := BA2.out.cell 2
  go_wp2
  go_ret
  exact ret_ints rfl (own_base HO.out X1.sz) X2

set_option maxRecDepth 100000 in
set_option maxHeartbeats 1000000 in
theorem implEo_full (wide deep free step price capp clock bank : Int) (p : Option Addr) (n cap : Nat) (q : Option Addr) (m c2 : Nat) (C : List Int) (x0 : Int) (b0 off0 : Nat) (w : World) (hn : n ≤ 12) (hp : p = some ⟨b0, off0, none⟩) (hl : C.length = n) (hn0 : 0 < n) (hb0 : b0 < w.heap.size) (hc0 : w.cell? ⟨b0, off0, none⟩ = some (.int .i64 x0)) (HV : Hid (∀ w', Ext w w' → Calls Try.prog 37 #[.agg #[.int .i64 wide, .int .i64 deep, .slice p n cap, .int .i64 free, .int .i64 step, .int .i64 price, .int .i64 capp, .int .i64 clock, .int .i64 bank, .slice q m c2]] w' fun e w'' => e = .returned (.bool true) ∧ Ext w' w''))
    (HC : Hid (∀ w', Ext w w' → Calls Try.prog 38 #[hallV wide deep p n cap] w' (RetInts C w'))) :
    Calls Try.prog 21 #[.agg #[.int .i64 wide, .int .i64 deep, .slice p n cap, .int .i64 free, .int .i64 step, .int .i64 price, .int .i64 capp, .int .i64 clock, .int .i64 bank, .slice q m c2]] w (RetInts (restOf [x0] C) w) := by
  subst hp
  have hlC : ¬ C.length < n := by omega
  have hlH := Lib.hid hl
  have hlC2 : C.length ≤ 12 := by omega
  clear hl
  go_enter Try.func21, Try.ntmps21
  go_wp2_with fail
  refine (HV.out _ (by (repeat' (first | exact Ext.refl _ | (with_reducible assumption) | (with_reducible refine Ext.alloc ?_ _) | (with_reducible refine Ext.setCell ?_ (by first | exact Nat.le_refl _ | (dsimp only; omega) | (simp; done) | (simp; omega)) _) | (with_reducible refine Ext.drew ?_) | (with_reducible refine Ext.drewN ?_ _) | (refine Ext.trans ?_ (by with_reducible assumption)))))).mono ?_
  rintro e w1 ⟨rfl, hh1⟩
  have BA : Blk w1 w.heap.size 37 #[.int .i64 wide, .int .i64 deep, .slice (some ⟨b0, off0, none⟩) n cap, .int .i64 free, .int .i64 step, .int .i64 price, .int .i64 capp, .int .i64 clock, .int .i64 bank, .slice q m c2] := (Blk.new w _ _).ext hh1
  have BAH := Lib.hid BA
  have X1 : Ext w w1 := by (repeat' (first | exact Ext.refl _ | (with_reducible assumption) | (with_reducible refine Ext.alloc ?_ _) | (with_reducible refine Ext.setCell ?_ (by first | exact Nat.le_refl _ | (dsimp only; omega) | (simp; done) | (simp; omega)) _) | (with_reducible refine Ext.drew ?_) | (with_reducible refine Ext.drewN ?_ _) | (refine Ext.trans ?_ (by with_reducible assumption))))
  have z1 : w.heap.size < w1.heap.size := BA.lt
  clear hh1
  have a0 : w1.cell? ⟨w.heap.size, 0, none⟩ = some (.int .i64 wide) := BA.cell 0
  have a1 : w1.cell? ⟨w.heap.size, 1, none⟩ = some (.int .i64 deep) := BA.cell 1
  have a2 : w1.cell? ⟨w.heap.size, 2, none⟩ = some (.slice (some ⟨b0, off0, none⟩) n cap) := BA.cell 2
  have a3 : w1.cell? ⟨w.heap.size, 3, none⟩ = some (.int .i64 free) := BA.cell 3
  have a4 : w1.cell? ⟨w.heap.size, 4, none⟩ = some (.int .i64 step) := BA.cell 4
  have a5 : w1.cell? ⟨w.heap.size, 5, none⟩ = some (.int .i64 price) := BA.cell 5
  have a6 : w1.cell? ⟨w.heap.size, 6, none⟩ = some (.int .i64 capp) := BA.cell 6
  have a7 : w1.cell? ⟨w.heap.size, 7, none⟩ = some (.int .i64 clock) := BA.cell 7
  have a8 : w1.cell? ⟨w.heap.size, 8, none⟩ = some (.int .i64 bank) := BA.cell 8
  have a9 : w1.cell? ⟨w.heap.size, 9, none⟩ = some (.slice q m c2) := BA.cell 9
  clear BA
  go_wp2_with fail
  clear a0 a1 a2 a3 a4 a5 a6 a7 a8 a9
  refine (HC.out _ X1).mono ?_
  rintro e w2 ⟨pc, cc, rfl, hoc, hh2⟩
  have BA2 := Lib.hid (BAH.out.ext hh2)
  have X2 : Ext w w2 := X1.trans hh2
  have HO := Lib.hid hoc
  have z2 : w.heap.size < w2.heap.size := BA2.out.lt
  have z12 := hh2.sz
  clear hoc hh2 BAH
  have b2 : w2.cell? ⟨w.heap.size, 2, none⟩ = some (.slice (some ⟨b0, off0, none⟩) n cap) := BA2.out.cell 2
  have h0 : w2.cell? ⟨b0, off0, none⟩ = some (.int .i64 x0) := by rw [X2.cells.1 _ _ hb0]; exact hc0
  have HC0 := Lib.hid hc0
  clear hc0
  go_wp2
  go_loopw [4, 29] (fun v i wr => ∃ (k : Nat) (q : Option Addr) (m c : Nat), k ≤ C.length ∧ i = .int .i64 k ∧ v = .slice q m c ∧ m ≤ k + 1 ∧ wr.ownsRow w2.heap.size TI 1 (.slice q m c) m (ivs (restOf [x0] (C.take k))) ∧ Ext w2 wr) (fun _ i _ => C.length - (intOf i).toNat)
  case atStart => exact ⟨0, _, 1, _, Nat.zero_le _, rfl, rfl, by omega, by simpa [restOf] using own_made1 w2 x0, by (repeat' (first | exact Ext.refl _ | (with_reducible assumption) | (with_reducible refine Ext.alloc ?_ _) | (with_reducible refine Ext.setCell ?_ (by first | exact Nat.le_refl _ | (dsimp only; omega) | (simp; done) | (simp; omega)) _) | (with_reducible refine Ext.drew ?_) | (with_reducible refine Ext.drewN ?_ _) | (refine Ext.trans ?_ (by with_reducible assumption))))⟩
  case round =>
    obtain ⟨k, q, m1, c, hk, rfl, rfl, hmk, hown, hE⟩ := hrel
    have HOr := Lib.hid hown
    have hEw := X2.trans hE
    have hsz := hE.sz
    have ec : wr.cell? ⟨w.heap.size, 2, none⟩ = some (.slice (some ⟨b0, off0, none⟩) n cap) := (hE.cells.1 _ _ z2).trans b2
    have hg : wr.cell? ⟨b0, off0, none⟩ = some (.int .i64 x0) := by rw [hEw.cells.1 _ _ hb0]; exact HC0.out
    clear hown
    by_cases hlt : k < C.length
    · obtain ⟨b, off, x, rfl, hx, hb, hcell⟩ := ((Sl.own HO.out).ext hE).int_at hlt
      have HX := Lib.hid hx
      clear hx
      by_cases hx0 : x = x0
      · have t0 : (x != x0) = false := by simp [hx0]
        have hfin : Hid (restOf [x0] (C.take (k + 1)) = restOf [x0] (C.take k)) := restOf_no HX.out (by simp [hx0])
        clear hx0
        go_wp2
        go_roundw
        case rel => exact ⟨k + 1, q, m1, c, by omega, by go_num, rfl, by omega, by rw [hfin.out]; exact HOr.out, hE⟩
        case measure => simp [intOf]; omega
      · have t0 : (x != x0) = true := by simp [hx0]
        have hfin : Hid (restOf [x0] (C.take (k + 1)) = restOf [x0] (C.take k) ++ [x]) := restOf_yes HX.out (by simp [hx0])
        clear hx0
        go_wp2_with (at_builtin; refine wpList_append_int elInt rfl _ _ rfl w2.heap.size _ _ _ rfl (HOr.out.alloc _) _ _ x _ rfl (by simp) (by omega) (by simp; omega) ?_; intro p' cap' w3 hown1 hg1; have HO1 := Lib.hid hown1; have hE1 : Ext w2 w3 := Ext.own (hE.alloc _) (HOr.out.alloc _) hg1 (Nat.le_refl _); clear hown1 hg1)
        go_roundw
        case rel => exact ⟨k + 1, p', m1 + 1, cap', by omega, by go_num, rfl, by omega, by rw [hfin.out]; exact HO1.out, hE1⟩
        case measure => simp [intOf]; omega
    · have hfin : Hid (restOf [x0] (C.take k) = restOf [x0] C) := by show _ = _; rw [List.take_of_length_le (by omega)]
      go_wp2
      go_ret
      exact ret_ints (by rw [← hfin.out]; have := HOr.out.1; simpa using this) (by rw [← hfin.out]; exact own_base HOr.out X2.sz) hEw

set_option maxRecDepth 100000 in
set_option maxHeartbeats 1000000 in
theorem specEo_free (wide deep free step price capp clock bank : Int) (p : Option Addr) (n cap : Nat) (q : Option Addr) (m c2 : Nat) (w : World) (vs : List Visit4) (F : List Int) (HN : Hid (vs.map (·.1)).Nodup) (hm : m ≤ 12) (HS : Hid (Sl w q m c2 4 (vs.flatMap visitCells))) (hl : Hid (vs.length = m)) (hF : F.length ≠ 0) (HV : Hid (∀ w', Ext w w' → Calls Try.prog 30 #[.agg #[.int .i64 wide, .int .i64 deep, .slice p n cap, .int .i64 free, .int .i64 step, .int .i64 price, .int .i64 capp, .int .i64 clock, .int .i64 bank, .slice q m c2]] w' fun e w'' => e = .returned (.bool true) ∧ Ext w' w''))
    (HF : Hid (∀ w', Ext w w' → Calls Try.prog 31 #[hallV wide deep p n cap] w' (RetInts F w'))) :
    Calls Try.prog 15 #[.agg #[.int .i64 wide, .int .i64 deep, .slice p n cap, .int .i64 free, .int .i64 step, .int .i64 price, .int .i64 capp, .int .i64 clock, .int .i64 bank, .slice q m c2]] w (RetInts (restOf [] (vs.map (·.1))) w) := by
  go_enter Try.func15, Try.ntmps15
  go_wp2_with fail
  refine (HV.out _ (by (repeat' (first | exact Ext.refl _ | (with_reducible assumption) | (with_reducible refine Ext.alloc ?_ _) | (with_reducible refine Ext.setCell ?_ (by first | exact Nat.le_refl _ | (dsimp only; omega) | (simp; done) | (simp; omega)) _) | (with_reducible refine Ext.drew ?_) | (with_reducible refine Ext.drewN ?_ _) | (refine Ext.trans ?_ (by with_reducible assumption)))))).mono ?_
  rintro e w1 ⟨rfl, hh1⟩
  have ho : ((w.alloc (.cells #[.int .i64 wide, .int .i64 deep, .slice p n cap, .int .i64 free, .int .i64 step, .int .i64 price, .int .i64 capp, .int .i64 clock, .int .i64 bank, .slice q m c2] 37)).alloc (.cells #[] TI)).ownsRow (w.heap.size + 1) TI 1 (.slice (some ⟨w.heap.size + 1, 0, none⟩) 0 0) 0 [] := by simpa using World.ownsRow_made (w.alloc (.cells #[.int .i64 wide, .int .i64 deep, .slice p n cap, .int .i64 free, .int .i64 step, .int .i64 price, .int .i64 capp, .int .i64 clock, .int .i64 bank, .slice q m c2] 37)) (e := TI) (base := w.heap.size + 1) #[] 0 (by simp) (by simp [maxLen]) rfl
  have HO0 := Lib.hid (own_ext ho hh1)
  clear ho
  have BA : Blk w1 w.heap.size 37 #[.int .i64 wide, .int .i64 deep, .slice p n cap, .int .i64 free, .int .i64 step, .int .i64 price, .int .i64 capp, .int .i64 clock, .int .i64 bank, .slice q m c2] := ((Blk.new w _ _).alloc _).ext hh1
  have BAH := Lib.hid BA
  have X1 : Ext w w1 := by (repeat' (first | exact Ext.refl _ | (with_reducible assumption) | (with_reducible refine Ext.alloc ?_ _) | (with_reducible refine Ext.setCell ?_ (by first | exact Nat.le_refl _ | (dsimp only; omega) | (simp; done) | (simp; omega)) _) | (with_reducible refine Ext.drew ?_) | (with_reducible refine Ext.drewN ?_ _) | (refine Ext.trans ?_ (by with_reducible assumption))))
  clear hh1
  have a0 : w1.cell? ⟨w.heap.size, 0, none⟩ = some (.int .i64 wide) := BA.cell 0
  have a1 : w1.cell? ⟨w.heap.size, 1, none⟩ = some (.int .i64 deep) := BA.cell 1
  have a2 : w1.cell? ⟨w.heap.size, 2, none⟩ = some (.slice p n cap) := BA.cell 2
  have a3 : w1.cell? ⟨w.heap.size, 3, none⟩ = some (.int .i64 free) := BA.cell 3
  have a4 : w1.cell? ⟨w.heap.size, 4, none⟩ = some (.int .i64 step) := BA.cell 4
  have a5 : w1.cell? ⟨w.heap.size, 5, none⟩ = some (.int .i64 price) := BA.cell 5
  have a6 : w1.cell? ⟨w.heap.size, 6, none⟩ = some (.int .i64 capp) := BA.cell 6
  have a7 : w1.cell? ⟨w.heap.size, 7, none⟩ = some (.int .i64 clock) := BA.cell 7
  have a8 : w1.cell? ⟨w.heap.size, 8, none⟩ = some (.int .i64 bank) := BA.cell 8
  have a9 : w1.cell? ⟨w.heap.size, 9, none⟩ = some (.slice q m c2) := BA.cell 9
  clear BA
  go_wp2_with fail
  clear a0 a1 a2 a3 a4 a5 a6 a7 a8 a9
  refine (HF.out _ X1).mono ?_
  rintro e w2 ⟨pf, cf, rfl, _, hh2⟩
  have BA2 := Lib.hid (BAH.out.ext hh2)
  have HO2 := Lib.hid (own_ext HO0.out hh2)
  have X2 : Ext w w2 := X1.trans hh2
  have z2 : w.heap.size < w2.heap.size := BA2.out.lt
  clear hh2 BAH HO0
  have tF : ((F.length : Int) == 0) = false := by simp [hF]
  have ec9 : w2.cell? ⟨w.heap.size, 9, none⟩ = some (.slice q m c2) := BA2.out.cell 9
  have hz3 := z2
  clear hF
  have b2 : w2.cell? ⟨w.heap.size, 2, none⟩ = some (.slice p n cap) := BA2.out.cell 2
  go_wp2
  go_loopw [3, 4] (fun v i wr => ∃ (k : Nat) (qq : Option Addr) (m1 c : Nat), k ≤ m ∧ i = .int .i64 k ∧ v = .slice qq m1 c ∧ m1 ≤ k + 1 ∧ wr.ownsRow (w.heap.size + 1) TI 1 (.slice qq m1 c) m1 (ivs (restOf [] ((vs.map (·.1)).take k))) ∧ Ext w wr ∧ wr.cell? ⟨w.heap.size, 9, none⟩ = some (.slice q m c2) ∧ w.heap.size < wr.heap.size) (fun _ i _ => m - (intOf i).toNat)
  case atStart => exact ⟨0, _, _, _, Nat.zero_le _, rfl, rfl, by omega, by simpa [restOf] using HO2.out, X2, ec9, hz3⟩
  case round =>
    obtain ⟨k, qq, m1, c, hk, rfl, rfl, hmk, hown, hE, ecr, hsz⟩ := hrel
    have HOr := Lib.hid hown
    clear hown ec9
    by_cases hlt : k < m
    · obtain ⟨b, off, a0, a1, a2, a3, rfl, hv, hb, g0, g1, g2, g3⟩ := visit_at (HS.out.ext hE) hlt
      have hx : Hid ((vs.map (·.1))[k]? = some a0) := by show _ = _; rw [List.getElem?_map, hv]; rfl
      have i1 : (0 : Int) ≤ (k : Int) := by omega
      have i2 : (k : Int) < (m : Int) := by omega
      clear hv
      have HH : Hid (∀ w', Ext wr w' → Calls Try.prog 32 #[.slice qq m1 c, .int .i64 a0] w' fun e w'' => e = .returned (.bool (([] : List Int).contains a0)) ∧ w' = w'') := fun w' hx' => by
        have := l1Has_any qq m1 c _ a0 w' ((Sl.own HOr.out).ext hx')
        rwa [restOf_has HN.out hx.out] at this
      cases hs : ([] : List Int).contains a0 with
      | true =>
        rw [hs] at HH
        have hfin : Hid (restOf [] ((vs.map (·.1)).take (k + 1)) = restOf [] ((vs.map (·.1)).take k)) := restOf_no hx.out hs
        clear hs
        go_wp2_with fail
        refine (HH.out _ (by (repeat' (first | exact Ext.refl _ | (with_reducible assumption) | (with_reducible refine Ext.alloc ?_ _) | (with_reducible refine Ext.setCell ?_ (by first | exact Nat.le_refl _ | (dsimp only; omega) | (simp; done) | (simp; omega)) _) | (with_reducible refine Ext.drew ?_) | (with_reducible refine Ext.drewN ?_ _) | (refine Ext.trans ?_ (by with_reducible assumption)))))).mono ?_
        rintro e w4 ⟨rfl, rfl⟩
        go_wp2
        go_roundw
        case rel => exact ⟨k + 1, qq, m1, c, by omega, by go_num, rfl, by omega, by rw [hfin.out]; exact HOr.out, hE, ecr, hsz⟩
        case measure => simp [intOf]; omega
      | false =>
        rw [hs] at HH
        have hfin : Hid (restOf [] ((vs.map (·.1)).take (k + 1)) = restOf [] ((vs.map (·.1)).take k) ++ [a0]) := restOf_yes hx.out hs
        clear hs
        go_wp2_with fail
        refine (HH.out _ (by (repeat' (first | exact Ext.refl _ | (with_reducible assumption) | (with_reducible refine Ext.alloc ?_ _) | (with_reducible refine Ext.setCell ?_ (by first | exact Nat.le_refl _ | (dsimp only; omega) | (simp; done) | (simp; omega)) _) | (with_reducible refine Ext.drew ?_) | (with_reducible refine Ext.drewN ?_ _) | (refine Ext.trans ?_ (by with_reducible assumption)))))).mono ?_
        rintro e w4 ⟨rfl, rfl⟩
        go_wp2_with (at_builtin; refine wpList_append_int elInt rfl _ _ rfl (w.heap.size + 1) _ _ _ rfl (HOr.out.alloc _) _ _ a0 _ rfl (by simp) (by omega) (by simp; omega) ?_; intro p' cap' w5 hown1 hg1; have HO1 := Lib.hid hown1; have hE5 : Ext w w5 := Ext.own (hE.alloc _) (HOr.out.alloc _) hg1 (by omega); have ec5 := own_far HOr.out hg1 hsz ecr; have hsz5 : w.heap.size < w5.heap.size := Nat.lt_of_lt_of_le hsz (by have := hg1.size; simp at this; omega); clear hown1 hg1)
        go_roundw
        case rel => exact ⟨k + 1, p', m1 + 1, cap', by omega, by go_num, rfl, by omega, by rw [hfin.out]; exact HO1.out, hE5, ec5, hsz5⟩
        case measure => simp [intOf]; omega
    · have hfin : Hid (restOf [] ((vs.map (·.1)).take k) = restOf [] (vs.map (·.1))) := by show _ = _; rw [List.take_of_length_le (by rw [List.length_map, hl.out]; omega)]
      go_wp2
      go_ret
      exact ret_ints (by rw [← hfin.out]; have := HOr.out.1; simpa using this) (by rw [← hfin.out]; exact own_base HOr.out (Nat.le_succ _)) hE


set_option maxRecDepth 100000 in
set_option maxHeartbeats 1000000 in
theorem specEo_full (wide deep free step price capp clock bank : Int) (p : Option Addr) (n cap : Nat) (q : Option Addr) (m c2 : Nat) (w : World) (vs : List Visit4) (F : List Int) (HN : Hid (vs.map (·.1)).Nodup) (hm : m ≤ 12) (HS : Hid (Sl w q m c2 4 (vs.flatMap visitCells))) (hl : Hid (vs.length = m)) (hF : F.length = 0) (x0 : Int) (b0 off0 : Nat) (hp : p = some ⟨b0, off0, none⟩) (hn0 : 0 < n) (hb0 : b0 < w.heap.size) (hc0 : w.cell? ⟨b0, off0, none⟩ = some (.int .i64 x0)) (HV : Hid (∀ w', Ext w w' → Calls Try.prog 30 #[.agg #[.int .i64 wide, .int .i64 deep, .slice p n cap, .int .i64 free, .int .i64 step, .int .i64 price, .int .i64 capp, .int .i64 clock, .int .i64 bank, .slice q m c2]] w' fun e w'' => e = .returned (.bool true) ∧ Ext w' w''))
    (HF : Hid (∀ w', Ext w w' → Calls Try.prog 31 #[hallV wide deep p n cap] w' (RetInts F w'))) :
    Calls Try.prog 15 #[.agg #[.int .i64 wide, .int .i64 deep, .slice p n cap, .int .i64 free, .int .i64 step, .int .i64 price, .int .i64 capp, .int .i64 clock, .int .i64 bank, .slice q m c2]] w (RetInts (restOf [x0] (vs.map (·.1))) w) := by
  subst hp
  go_enter Try.func15, Try.ntmps15
  go_wp2_with fail
  refine (HV.out _ (by (repeat' (first | exact Ext.refl _ | (with_reducible assumption) | (with_reducible refine Ext.alloc ?_ _) | (with_reducible refine Ext.setCell ?_ (by first | exact Nat.le_refl _ | (dsimp only; omega) | (simp; done) | (simp; omega)) _) | (with_reducible refine Ext.drew ?_) | (with_reducible refine Ext.drewN ?_ _) | (refine Ext.trans ?_ (by with_reducible assumption)))))).mono ?_
  rintro e w1 ⟨rfl, hh1⟩
  have ho : ((w.alloc (.cells #[.int .i64 wide, .int .i64 deep, .slice (some ⟨b0, off0, none⟩) n cap, .int .i64 free, .int .i64 step, .int .i64 price, .int .i64 capp, .int .i64 clock, .int .i64 bank, .slice q m c2] 37)).alloc (.cells #[] TI)).ownsRow (w.heap.size + 1) TI 1 (.slice (some ⟨w.heap.size + 1, 0, none⟩) 0 0) 0 [] := by simpa using World.ownsRow_made (w.alloc (.cells #[.int .i64 wide, .int .i64 deep, .slice (some ⟨b0, off0, none⟩) n cap, .int .i64 free, .int .i64 step, .int .i64 price, .int .i64 capp, .int .i64 clock, .int .i64 bank, .slice q m c2] 37)) (e := TI) (base := w.heap.size + 1) #[] 0 (by simp) (by simp [maxLen]) rfl
  have HO0 := Lib.hid (own_ext ho hh1)
  clear ho
  have BA : Blk w1 w.heap.size 37 #[.int .i64 wide, .int .i64 deep, .slice (some ⟨b0, off0, none⟩) n cap, .int .i64 free, .int .i64 step, .int .i64 price, .int .i64 capp, .int .i64 clock, .int .i64 bank, .slice q m c2] := ((Blk.new w _ _).alloc _).ext hh1
  have BAH := Lib.hid BA
  have X1 : Ext w w1 := by (repeat' (first | exact Ext.refl _ | (with_reducible assumption) | (with_reducible refine Ext.alloc ?_ _) | (with_reducible refine Ext.setCell ?_ (by first | exact Nat.le_refl _ | (dsimp only; omega) | (simp; done) | (simp; omega)) _) | (with_reducible refine Ext.drew ?_) | (with_reducible refine Ext.drewN ?_ _) | (refine Ext.trans ?_ (by with_reducible assumption))))
  clear hh1
  have a0 : w1.cell? ⟨w.heap.size, 0, none⟩ = some (.int .i64 wide) := BA.cell 0
  have a1 : w1.cell? ⟨w.heap.size, 1, none⟩ = some (.int .i64 deep) := BA.cell 1
  have a2 : w1.cell? ⟨w.heap.size, 2, none⟩ = some (.slice (some ⟨b0, off0, none⟩) n cap) := BA.cell 2
  have a3 : w1.cell? ⟨w.heap.size, 3, none⟩ = some (.int .i64 free) := BA.cell 3
  have a4 : w1.cell? ⟨w.heap.size, 4, none⟩ = some (.int .i64 step) := BA.cell 4
  have a5 : w1.cell? ⟨w.heap.size, 5, none⟩ = some (.int .i64 price) := BA.cell 5
  have a6 : w1.cell? ⟨w.heap.size, 6, none⟩ = some (.int .i64 capp) := BA.cell 6
  have a7 : w1.cell? ⟨w.heap.size, 7, none⟩ = some (.int .i64 clock) := BA.cell 7
  have a8 : w1.cell? ⟨w.heap.size, 8, none⟩ = some (.int .i64 bank) := BA.cell 8
  have a9 : w1.cell? ⟨w.heap.size, 9, none⟩ = some (.slice q m c2) := BA.cell 9
  clear BA
  go_wp2_with fail
  clear a0 a1 a2 a3 a4 a5 a6 a7 a8 a9
  refine (HF.out _ X1).mono ?_
  rintro e w2 ⟨pf, cf, rfl, _, hh2⟩
  have BA2 := Lib.hid (BAH.out.ext hh2)
  have HO2 := Lib.hid (own_ext HO0.out hh2)
  have X2 : Ext w w2 := X1.trans hh2
  have z2 : w.heap.size < w2.heap.size := BA2.out.lt
  clear hh2 BAH HO0
  have h0 : w2.cell? ⟨b0, off0, none⟩ = some (.int .i64 x0) := by rw [X2.cells.1 _ _ hb0]; exact hc0
  have HC0 := Lib.hid hc0
  have tF : ((F.length : Int) == 0) = true := by simp [hF]
  have c9 : Hid (w2.cell? ⟨w.heap.size, 9, none⟩ = some (.slice q m c2)) := BA2.out.cell 9
  clear hc0 hF
  have b2 : w2.cell? ⟨w.heap.size, 2, none⟩ = some (.slice (some ⟨b0, off0, none⟩) n cap) := BA2.out.cell 2
  go_wp2_with (at_builtin; refine wpList_append_int elInt rfl _ _ rfl (w.heap.size + 1) _ 0 [] rfl (HO2.out.alloc _) _ _ x0 _ rfl (by simp) (by omega) (by simp; omega) ?_; intro p3 cap3 w3 hown1 hg1; have HO3 := Lib.hid hown1; have hE1 : Ext w w3 := Ext.own (X2.alloc _) (HO2.out.alloc _) hg1 (by omega); have ec9 := own_far HO2.out hg1 z2 c9.out; have hz3 : w.heap.size < w3.heap.size := Nat.lt_of_lt_of_le z2 (by have := hg1.size; simp at this; omega); clear hown1 hg1)
  go_loopw [3, 4] (fun v i wr => ∃ (k : Nat) (qq : Option Addr) (m1 c : Nat), k ≤ m ∧ i = .int .i64 k ∧ v = .slice qq m1 c ∧ m1 ≤ k + 1 ∧ wr.ownsRow (w.heap.size + 1) TI 1 (.slice qq m1 c) m1 (ivs (restOf [x0] ((vs.map (·.1)).take k))) ∧ Ext w wr ∧ wr.cell? ⟨w.heap.size, 9, none⟩ = some (.slice q m c2) ∧ w.heap.size < wr.heap.size) (fun _ i _ => m - (intOf i).toNat)
  case atStart => exact ⟨0, _, _, _, Nat.zero_le _, rfl, rfl, by omega, by simpa [restOf] using HO3.out, hE1, ec9, hz3⟩
  case round =>
    obtain ⟨k, qq, m1, c, hk, rfl, rfl, hmk, hown, hE, ecr, hsz⟩ := hrel
    have HOr := Lib.hid hown
    clear hown ec9
    by_cases hlt : k < m
    · obtain ⟨b, off, a0, a1, a2, a3, rfl, hv, hb, g0, g1, g2, g3⟩ := visit_at (HS.out.ext hE) hlt
      have hx : Hid ((vs.map (·.1))[k]? = some a0) := by show _ = _; rw [List.getElem?_map, hv]; rfl
      have i1 : (0 : Int) ≤ (k : Int) := by omega
      have i2 : (k : Int) < (m : Int) := by omega
      clear hv
      have HH : Hid (∀ w', Ext wr w' → Calls Try.prog 32 #[.slice qq m1 c, .int .i64 a0] w' fun e w'' => e = .returned (.bool (([x0] : List Int).contains a0)) ∧ w' = w'') := fun w' hx' => by
        have := l1Has_any qq m1 c _ a0 w' ((Sl.own HOr.out).ext hx')
        rwa [restOf_has HN.out hx.out] at this
      cases hs : ([x0] : List Int).contains a0 with
      | true =>
        rw [hs] at HH
        have hfin : Hid (restOf [x0] ((vs.map (·.1)).take (k + 1)) = restOf [x0] ((vs.map (·.1)).take k)) := restOf_no hx.out hs
        clear hs
        go_wp2_with fail
        refine (HH.out _ (by (repeat' (first | exact Ext.refl _ | (with_reducible assumption) | (with_reducible refine Ext.alloc ?_ _) | (with_reducible refine Ext.setCell ?_ (by first | exact Nat.le_refl _ | (dsimp only; omega) | (simp; done) | (simp; omega)) _) | (with_reducible refine Ext.drew ?_) | (with_reducible refine Ext.drewN ?_ _) | (refine Ext.trans ?_ (by with_reducible assumption)))))).mono ?_
        rintro e w4 ⟨rfl, rfl⟩
        go_wp2
        go_roundw
        case rel => exact ⟨k + 1, qq, m1, c, by omega, by go_num, rfl, by omega, by rw [hfin.out]; exact HOr.out, hE, ecr, hsz⟩
        case measure => simp [intOf]; omega
      | false =>
        rw [hs] at HH
        have hfin : Hid (restOf [x0] ((vs.map (·.1)).take (k + 1)) = restOf [x0] ((vs.map (·.1)).take k) ++ [a0]) := restOf_yes hx.out hs
        clear hs
        go_wp2_with fail
        refine (HH.out _ (by (repeat' (first | exact Ext.refl _ | (with_reducible assumption) | (with_reducible refine Ext.alloc ?_ _) | (with_reducible refine Ext.setCell ?_ (by first | exact Nat.le_refl _ | (dsimp only; omega) | (simp; done) | (simp; omega)) _) | (with_reducible refine Ext.drew ?_) | (with_reducible refine Ext.drewN ?_ _) | (refine Ext.trans ?_ (by with_reducible assumption)))))).mono ?_
        rintro e w4 ⟨rfl, rfl⟩
        go_wp2_with (at_builtin; refine wpList_append_int elInt rfl _ _ rfl (w.heap.size + 1) _ _ _ rfl (HOr.out.alloc _) _ _ a0 _ rfl (by simp) (by omega) (by simp; omega) ?_; intro p' cap' w5 hown1 hg1; have HO1 := Lib.hid hown1; have hE5 : Ext w w5 := Ext.own (hE.alloc _) (HOr.out.alloc _) hg1 (by omega); have ec5 := own_far HOr.out hg1 hsz ecr; have hsz5 : w.heap.size < w5.heap.size := Nat.lt_of_lt_of_le hsz (by have := hg1.size; simp at this; omega); clear hown1 hg1)
        go_roundw
        case rel => exact ⟨k + 1, p', m1 + 1, cap', by omega, by go_num, rfl, by omega, by rw [hfin.out]; exact HO1.out, hE5, ec5, hsz5⟩
        case measure => simp [intOf]; omega
    · have hfin : Hid (restOf [x0] ((vs.map (·.1)).take k) = restOf [x0] (vs.map (·.1))) := by show _ = _; rw [List.take_of_length_le (by rw [List.length_map, hl.out]; omega)]
      go_wp2
      go_ret
      exact ret_ints (by rw [← hfin.out]; have := HOr.out.1; simpa using this) (by rw [← hfin.out]; exact own_base HOr.out (Nat.le_succ _)) hE

theorem implEndOrder (h : HouseD) (p : Option Addr) (n cap : Nat) (q : Option Addr) (m c2 : Nat) (w : World) (hi : IsHouse w h p n cap q m c2) :
    Calls Try.prog 21 #[houseV h p n cap q m c2] w (RetInts (endOrder h) w) := by
  have HV := fun (w' : World) (hx : Ext w w') => implHouse h p n cap q m c2 w' (hi.ext hx)
  have hvl := hi.vlen
  have hcl := hi.clen
  cases hok : houseOk h with
  | false =>
    rw [hok] at HV
    have e : endOrder h = [] := by unfold endOrder; rw [hok]; rfl
    rw [e]
    exact implEo_bad h.wide h.deep h.free h.step h.price h.capp h.clock h.bank p n cap q m c2 w HV
  | true =>
    rw [hok] at HV
    have hh := house_hall hok
    have hn12 : n ≤ 12 ∧ 4 ≤ n := by
      have h1 := hh
      unfold hallOk at h1
      rw [Bool.and_eq_true] at h1
      have := shape_bd h1.1
      omega
    obtain ⟨hn12, hn4⟩ := hn12
    have HC := fun (w' : World) (hx : Ext w w') => by
      have := implHc h.wide h.deep p n cap h.cells w' (hi.cells.ext hx)
      rw [hh, if_pos rfl] at this
      exact this
    rw [endOrder_rest hok]
    by_cases h0 : (0 : Int) ∈ h.cells
    · rw [if_pos h0]
      have hlt := (full_iff (house_hall hok)).2 h0
      have e : restOf [] (carsOf h.cells) = carsOf h.cells := by simp [restOf]
      rw [e]
      rw [hcl] at hlt
      exact implEo_free h.wide h.deep h.free h.step h.price h.capp h.clock h.bank p n cap q m c2 (carsOf h.cells) w hn12 hlt HV HC
    · rw [if_neg h0]
      obtain ⟨b0, off0, x0, hp, hx0, hb0, hc0⟩ := hi.cells.int_at (k := 0) (by omega)
      have hhd : h.cells.headD 0 = x0 := by cases hc : h.cells with
        | nil => rw [hc] at hx0; simp at hx0
        | cons a b => rw [hc] at hx0; simpa using hx0
      rw [hhd]
      exact implEo_full h.wide h.deep h.free h.step h.price h.capp h.clock h.bank p n cap q m c2 (carsOf h.cells) x0 b0 off0 w hn12 hp (by have := mt (full_iff (house_hall hok)).1 h0; have h2 := posOfL_le h.cells; rw [carsOf_len] at this ⊢; omega) (by omega) hb0 hc0 HV HC

theorem specEndOrder (h : HouseD) (p : Option Addr) (n cap : Nat) (q : Option Addr) (m c2 : Nat) (w : World) (hi : IsHouse w h p n cap q m c2) :
    Calls Try.prog 15 #[houseV h p n cap q m c2] w (RetInts (endOrder h) w) := by
  have HV := fun (w' : World) (hx : Ext w w') => specHouse h p n cap q m c2 w' (hi.ext hx)
  have hvl := hi.vlen
  have hcl := hi.clen
  cases hok : houseOk h with
  | false =>
    rw [hok] at HV
    have e : endOrder h = [] := by unfold endOrder; rw [hok]; rfl
    rw [e]
    exact specEo_bad h.wide h.deep h.free h.step h.price h.capp h.clock h.bank p n cap q m c2 w HV
  | true =>
    rw [hok] at HV
    have hh := house_hall hok
    have hn12 : n ≤ 12 ∧ 4 ≤ n := by
      have h1 := hh
      unfold hallOk at h1
      rw [Bool.and_eq_true] at h1
      have := shape_bd h1.1
      omega
    obtain ⟨hn12, hn4⟩ := hn12
    have HF := fun (w' : World) (hx : Ext w w') => by
      have := specHf h.wide h.deep p n cap h.cells w' (hi.cells.ext hx)
      rw [hh, if_pos rfl] at this
      exact this
    rw [endOrder_rest hok]
    by_cases h0 : (0 : Int) ∈ h.cells
    · rw [if_pos h0]
      have hf : (freeL h.cells).length ≠ 0 := fun e => (freeL_nil _).1 (List.eq_nil_of_length_eq_zero e) h0
      rw [← (cars_visits hok).1]
      exact specEo_free h.wide h.deep h.free h.step h.price h.capp h.clock h.bank p n cap q m c2 w h.vs (freeL h.cells) (visits_nodup hok).1 (by rw [← hvl]; exact (visits_nodup hok).2.1) hi.vs hvl hf HV HF
    · rw [if_neg h0]
      obtain ⟨b0, off0, x0, hp, hx0, hb0, hc0⟩ := hi.cells.int_at (k := 0) (by omega)
      have hhd : h.cells.headD 0 = x0 := by cases hc : h.cells with
        | nil => rw [hc] at hx0; simp at hx0
        | cons a b => rw [hc] at hx0; simpa using hx0
      rw [hhd]
      rw [← (cars_visits hok).1]
      exact specEo_full h.wide h.deep h.free h.step h.price h.capp h.clock h.bank p n cap q m c2 w h.vs (freeL h.cells) (visits_nodup hok).1 (by rw [← hvl]; exact (visits_nodup hok).2.1) hi.vs hvl (by rw [(freeL_nil _).2 h0]; rfl) x0 b0 off0 hp (by omega) hb0 hc0 HV HF

end Go.Proofs.Ythhcpcjmolbkdaa
