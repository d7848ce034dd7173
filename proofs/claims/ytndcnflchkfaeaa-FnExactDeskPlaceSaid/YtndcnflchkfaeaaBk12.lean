/-
  Both packages' DeskPlace. Conditions: the slices read as lists.
-/
import Derived.Test.YtndcnflchkfaeaaBk6
import Derived.Test.YtndcnflchkfaeaaTen0
import Derived.Test.YtndcnflchkfaeaaBk7
import Derived.Test.YtndcnflchkfaeaaBk10
import Derived.Test.YtndcnflchkfaeaaBk11
import Derived.Test.YtndcnflchkfaeaaLawD
import Derived.Test.YtndcnflchkfaeaaDk7
namespace Go.Proofs.Ytndcnflchkfaeaa
open Go.RowKit
set_option linter.unusedVariables false
set_option linter.unusedSimpArgs false

theorem place_yes {P id : Int} {T R : List Visit4} {k : Nat} {x : Int} (hv : deskValid ⟨P, T, R⟩ = true) (hi : idxOf id T = some k) (hx : (bookPlaces T)[k]? = some x) : deskPlace ⟨P, T, R⟩ id = x := by
  unfold deskPlace; rw [if_pos hv]; simp [hi, hx]
theorem place_no {P id : Int} {T R : List Visit4} (hi : noBook id T = true) : deskPlace ⟨P, T, R⟩ id = -1 := by
  unfold deskPlace; split
  · simp [idx_none hi]
  · rfl
theorem place_bad {P id : Int} {T R : List Visit4} (hv : deskValid ⟨P, T, R⟩ = false) : deskPlace ⟨P, T, R⟩ id = -1 := by
  unfold deskPlace; simp [hv]

set_option maxRecDepth 100000 in
set_option maxHeartbeats 8000000 in
theorem specDp_bad (P : Int) (q : Option Addr) (m c2 : Nat) (q2 : Option Addr) (m2 d2 : Nat) (id : Int) (X : Int) (w : World) (HF : Hid (∀ w', Ext w w' → Calls Try.prog 29 #[.slice q m c2, .int .i64 id] w' fun e w'' => e = .returned (.int .i64 X) ∧ Ext w' w'')) (HV : Hid (∀ w', Ext w w' → Calls Try.prog 27 #[.agg #[.int .i64 P, .slice q m c2, .slice q2 m2 d2]] w' fun e w'' => e = .returned (.bool false) ∧ Ext w' w'')) :
    Calls Try.prog 25 #[.agg #[.int .i64 P, .slice q m c2, .slice q2 m2 d2], .int .i64 id] w fun e w' => e = .returned (.int .i64 (-1)) ∧ Ext w w' := by
  go_enter Try.func25, Try.ntmps25
  go_wp2_with fail
  refine (HF.out _ (((Mem.start w).blkNew TDk #[.int .i64 P, .slice q m c2, .slice q2 m2 d2] (w.heap.size) (by simp))).ext).mono ?_
  rintro e w1 ⟨rfl, hx1⟩
  have M1 := Lib.hid ((((Mem.start w).blkNew TDk #[.int .i64 P, .slice q m c2, .slice q2 m2 d2] (w.heap.size) (by simp))).adv hx1)
  have lt1_0 : w.heap.size < w1.heap.size := (M1.out.lt (i := 0) rfl rfl).2
  clear hx1
  obtain ⟨ca0, ca1, ca2⟩ := (M1.out.blk (i := 0) rfl).tri
  go_wp2_with fail
  clear ca0 ca1 ca2
  refine (HV.out _ (M1.out).ext).mono ?_
  rintro e w2 ⟨rfl, hx2⟩
  have M2 := Lib.hid ((M1.out).adv hx2)
  clear M1
  clear lt1_0
  have lt2_0 : w.heap.size < w2.heap.size := (M2.out.lt (i := 0) rfl rfl).2
  clear hx2
  go_wp2
  go_ret
  exact ⟨rfl, M2.out.ext⟩
set_option maxRecDepth 100000 in
set_option maxHeartbeats 8000000 in
theorem specDp_no (P : Int) (q : Option Addr) (m c2 : Nat) (q2 : Option Addr) (m2 d2 : Nat) (id : Int) (w : World) (HF : Hid (∀ w', Ext w w' → Calls Try.prog 29 #[.slice q m c2, .int .i64 id] w' fun e w'' => e = .returned (.int .i64 (-1)) ∧ Ext w' w'')) (HV : Hid (∀ w', Ext w w' → Calls Try.prog 27 #[.agg #[.int .i64 P, .slice q m c2, .slice q2 m2 d2]] w' fun e w'' => e = .returned (.bool true) ∧ Ext w' w'')) :
    Calls Try.prog 25 #[.agg #[.int .i64 P, .slice q m c2, .slice q2 m2 d2], .int .i64 id] w fun e w' => e = .returned (.int .i64 (-1)) ∧ Ext w w' := by
  go_enter Try.func25, Try.ntmps25
  go_wp2_with fail
  refine (HF.out _ (((Mem.start w).blkNew TDk #[.int .i64 P, .slice q m c2, .slice q2 m2 d2] (w.heap.size) (by simp))).ext).mono ?_
  rintro e w1 ⟨rfl, hx1⟩
  have M1 := Lib.hid ((((Mem.start w).blkNew TDk #[.int .i64 P, .slice q m c2, .slice q2 m2 d2] (w.heap.size) (by simp))).adv hx1)
  have lt1_0 : w.heap.size < w1.heap.size := (M1.out.lt (i := 0) rfl rfl).2
  clear hx1
  obtain ⟨ca0, ca1, ca2⟩ := (M1.out.blk (i := 0) rfl).tri
  go_wp2_with fail
  clear ca0 ca1 ca2
  refine (HV.out _ (M1.out).ext).mono ?_
  rintro e w2 ⟨rfl, hx2⟩
  have M2 := Lib.hid ((M1.out).adv hx2)
  clear M1
  clear lt1_0
  have lt2_0 : w.heap.size < w2.heap.size := (M2.out.lt (i := 0) rfl rfl).2
  clear hx2
  go_wp2
  go_ret
  exact ⟨rfl, M2.out.ext⟩
set_option maxRecDepth 100000 in
set_option maxHeartbeats 8000000 in
theorem specDp_yes (P : Int) (q : Option Addr) (m c2 : Nat) (q2 : Option Addr) (m2 d2 : Nat) (id : Int) (k : Nat) (x : Int) (ys : List Int) (hk : k < ys.length) (hy : Hid (ys[k]? = some x)) (w : World) (HF : Hid (∀ w', Ext w w' → Calls Try.prog 29 #[.slice q m c2, .int .i64 id] w' fun e w'' => e = .returned (.int .i64 (k : Int)) ∧ Ext w' w'')) (HV : Hid (∀ w', Ext w w' → Calls Try.prog 27 #[.agg #[.int .i64 P, .slice q m c2, .slice q2 m2 d2]] w' fun e w'' => e = .returned (.bool true) ∧ Ext w' w'')) (HB : Hid (∀ w', Ext w w' → Calls Try.prog 53 #[.slice q m c2] w' (RetInts ys w'))) :
    Calls Try.prog 25 #[.agg #[.int .i64 P, .slice q m c2, .slice q2 m2 d2], .int .i64 id] w fun e w' => e = .returned (.int .i64 x) ∧ Ext w w' := by
  go_enter Try.func25, Try.ntmps25
  go_wp2_with fail
  refine (HF.out _ (((Mem.start w).blkNew TDk #[.int .i64 P, .slice q m c2, .slice q2 m2 d2] (w.heap.size) (by simp))).ext).mono ?_
  rintro e w1 ⟨rfl, hx1⟩
  have M1 := Lib.hid ((((Mem.start w).blkNew TDk #[.int .i64 P, .slice q m c2, .slice q2 m2 d2] (w.heap.size) (by simp))).adv hx1)
  have lt1_0 : w.heap.size < w1.heap.size := (M1.out.lt (i := 0) rfl rfl).2
  clear hx1
  obtain ⟨ca0, ca1, ca2⟩ := (M1.out.blk (i := 0) rfl).tri
  go_wp2_with fail
  clear ca0 ca1 ca2
  refine (HV.out _ (M1.out).ext).mono ?_
  rintro e w2 ⟨rfl, hx2⟩
  have M2 := Lib.hid ((M1.out).adv hx2)
  clear M1
  clear lt1_0
  have lt2_0 : w.heap.size < w2.heap.size := (M2.out.lt (i := 0) rfl rfl).2
  clear hx2
  obtain ⟨ca0, ca1, ca2⟩ := (M2.out.blk (i := 0) rfl).tri
  go_wp2_with fail
  clear ca0 ca1 ca2
  refine (HB.out _ (M2.out).ext).mono ?_
  rintro e w3 ⟨pz, cz, rfl, hoz, hx3⟩
  have SZ := Sl.own hoz
  have M3 := Lib.hid ((M2.out).adv hx3)
  clear M2
  clear lt2_0
  have lt3_0 : w.heap.size < w3.heap.size := (M3.out.lt (i := 0) rfl rfl).2
  clear hx3
  obtain ⟨bz, oz, x', rfl, hx', hbz, hcz⟩ := SZ.int_at (k := k) hk
  rw [hy.out] at hx'
  cases hx'
  have i1 : (0 : Int) ≤ (k : Int) := by omega
  have i2 : (k : Int) < (ys.length : Int) := by omega
  clear hoz SZ
  go_wp2
  go_ret
  exact ⟨rfl, M3.out.ext⟩
theorem specDp (d : DeskD) (q : Option Addr) (c2 : Nat) (q2 : Option Addr) (d2 : Nat) (id : Int) (w : World) (hi : IsDesk w d q c2 q2 d2) :
    Calls Try.prog 25 #[deskV d.places q d.taken.length c2 q2 d.row.length d2, .int .i64 id] w fun e w' => e = .returned (.int .i64 (deskPlace d id)) ∧ Ext w w' := by
  obtain ⟨P, T, R⟩ := d
  have HV0 : ∀ w', Ext w w' → Calls Try.prog 27 #[deskV P q T.length c2 q2 R.length d2] w' fun e w'' => e = .returned (.bool (deskValid ⟨P, T, R⟩)) ∧ Ext w' w'' := fun w' hx => specDv P q T.length c2 q2 R.length d2 T R w' (hi.tk.ext hx) (hi.rw.ext hx)
  have HF0 : ∀ w', Ext w w' → Calls Try.prog 29 #[.slice q T.length c2, .int .i64 id] w' fun e w'' => e = .returned (.int .i64 (vix id T)) ∧ Ext w' w'' := fun w' hx => l6Find_any id q T.length c2 T w' (hi.tk.ext hx)
  cases hv : deskValid ⟨P, T, R⟩ with
  | false =>
    rw [place_bad hv]
    rw [hv] at HV0
    exact specDp_bad P q T.length c2 q2 R.length d2 id (vix id T) w HF0 HV0
  | true =>
    rw [hv] at HV0
    cases hn : noBook id T with
    | true =>
      rw [place_no hn]
      rw [vix_neg hn] at HF0
      exact specDp_no P q T.length c2 q2 R.length d2 id w HF0 HV0
    | false =>
      obtain ⟨k, hk, hx, hi2⟩ := vix_pos hn
      rw [hx] at HF0
      have hok : booksOk T = true := (desk_iff.1 hv).ok
      have hpl := places_len hok
      obtain ⟨x, hxx⟩ : ∃ x, (bookPlaces T)[k]? = some x := ⟨_, List.getElem?_eq_getElem (by omega)⟩
      rw [place_yes hv hi2 hxx]
      obtain ⟨b, off, rfl, _, _⟩ := hi.tk.rd (show 0 < T.length by omega)
      exact specDp_yes P _ T.length c2 q2 R.length d2 id k x (bookPlaces T) (by omega) hxx w HF0 HV0 (fun w' hx => specBp b off T.length c2 T w' hok (by omega) (hi.tk.ext hx))
set_option maxRecDepth 100000 in
set_option maxHeartbeats 8000000 in
theorem implDp_bad (P : Int) (q : Option Addr) (m c2 : Nat) (q2 : Option Addr) (m2 d2 : Nat) (id : Int) (w : World) (HV : Hid (∀ w', Ext w w' → Calls Try.prog 32 #[.agg #[.int .i64 P, .slice q m c2, .slice q2 m2 d2]] w' fun e w'' => e = .returned (.bool false) ∧ Ext w' w'')) :
    Calls Try.prog 26 #[.agg #[.int .i64 P, .slice q m c2, .slice q2 m2 d2], .int .i64 id] w fun e w' => e = .returned (.int .i64 (-1)) ∧ Ext w w' := by
  go_enter Try.func26, Try.ntmps26
  go_wp2_with fail
  refine (HV.out _ (((Mem.start w).blkNew TDk #[.int .i64 P, .slice q m c2, .slice q2 m2 d2] (w.heap.size) (by simp))).ext).mono ?_
  rintro e w1 ⟨rfl, hx1⟩
  have M1 := Lib.hid ((((Mem.start w).blkNew TDk #[.int .i64 P, .slice q m c2, .slice q2 m2 d2] (w.heap.size) (by simp))).adv hx1)
  have lt1_0 : w.heap.size < w1.heap.size := (M1.out.lt (i := 0) rfl rfl).2
  clear hx1
  go_wp2
  go_ret
  exact ⟨rfl, M1.out.ext⟩
set_option maxRecDepth 100000 in
set_option maxHeartbeats 8000000 in
theorem implDp_no (P : Int) (q : Option Addr) (m c2 : Nat) (q2 : Option Addr) (m2 d2 : Nat) (id : Int) (w : World) (HF : Hid (∀ w', Ext w w' → Calls Try.prog 34 #[.slice q m c2, .int .i64 id] w' fun e w'' => e = .returned (.int .i64 (-1)) ∧ Ext w' w'')) (HV : Hid (∀ w', Ext w w' → Calls Try.prog 32 #[.agg #[.int .i64 P, .slice q m c2, .slice q2 m2 d2]] w' fun e w'' => e = .returned (.bool true) ∧ Ext w' w'')) :
    Calls Try.prog 26 #[.agg #[.int .i64 P, .slice q m c2, .slice q2 m2 d2], .int .i64 id] w fun e w' => e = .returned (.int .i64 (-1)) ∧ Ext w w' := by
  go_enter Try.func26, Try.ntmps26
  go_wp2_with fail
  refine (HV.out _ (((Mem.start w).blkNew TDk #[.int .i64 P, .slice q m c2, .slice q2 m2 d2] (w.heap.size) (by simp))).ext).mono ?_
  rintro e w1 ⟨rfl, hx1⟩
  have M1 := Lib.hid ((((Mem.start w).blkNew TDk #[.int .i64 P, .slice q m c2, .slice q2 m2 d2] (w.heap.size) (by simp))).adv hx1)
  have lt1_0 : w.heap.size < w1.heap.size := (M1.out.lt (i := 0) rfl rfl).2
  clear hx1
  obtain ⟨ca0, ca1, ca2⟩ := (M1.out.blk (i := 0) rfl).tri
  go_wp2_with fail
  clear ca0 ca1 ca2
  refine (HF.out _ (M1.out).ext).mono ?_
  rintro e w2 ⟨rfl, hx2⟩
  have M2 := Lib.hid ((M1.out).adv hx2)
  clear M1
  clear lt1_0
  have lt2_0 : w.heap.size < w2.heap.size := (M2.out.lt (i := 0) rfl rfl).2
  clear hx2
  go_wp2
  go_ret
  exact ⟨rfl, M2.out.ext⟩
set_option maxRecDepth 100000 in
set_option maxHeartbeats 8000000 in
theorem implDp_yes (P : Int) (q : Option Addr) (m c2 : Nat) (q2 : Option Addr) (m2 d2 : Nat) (id : Int) (k : Nat) (x : Int) (ys : List Int) (hk : k < ys.length) (hy : Hid (ys[k]? = some x)) (w : World) (HF : Hid (∀ w', Ext w w' → Calls Try.prog 34 #[.slice q m c2, .int .i64 id] w' fun e w'' => e = .returned (.int .i64 (k : Int)) ∧ Ext w' w'')) (HV : Hid (∀ w', Ext w w' → Calls Try.prog 32 #[.agg #[.int .i64 P, .slice q m c2, .slice q2 m2 d2]] w' fun e w'' => e = .returned (.bool true) ∧ Ext w' w'')) (HB : Hid (∀ w', Ext w w' → Calls Try.prog 54 #[.slice q m c2] w' (RetInts ys w'))) :
    Calls Try.prog 26 #[.agg #[.int .i64 P, .slice q m c2, .slice q2 m2 d2], .int .i64 id] w fun e w' => e = .returned (.int .i64 x) ∧ Ext w w' := by
  go_enter Try.func26, Try.ntmps26
  go_wp2_with fail
  refine (HV.out _ (((Mem.start w).blkNew TDk #[.int .i64 P, .slice q m c2, .slice q2 m2 d2] (w.heap.size) (by simp))).ext).mono ?_
  rintro e w1 ⟨rfl, hx1⟩
  have M1 := Lib.hid ((((Mem.start w).blkNew TDk #[.int .i64 P, .slice q m c2, .slice q2 m2 d2] (w.heap.size) (by simp))).adv hx1)
  have lt1_0 : w.heap.size < w1.heap.size := (M1.out.lt (i := 0) rfl rfl).2
  clear hx1
  obtain ⟨ca0, ca1, ca2⟩ := (M1.out.blk (i := 0) rfl).tri
  go_wp2_with fail
  clear ca0 ca1 ca2
  refine (HF.out _ (M1.out).ext).mono ?_
  rintro e w2 ⟨rfl, hx2⟩
  have M2 := Lib.hid ((M1.out).adv hx2)
  clear M1
  clear lt1_0
  have lt2_0 : w.heap.size < w2.heap.size := (M2.out.lt (i := 0) rfl rfl).2
  clear hx2
  obtain ⟨ca0, ca1, ca2⟩ := (M2.out.blk (i := 0) rfl).tri
  go_wp2_with fail
  clear ca0 ca1 ca2
  refine (HB.out _ (M2.out).ext).mono ?_
  rintro e w3 ⟨pz, cz, rfl, hoz, hx3⟩
  have SZ := Sl.own hoz
  have M3 := Lib.hid ((M2.out).adv hx3)
  clear M2
  clear lt2_0
  have lt3_0 : w.heap.size < w3.heap.size := (M3.out.lt (i := 0) rfl rfl).2
  clear hx3
  obtain ⟨bz, oz, x', rfl, hx', hbz, hcz⟩ := SZ.int_at (k := k) hk
  rw [hy.out] at hx'
  cases hx'
  have i1 : (0 : Int) ≤ (k : Int) := by omega
  have i2 : (k : Int) < (ys.length : Int) := by omega
  clear hoz SZ
  go_wp2
  go_ret
  exact ⟨rfl, M3.out.ext⟩
theorem implDp (d : DeskD) (q : Option Addr) (c2 : Nat) (q2 : Option Addr) (d2 : Nat) (id : Int) (w : World) (hi : IsDesk w d q c2 q2 d2) :
    Calls Try.prog 26 #[deskV d.places q d.taken.length c2 q2 d.row.length d2, .int .i64 id] w fun e w' => e = .returned (.int .i64 (deskPlace d id)) ∧ Ext w w' := by
  obtain ⟨P, T, R⟩ := d
  have HV0 : ∀ w', Ext w w' → Calls Try.prog 32 #[deskV P q T.length c2 q2 R.length d2] w' fun e w'' => e = .returned (.bool (deskValid ⟨P, T, R⟩)) ∧ Ext w' w'' := fun w' hx => implDv P q T.length c2 q2 R.length d2 T R w' (hi.tk.ext hx) (hi.rw.ext hx)
  have HF0 : ∀ w', Ext w w' → Calls Try.prog 34 #[.slice q T.length c2, .int .i64 id] w' fun e w'' => e = .returned (.int .i64 (vix id T)) ∧ Ext w' w'' := fun w' hx => bookIndex_any id q T.length c2 T w' (hi.tk.ext hx)
  cases hv : deskValid ⟨P, T, R⟩ with
  | false =>
    rw [place_bad hv]
    rw [hv] at HV0
    exact implDp_bad P q T.length c2 q2 R.length d2 id  w  HV0
  | true =>
    rw [hv] at HV0
    cases hn : noBook id T with
    | true =>
      rw [place_no hn]
      rw [vix_neg hn] at HF0
      exact implDp_no P q T.length c2 q2 R.length d2 id w HF0 HV0
    | false =>
      obtain ⟨k, hk, hx, hi2⟩ := vix_pos hn
      rw [hx] at HF0
      have hok : booksOk T = true := (desk_iff.1 hv).ok
      have hpl := places_len hok
      obtain ⟨x, hxx⟩ : ∃ x, (bookPlaces T)[k]? = some x := ⟨_, List.getElem?_eq_getElem (by omega)⟩
      rw [place_yes hv hi2 hxx]
      obtain ⟨b, off, rfl, _, _⟩ := hi.tk.rd (show 0 < T.length by omega)
      exact implDp_yes P _ T.length c2 q2 R.length d2 id k x (bookPlaces T) (by omega) hxx w HF0 HV0 (fun w' hx => implBp b off T.length c2 T w' hok (by omega) (hi.tk.ext hx))
end Go.Proofs.Ytndcnflchkfaeaa
