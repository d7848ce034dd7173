/-
  The helpers of the laws on slices of HouseDeed: to, sz, eq, mark, held. Conditions: the slices read as lists of at most 2^40 elements.
-/
import Derived.Test.YtgojmmhfablapaaDoorSpecRead2
import Derived.Test.YtgojmmhfablapaaDoorJournal
import Derived.Test.YtgojmmhfablapaaDoorMarks
import Derived.Deep.RegionHeld3
namespace Go.Proofs.YtgojmmhfablapaaDoor
open Go.RowKit
set_option linter.unusedVariables false

theorem infoDeed : (Tryd.prog.info? 25).map (fun i => (i.zero, i.size, i.bytes)) = some (some (.agg #[.int .i64 0, .int .i64 0, .int .i64 0]), 3, 24) := by kernel_rfl

set_option maxRecDepth 100000 in
set_option maxHeartbeats 1000000 in
theorem toDeed1 (a b c : Int) (w : World) :
    Calls Tryd.prog 15 #[.agg #[.int .i64 a, .int .i64 b, .int .i64 c]] w fun e w' => e = .returned (.agg #[.int .i64 a, .int .i64 b, .int .i64 c]) ∧ Ext w w' := by
  go_enter Tryd.func15, Tryd.ntmps15
  go_wp2
  exact bodyPost_ret (v := .agg #[.int .i64 a, .int .i64 b, .int .i64 c]) (by simp [results, Tryd.results15, go_sem]) rfl ⟨rfl, by (repeat' (first | exact Ext.refl _ | (with_reducible assumption) | (with_reducible refine Ext.alloc ?_ _) | (with_reducible refine Ext.setCell ?_ (by first | exact Nat.le_refl _ | (dsimp only; omega) | (simp; done) | (simp; omega)) _) | (with_reducible refine Ext.drew ?_) | (with_reducible refine Ext.drewN ?_ _) | (refine Ext.trans ?_ (by with_reducible assumption))))⟩

set_option maxRecDepth 100000 in
set_option maxHeartbeats 1000000 in
theorem eqDeed1 (a b c x y z : Int) (w : World) :
    Calls Tryd.prog 30 #[.agg #[.int .i64 a, .int .i64 b, .int .i64 c], .agg #[.int .i64 x, .int .i64 y, .int .i64 z]] w fun e w' => e = .returned (.bool (decide (a = x ∧ b = y ∧ c = z))) ∧ Ext w w' := by
  go_enter Tryd.func30, Tryd.ntmps30
  go_wp2
  all_goals go_ret
  all_goals refine ⟨ret_bool ?_, by (repeat' (first | exact Ext.refl _ | (with_reducible assumption) | (with_reducible refine Ext.alloc ?_ _) | (with_reducible refine Ext.setCell ?_ (by first | exact Nat.le_refl _ | (dsimp only; omega) | (simp; done) | (simp; omega)) _) | (with_reducible refine Ext.drew ?_) | (with_reducible refine Ext.drewN ?_ _) | (refine Ext.trans ?_ (by with_reducible assumption))))⟩
  all_goals simp_all

set_option maxRecDepth 100000 in
set_option maxHeartbeats 1000000 in
theorem szDeed (p : Option Addr) (n cap : Nat) (left : Int) (w : World) (hn : n ≤ 9223372036854775807) (hl : 0 ≤ left) (hl2 : left ≤ 1048576) :
    Calls Tryd.prog 23 #[.slice p n cap, .int .i64 left] w fun e w' => e = .returned (.int .i64 (if left < n then -1 else left - n)) ∧ w = w' := by
  by_cases h : left < n
  · rw [if_pos h]
    go_enter Tryd.func23, Tryd.ntmps23
    go_wp2
    go_ret
    exact ⟨rfl, rfl⟩
  · rw [if_neg h]
    go_enter Tryd.func23, Tryd.ntmps23
    go_wp2
    go_ret
    exact ⟨rfl, rfl⟩

set_option maxRecDepth 100000 in
set_option maxHeartbeats 1000000 in
theorem toDeedS_some (ds : List Deed3) (b off n cap : Nat) (w : World) (hn : ds.length = n) (hn2 : n ≤ 1099511627776) (hb : b < w.heap.size)
    (HR : Hid (Rd w (.slice (some ⟨b, off, none⟩) n cap) n 3 (ds.flatMap deedCells))) :
    Calls Tryd.prog 25 #[.slice (some ⟨b, off, none⟩) n cap] w fun e w' => ∃ g, e = .returned (.slice (some ⟨g, 0, none⟩) n n) ∧ w'.ownsRow w.heap.size 25 3 (.slice (some ⟨g, 0, none⟩) n n) n (ds.flatMap deedCells) ∧ Ext w w' := by
  obtain ⟨i0, hi, hz0, hz1, hz2⟩ := info_parts infoDeed
  have HN := Lib.hid hn
  clear hn
  go_enter Tryd.func25, Tryd.ntmps25
  go_wp2_with (at_make; refine wpList_make_full _ rfl _ _ 38 rfl w.heap.size 25 i0 (.agg #[.int .i64 0, .int .i64 0, .int .i64 0]) 3 Tryd.underlying38 hi hz0 hz1 .i64 .i64 _ _ n rfl rfl rfl rfl (by rw [hz2]; omega) (by unfold maxLen; omega) (Nat.le_refl _) ?_; intro w0 hown0 hgrow0)
  have hE0 : Ext w w0 := (Ext.refl w).grown hgrow0 (fun q hq => by cases hq)
  clear hgrow0 hi hz0 hz1 hz2
  have hle0 := (hown0.lt w.heap.size rfl).2
  have HO0 := Lib.hid hown0
  clear hown0
  go_loopw [4] (fun i wr => ∃ (k : Nat) (rest : List Value), k ≤ n ∧ i = .int .i64 k ∧ rest.length = (n - k) * 3 ∧ wr.ownsRow w.heap.size 25 3 (.slice (some ⟨w.heap.size, 0, none⟩) n n) n ((ds.take k).flatMap deedCells ++ rest) ∧ Ext w wr) (fun i _ => n - (intOf i).toNat)
  case atStart => exact ⟨0, _, Nat.zero_le _, rfl, by rw [HO0.out.1]; simp, by simpa using HO0.out, hE0⟩
  case round =>
    obtain ⟨k, rest, hk, rfl, hrl, hown, hE⟩ := hrel
    have HOWN := Lib.hid hown
    have HRL := Lib.hid hrl
    clear hown hrl
    by_cases hlt : k < n
    · obtain ⟨d, hd⟩ : ∃ d, ds[k]? = some d := ⟨_, List.getElem?_eq_getElem (by rw [HN.out]; exact hlt)⟩
      have HD := Lib.hid hd
      clear hd
      have hsz := hE.sz
      have e0 : wr.cell? ⟨b, off + k * 3, none⟩ = some (.int .i64 d.1) := (hE.cells.1 _ _ hb).trans ((HR.out).at (f := deedCells) (fun _ => rfl) HD.out HN.out 0 (by omega))
      have e1 : wr.cell? ⟨b, off + k * 3 + 1, none⟩ = some (.int .i64 d.2.1) := (hE.cells.1 _ _ hb).trans ((HR.out).at (f := deedCells) (fun _ => rfl) HD.out HN.out 1 (by omega))
      have e2 : wr.cell? ⟨b, off + k * 3 + 2, none⟩ = some (.int .i64 d.2.2) := (hE.cells.1 _ _ hb).trans ((HR.out).at (f := deedCells) (fun _ => rfl) HD.out HN.out 2 (by omega))
      obtain ⟨d0, d1, d2⟩ := d
      obtain ⟨r0, r1, r2, rest', hrest⟩ : ∃ r0 r1 r2 rest', rest = r0 :: r1 :: r2 :: rest' := by
        have h3 : 3 ≤ rest.length := by
          rw [HRL.out]
          have := Nat.mul_le_mul_right 3 (show 1 ≤ n - k by omega)
          omega
        match rest, h3 with
        | r0 :: r1 :: r2 :: rest', _ => exact ⟨r0, r1, r2, rest', rfl⟩
      have hpl : ((ds.take k).flatMap deedCells).length = k * 3 := by rw [flat_len deedCells 3 (fun _ => rfl)]; simp; rw [HN.out]; congr 1; omega
      go_wp2_with fail
      refine (toDeed1 d0 d1 d2 _).mono ?_
      rintro e w1 ⟨rfl, h1⟩
      have how1 := HOWN.out.kept h1.gb (by simp [Value.ownBlock])
      have hg1 : w.heap.size < w1.heap.size := (how1.lt w.heap.size rfl).2
      have o0 : w1.cell? ⟨w.heap.size, k * 3, none⟩ = some r0 := by rw [how1.cellAt _ (by have := Nat.mul_le_mul_right 3 hlt; rw [Nat.succ_mul] at this; omega), hrest, List.getElem?_append_right (by omega), hpl]; simp
      have f0 : w1.frozen? ⟨w.heap.size, k * 3, none⟩ = false := how1.frozenAt _
      have o1 : w1.cell? ⟨w.heap.size, k * 3 + 1, none⟩ = some r1 := by rw [how1.cellAt _ (by have := Nat.mul_le_mul_right 3 hlt; rw [Nat.succ_mul] at this; omega), hrest, List.getElem?_append_right (by omega), hpl]; simp
      have f1 : w1.frozen? ⟨w.heap.size, k * 3 + 1, none⟩ = false := how1.frozenAt _
      have o2 : w1.cell? ⟨w.heap.size, k * 3 + 2, none⟩ = some r2 := by rw [how1.cellAt _ (by have := Nat.mul_le_mul_right 3 hlt; rw [Nat.succ_mul] at this; omega), hrest, List.getElem?_append_right (by omega), hpl]; simp
      have f2 : w1.frozen? ⟨w.heap.size, k * 3 + 2, none⟩ = false := how1.frozenAt _
      have HO1 := Lib.hid how1
      have HPL := Lib.hid hpl
      have HREST := Lib.hid hrest
      clear how1 hpl hrest
      go_wp2
      go_roundw
      case rel =>
        refine ⟨k + 1, rest', by omega, by go_num, ?_, ?_, ?_⟩
        · have := HRL.out
          rw [HREST.out] at this
          simp only [List.length_cons] at this
          have e2 : n - k = (n - (k + 1)) + 1 := by omega
          rw [e2, Nat.succ_mul] at this
          omega
        · have hs := (((HO1.out.stored (k * 3) (.int .i64 d0)).1.stored (k * 3 + 1) (.int .i64 d1)).1.stored (k * 3 + 2) (.int .i64 d2)).1
          have e : (((((ds.take k).flatMap deedCells ++ rest).set (k * 3) (.int .i64 d0)).set (k * 3 + 1) (.int .i64 d1)).set (k * 3 + 2) (.int .i64 d2)) = (ds.take (k + 1)).flatMap deedCells ++ rest' := by
            rw [take_flat deedCells HD.out, HREST.out]
            simp [HPL.out, deedCells]
          rw [e] at hs
          exact hs
        · (repeat' (first | exact Ext.refl _ | (with_reducible assumption) | (with_reducible refine Ext.alloc ?_ _) | (with_reducible refine Ext.setCell ?_ (by first | exact Nat.le_refl _ | (dsimp only; omega) | (simp; done) | (simp; omega)) _) | (with_reducible refine Ext.drew ?_) | (with_reducible refine Ext.drewN ?_ _) | (refine Ext.trans ?_ (by with_reducible assumption))))
      case measure => simp [intOf]; omega
    · obtain rfl : k = n := by omega
      have e : ds.take k = ds := List.take_of_length_le (by rw [HN.out]; omega)
      have e2 : rest = [] := List.eq_nil_of_length_eq_zero (by rw [HRL.out]; simp)
      have HE := Lib.hid e
      have HE2 := Lib.hid e2
      clear e e2
      go_wp2
      go_ret
      refine ⟨_, rfl, ?_, hE⟩
      have := HOWN.out
      rw [HE.out, HE2.out] at this
      simpa using this


set_option maxRecDepth 100000 in
set_option maxHeartbeats 1000000 in
theorem toDeedS_zero (p : Option Addr) (cap : Nat) (w : World) :
    Calls Tryd.prog 25 #[.slice p 0 cap] w fun e w' => ∃ g, e = .returned (.slice (some ⟨g, 0, none⟩) 0 0) ∧ w'.ownsRow w.heap.size 25 3 (.slice (some ⟨g, 0, none⟩) 0 0) 0 [] ∧ Ext w w' := by
  obtain ⟨i0, hi, hz0, hz1, hz2⟩ := info_parts infoDeed
  go_enter Tryd.func25, Tryd.ntmps25
  go_wp2_with (at_make; refine wpList_make_full _ rfl _ _ 38 rfl w.heap.size 25 i0 (.agg #[.int .i64 0, .int .i64 0, .int .i64 0]) 3 Tryd.underlying38 hi hz0 hz1 .i64 .i64 _ _ 0 rfl rfl rfl rfl (by rw [hz2]; omega) (by unfold maxLen; omega) (Nat.le_refl _) ?_; intro w0 hown0 hgrow0)
  have hE0 : Ext w w0 := (Ext.refl w).grown hgrow0 (fun q hq => by cases hq)
  clear hgrow0 hi hz0 hz1 hz2
  have HO0 := Lib.hid hown0
  clear hown0
  go_wp2
  go_rounds 1
  go_ret
  exact ⟨_, rfl, by have h := HO0.out; have e := List.eq_nil_of_length_eq_zero (h.1.trans (Nat.zero_mul _)); rw [e] at h; exact h, hE0⟩


set_option maxRecDepth 100000 in
set_option maxHeartbeats 1000000 in
theorem eqDeedS_some (ds : List Deed3) (b1 o1 c1 b2 o2 c2 n : Nat) (w : World) (hn : ds.length = n) (hn2 : n ≤ 1099511627776) (hb1 : b1 < w.heap.size) (hb2 : b2 < w.heap.size)
    (HR1 : Hid (Rd w (.slice (some ⟨b1, o1, none⟩) n c1) n 3 (ds.flatMap deedCells))) (HR2 : Hid (Rd w (.slice (some ⟨b2, o2, none⟩) n c2) n 3 (ds.flatMap deedCells))) :
    Calls Tryd.prog 27 #[.slice (some ⟨b1, o1, none⟩) n c1, .slice (some ⟨b2, o2, none⟩) n c2] w fun e w' => e = .returned (.bool true) ∧ Ext w w' := by
  have HN := Lib.hid hn
  clear hn
  go_enter Tryd.func27, Tryd.ntmps27
  go_wp2
  go_loopw [5] (fun i wr => ∃ k : Nat, k ≤ n ∧ i = .int .i64 k ∧ Ext w wr) (fun i _ => n - (intOf i).toNat)
  case atStart => exact ⟨0, Nat.zero_le _, rfl, Ext.refl _⟩
  case round =>
    obtain ⟨k, hk, rfl, hE⟩ := hrel
    by_cases hlt : k < n
    · obtain ⟨d, hd⟩ : ∃ d, ds[k]? = some d := ⟨_, List.getElem?_eq_getElem (by rw [HN.out]; exact hlt)⟩
      have HD := Lib.hid hd
      clear hd
      have hsz := hE.sz
      have hb1' : b1 < wr.heap.size := Nat.lt_of_lt_of_le hb1 hsz
      have hb2' : b2 < wr.heap.size := Nat.lt_of_lt_of_le hb2 hsz
      have a0 : wr.cell? ⟨b1, o1 + k * 3, none⟩ = some (.int .i64 d.1) := (hE.cells.1 _ _ hb1).trans ((HR1.out).at (f := deedCells) (fun _ => rfl) HD.out HN.out 0 (by omega))
      have a1 : wr.cell? ⟨b1, o1 + k * 3 + 1, none⟩ = some (.int .i64 d.2.1) := (hE.cells.1 _ _ hb1).trans ((HR1.out).at (f := deedCells) (fun _ => rfl) HD.out HN.out 1 (by omega))
      have a2 : wr.cell? ⟨b1, o1 + k * 3 + 2, none⟩ = some (.int .i64 d.2.2) := (hE.cells.1 _ _ hb1).trans ((HR1.out).at (f := deedCells) (fun _ => rfl) HD.out HN.out 2 (by omega))
      have c0 : wr.cell? ⟨b2, o2 + k * 3, none⟩ = some (.int .i64 d.1) := (hE.cells.1 _ _ hb2).trans ((HR2.out).at (f := deedCells) (fun _ => rfl) HD.out HN.out 0 (by omega))
      have c1 : wr.cell? ⟨b2, o2 + k * 3 + 1, none⟩ = some (.int .i64 d.2.1) := (hE.cells.1 _ _ hb2).trans ((HR2.out).at (f := deedCells) (fun _ => rfl) HD.out HN.out 1 (by omega))
      have c2 : wr.cell? ⟨b2, o2 + k * 3 + 2, none⟩ = some (.int .i64 d.2.2) := (hE.cells.1 _ _ hb2).trans ((HR2.out).at (f := deedCells) (fun _ => rfl) HD.out HN.out 2 (by omega))
      obtain ⟨d0, d1, d2⟩ := d
      have HQ : Hid (∀ w, Calls Tryd.prog 30 #[.agg #[.int .i64 d0, .int .i64 d1, .int .i64 d2], .agg #[.int .i64 d0, .int .i64 d1, .int .i64 d2]] w fun e w' => e = .returned (.bool true) ∧ Ext w w') := fun w => (eqDeed1 d0 d1 d2 d0 d1 d2 w).mono fun e w' h => by simpa using h
      have i1 : (0 : Int) ≤ (k : Int) := by omega
      have i2 : (k : Int) < (n : Int) := by omega
      go_wp2
      go_region_held3 (fun w' => w'.cell? ⟨b1, o1 + k * 3, none⟩ = some (.int .i64 d0) ∧ w'.cell? ⟨b1, o1 + k * 3 + 1, none⟩ = some (.int .i64 d1) ∧ w'.cell? ⟨b1, o1 + k * 3 + 2, none⟩ = some (.int .i64 d2) ∧ w'.cell? ⟨b2, o2 + k * 3, none⟩ = some (.int .i64 d0) ∧ w'.cell? ⟨b2, o2 + k * 3 + 1, none⟩ = some (.int .i64 d1) ∧ w'.cell? ⟨b2, o2 + k * 3 + 2, none⟩ = some (.int .i64 d2)) (go_keep) ((go_at_call 30; refine (HQ.out _).mono ?_; rintro e w1 ⟨rfl, h1⟩; (try replace h1 := h1.of_drew); have hce := h1.cells.1))
      all_goals go_wp2
      all_goals go_roundw
      all_goals first
        | (case rel => exact ⟨k + 1, by omega, by go_num, by (repeat' (first | exact Ext.refl _ | (with_reducible assumption) | (with_reducible refine Ext.alloc ?_ _) | (with_reducible refine Ext.setCell ?_ (by first | exact Nat.le_refl _ | (dsimp only; omega) | (simp; done) | (simp; omega)) _) | (with_reducible refine Ext.drew ?_) | (with_reducible refine Ext.drewN ?_ _) | (refine Ext.trans ?_ (by with_reducible assumption))))⟩)
        | (case measure => simp [intOf]; omega)
    · go_wp2
      go_ret
      exact ⟨rfl, by (repeat' (first | exact Ext.refl _ | (with_reducible assumption) | (with_reducible refine Ext.alloc ?_ _) | (with_reducible refine Ext.setCell ?_ (by first | exact Nat.le_refl _ | (dsimp only; omega) | (simp; done) | (simp; omega)) _) | (with_reducible refine Ext.drew ?_) | (with_reducible refine Ext.drewN ?_ _) | (refine Ext.trans ?_ (by with_reducible assumption))))⟩

set_option maxRecDepth 100000 in
set_option maxHeartbeats 1000000 in
theorem eqDeedS_zero (p q : Option Addr) (c1 c2 : Nat) (w : World) :
    Calls Tryd.prog 27 #[.slice p 0 c1, .slice q 0 c2] w fun e w' => e = .returned (.bool true) ∧ Ext w w' := by
  go_enter Tryd.func27, Tryd.ntmps27
  go_wp2
  go_rounds 1
  go_ret
  exact ⟨rfl, by (repeat' (first | exact Ext.refl _ | (with_reducible assumption) | (with_reducible refine Ext.alloc ?_ _) | (with_reducible refine Ext.setCell ?_ (by first | exact Nat.le_refl _ | (dsimp only; omega) | (simp; done) | (simp; omega)) _) | (with_reducible refine Ext.drew ?_) | (with_reducible refine Ext.drewN ?_ _) | (refine Ext.trans ?_ (by with_reducible assumption))))⟩


set_option maxRecDepth 100000 in
set_option maxHeartbeats 1000000 in
theorem markDeedS_some (g n cap base : Nat) (xs : List Value) (K0 : Int) (w : World) (hn2 : n ≤ 1099511627776) (h0 : 0 ≤ K0) (h1 : K0 ≤ 4611686018427387904)
    (HO : Hid (w.ownsRow base 25 3 (.slice (some ⟨g, 0, none⟩) n cap) n xs)) :
    Calls Tryd.prog 38 #[.slice (some ⟨g, 0, none⟩) n cap, .int .i64 K0] w fun e w' => e = .returned (.int .i64 (K0 + (n * 3 : Nat))) ∧ w'.ownsRow base 25 3 (.slice (some ⟨g, 0, none⟩) n cap) n (marksFrom K0 (n * 3)) ∧ w.grownBy w' (some g) := by
  go_enter Tryd.func38, Tryd.ntmps38
  go_wp2
  go_loopw [1, 5] (fun kk i wr => ∃ (k : Nat) (K : Int) (rest : List Value), k ≤ n ∧ kk = .int .i64 K ∧ i = .int .i64 k ∧ K = K0 + (k * 3 : Nat) ∧ rest.length = (n - k) * 3 ∧ wr.ownsRow base 25 3 (.slice (some ⟨g, 0, none⟩) n cap) n (marksFrom K0 (k * 3) ++ rest) ∧ w.grownBy wr (some g)) (fun _ i _ => n - (intOf i).toNat)
  case atStart => exact ⟨0, K0, xs, Nat.zero_le _, rfl, rfl, by simp, by rw [HO.out.1]; simp, by simpa [marksFrom] using HO.out, World.grownBy.refl _ _⟩
  case round =>
    obtain ⟨k, K, rest, hk, rfl, rfl, hK, hrl, hown, hg⟩ := hrel
    have hK1 : 0 ≤ K := by omega
    have hK2 : K ≤ 4611697013543665664 := by omega
    have HK := Lib.hid hK
    have HOWN := Lib.hid hown
    have HRL := Lib.hid hrl
    have HG := Lib.hid hg
    clear hK hown hrl hg
    by_cases hlt : k < n
    · obtain ⟨r0, r1, r2, rest', hrest⟩ : ∃ r0 r1 r2 rest', rest = r0 :: r1 :: r2 :: rest' := by
        have h3 : 3 ≤ rest.length := by
          rw [HRL.out]
          have := Nat.mul_le_mul_right 3 (show 1 ≤ n - k by omega)
          omega
        match rest, h3 with
        | r0 :: r1 :: r2 :: rest', _ => exact ⟨r0, r1, r2, rest', rfl⟩
      have hpl : (marksFrom K0 (k * 3)).length = k * 3 := marksFrom_len _ _
      have o0 : wr.cell? ⟨g, k * 3, none⟩ = some r0 := by rw [HOWN.out.cellAt _ (by have := Nat.mul_le_mul_right 3 hlt; rw [Nat.succ_mul] at this; omega), hrest, List.getElem?_append_right (by omega), hpl]; simp
      have f0 : wr.frozen? ⟨g, k * 3, none⟩ = false := HOWN.out.frozenAt _
      have o1 : wr.cell? ⟨g, k * 3 + 1, none⟩ = some r1 := by rw [HOWN.out.cellAt _ (by have := Nat.mul_le_mul_right 3 hlt; rw [Nat.succ_mul] at this; omega), hrest, List.getElem?_append_right (by omega), hpl]; simp
      have f1 : wr.frozen? ⟨g, k * 3 + 1, none⟩ = false := HOWN.out.frozenAt _
      have o2 : wr.cell? ⟨g, k * 3 + 2, none⟩ = some r2 := by rw [HOWN.out.cellAt _ (by have := Nat.mul_le_mul_right 3 hlt; rw [Nat.succ_mul] at this; omega), hrest, List.getElem?_append_right (by omega), hpl]; simp
      have f2 : wr.frozen? ⟨g, k * 3 + 2, none⟩ = false := HOWN.out.frozenAt _
      have HPL := Lib.hid hpl
      have HREST := Lib.hid hrest
      clear hpl hrest
      go_wp2
      go_roundw
      case rel =>
        refine ⟨k + 1, K + 1 + 1 + 1, rest', by omega, by go_num, by go_num, by rw [HK.out]; omega, ?_, ?_, ?_⟩
        · have := HRL.out
          rw [HREST.out] at this
          simp only [List.length_cons] at this
          have e2 : n - k = (n - (k + 1)) + 1 := by omega
          rw [e2, Nat.succ_mul] at this
          omega
        · have hs := (((HOWN.out.stored (k * 3) (.int .i64 (K))).1.stored (k * 3 + 1) (.int .i64 (K + 1))).1.stored (k * 3 + 2) (.int .i64 (K + 1 + 1))).1
          have e : ((((marksFrom K0 (k * 3) ++ rest).set (k * 3) (.int .i64 (K))).set (k * 3 + 1) (.int .i64 (K + 1))).set (k * 3 + 2) (.int .i64 (K + 1 + 1))) = marksFrom K0 ((k + 1) * 3) ++ rest' := by
            rw [marksFrom_3, HREST.out, ← HK.out]
            simp [HPL.out]
          rw [e] at hs
          exact hs
        · exact (grown_set (grown_set (grown_set HG.out _ _) _ _) _ _)
      case measure => simp [intOf]; omega
    · obtain rfl : k = n := by omega
      have e2 : rest = [] := List.eq_nil_of_length_eq_zero (by rw [HRL.out]; simp)
      have HE2 := Lib.hid e2
      clear e2
      go_wp2
      go_ret
      refine ⟨ret_int HK.out, ?_, HG.out⟩
      have := HOWN.out
      rw [HE2.out] at this
      simpa using this

set_option maxRecDepth 100000 in
set_option maxHeartbeats 1000000 in
theorem markDeedS_zero (p : Option Addr) (cap : Nat) (K0 : Int) (w : World) :
    Calls Tryd.prog 38 #[.slice p 0 cap, .int .i64 K0] w fun e w' => e = .returned (.int .i64 K0) ∧ w = w' := by
  go_enter Tryd.func38, Tryd.ntmps38
  go_wp2
  go_rounds 1
  go_ret
  exact ⟨rfl, rfl⟩

set_option maxRecDepth 100000 in
set_option maxHeartbeats 1000000 in
theorem heldDeedS_some (b off n cap : Nat) (K0 : Int) (w : World) (hn2 : n ≤ 1099511627776) (h0 : 0 ≤ K0) (h1 : K0 ≤ 4611686018427387904)
    (HR : Hid (∀ j, j < n * 3 → w.cell? ⟨b, off + j, none⟩ = some (.int .i64 (K0 + j)))) :
    Calls Tryd.prog 39 #[.slice (some ⟨b, off, none⟩) n cap, .int .i64 K0] w fun e w' => e = .returned (.int .i64 (K0 + (n * 3 : Nat))) ∧ w = w' := by
  go_enter Tryd.func39, Tryd.ntmps39
  go_wp2
  go_loop [1, 5] (fun kk i => ∃ (k : Nat) (K : Int), k ≤ n ∧ kk = .int .i64 K ∧ i = .int .i64 k ∧ K = K0 + (k * 3 : Nat)) (fun _ i => n - (intOf i).toNat)
  case atStart => exact ⟨0, K0, Nat.zero_le _, rfl, rfl, by simp⟩
  case round =>
    obtain ⟨k, K, hk, rfl, rfl, hK⟩ := hrel
    have hK1 : 0 ≤ K := by omega
    have hK2 : K ≤ 4611697013543665664 := by omega
    by_cases hlt : k < n
    · have hmul := Nat.mul_le_mul_right 3 hlt
      rw [Nat.succ_mul] at hmul
      have v0 : w.cell? ⟨b, off + k * 3, none⟩ = some (.int .i64 (K)) := by have := HR.out (k * 3 + 0) (by omega); rw [show (K : Int) = K0 + ((k * 3 + 0 : Nat) : Int) by omega]; exact this
      have v1 : w.cell? ⟨b, off + k * 3 + 1, none⟩ = some (.int .i64 (K + 1)) := by have := HR.out (k * 3 + 1) (by omega); rw [show (K + 1 : Int) = K0 + ((k * 3 + 1 : Nat) : Int) by omega]; exact this
      have v2 : w.cell? ⟨b, off + k * 3 + 2, none⟩ = some (.int .i64 (K + 1 + 1)) := by have := HR.out (k * 3 + 2) (by omega); rw [show (K + 1 + 1 : Int) = K0 + ((k * 3 + 2 : Nat) : Int) by omega]; exact this
      have HK := Lib.hid hK
      clear hK hmul
      go_wp2
      go_round
      case rel => exact ⟨k + 1, K + 1 + 1 + 1, by omega, by go_num, by go_num, by rw [HK.out]; omega⟩
      case measure => simp [intOf]; omega
    · obtain rfl : k = n := by omega
      have HK := Lib.hid hK
      clear hK
      go_wp2
      go_ret
      exact ⟨ret_int HK.out, rfl⟩

set_option maxRecDepth 100000 in
set_option maxHeartbeats 1000000 in
theorem heldDeedS_zero (p : Option Addr) (cap : Nat) (K0 : Int) (w : World) :
    Calls Tryd.prog 39 #[.slice p 0 cap, .int .i64 K0] w fun e w' => e = .returned (.int .i64 K0) ∧ w = w' := by
  go_enter Tryd.func39, Tryd.ntmps39
  go_wp2
  go_rounds 1
  go_ret
  exact ⟨rfl, rfl⟩

end Go.Proofs.YtgojmmhfablapaaDoor
