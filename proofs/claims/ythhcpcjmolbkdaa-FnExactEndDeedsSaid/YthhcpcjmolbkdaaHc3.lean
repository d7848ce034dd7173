/-
  slices.Sort on a slice of the call's own; both packages' HallCars. Conditions: slices read as lists.
-/
import Derived.Test.YthhcpcjmolbkdaaHc2
import Derived.Test.YthhcpcjmolbkdaaShelf
import Derived.Sort.OwnSortedInts
namespace Go.Proofs.Ythhcpcjmolbkdaa
open Go.RowKit
set_option linter.unusedVariables false

theorem merge_sortL (xs : List Int) : (xs.mergeSort fun x y => decide (x ≤ y)) = sortL xs := by
  refine sortL_uniq (List.mergeSort_perm _ _) ?_
  have := List.pairwise_mergeSort (le := fun x y : Int => decide (x ≤ y)) (fun a b c h1 h2 => by simp at *; omega) (fun a b => by simp; omega) xs
  simpa using this

theorem sort_any (B : Nat) (p : Option Addr) (n cap : Nat) (xs : List Int) (w : World) (h : w.ownsRow B TI 1 (.slice p n cap) n (ivs xs)) (hn : n ≤ 1000000) :
    Calls Try.prog 55 #[.slice p n cap] w fun e w' => e = .returned (.tuple #[]) ∧ w'.ownsRow B TI 1 (.slice p n cap) n (ivs (sortL xs)) ∧ w.grownBy w' (Value.slice p n cap).ownBlock := by
  have hl : xs.length = n := by have := h.1; simpa using this
  subst hl
  by_cases h0 : xs.length = 0
  · obtain rfl : xs = [] := List.eq_nil_of_length_eq_zero h0
    refine (Try.slices_Sort_int_none p cap w).mono ?_
    rintro e w' ⟨rfl, rfl⟩
    exact ⟨rfl, h, World.grownBy.refl _ _⟩
  · rcases h.2 with ⟨h1, h2⟩ | ⟨g, cap', cur, h1, hb, hg, hnc, hm, hs, ht⟩
    · exact absurd h2 h0
    · injection h1 with e1 e2 e3
      subst e1 e3
      refine (Try.slices_Sort_int g 0 cap xs w (Go.holds_of_blockI hg (by simpa using ht)) (Array.getElem?_eq_some_iff.1 hg).1 (by omega)).mono ?_
      rintro e w' ⟨rfl, k, os, rfl⟩
      rw [merge_sortL]
      exact ⟨rfl, Go.ownsRow_sortedI (sortL_len xs) hb hg hnc hm hs, Go.grownBy_sortedI _⟩

theorem own_ext {w w' : World} {B n sz : Nat} {e : TypeId} {v : Value} {xs : List Value} (ho : w.ownsRow B e sz v n xs) (h : Ext w w') : w'.ownsRow B e sz v n xs :=
  ho.kept (row := none) ⟨h.os, h.tape, h.output, h.size, fun k hk _ => h.block k hk⟩ (by cases v.ownBlock <;> simp)
theorem own_base {w : World} {B B' n sz : Nat} {e : TypeId} {v : Value} {xs : List Value} (h : w.ownsRow B e sz v n xs) (hb : B' ≤ B) : w.ownsRow B' e sz v n xs := by
  refine ⟨h.1, ?_⟩
  rcases h.2 with h2 | ⟨g, cap', cur, e1, hb', r⟩
  · exact .inl h2
  · exact .inr ⟨g, cap', cur, e1, Nat.le_trans hb hb', r⟩

set_option maxRecDepth 100000 in
set_option maxHeartbeats 1000000 in
theorem specHc_bad (wide deep : Int) (p : Option Addr) (n cap : Nat) (w : World) (HV : Hid (∀ w', Ext w w' → Calls Try.prog 45 #[hallV wide deep p n cap] w' fun e w'' => e = .returned (.bool false) ∧ Ext w' w'')) :
    Calls Try.prog 44 #[hallV wide deep p n cap] w (RetInts [] w) := by
  go_enter Try.func44, Try.ntmps44
  go_wp2_with fail
  refine (HV.out _ (by (repeat' (first | exact Ext.refl _ | (with_reducible assumption) | (with_reducible refine Ext.alloc ?_ _) | (with_reducible refine Ext.setCell ?_ (by first | exact Nat.le_refl _ | (dsimp only; omega) | (simp; done) | (simp; omega)) _) | (with_reducible refine Ext.drew ?_) | (with_reducible refine Ext.drewN ?_ _) | (refine Ext.trans ?_ (by with_reducible assumption)))))).mono ?_
  rintro e w1 ⟨rfl, h1⟩
  go_wp2
  go_ret
  have ho : ((w.alloc (.cells #[.int .i64 wide, .int .i64 deep, .slice p n cap] 33)).alloc (.cells #[] TI)).ownsRow w.heap.size TI 1 (.slice (some ⟨(w.alloc (.cells #[.int .i64 wide, .int .i64 deep, .slice p n cap] 33)).heap.size, 0, none⟩) 0 0) 0 [] := World.ownsRow_made _ #[] 0 (by simp) (by simp [maxLen]) rfl
  exact ret_ints rfl (by simpa using own_ext ho h1) (by (repeat' (first | exact Ext.refl _ | (with_reducible assumption) | (with_reducible refine Ext.alloc ?_ _) | (with_reducible refine Ext.setCell ?_ (by first | exact Nat.le_refl _ | (dsimp only; omega) | (simp; done) | (simp; omega)) _) | (with_reducible refine Ext.drew ?_) | (with_reducible refine Ext.drewN ?_ _) | (refine Ext.trans ?_ (by with_reducible assumption)))))

set_option maxRecDepth 100000 in
set_option maxHeartbeats 1000000 in
theorem specHc_ok (wide deep : Int) (p : Option Addr) (n cap : Nat) (xs : List Int) (w : World) (hn : n ≤ 12) (HS : Hid (Sl w p n cap 1 (ivs xs))) (HV : Hid (∀ w', Ext w w' → Calls Try.prog 45 #[hallV wide deep p n cap] w' fun e w'' => e = .returned (.bool true) ∧ Ext w' w'')) :
    Calls Try.prog 44 #[hallV wide deep p n cap] w (RetInts (carsOf xs) w) := by
  have hl := Lib.hid HS.out.ilen
  go_enter Try.func44, Try.ntmps44
  go_wp2_with fail
  refine (HV.out _ (by (repeat' (first | exact Ext.refl _ | (with_reducible assumption) | (with_reducible refine Ext.alloc ?_ _) | (with_reducible refine Ext.setCell ?_ (by first | exact Nat.le_refl _ | (dsimp only; omega) | (simp; done) | (simp; omega)) _) | (with_reducible refine Ext.drew ?_) | (with_reducible refine Ext.drewN ?_ _) | (refine Ext.trans ?_ (by with_reducible assumption)))))).mono ?_
  rintro e w1 ⟨rfl, h1⟩
  have ho : ((w.alloc (.cells #[.int .i64 wide, .int .i64 deep, .slice p n cap] 33)).alloc (.cells #[] TI)).ownsRow w.heap.size TI 1 (.slice (some ⟨(w.alloc (.cells #[.int .i64 wide, .int .i64 deep, .slice p n cap] 33)).heap.size, 0, none⟩) 0 0) 0 [] := World.ownsRow_made _ #[] 0 (by simp) (by simp [maxLen]) rfl
  have HO0 := Lib.hid (own_ext ho h1)
  have hz1 : w.heap.size < w1.heap.size := Nat.lt_of_lt_of_le (by first | (simp; omega) | simp) h1.sz
  have eb : w1.cell? ⟨w.heap.size, 2, none⟩ = some (.slice p n cap) := by rw [h1.cells.1 _ _ (by simp; omega)]; simp
  have hx1 : Ext w w1 := by (repeat' (first | exact Ext.refl _ | (with_reducible assumption) | (with_reducible refine Ext.alloc ?_ _) | (with_reducible refine Ext.setCell ?_ (by first | exact Nat.le_refl _ | (dsimp only; omega) | (simp; done) | (simp; omega)) _) | (with_reducible refine Ext.drew ?_) | (with_reducible refine Ext.drewN ?_ _) | (refine Ext.trans ?_ (by with_reducible assumption))))
  clear ho
  go_wp2
  go_loopw [3, 4] (fun v i wr => ∃ (k : Nat) (q : Option Addr) (m c : Nat), k ≤ n ∧ i = .int .i64 k ∧ v = .slice q m c ∧ m ≤ k ∧ wr.ownsRow w.heap.size TI 1 (.slice q m c) m (ivs (sortL (posOfL (xs.take k)))) ∧ Ext w1 wr) (fun _ i _ => n - (intOf i).toNat)
  case atStart => exact ⟨0, _, 0, 0, Nat.zero_le _, rfl, rfl, Nat.le_refl _, by simpa [posOfL, sortL] using HO0.out, Ext.refl _⟩
  case round =>
    obtain ⟨k, q, m, c, hk, rfl, rfl, hmk, hown, hE⟩ := hrel
    have HO := Lib.hid hown
    have hEw := hx1.trans hE
    have hsz := hE.sz
    have ec : wr.cell? ⟨w.heap.size, 2, none⟩ = some (.slice p n cap) := (hE.cells.1 _ _ hz1).trans eb
    clear hown
    by_cases hlt : k < n
    · obtain ⟨b, off, x, rfl, hx, hb, hcell⟩ := (HS.out.ext hEw).int_at hlt
      have HX := Lib.hid hx
      clear hx
      by_cases hx0 : 0 < x
      · have hfin : Hid (sortL (posOfL (xs.take (k + 1))) = insL x (sortL (posOfL (xs.take k)))) := by
          show _ = _; rw [take_snocL HX.out, posOfL_snoc, if_pos hx0, sortL_snoc]
        have HC : Hid (∀ w', Ext wr w' → Calls Try.prog 59 #[.slice q m c, .int .i64 x] w' (RetInts (insL x (sortL (posOfL (xs.take k)))) w')) := fun w' hx => l1Sorted_any q m c _ x w' (by omega) ((Sl.own HO.out).ext hx)
        have hlen : (insL x (sortL (posOfL (xs.take k)))).length = m + 1 := by rw [insL_len]; have := HO.out.1; simp at this; omega
        have HLEN := Lib.hid hlen
        clear hlen
        go_wp2_with fail
        refine (HC.out _ (by (repeat' (first | exact Ext.refl _ | (with_reducible assumption) | (with_reducible refine Ext.alloc ?_ _) | (with_reducible refine Ext.setCell ?_ (by first | exact Nat.le_refl _ | (dsimp only; omega) | (simp; done) | (simp; omega)) _) | (with_reducible refine Ext.drew ?_) | (with_reducible refine Ext.drewN ?_ _) | (refine Ext.trans ?_ (by with_reducible assumption)))))).mono ?_
        rintro e w2 ⟨q2, c2, rfl, h2, h3⟩
        have HO2 : Hid (w2.ownsRow w.heap.size TI 1 (.slice q2 (m + 1) c2) (m + 1) (ivs (sortL (posOfL (xs.take (k + 1)))))) := by
          rw [hfin.out, ← HLEN.out]; exact own_base h2 hEw.sz
        rw [HLEN.out]
        clear h2
        go_wp2
        go_roundw
        case rel => exact ⟨k + 1, q2, m + 1, c2, by omega, by go_num, rfl, by omega, HO2.out, by (repeat' (first | exact Ext.refl _ | (with_reducible assumption) | (with_reducible refine Ext.alloc ?_ _) | (with_reducible refine Ext.setCell ?_ (by first | exact Nat.le_refl _ | (dsimp only; omega) | (simp; done) | (simp; omega)) _) | (with_reducible refine Ext.drew ?_) | (with_reducible refine Ext.drewN ?_ _) | (refine Ext.trans ?_ (by with_reducible assumption))))⟩
        case measure => simp [intOf]; omega
      · have hfin : Hid (sortL (posOfL (xs.take (k + 1))) = sortL (posOfL (xs.take k))) := by
          show _ = _; rw [take_snocL HX.out, posOfL_snoc, if_neg hx0, List.append_nil]
        go_wp2
        go_roundw
        case rel => exact ⟨k + 1, q, m, c, by omega, by go_num, rfl, by omega, by rw [hfin.out]; exact HO.out, hE⟩
        case measure => simp [intOf]; omega
    · have hfin : Hid (sortL (posOfL (xs.take k)) = carsOf xs) := by
        show _ = _; rw [List.take_of_length_le (by rw [hl.out]; omega)]; rfl
      go_wp2
      go_ret
      exact ret_ints (by rw [← hfin.out]; have := HO.out.1; simpa using this) (by rw [← hfin.out]; exact HO.out) hEw

set_option maxRecDepth 100000 in
set_option maxHeartbeats 1000000 in
theorem implHc_bad (wide deep : Int) (p : Option Addr) (n cap : Nat) (w : World) (HV : Hid (∀ w', Ext w w' → Calls Try.prog 52 #[hallV wide deep p n cap] w' fun e w'' => e = .returned (.bool false) ∧ Ext w' w'')) :
    Calls Try.prog 38 #[hallV wide deep p n cap] w (RetInts [] w) := by
  go_enter Try.func38, Try.ntmps38
  go_wp2_with fail
  refine (HV.out _ (by (repeat' (first | exact Ext.refl _ | (with_reducible assumption) | (with_reducible refine Ext.alloc ?_ _) | (with_reducible refine Ext.setCell ?_ (by first | exact Nat.le_refl _ | (dsimp only; omega) | (simp; done) | (simp; omega)) _) | (with_reducible refine Ext.drew ?_) | (with_reducible refine Ext.drewN ?_ _) | (refine Ext.trans ?_ (by with_reducible assumption)))))).mono ?_
  rintro e w1 ⟨rfl, h1⟩
  go_wp2
  go_ret
  exact ret_ints rfl (World.ownsRow_nil _ _ _ _) (by (repeat' (first | exact Ext.refl _ | (with_reducible assumption) | (with_reducible refine Ext.alloc ?_ _) | (with_reducible refine Ext.setCell ?_ (by first | exact Nat.le_refl _ | (dsimp only; omega) | (simp; done) | (simp; omega)) _) | (with_reducible refine Ext.drew ?_) | (with_reducible refine Ext.drewN ?_ _) | (refine Ext.trans ?_ (by with_reducible assumption)))))

set_option maxRecDepth 100000 in
set_option maxHeartbeats 1000000 in
theorem implHc_ok (wide deep : Int) (p : Option Addr) (n cap : Nat) (xs : List Int) (w : World) (hn : n ≤ 12) (HS : Hid (Sl w p n cap 1 (ivs xs))) (HV : Hid (∀ w', Ext w w' → Calls Try.prog 52 #[hallV wide deep p n cap] w' fun e w'' => e = .returned (.bool true) ∧ Ext w' w'')) :
    Calls Try.prog 38 #[hallV wide deep p n cap] w (RetInts (carsOf xs) w) := by
  have hl := Lib.hid HS.out.ilen
  go_enter Try.func38, Try.ntmps38
  go_wp2_with fail
  refine (HV.out _ (by (repeat' (first | exact Ext.refl _ | (with_reducible assumption) | (with_reducible refine Ext.alloc ?_ _) | (with_reducible refine Ext.setCell ?_ (by first | exact Nat.le_refl _ | (dsimp only; omega) | (simp; done) | (simp; omega)) _) | (with_reducible refine Ext.drew ?_) | (with_reducible refine Ext.drewN ?_ _) | (refine Ext.trans ?_ (by with_reducible assumption)))))).mono ?_
  rintro e w1 ⟨rfl, h1⟩
  have hz1 : w.heap.size < w1.heap.size := Nat.lt_of_lt_of_le (by first | (simp; omega) | simp) h1.sz
  have eb : w1.cell? ⟨w.heap.size, 2, none⟩ = some (.slice p n cap) := by rw [h1.cells.1 _ _ (by simp)]; simp
  have hx1 : Ext w w1 := by (repeat' (first | exact Ext.refl _ | (with_reducible assumption) | (with_reducible refine Ext.alloc ?_ _) | (with_reducible refine Ext.setCell ?_ (by first | exact Nat.le_refl _ | (dsimp only; omega) | (simp; done) | (simp; omega)) _) | (with_reducible refine Ext.drew ?_) | (with_reducible refine Ext.drewN ?_ _) | (refine Ext.trans ?_ (by with_reducible assumption))))
  go_wp2
  go_loopw [3, 12] (fun v i wr => ∃ (k : Nat) (q : Option Addr) (m c : Nat), k ≤ n ∧ i = .int .i64 k ∧ v = .slice q m c ∧ m ≤ k ∧ wr.ownsRow w1.heap.size TI 1 (.slice q m c) m (ivs (posOfL (xs.take k))) ∧ Ext w1 wr) (fun _ i _ => n - (intOf i).toNat)
  case atStart => exact ⟨0, none, 0, 0, Nat.zero_le _, rfl, rfl, Nat.le_refl _, World.ownsRow_nil _ _ _ _, Ext.refl _⟩
  case round =>
    obtain ⟨k, q, m, c, hk, rfl, rfl, hmk, hown, hE⟩ := hrel
    have HO := Lib.hid hown
    have hEw := hx1.trans hE
    have hsz := hE.sz
    have hszw := hx1.sz
    clear hown
    by_cases hlt : k < n
    · obtain ⟨b, off, x, rfl, hx, hb, hcell⟩ := (HS.out.ext hEw).int_at hlt
      have HX := Lib.hid hx
      clear hx
      by_cases hx0 : 0 < x
      · have hfin : Hid (posOfL (xs.take (k + 1)) = posOfL (xs.take k) ++ [x]) := by
          show _ = _; rw [take_snocL HX.out, posOfL_snoc, if_pos hx0]
        go_wp2_with (at_builtin; refine wpList_append_int elInt rfl _ _ rfl w1.heap.size _ _ _ rfl (HO.out.alloc _) _ _ x _ rfl (by simp) (by omega) (by simp; omega) ?_; intro p' cap' w2 hown1 hg1; have HO1 := Lib.hid hown1; have hE1 : Ext w1 w2 := Ext.own (hE.alloc _) (HO.out.alloc _) hg1 (Nat.le_refl _); clear hown1 hg1)
        go_roundw
        case rel => exact ⟨k + 1, p', m + 1, cap', by omega, by go_num, rfl, by omega, by rw [hfin.out]; exact HO1.out, hE1⟩
        case measure => simp [intOf]; omega
      · have hfin : Hid (posOfL (xs.take (k + 1)) = posOfL (xs.take k)) := by
          show _ = _; rw [take_snocL HX.out, posOfL_snoc, if_neg hx0, List.append_nil]
        go_wp2
        go_roundw
        case rel => exact ⟨k + 1, q, m, c, by omega, by go_num, rfl, by omega, by rw [hfin.out]; exact HO.out, hE⟩
        case measure => simp [intOf]; omega
    · have hfin : Hid (sortL (posOfL (xs.take k)) = carsOf xs) := by
        show _ = _; rw [List.take_of_length_le (by rw [hl.out]; omega)]; rfl
      go_wp2_with fail
      refine (sort_any w1.heap.size q m c _ _ HO.out (by omega)).mono ?_
      rintro e w2 ⟨rfl, h2, h3⟩
      have hE2 : Ext w w2 := hEw.own HO.out h3 (by omega)
      have HO2 := Lib.hid h2
      clear h2 h3
      go_wp2
      go_ret
      exact ret_ints (by rw [← hfin.out]; have := HO2.out.1; simpa using this) (by rw [← hfin.out]; exact own_base HO2.out hx1.sz) hE2

theorem specHc (wide deep : Int) (p : Option Addr) (n cap : Nat) (xs : List Int) (w : World) (hS : Sl w p n cap 1 (ivs xs)) : Calls Try.prog 44 #[hallV wide deep p n cap] w (RetInts (if hallOk wide deep xs then carsOf xs else []) w) := by
  have hl := hS.ilen
  cases h : hallOk wide deep xs with
  | true =>
    have h2 : shapeOk wide deep n = true := by simp only [hallOk, Bool.and_eq_true] at h; rw [← hl]; exact h.1
    rw [if_pos rfl]
    exact specHc_ok wide deep p n cap xs w (shape_bd h2).2.2.2.2.2.1 hS (fun w' hx => by rw [← h]; exact specHv wide deep p n cap xs w' (hS.ext hx))
  | false =>
    rw [if_neg (by simp)]
    exact specHc_bad wide deep p n cap w (fun w' hx => by rw [← h]; exact specHv wide deep p n cap xs w' (hS.ext hx))
theorem implHc (wide deep : Int) (p : Option Addr) (n cap : Nat) (xs : List Int) (w : World) (hS : Sl w p n cap 1 (ivs xs)) : Calls Try.prog 38 #[hallV wide deep p n cap] w (RetInts (if hallOk wide deep xs then carsOf xs else []) w) := by
  have hl := hS.ilen
  cases h : hallOk wide deep xs with
  | true =>
    have h2 : shapeOk wide deep n = true := by simp only [hallOk, Bool.and_eq_true] at h; rw [← hl]; exact h.1
    rw [if_pos rfl]
    exact implHc_ok wide deep p n cap xs w (shape_bd h2).2.2.2.2.2.1 hS (fun w' hx => by rw [← h]; exact implHv wide deep p n cap xs w' (hS.ext hx))
  | false =>
    rw [if_neg (by simp)]
    exact implHc_bad wide deep p n cap w (fun w' hx => by rw [← h]; exact implHv wide deep p n cap xs w' (hS.ext hx))
end Go.Proofs.Ythhcpcjmolbkdaa
