/-
  The reference's l1Has, l1In, HallValid; both packages' HallEmpty. Condition: slices read as lists.
-/
import Derived.Test.YthhcpcjmolbkdaaApp
import Derived.Test.YthhcpcjmolbkdaaHv
namespace Go.Proofs.Ythhcpcjmolbkdaa
open Go.RowKit
set_option linter.unusedVariables false

theorem quiet_l {f : FuncId} {args : Array Value} {w : World} {n : Nat} {v : Value} (h : Calls Try.prog f args (w.drewN n) fun e w' => e = .returned v ∧ w.drewN n = w') :
    Calls Try.prog f args (w.drewN n) fun e w' => e = .returned v ∧ ∃ m, w' = w.drewN m := h.mono fun _ _ ⟨he, hm⟩ => ⟨he, n, hm.symm⟩

set_option maxRecDepth 100000 in
set_option maxHeartbeats 1000000 in
theorem l1In_yes (n lo hi : Int) (w : World) (h : lo ≤ n) (h2 : n ≤ hi) : Calls Try.prog 47 #[.int .i64 n, .int .i64 lo, .int .i64 hi] w fun e w' => e = .returned (.bool true) ∧ w = w' := by
  go_enter Try.func47, Try.ntmps47
  go_wp2
  go_ret
  exact ⟨rfl, rfl⟩
set_option maxRecDepth 100000 in
set_option maxHeartbeats 1000000 in
theorem l1In_no (n lo hi : Int) (w : World) (h : n < lo ∨ lo ≤ n ∧ hi < n) : Calls Try.prog 47 #[.int .i64 n, .int .i64 lo, .int .i64 hi] w fun e w' => e = .returned (.bool false) ∧ w = w' := by
  rcases h with h | ⟨h, h2⟩
  all_goals
    go_enter Try.func47, Try.ntmps47
    go_wp2
    go_ret
    exact ⟨ret_bool (by first | rfl | (simp; omega)), rfl⟩

set_option maxRecDepth 100000 in
set_option maxHeartbeats 1000000 in
theorem l1Has_any (p : Option Addr) (n cap : Nat) (xs : List Int) (x : Int) (w : World) (hS : Sl w p n cap 1 (ivs xs)) :
    Calls Try.prog 32 #[.slice p n cap, .int .i64 x] w fun e w' => e = .returned (.bool (xs.contains x)) ∧ w = w' := by
  have hn := hS.bd
  have hl := Lib.hid hS.ilen
  have HS := Lib.hid hS
  clear hS
  go_enter Try.func32, Try.ntmps32
  go_wp2
  go_loop [5] (fun i => ∃ k : Nat, k ≤ n ∧ i = .int .i64 k ∧ (xs.take k).contains x = false) (fun i => n - (intOf i).toNat)
  case atStart => exact ⟨0, Nat.zero_le _, rfl, by simp⟩
  case round =>
    obtain ⟨k, hk, rfl, hc⟩ := hrel
    have HC := Lib.hid hc
    clear hc
    by_cases hlt : k < n
    · obtain ⟨b, off, y, rfl, hx, hb, hcell⟩ := HS.out.int_at hlt
      have HX := Lib.hid hx
      clear hx
      by_cases hy : y = x
      · have t1 : (y == x) = true := by simp [hy]
        have hfin : Hid (xs.contains x = true) := by show _ = _; rw [List.contains_eq_mem]; simp; rw [← hy]; exact List.mem_of_getElem? HX.out
        clear hy
        go_wp2
        go_ret
        exact ⟨ret_bool (by simpa using hfin.out.symm), rfl⟩
      · have t1 : (y == x) = false := by simp [hy]
        have hfin : Hid ((xs.take (k + 1)).contains x = false) := by
          have := HC.out
          show _ = _
          rw [take_snocL HX.out]
          simp only [List.contains_eq_mem, decide_eq_false_iff_not, List.mem_append, List.mem_singleton, not_or] at this ⊢
          exact ⟨this, fun e => hy e.symm⟩
        clear hy
        go_wp2
        go_round
        case rel => exact ⟨k + 1, by omega, by go_num, hfin.out⟩
        case measure => simp [intOf]; omega
    · have hfin : Hid (xs.contains x = false) := by
        have := HC.out
        rw [List.take_of_length_le (by rw [hl.out]; omega)] at this
        exact this
      go_wp2
      go_ret
      exact ⟨ret_bool (by simpa using hfin.out.symm), rfl⟩

set_option maxRecDepth 100000 in
set_option maxHeartbeats 1000000 in
theorem specHv_bad (wide deep : Int) (p : Option Addr) (n cap : Nat) (w : World) (hn : n ≤ 9223372036854775807)
    (h : wide < 2 ∨ 2 ≤ wide ∧ 4 < wide ∨ 2 ≤ wide ∧ wide ≤ 4 ∧ deep < 2 ∨ 2 ≤ wide ∧ wide ≤ 4 ∧ 2 ≤ deep ∧ 3 < deep ∨ 2 ≤ wide ∧ wide ≤ 4 ∧ 2 ≤ deep ∧ deep ≤ 3 ∧ 0 ≤ wide * deep ∧ wide * deep ≤ 12 ∧ ((n : Int) != wide * deep) = true) :
    Calls Try.prog 45 #[hallV wide deep p n cap] w fun e w' => e = .returned (.bool false) ∧ Ext w w' := by
  rcases h with h | ⟨h0, h⟩ | ⟨h0, h1, h⟩ | ⟨h0, h1, h2, h⟩ | ⟨h0, h1, h2, h3, h4, h5, h⟩
  all_goals
    go_enter Try.func45, Try.ntmps45
    go_wp2_with go_in
    go_ret
    exact ⟨rfl, by (repeat' (first | exact Ext.refl _ | (with_reducible assumption) | (with_reducible refine Ext.alloc ?_ _) | (with_reducible refine Ext.setCell ?_ (by first | exact Nat.le_refl _ | (dsimp only; omega) | (simp; done) | (simp; omega)) _) | (with_reducible refine Ext.drew ?_) | (with_reducible refine Ext.drewN ?_ _) | (refine Ext.trans ?_ (by with_reducible assumption))))⟩

set_option maxRecDepth 100000 in
set_option maxHeartbeats 1000000 in
theorem specHv_main (wide deep : Int) (p : Option Addr) (n cap : Nat) (xs : List Int) (w : World) (h0 : 2 ≤ wide) (h1 : wide ≤ 4) (h2 : 2 ≤ deep) (h3 : deep ≤ 3) (h4 : 0 ≤ wide * deep) (h5 : wide * deep ≤ 12) (h6 : ((n : Int) != wide * deep) = false) (hn : n ≤ 12)
    (HS : Hid (Sl w p n cap 1 (ivs xs))) :
    Calls Try.prog 45 #[hallV wide deep p n cap] w fun e w' => e = .returned (.bool (cellsOk [] xs)) ∧ Ext w w' := by
  have hncap := HS.out.le
  have hcapm := HS.out.mx
  unfold maxLen at hcapm
  go_enter Try.func45, Try.ntmps45
  go_wp2_with go_in
  clear h4 h5 h6
  go_loopw [3] (fun i wr => ∃ k : Nat, k ≤ n ∧ i = .int .i64 k ∧ cellsOk [] xs = cellsOk (xs.take k) (xs.drop k) ∧ Ext w wr ∧ w.heap.size < wr.heap.size ∧ wr.cell? ⟨w.heap.size, 2, none⟩ = some (.slice p n cap)) (fun i _ => n - (intOf i).toNat)
  case atStart => exact ⟨0, Nat.zero_le _, rfl, rfl, by (repeat' (first | exact Ext.refl _ | (with_reducible assumption) | (with_reducible refine Ext.alloc ?_ _) | (with_reducible refine Ext.setCell ?_ (by first | exact Nat.le_refl _ | (dsimp only; omega) | (simp; done) | (simp; omega)) _) | (with_reducible refine Ext.drew ?_) | (with_reducible refine Ext.drewN ?_ _) | (refine Ext.trans ?_ (by with_reducible assumption)))), by simp, by simp⟩
  case round =>
    obtain ⟨k, hk, rfl, hok, hE, hsz, hc2⟩ := hrel
    by_cases hlt : k < n
    · have hSk := sl_cutI (HS.out.ext hE) (m := k) hk
      obtain ⟨b, off, x, rfl, hx, hbs, hcell⟩ := (HS.out.ext hE).int_at hlt
      have hfin := Lib.hid (hok.trans (cellsOk_at hx))
      have i1 : (0 : Int) ≤ (k : Int) := by omega
      have i2 : (k : Int) < (n : Int) := by omega
      have i3 : (k : Int) ≤ (n : Int) := by omega
      have i4 : (k : Int) ≤ (cap : Int) := by omega
      have HX := Lib.hid hx
      have HK := Lib.hid hSk
      clear hok hx hSk
      by_cases hr : 0 ≤ x ∧ x ≤ 99
      · obtain ⟨hx0, hx1⟩ := hr
        have HI : Hid (∀ w, Calls Try.prog 47 #[.int .i64 x, .int .i64 0, .int .i64 99] w fun e w' => e = .returned (.bool true) ∧ w = w') := fun w => l1In_yes x 0 99 w hx0 hx1
        by_cases hp : 0 < x
        · have hd : decide (0 < x) = true := by simp [hp]
          cases hs : (xs.take k).contains x with
          | true =>
            have HH : Hid (∀ m, Calls Try.prog 32 #[.slice (some ⟨b, off, none⟩) k cap, .int .i64 x] (wr.drewN m) fun e w' => e = .returned (.bool true) ∧ wr.drewN m = w') := fun m => by
              have := l1Has_any (some ⟨b, off, none⟩) k cap (xs.take k) x (wr.drewN m) (HK.out.ext (Ext.drewN (Ext.refl _) _)); rwa [hs] at this
            have hf2 : Hid (cellsOk [] xs = false) := by show _ = _; rw [hfin.out, hs]; simp [hp]
            clear hs
            go_wp2
            go_quiet ((first | (go_at_call 47; exact quiet_l (HI.out _)) | (go_at_call 32; exact quiet_l (HH.out _))))
            go_wp2
            go_ret
            exact ⟨ret_bool hf2.out.symm, by (repeat' (first | exact Ext.refl _ | (with_reducible assumption) | (with_reducible refine Ext.alloc ?_ _) | (with_reducible refine Ext.setCell ?_ (by first | exact Nat.le_refl _ | (dsimp only; omega) | (simp; done) | (simp; omega)) _) | (with_reducible refine Ext.drew ?_) | (with_reducible refine Ext.drewN ?_ _) | (refine Ext.trans ?_ (by with_reducible assumption))))⟩
          | false =>
            have HH : Hid (∀ m, Calls Try.prog 32 #[.slice (some ⟨b, off, none⟩) k cap, .int .i64 x] (wr.drewN m) fun e w' => e = .returned (.bool false) ∧ wr.drewN m = w') := fun m => by
              have := l1Has_any (some ⟨b, off, none⟩) k cap (xs.take k) x (wr.drewN m) (HK.out.ext (Ext.drewN (Ext.refl _) _)); rwa [hs] at this
            have hf2 : Hid (cellsOk [] xs = cellsOk (xs.take (k + 1)) (xs.drop (k + 1))) := by show _ = _; rw [hfin.out, hs]; simp [hx0, hx1]
            clear hs
            go_wp2
            go_quiet ((first | (go_at_call 47; exact quiet_l (HI.out _)) | (go_at_call 32; exact quiet_l (HH.out _))))
            go_wp2
            go_roundw
            case rel => exact ⟨k + 1, by omega, by go_num, hf2.out, by (repeat' (first | exact Ext.refl _ | (with_reducible assumption) | (with_reducible refine Ext.alloc ?_ _) | (with_reducible refine Ext.setCell ?_ (by first | exact Nat.le_refl _ | (dsimp only; omega) | (simp; done) | (simp; omega)) _) | (with_reducible refine Ext.drew ?_) | (with_reducible refine Ext.drewN ?_ _) | (refine Ext.trans ?_ (by with_reducible assumption)))), hsz, hc2⟩
            case measure => simp [intOf]; omega
        · have hd : decide (0 < x) = false := by simp [hp]
          have hf2 : Hid (cellsOk [] xs = cellsOk (xs.take (k + 1)) (xs.drop (k + 1))) := by show _ = _; rw [hfin.out]; simp [hx0, hx1, hp]
          go_wp2
          go_quiet ((go_at_call 47; exact quiet_l (HI.out _)))
          go_wp2
          go_roundw
          case rel => first | exact ⟨k + 1, by omega, by go_num, hf2.out, by (repeat' (first | exact Ext.refl _ | (with_reducible assumption) | (with_reducible refine Ext.alloc ?_ _) | (with_reducible refine Ext.setCell ?_ (by first | exact Nat.le_refl _ | (dsimp only; omega) | (simp; done) | (simp; omega)) _) | (with_reducible refine Ext.drew ?_) | (with_reducible refine Ext.drewN ?_ _) | (refine Ext.trans ?_ (by with_reducible assumption)))), hsz, hc2⟩ | ((repeat apply Exists.intro); exact ⟨⟨k + 1, by omega, by go_num, hf2.out, by (repeat' (first | exact Ext.refl _ | (with_reducible assumption) | (with_reducible refine Ext.alloc ?_ _) | (with_reducible refine Ext.setCell ?_ (by first | exact Nat.le_refl _ | (dsimp only; omega) | (simp; done) | (simp; omega)) _) | (with_reducible refine Ext.drew ?_) | (with_reducible refine Ext.drewN ?_ _) | (refine Ext.trans ?_ (by with_reducible assumption)))), hsz, hc2⟩, rfl⟩)
          case measure => simp [intOf]; omega
      · have HI : Hid (∀ w, Calls Try.prog 47 #[.int .i64 x, .int .i64 0, .int .i64 99] w fun e w' => e = .returned (.bool false) ∧ w = w') := fun w => l1In_no x 0 99 w (by omega)
        have hf2 : Hid (cellsOk [] xs = false) := by show _ = _; rw [hfin.out]; simp [hr]
        clear hr
        go_wp2
        go_quiet ((go_at_call 47; exact quiet_l (HI.out _)))
        go_wp2
        go_ret
        exact ⟨ret_bool hf2.out.symm, by (repeat' (first | exact Ext.refl _ | (with_reducible assumption) | (with_reducible refine Ext.alloc ?_ _) | (with_reducible refine Ext.setCell ?_ (by first | exact Nat.le_refl _ | (dsimp only; omega) | (simp; done) | (simp; omega)) _) | (with_reducible refine Ext.drew ?_) | (with_reducible refine Ext.drewN ?_ _) | (refine Ext.trans ?_ (by with_reducible assumption))))⟩
    · have hfin := Lib.hid (hok.trans (cellsOk_end (by have := HS.out.ilen; omega)))
      clear hok
      go_wp2
      go_ret
      exact ⟨ret_bool hfin.out.symm, by (repeat' (first | exact Ext.refl _ | (with_reducible assumption) | (with_reducible refine Ext.alloc ?_ _) | (with_reducible refine Ext.setCell ?_ (by first | exact Nat.le_refl _ | (dsimp only; omega) | (simp; done) | (simp; omega)) _) | (with_reducible refine Ext.drew ?_) | (with_reducible refine Ext.drewN ?_ _) | (refine Ext.trans ?_ (by with_reducible assumption))))⟩

/-- spec.HallValid -/
theorem specHv (wide deep : Int) (p : Option Addr) (n cap : Nat) (xs : List Int) (w : World) (hS : Sl w p n cap 1 (ivs xs)) :
    Calls Try.prog 45 #[hallV wide deep p n cap] w fun e w' => e = .returned (.bool (hallOk wide deep xs)) ∧ Ext w w' := by
  have hl := hS.ilen
  unfold hallOk
  rw [hl]
  cases hs : shapeOk wide deep n with
  | true =>
    obtain ⟨h1, h2, h3, h4, h5, h6, h7⟩ := shape_bd hs
    rw [Bool.true_and]
    exact specHv_main wide deep p n cap xs w h1 h2 h3 h4 (by omega) (by omega) (by simp [h7]) h6 hS
  | false =>
    rw [Bool.false_and]
    exact specHv_bad wide deep p n cap w hS.bd (shape_bad hs)
end Go.Proofs.Ythhcpcjmolbkdaa
