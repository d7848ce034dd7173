/-
  impl.HallValid tells whether a hall is valid ('hallOk'). Condition: the slice of cells reads as a list.
-/
import Derived.Test.YthhcpcjmolbkdaaHallP
import Derived.Test.YthhcpcjmolbkdaaBlk
namespace Go.Proofs.Ythhcpcjmolbkdaa
open Go.RowKit
set_option linter.unusedVariables false

abbrev hallV (wide deep : Int) (p : Option Addr) (n cap : Nat) : Value := .agg #[.int .i64 wide, .int .i64 deep, .slice p n cap]

set_option maxRecDepth 100000 in
set_option maxHeartbeats 1000000 in
theorem implHv_bad (wide deep : Int) (p : Option Addr) (n cap : Nat) (w : World) (hn : n ≤ 9223372036854775807)
    (h : wide < 2 ∨ 2 ≤ wide ∧ 4 < wide ∨ 2 ≤ wide ∧ wide ≤ 4 ∧ deep < 2 ∨ 2 ≤ wide ∧ wide ≤ 4 ∧ 2 ≤ deep ∧ 3 < deep ∨ 2 ≤ wide ∧ wide ≤ 4 ∧ 2 ≤ deep ∧ deep ≤ 3 ∧ 0 ≤ wide * deep ∧ wide * deep ≤ 12 ∧ ((n : Int) != wide * deep) = true) :
    Calls Try.prog 52 #[hallV wide deep p n cap] w fun e w' => e = .returned (.bool false) ∧ Ext w w' := by
  rcases h with h | ⟨h0, h⟩ | ⟨h0, h1, h⟩ | ⟨h0, h1, h2, h⟩ | ⟨h0, h1, h2, h3, h4, h5, h⟩
  all_goals
    go_enter Try.func52, Try.ntmps52
    go_wp2
    go_ret
    exact ⟨rfl, by (repeat' (first | exact Ext.refl _ | (with_reducible assumption) | (with_reducible refine Ext.alloc ?_ _) | (with_reducible refine Ext.setCell ?_ (by first | exact Nat.le_refl _ | (dsimp only; omega) | (simp; done) | (simp; omega)) _) | (with_reducible refine Ext.drew ?_) | (with_reducible refine Ext.drewN ?_ _) | (refine Ext.trans ?_ (by with_reducible assumption))))⟩

theorem zc_there : thereIs [] Try.zeroCells86 := ⟨by kernel_rfl, by
  have e : Try.zeroCells86 = Array.replicate 100 (.bool false) := by kernel_rfl
  rw [e]; exact thereIs_nil.2⟩

set_option maxRecDepth 100000 in
set_option maxHeartbeats 1000000 in
theorem implHv_main (wide deep : Int) (p : Option Addr) (n cap : Nat) (xs : List Int) (w : World) (h0 : 2 ≤ wide) (h1 : wide ≤ 4) (h2 : 2 ≤ deep) (h3 : deep ≤ 3) (h4 : 0 ≤ wide * deep) (h5 : wide * deep ≤ 12) (h6 : ((n : Int) != wide * deep) = false) (hn : n ≤ 12)
    (HS : Hid (Sl w p n cap 1 (ivs xs))) :
    Calls Try.prog 52 #[hallV wide deep p n cap] w fun e w' => e = .returned (.bool (cellsOk [] xs)) ∧ Ext w w' := by
  go_enter Try.func52, Try.ntmps52
  go_wp2
  clear h4 h5 h6
  go_loopw [38] (fun i wr => ∃ (k : Nat) (cs : Array Value), k ≤ n ∧ i = .int .i64 k ∧ Blk wr (w.heap.size + 1) 86 cs ∧ thereIs (xs.take k) cs ∧ cellsOk [] xs = cellsOk (xs.take k) (xs.drop k) ∧ Ext w wr) (fun i _ => n - (intOf i).toNat)
  case atStart => exact ⟨0, _, Nat.zero_le _, rfl, by have := Blk.new (w.alloc (.cells #[.int .i64 wide, .int .i64 deep, .slice p n cap] 33)) 86 Try.zeroCells86; simpa using this, zc_there, rfl, by (repeat' (first | exact Ext.refl _ | (with_reducible assumption) | (with_reducible refine Ext.alloc ?_ _) | (with_reducible refine Ext.setCell ?_ (by first | exact Nat.le_refl _ | (dsimp only; omega) | (simp; done) | (simp; omega)) _) | (with_reducible refine Ext.drew ?_) | (with_reducible refine Ext.drewN ?_ _) | (refine Ext.trans ?_ (by with_reducible assumption))))⟩
  case round =>
    obtain ⟨k, cs, hk, rfl, hb, ht, hok, hE⟩ := hrel
    have HB := Lib.hid hb
    have HT := Lib.hid ht
    by_cases hlt : k < n
    · obtain ⟨b, off, x, rfl, hx, hbs, hcell⟩ := (HS.out.ext hE).int_at hlt
      have hfin := Lib.hid (hok.trans (cellsOk_at hx))
      have HX := Lib.hid hx
      clear hok hx hb ht
      by_cases hr : 0 ≤ x ∧ x ≤ 99
      · obtain ⟨hx0, hx1⟩ := hr
        have htc : wr.cell? ⟨w.heap.size + 1, x.toNat, none⟩ = some (.bool (decide (0 < x) && (xs.take k).contains x)) := by
          rw [HB.out.cell, HT.out.2 x.toNat (by omega)]
          congr 2
          rw [show ((x.toNat : Nat) : Int) = x by omega]
          congr 1
          simp
        have htf : wr.frozen? ⟨w.heap.size + 1, x.toNat, none⟩ = false := HB.out.frozen _
        have hix : x < 100 := by omega
        cases hs : (decide (0 < x) && (xs.take k).contains x) with
        | true =>
          rw [hs] at htc
          have HS2 := Lib.hid hs
          clear hs
          go_wp2
          go_ret
          exact ⟨ret_bool (by rw [hfin.out, HS2.out]; simp), hE⟩
        | false =>
          rw [hs] at htc
          have HS2 := Lib.hid hs
          clear hs
          go_wp2
          go_roundw
          case rel =>
            refine ⟨k + 1, _, by omega, by go_num, HB.out.set _ _, ?_, ?_, by (repeat' (first | exact Ext.refl _ | (with_reducible assumption) | (with_reducible refine Ext.alloc ?_ _) | (with_reducible refine Ext.setCell ?_ (by first | exact Nat.le_refl _ | (dsimp only; omega) | (simp; done) | (simp; omega)) _) | (with_reducible refine Ext.drew ?_) | (with_reducible refine Ext.drewN ?_ _) | (refine Ext.trans ?_ (by with_reducible assumption))))⟩
            · rw [take_snocL HX.out]
              refine thereIs_set HT.out x hx0 hx1 (fun h0 => ?_)
              have := HS2.out
              simpa [h0] using this
            · rw [hfin.out, HS2.out]
              simp [hx0, hx1]
          case measure => simp [intOf]; omega
      · have hfx : cellsOk [] xs = false := by rw [hfin.out]; simp [hr]
        have HF := Lib.hid hfx
        clear hfx
        by_cases hx0 : x < 0
        · go_wp2
          go_ret
          exact ⟨ret_bool HF.out.symm, hE⟩
        · have hx1 : 99 < x := by omega
          have hx2 : 0 ≤ x := by omega
          go_wp2
          go_ret
          exact ⟨ret_bool HF.out.symm, hE⟩
    · have hfin := Lib.hid (hok.trans (cellsOk_end (by have := HS.out.ilen; omega)))
      clear hok hb ht
      go_wp2
      go_ret
      exact ⟨ret_bool hfin.out.symm, hE⟩

/-- impl.HallValid -/
theorem implHv (wide deep : Int) (p : Option Addr) (n cap : Nat) (xs : List Int) (w : World) (hS : Sl w p n cap 1 (ivs xs)) :
    Calls Try.prog 52 #[hallV wide deep p n cap] w fun e w' => e = .returned (.bool (hallOk wide deep xs)) ∧ Ext w w' := by
  have hl := hS.ilen
  unfold hallOk
  rw [hl]
  cases hs : shapeOk wide deep n with
  | true =>
    obtain ⟨h1, h2, h3, h4, h5, h6, h7⟩ := shape_bd hs
    rw [Bool.true_and]
    exact implHv_main wide deep p n cap xs w h1 h2 h3 h4 (by omega) (by omega) (by simp [h7]) h6 hS
  | false =>
    rw [Bool.false_and]
    exact implHv_bad wide deep p n cap w hS.bd (shape_bad hs)
end Go.Proofs.Ythhcpcjmolbkdaa
