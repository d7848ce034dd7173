/-
  Bookings: both packages' BookValid and Overlap; a booking is looked for by its number: the rewrite's bookIndex (slices.IndexFunc with a closure), the reference's l6Find. Condition: the slice reads as a list.
-/
import Derived.Test.YtndcnflchkfaeaaVix
import Derived.Test.YtndcnflchkfaeaaDk4
import Derived.Test.YtndcnflchkfaeaaMm
namespace Go.Proofs.Ytndcnflchkfaeaa
open Go.RowKit
set_option linter.unusedVariables false
set_option linter.unusedSimpArgs false

abbrev TBk : TypeId := 50
abbrev bookV (i f t v : Int) : Value := .agg #[.int .i64 i, .int .i64 f, .int .i64 t, .int .i64 v]
theorem quiet_w {prog : Program} {f : FuncId} {a : Array Value} {w : World} {Q : Ending → World → Prop} (h : Calls prog f a w Q) : Calls prog f a w Q := h

set_option maxRecDepth 100000 in
set_option maxHeartbeats 1000000 in
theorem implBv (i f t v : Int) (w : World) : Calls Try.prog 57 #[bookV i f t v] w fun e w' => e = .returned (.bool (bookOk (i, f, t, v))) ∧ Ext w w' := by
  by_cases c1 : 1 ≤ i
  · by_cases c2 : i ≤ 99
    · by_cases c3 : 0 ≤ f
      · by_cases c4 : f ≤ 29
        · by_cases c5 : f + 1 ≤ t
          · by_cases c6 : t ≤ 30
            · by_cases c7 : 0 ≤ v
              · by_cases c8 : v ≤ 99
                · go_enter Try.func57, Try.ntmps57
                  go_wp2
                  go_ret
                  exact ⟨ret_bool (by simp [bookOk]; omega), by (repeat' (first | exact Ext.refl _ | (with_reducible assumption) | (with_reducible refine Ext.alloc ?_ _) | (with_reducible refine Ext.setCell ?_ (by first | exact Nat.le_refl _ | (dsimp only; omega) | (simp; done) | (simp; omega)) _) | (with_reducible refine Ext.drew ?_) | (with_reducible refine Ext.drewN ?_ _) | (refine Ext.trans ?_ (by with_reducible assumption))))⟩
                · go_enter Try.func57, Try.ntmps57
                  go_wp2
                  go_ret
                  exact ⟨ret_bool (by simp [bookOk]; omega), by (repeat' (first | exact Ext.refl _ | (with_reducible assumption) | (with_reducible refine Ext.alloc ?_ _) | (with_reducible refine Ext.setCell ?_ (by first | exact Nat.le_refl _ | (dsimp only; omega) | (simp; done) | (simp; omega)) _) | (with_reducible refine Ext.drew ?_) | (with_reducible refine Ext.drewN ?_ _) | (refine Ext.trans ?_ (by with_reducible assumption))))⟩
              · go_enter Try.func57, Try.ntmps57
                go_wp2
                go_ret
                exact ⟨ret_bool (by simp [bookOk]; omega), by (repeat' (first | exact Ext.refl _ | (with_reducible assumption) | (with_reducible refine Ext.alloc ?_ _) | (with_reducible refine Ext.setCell ?_ (by first | exact Nat.le_refl _ | (dsimp only; omega) | (simp; done) | (simp; omega)) _) | (with_reducible refine Ext.drew ?_) | (with_reducible refine Ext.drewN ?_ _) | (refine Ext.trans ?_ (by with_reducible assumption))))⟩
            · go_enter Try.func57, Try.ntmps57
              go_wp2
              go_ret
              exact ⟨ret_bool (by simp [bookOk]; omega), by (repeat' (first | exact Ext.refl _ | (with_reducible assumption) | (with_reducible refine Ext.alloc ?_ _) | (with_reducible refine Ext.setCell ?_ (by first | exact Nat.le_refl _ | (dsimp only; omega) | (simp; done) | (simp; omega)) _) | (with_reducible refine Ext.drew ?_) | (with_reducible refine Ext.drewN ?_ _) | (refine Ext.trans ?_ (by with_reducible assumption))))⟩
          · go_enter Try.func57, Try.ntmps57
            go_wp2
            go_ret
            exact ⟨ret_bool (by simp [bookOk]; omega), by (repeat' (first | exact Ext.refl _ | (with_reducible assumption) | (with_reducible refine Ext.alloc ?_ _) | (with_reducible refine Ext.setCell ?_ (by first | exact Nat.le_refl _ | (dsimp only; omega) | (simp; done) | (simp; omega)) _) | (with_reducible refine Ext.drew ?_) | (with_reducible refine Ext.drewN ?_ _) | (refine Ext.trans ?_ (by with_reducible assumption))))⟩
        · go_enter Try.func57, Try.ntmps57
          go_wp2
          go_ret
          exact ⟨ret_bool (by simp [bookOk]; omega), by (repeat' (first | exact Ext.refl _ | (with_reducible assumption) | (with_reducible refine Ext.alloc ?_ _) | (with_reducible refine Ext.setCell ?_ (by first | exact Nat.le_refl _ | (dsimp only; omega) | (simp; done) | (simp; omega)) _) | (with_reducible refine Ext.drew ?_) | (with_reducible refine Ext.drewN ?_ _) | (refine Ext.trans ?_ (by with_reducible assumption))))⟩
      · go_enter Try.func57, Try.ntmps57
        go_wp2
        go_ret
        exact ⟨ret_bool (by simp [bookOk]; omega), by (repeat' (first | exact Ext.refl _ | (with_reducible assumption) | (with_reducible refine Ext.alloc ?_ _) | (with_reducible refine Ext.setCell ?_ (by first | exact Nat.le_refl _ | (dsimp only; omega) | (simp; done) | (simp; omega)) _) | (with_reducible refine Ext.drew ?_) | (with_reducible refine Ext.drewN ?_ _) | (refine Ext.trans ?_ (by with_reducible assumption))))⟩
    · go_enter Try.func57, Try.ntmps57
      go_wp2
      go_ret
      exact ⟨ret_bool (by simp [bookOk]; omega), by (repeat' (first | exact Ext.refl _ | (with_reducible assumption) | (with_reducible refine Ext.alloc ?_ _) | (with_reducible refine Ext.setCell ?_ (by first | exact Nat.le_refl _ | (dsimp only; omega) | (simp; done) | (simp; omega)) _) | (with_reducible refine Ext.drew ?_) | (with_reducible refine Ext.drewN ?_ _) | (refine Ext.trans ?_ (by with_reducible assumption))))⟩
  · go_enter Try.func57, Try.ntmps57
    go_wp2
    go_ret
    exact ⟨ret_bool (by simp [bookOk]; omega), by (repeat' (first | exact Ext.refl _ | (with_reducible assumption) | (with_reducible refine Ext.alloc ?_ _) | (with_reducible refine Ext.setCell ?_ (by first | exact Nat.le_refl _ | (dsimp only; omega) | (simp; done) | (simp; omega)) _) | (with_reducible refine Ext.drew ?_) | (with_reducible refine Ext.drewN ?_ _) | (refine Ext.trans ?_ (by with_reducible assumption))))⟩
set_option maxRecDepth 100000 in
set_option maxHeartbeats 1000000 in
theorem specBv (i f t v : Int) (w : World) : Calls Try.prog 56 #[bookV i f t v] w fun e w' => e = .returned (.bool (bookOk (i, f, t, v))) ∧ Ext w w' := by
  by_cases c1 : 1 ≤ i
  · by_cases c2 : i ≤ 99
    · by_cases c3 : 0 ≤ f
      · by_cases c4 : f ≤ 29
        · by_cases c5 : f + 1 ≤ t
          · by_cases c6 : t ≤ 30
            · by_cases c7 : 0 ≤ v
              · by_cases c8 : v ≤ 99
                · (try have hwr : IntKind.i64.wrap (f + 1) = f + 1 := IntWalk.i64_in _ (by omega))
                  go_enter Try.func56, Try.ntmps56
                  go_wp2_with go_in
                  go_ret
                  exact ⟨ret_bool (by simp [bookOk]; omega), by (repeat' (first | exact Ext.refl _ | (with_reducible assumption) | (with_reducible refine Ext.alloc ?_ _) | (with_reducible refine Ext.setCell ?_ (by first | exact Nat.le_refl _ | (dsimp only; omega) | (simp; done) | (simp; omega)) _) | (with_reducible refine Ext.drew ?_) | (with_reducible refine Ext.drewN ?_ _) | (refine Ext.trans ?_ (by with_reducible assumption))))⟩
                · (try have hwr : IntKind.i64.wrap (f + 1) = f + 1 := IntWalk.i64_in _ (by omega))
                  go_enter Try.func56, Try.ntmps56
                  go_wp2_with go_in
                  go_ret
                  exact ⟨ret_bool (by simp [bookOk]; omega), by (repeat' (first | exact Ext.refl _ | (with_reducible assumption) | (with_reducible refine Ext.alloc ?_ _) | (with_reducible refine Ext.setCell ?_ (by first | exact Nat.le_refl _ | (dsimp only; omega) | (simp; done) | (simp; omega)) _) | (with_reducible refine Ext.drew ?_) | (with_reducible refine Ext.drewN ?_ _) | (refine Ext.trans ?_ (by with_reducible assumption))))⟩
              · (try have hwr : IntKind.i64.wrap (f + 1) = f + 1 := IntWalk.i64_in _ (by omega))
                go_enter Try.func56, Try.ntmps56
                go_wp2_with go_in
                go_ret
                exact ⟨ret_bool (by simp [bookOk]; omega), by (repeat' (first | exact Ext.refl _ | (with_reducible assumption) | (with_reducible refine Ext.alloc ?_ _) | (with_reducible refine Ext.setCell ?_ (by first | exact Nat.le_refl _ | (dsimp only; omega) | (simp; done) | (simp; omega)) _) | (with_reducible refine Ext.drew ?_) | (with_reducible refine Ext.drewN ?_ _) | (refine Ext.trans ?_ (by with_reducible assumption))))⟩
            · (try have hwr : IntKind.i64.wrap (f + 1) = f + 1 := IntWalk.i64_in _ (by omega))
              go_enter Try.func56, Try.ntmps56
              go_wp2_with go_in
              go_ret
              exact ⟨ret_bool (by simp [bookOk]; omega), by (repeat' (first | exact Ext.refl _ | (with_reducible assumption) | (with_reducible refine Ext.alloc ?_ _) | (with_reducible refine Ext.setCell ?_ (by first | exact Nat.le_refl _ | (dsimp only; omega) | (simp; done) | (simp; omega)) _) | (with_reducible refine Ext.drew ?_) | (with_reducible refine Ext.drewN ?_ _) | (refine Ext.trans ?_ (by with_reducible assumption))))⟩
          · (try have hwr : IntKind.i64.wrap (f + 1) = f + 1 := IntWalk.i64_in _ (by omega))
            go_enter Try.func56, Try.ntmps56
            go_wp2_with go_in
            go_ret
            exact ⟨ret_bool (by simp [bookOk]; omega), by (repeat' (first | exact Ext.refl _ | (with_reducible assumption) | (with_reducible refine Ext.alloc ?_ _) | (with_reducible refine Ext.setCell ?_ (by first | exact Nat.le_refl _ | (dsimp only; omega) | (simp; done) | (simp; omega)) _) | (with_reducible refine Ext.drew ?_) | (with_reducible refine Ext.drewN ?_ _) | (refine Ext.trans ?_ (by with_reducible assumption))))⟩
        · (try have hwr : IntKind.i64.wrap (f + 1) = f + 1 := IntWalk.i64_in _ (by omega))
          go_enter Try.func56, Try.ntmps56
          go_wp2_with go_in
          go_ret
          exact ⟨ret_bool (by simp [bookOk]; omega), by (repeat' (first | exact Ext.refl _ | (with_reducible assumption) | (with_reducible refine Ext.alloc ?_ _) | (with_reducible refine Ext.setCell ?_ (by first | exact Nat.le_refl _ | (dsimp only; omega) | (simp; done) | (simp; omega)) _) | (with_reducible refine Ext.drew ?_) | (with_reducible refine Ext.drewN ?_ _) | (refine Ext.trans ?_ (by with_reducible assumption))))⟩
      · (try have hwr : IntKind.i64.wrap (f + 1) = f + 1 := IntWalk.i64_in _ (by omega))
        go_enter Try.func56, Try.ntmps56
        go_wp2_with go_in
        go_ret
        exact ⟨ret_bool (by simp [bookOk]; omega), by (repeat' (first | exact Ext.refl _ | (with_reducible assumption) | (with_reducible refine Ext.alloc ?_ _) | (with_reducible refine Ext.setCell ?_ (by first | exact Nat.le_refl _ | (dsimp only; omega) | (simp; done) | (simp; omega)) _) | (with_reducible refine Ext.drew ?_) | (with_reducible refine Ext.drewN ?_ _) | (refine Ext.trans ?_ (by with_reducible assumption))))⟩
    · (try have hwr : IntKind.i64.wrap (f + 1) = f + 1 := IntWalk.i64_in _ (by omega))
      go_enter Try.func56, Try.ntmps56
      go_wp2_with go_in
      go_ret
      exact ⟨ret_bool (by simp [bookOk]; omega), by (repeat' (first | exact Ext.refl _ | (with_reducible assumption) | (with_reducible refine Ext.alloc ?_ _) | (with_reducible refine Ext.setCell ?_ (by first | exact Nat.le_refl _ | (dsimp only; omega) | (simp; done) | (simp; omega)) _) | (with_reducible refine Ext.drew ?_) | (with_reducible refine Ext.drewN ?_ _) | (refine Ext.trans ?_ (by with_reducible assumption))))⟩
  · (try have hwr : IntKind.i64.wrap (f + 1) = f + 1 := IntWalk.i64_in _ (by omega))
    go_enter Try.func56, Try.ntmps56
    go_wp2_with go_in
    go_ret
    exact ⟨ret_bool (by simp [bookOk]; omega), by (repeat' (first | exact Ext.refl _ | (with_reducible assumption) | (with_reducible refine Ext.alloc ?_ _) | (with_reducible refine Ext.setCell ?_ (by first | exact Nat.le_refl _ | (dsimp only; omega) | (simp; done) | (simp; omega)) _) | (with_reducible refine Ext.drew ?_) | (with_reducible refine Ext.drewN ?_ _) | (refine Ext.trans ?_ (by with_reducible assumption))))⟩
set_option maxRecDepth 100000 in
set_option maxHeartbeats 1000000 in
theorem implOv (i f t v i2 f2 t2 v2 : Int) (w : World) : Calls Try.prog 72 #[bookV i f t v, bookV i2 f2 t2 v2] w fun e w' => e = .returned (.bool (overlap (i, f, t, v) (i2, f2, t2, v2))) ∧ Ext w w' := by
  by_cases c1 : f < t2
  · by_cases c2 : f2 < t
    · go_enter Try.func72, Try.ntmps72
      go_wp2
      go_ret
      exact ⟨ret_bool (by simp [overlap]; omega), by (repeat' (first | exact Ext.refl _ | (with_reducible assumption) | (with_reducible refine Ext.alloc ?_ _) | (with_reducible refine Ext.setCell ?_ (by first | exact Nat.le_refl _ | (dsimp only; omega) | (simp; done) | (simp; omega)) _) | (with_reducible refine Ext.drew ?_) | (with_reducible refine Ext.drewN ?_ _) | (refine Ext.trans ?_ (by with_reducible assumption))))⟩
    · go_enter Try.func72, Try.ntmps72
      go_wp2
      go_ret
      exact ⟨ret_bool (by simp [overlap]; omega), by (repeat' (first | exact Ext.refl _ | (with_reducible assumption) | (with_reducible refine Ext.alloc ?_ _) | (with_reducible refine Ext.setCell ?_ (by first | exact Nat.le_refl _ | (dsimp only; omega) | (simp; done) | (simp; omega)) _) | (with_reducible refine Ext.drew ?_) | (with_reducible refine Ext.drewN ?_ _) | (refine Ext.trans ?_ (by with_reducible assumption))))⟩
  · go_enter Try.func72, Try.ntmps72
    go_wp2
    go_ret
    exact ⟨ret_bool (by simp [overlap]; omega), by (repeat' (first | exact Ext.refl _ | (with_reducible assumption) | (with_reducible refine Ext.alloc ?_ _) | (with_reducible refine Ext.setCell ?_ (by first | exact Nat.le_refl _ | (dsimp only; omega) | (simp; done) | (simp; omega)) _) | (with_reducible refine Ext.drew ?_) | (with_reducible refine Ext.drewN ?_ _) | (refine Ext.trans ?_ (by with_reducible assumption))))⟩
set_option maxRecDepth 100000 in
set_option maxHeartbeats 1000000 in
theorem specOv (i f t v i2 f2 t2 v2 : Int) (w : World) : Calls Try.prog 70 #[bookV i f t v, bookV i2 f2 t2 v2] w fun e w' => e = .returned (.bool (overlap (i, f, t, v) (i2, f2, t2, v2))) ∧ Ext w w' := by
  by_cases c1 : f < t2
  · by_cases c2 : f2 < t
    · go_enter Try.func70, Try.ntmps70
      go_wp2
      go_ret
      exact ⟨ret_bool (by simp [overlap]; omega), by (repeat' (first | exact Ext.refl _ | (with_reducible assumption) | (with_reducible refine Ext.alloc ?_ _) | (with_reducible refine Ext.setCell ?_ (by first | exact Nat.le_refl _ | (dsimp only; omega) | (simp; done) | (simp; omega)) _) | (with_reducible refine Ext.drew ?_) | (with_reducible refine Ext.drewN ?_ _) | (refine Ext.trans ?_ (by with_reducible assumption))))⟩
    · go_enter Try.func70, Try.ntmps70
      go_wp2
      go_ret
      exact ⟨ret_bool (by simp [overlap]; omega), by (repeat' (first | exact Ext.refl _ | (with_reducible assumption) | (with_reducible refine Ext.alloc ?_ _) | (with_reducible refine Ext.setCell ?_ (by first | exact Nat.le_refl _ | (dsimp only; omega) | (simp; done) | (simp; omega)) _) | (with_reducible refine Ext.drew ?_) | (with_reducible refine Ext.drewN ?_ _) | (refine Ext.trans ?_ (by with_reducible assumption))))⟩
  · go_enter Try.func70, Try.ntmps70
    go_wp2
    go_ret
    exact ⟨ret_bool (by simp [overlap]; omega), by (repeat' (first | exact Ext.refl _ | (with_reducible assumption) | (with_reducible refine Ext.alloc ?_ _) | (with_reducible refine Ext.setCell ?_ (by first | exact Nat.le_refl _ | (dsimp only; omega) | (simp; done) | (simp; omega)) _) | (with_reducible refine Ext.drew ?_) | (with_reducible refine Ext.drewN ?_ _) | (refine Ext.trans ?_ (by with_reducible assumption))))⟩

set_option maxRecDepth 100000 in
set_option maxHeartbeats 1000000 in
theorem idxBook_any (B : Nat) (q : Option Addr) (m c2 : Nat) (vs : List Visit4) (id : Int) (w : World) (hS : Sl w q m c2 4 (vs.flatMap visitCells)) (hB : B < w.heap.size) (hc : w.cell? ⟨B, 0, none⟩ = some (.int .i64 id)) :
    Calls Try.prog 58 #[.slice q m c2, .func (.func 59) #[] #[.pointer (some ⟨B, 0, none⟩)]] w fun e w' => e = .returned (.int .i64 (vix id vs)) ∧ Ext w w' := by
  have hn := hS.bd
  have HS := Lib.hid hS
  have hl : Hid (vs.length = m) := by
    have := hS.len; rw [flat_len visitCells 4 (fun _ => rfl)] at this; exact (by omega : vs.length = m)
  clear hS
  go_enter Try.func58, Try.ntmps58
  go_wp2
  go_loopw [8] (fun i wr => ∃ k : Nat, k ≤ m ∧ i = .int .i64 k ∧ (vs.take k).any (fun v => v.1 == id) = false ∧ Ext w wr ∧ w.heap.size ≤ wr.heap.size ∧ wr.cell? ⟨B, 0, none⟩ = some (.int .i64 id)) (fun i _ => m - (intOf i).toNat)
  case atStart => exact ⟨0, Nat.zero_le _, rfl, by simp, by (repeat' (first | exact Ext.refl _ | (with_reducible assumption) | (with_reducible refine Ext.alloc ?_ _) | (with_reducible refine Ext.setCell ?_ (by first | exact Nat.le_refl _ | (dsimp only; omega) | (simp; done) | (simp; omega)) _) | (with_reducible refine Ext.drew ?_) | (with_reducible refine Ext.drewN ?_ _) | (refine Ext.trans ?_ (by with_reducible assumption)))), by simp, by simpa using hc⟩
  case round =>
    obtain ⟨k, hk, rfl, hp, hE, hsz, hcB⟩ := hrel
    have HP := Lib.hid hp
    clear hp
    by_cases hlt : k < m
    · obtain ⟨b, off, a0, a1, a2, a3, rfl, hv, hb, g0, g1, g2, g3⟩ := visit_at (HS.out.ext hE) hlt
      have HV := Lib.hid hv
      clear hv
      have hcB2 : (wr.alloc (.cells #[.int .i64 a0, .int .i64 a1, .int .i64 a2, .int .i64 a3] 50)).cell? ⟨B, 0, none⟩ = some (.int .i64 id) := by rw [((Ext.refl wr).alloc _).cells.1 _ _ (by omega)]; exact hcB
      by_cases t : a0 = id
      · have q0 : (a0 == id) = true := by simp [t]
        have hfin : Hid (vix id vs = k) := vix_hit HV.out t HP.out
        clear t
        go_wp2_with go_in
        go_ret
        exact ⟨by rw [hfin.out]; rfl, by (repeat' (first | exact Ext.refl _ | (with_reducible assumption) | (with_reducible refine Ext.alloc ?_ _) | (with_reducible refine Ext.setCell ?_ (by first | exact Nat.le_refl _ | (dsimp only; omega) | (simp; done) | (simp; omega)) _) | (with_reducible refine Ext.drew ?_) | (with_reducible refine Ext.drewN ?_ _) | (refine Ext.trans ?_ (by with_reducible assumption))))⟩
      · have q0 : (a0 == id) = false := by simp [t]
        have hfin : Hid ((vs.take (k + 1)).any (fun v => v.1 == id) = false) := any_snoc HV.out t HP.out
        clear t
        go_wp2_with go_in
        go_roundw
        case rel => exact ⟨k + 1, by omega, by go_num, hfin.out, by (repeat' (first | exact Ext.refl _ | (with_reducible assumption) | (with_reducible refine Ext.alloc ?_ _) | (with_reducible refine Ext.setCell ?_ (by first | exact Nat.le_refl _ | (dsimp only; omega) | (simp; done) | (simp; omega)) _) | (with_reducible refine Ext.drew ?_) | (with_reducible refine Ext.drewN ?_ _) | (refine Ext.trans ?_ (by with_reducible assumption)))), by simp; omega, hcB2⟩
        case measure => simp [intOf]; omega
    · have hfin : Hid (vix id vs = -1) := vix_miss (by have := HP.out; rwa [List.take_of_length_le (by rw [hl.out]; omega)] at this)
      go_wp2
      go_ret
      exact ⟨by rw [hfin.out]; rfl, by (repeat' (first | exact Ext.refl _ | (with_reducible assumption) | (with_reducible refine Ext.alloc ?_ _) | (with_reducible refine Ext.setCell ?_ (by first | exact Nat.le_refl _ | (dsimp only; omega) | (simp; done) | (simp; omega)) _) | (with_reducible refine Ext.drew ?_) | (with_reducible refine Ext.drewN ?_ _) | (refine Ext.trans ?_ (by with_reducible assumption))))⟩

set_option maxRecDepth 100000 in
set_option maxHeartbeats 1000000 in
theorem bookIndex_any (id : Int) (q : Option Addr) (m c2 : Nat) (vs : List Visit4) (w : World) (hS : Sl w q m c2 4 (vs.flatMap visitCells)) :
    Calls Try.prog 34 #[.slice q m c2, .int .i64 id] w fun e w' => e = .returned (.int .i64 (vix id vs)) ∧ Ext w w' := by
  have HI : Hid (∀ w1 B, Ext w w1 → B < w1.heap.size → w1.cell? ⟨B, 0, none⟩ = some (.int .i64 id) → Calls Try.prog 58 #[.slice q m c2, .func (.func 59) #[] #[.pointer (some ⟨B, 0, none⟩)]] w1 fun e w' => e = .returned (.int .i64 (vix id vs)) ∧ Ext w1 w') :=
    fun w1 B hx hB hc => idxBook_any B q m c2 vs id w1 (hS.ext hx) hB hc
  clear hS
  go_enter Try.func34, Try.ntmps34
  go_wp2_with fail
  refine (HI.out _ _ (by (repeat' (first | exact Ext.refl _ | (with_reducible assumption) | (with_reducible refine Ext.alloc ?_ _) | (with_reducible refine Ext.setCell ?_ (by first | exact Nat.le_refl _ | (dsimp only; omega) | (simp; done) | (simp; omega)) _) | (with_reducible refine Ext.drew ?_) | (with_reducible refine Ext.drewN ?_ _) | (refine Ext.trans ?_ (by with_reducible assumption))))) (by simp) (by simp)).mono ?_
  rintro e w1 ⟨rfl, h1⟩
  go_wp2
  go_ret
  exact ⟨rfl, by (repeat' (first | exact Ext.refl _ | (with_reducible assumption) | (with_reducible refine Ext.alloc ?_ _) | (with_reducible refine Ext.setCell ?_ (by first | exact Nat.le_refl _ | (dsimp only; omega) | (simp; done) | (simp; omega)) _) | (with_reducible refine Ext.drew ?_) | (with_reducible refine Ext.drewN ?_ _) | (refine Ext.trans ?_ (by with_reducible assumption))))⟩

set_option maxRecDepth 100000 in
set_option maxHeartbeats 1000000 in
theorem l6Find_any (id : Int) (q : Option Addr) (m c2 : Nat) (vs : List Visit4) (w : World) (hS : Sl w q m c2 4 (vs.flatMap visitCells)) :
    Calls Try.prog 29 #[.slice q m c2, .int .i64 id] w fun e w' => e = .returned (.int .i64 (vix id vs)) ∧ Ext w w' := by
  have hn := hS.bd
  have HS := Lib.hid hS
  have hl : Hid (vs.length = m) := by
    have := hS.len; rw [flat_len visitCells 4 (fun _ => rfl)] at this; exact (by omega : vs.length = m)
  clear hS
  go_enter Try.func29, Try.ntmps29
  go_wp2
  go_loop [5] (fun i => ∃ k : Nat, k ≤ m ∧ i = .int .i64 k ∧ (vs.take k).any (fun v => v.1 == id) = false) (fun i => m - (intOf i).toNat)
  case atStart => exact ⟨0, Nat.zero_le _, rfl, by simp⟩
  case round =>
    obtain ⟨k, hk, rfl, hp⟩ := hrel
    have HP := Lib.hid hp
    clear hp
    by_cases hlt : k < m
    · obtain ⟨b, off, a0, a1, a2, a3, rfl, hv, hb, g0, g1, g2, g3⟩ := visit_at HS.out hlt
      have HV := Lib.hid hv
      clear hv
      by_cases t : a0 = id
      · have q0 : (a0 == id) = true := by simp [t]
        have hfin : Hid (vix id vs = k) := vix_hit HV.out t HP.out
        clear t
        go_wp2
        go_ret
        exact ⟨by rw [hfin.out]; rfl, by (repeat' (first | exact Ext.refl _ | (with_reducible assumption) | (with_reducible refine Ext.alloc ?_ _) | (with_reducible refine Ext.setCell ?_ (by first | exact Nat.le_refl _ | (dsimp only; omega) | (simp; done) | (simp; omega)) _) | (with_reducible refine Ext.drew ?_) | (with_reducible refine Ext.drewN ?_ _) | (refine Ext.trans ?_ (by with_reducible assumption))))⟩
      · have q0 : (a0 == id) = false := by simp [t]
        have hfin : Hid ((vs.take (k + 1)).any (fun v => v.1 == id) = false) := any_snoc HV.out t HP.out
        clear t
        go_wp2
        go_round
        case rel => exact ⟨k + 1, by omega, by go_num, hfin.out⟩
        case measure => simp [intOf]; omega
    · have hfin : Hid (vix id vs = -1) := vix_miss (by have := HP.out; rwa [List.take_of_length_le (by rw [hl.out]; omega)] at this)
      go_wp2
      go_ret
      exact ⟨by rw [hfin.out]; rfl, by (repeat' (first | exact Ext.refl _ | (with_reducible assumption) | (with_reducible refine Ext.alloc ?_ _) | (with_reducible refine Ext.setCell ?_ (by first | exact Nat.le_refl _ | (dsimp only; omega) | (simp; done) | (simp; omega)) _) | (with_reducible refine Ext.drew ?_) | (with_reducible refine Ext.drewN ?_ _) | (refine Ext.trans ?_ (by with_reducible assumption))))⟩
end Go.Proofs.Ytndcnflchkfaeaa
