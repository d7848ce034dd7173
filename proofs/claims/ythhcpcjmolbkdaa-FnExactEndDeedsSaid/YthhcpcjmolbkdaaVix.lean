/-
  A visit is looked for by its car: the rewrite's visitIndex (slices.IndexFunc with a closure), the reference's l7Find.
-/
import Derived.Test.YthhcpcjmolbkdaaHouse1
namespace Go.Proofs.Ythhcpcjmolbkdaa
open Go.RowKit
set_option linter.unusedVariables false

/-- where the first visit of a car stands, or -1 -/
def vix (id : Int) (vs : List Visit4) : Int := if vs.any (fun v => v.1 == id) then (vs.findIdx (fun v => v.1 == id) : Int) else -1
theorem vix_hit {id : Int} {vs : List Visit4} {k : Nat} {v : Visit4} (hv : vs[k]? = some v) (h : v.1 = id) (hp : (vs.take k).any (fun v => v.1 == id) = false) : vix id vs = k := by
  have hlt : k < vs.length := (List.getElem?_eq_some_iff.1 hv).1
  have e : vs[k] = v := by have := (List.getElem?_eq_some_iff.1 hv).2; exact this
  have ha : vs.any (fun v => v.1 == id) = true := List.any_eq_true.2 ⟨v, List.mem_of_getElem? hv, by simp [h]⟩
  have hi : vs.findIdx (fun v => v.1 == id) = k := by
    rw [List.findIdx_eq hlt]
    refine ⟨by simp [e, h], fun j hj => ?_⟩
    have := List.any_eq_false.1 hp vs[j] (by
      rw [List.mem_take_iff_getElem]; exact ⟨j, by omega, rfl⟩)
    simpa using this
  unfold vix; rw [if_pos ha, hi]
theorem vix_miss {id : Int} {vs : List Visit4} (hp : vs.any (fun v => v.1 == id) = false) : vix id vs = -1 := by unfold vix; simp [hp]
theorem any_snoc {id : Int} {vs : List Visit4} {k : Nat} {v : Visit4} (hv : vs[k]? = some v) (h : ¬ v.1 = id) (hp : (vs.take k).any (fun v => v.1 == id) = false) : (vs.take (k + 1)).any (fun v => v.1 == id) = false := by
  rw [take_snocL hv, List.any_append, hp]; simp [h]
theorem vix_cases (id : Int) (vs : List Visit4) : (vix id vs = -1 ∧ visitAt id vs = none) ∨ ∃ (k : Nat) (a1 a2 a3 : Int), k < vs.length ∧ vix id vs = k ∧ vs[k]? = some (id, a1, a2, a3) ∧ visitAt id vs = some (id, a1, a2, a3) := by
  cases h : vs.any (fun v => v.1 == id) with
  | false => exact .inl ⟨vix_miss h, by unfold visitAt; rw [List.find?_eq_none]; simpa using h⟩
  | true =>
    right
    have hlt : vs.findIdx (fun v => v.1 == id) < vs.length := List.findIdx_lt_length.2 (by simpa using h)
    have hg := List.findIdx_getElem (w := hlt)
    have hf : visitAt id vs = some (vs[vs.findIdx (fun v => v.1 == id)]) := by
      unfold visitAt
      rw [List.find?_eq_some_iff_getElem]
      exact ⟨hg, _, hlt, rfl, fun j hj => by simpa using List.not_of_lt_findIdx hj⟩
    have h0 : vs[vs.findIdx (fun v => v.1 == id)].1 = id := by simpa using hg
    generalize hb : vs[vs.findIdx (fun v => v.1 == id)] = v at *
    obtain ⟨b0, b1, b2, b3⟩ := v
    dsimp only at h0
    subst h0
    exact ⟨_, b1, b2, b3, hlt, by unfold vix; rw [if_pos h], by rw [List.getElem?_eq_getElem hlt, hb], hf⟩

set_option maxRecDepth 100000 in
set_option maxHeartbeats 1000000 in
theorem indexFunc_any (B : Nat) (q : Option Addr) (m c2 : Nat) (vs : List Visit4) (id : Int) (w : World) (hS : Sl w q m c2 4 (vs.flatMap visitCells)) (hB : B < w.heap.size) (hc : w.cell? ⟨B, 0, none⟩ = some (.int .i64 id)) :
    Calls Try.prog 63 #[.slice q m c2, .func (.func 64) #[] #[.pointer (some ⟨B, 0, none⟩)]] w fun e w' => e = .returned (.int .i64 (vix id vs)) ∧ Ext w w' := by
  have hn := hS.bd
  have HS := Lib.hid hS
  have hl : Hid (vs.length = m) := by
    have := hS.len; rw [flat_len visitCells 4 (fun _ => rfl)] at this; exact (by omega : vs.length = m)
  clear hS
  go_enter Try.func63, Try.ntmps63
  go_wp2
  go_loopw [8] (fun i wr => ∃ k : Nat, k ≤ m ∧ i = .int .i64 k ∧ (vs.take k).any (fun v => v.1 == id) = false ∧ Ext w wr ∧ w.heap.size ≤ wr.heap.size ∧ wr.cell? ⟨B, 0, none⟩ = some (.int .i64 id)) (fun i _ => m - (intOf i).toNat)
  case atStart => exact ⟨0, Nat.zero_le _, rfl, by simp, by (repeat' (first | exact Ext.refl _ | (with_reducible assumption) | (with_reducible refine Ext.alloc ?_ _) | (with_reducible refine Ext.setCell ?_ (by first | exact Nat.le_refl _ | (dsimp only; omega) | (simp; done) | (simp; omega)) _) | (with_reducible refine Ext.drew ?_) | (with_reducible refine Ext.drewN ?_ _) | (refine Ext.trans ?_ (by with_reducible assumption)))), by simp, by simpa using hc⟩
  case round =>
    obtain ⟨k, hk, rfl, hp, hE, hsz, hcB⟩ := hrel
    have HP := Lib.hid hp
    clear hp
    by_cases hlt : k < m
    · obtain ⟨b, off, a0, a1, a2, a3, rfl, hv, hb, g0, g1, g2, g3⟩ := visit_at (HS.out.ext hE) hlt
      have HV := Lib.hid hv
      clear hv
      have hcB2 : (wr.alloc (.cells #[.int .i64 a0, .int .i64 a1, .int .i64 a2, .int .i64 a3] 66)).cell? ⟨B, 0, none⟩ = some (.int .i64 id) := by rw [((Ext.refl wr).alloc _).cells.1 _ _ (by omega)]; exact hcB
      by_cases t : a0 = id
      · have q0 : (a0 == id) = true := by simp [t]
        have hfin : Hid (vix id vs = k) := vix_hit HV.out t HP.out
        clear t
        go_wp2_with go_in
        go_ret
        exact ⟨by rw [hfin.out]; rfl, by (repeat' (first | exact Ext.refl _ | (with_reducible assumption) | (with_reducible refine Ext.alloc ?_ _) | (with_reducible refine Ext.setCell ?_ (by first | exact Nat.le_refl _ | (dsimp only; omega) | (simp; done) | (simp; omega)) _) | (with_reducible refine Ext.drew ?_) | (with_reducible refine Ext.drewN ?_ _) | (refine Ext.trans ?_ (by with_reducible assumption))))⟩
      · have q0 : (a0 == id) = false := by simp [t]
        have hfin : Hid ((vs.take (k + 1)).any (fun v => v.1 == id) = false) := any_snoc HV.out t HP.out
        clear t
        go_wp2_with go_in
        go_roundw
        case rel => exact ⟨k + 1, by omega, by go_num, hfin.out, by (repeat' (first | exact Ext.refl _ | (with_reducible assumption) | (with_reducible refine Ext.alloc ?_ _) | (with_reducible refine Ext.setCell ?_ (by first | exact Nat.le_refl _ | (dsimp only; omega) | (simp; done) | (simp; omega)) _) | (with_reducible refine Ext.drew ?_) | (with_reducible refine Ext.drewN ?_ _) | (refine Ext.trans ?_ (by with_reducible assumption)))), by simp; omega, hcB2⟩
        case measure => simp [intOf]; omega
    · have hfin : Hid (vix id vs = -1) := vix_miss (by have := HP.out; rwa [List.take_of_length_le (by rw [hl.out]; omega)] at this)
      go_wp2
      go_ret
      exact ⟨by rw [hfin.out]; rfl, by (repeat' (first | exact Ext.refl _ | (with_reducible assumption) | (with_reducible refine Ext.alloc ?_ _) | (with_reducible refine Ext.setCell ?_ (by first | exact Nat.le_refl _ | (dsimp only; omega) | (simp; done) | (simp; omega)) _) | (with_reducible refine Ext.drew ?_) | (with_reducible refine Ext.drewN ?_ _) | (refine Ext.trans ?_ (by with_reducible assumption))))⟩

set_option maxRecDepth 100000 in
set_option maxHeartbeats 1000000 in
theorem visitIndex_any (wide deep free step price capp clock bank id : Int) (p : Option Addr) (n cap : Nat) (q : Option Addr) (m c2 : Nat) (vs : List Visit4) (w : World) (hS : Sl w q m c2 4 (vs.flatMap visitCells)) :
    Calls Try.prog 56 #[.agg #[.int .i64 wide, .int .i64 deep, .slice p n cap, .int .i64 free, .int .i64 step, .int .i64 price, .int .i64 capp, .int .i64 clock, .int .i64 bank, .slice q m c2], .int .i64 id] w fun e w' => e = .returned (.int .i64 (vix id vs)) ∧ Ext w w' := by
  have HI : Hid (∀ w1 B, Ext w w1 → B < w1.heap.size → w1.cell? ⟨B, 0, none⟩ = some (.int .i64 id) → Calls Try.prog 63 #[.slice q m c2, .func (.func 64) #[] #[.pointer (some ⟨B, 0, none⟩)]] w1 fun e w' => e = .returned (.int .i64 (vix id vs)) ∧ Ext w1 w') :=
    fun w1 B hx hB hc => indexFunc_any B q m c2 vs id w1 (hS.ext hx) hB hc
  clear hS
  go_enter Try.func56, Try.ntmps56
  go_wp2_with fail
  refine (HI.out _ _ (by (repeat' (first | exact Ext.refl _ | (with_reducible assumption) | (with_reducible refine Ext.alloc ?_ _) | (with_reducible refine Ext.setCell ?_ (by first | exact Nat.le_refl _ | (dsimp only; omega) | (simp; done) | (simp; omega)) _) | (with_reducible refine Ext.drew ?_) | (with_reducible refine Ext.drewN ?_ _) | (refine Ext.trans ?_ (by with_reducible assumption))))) (by simp) (by simp)).mono ?_
  rintro e w1 ⟨rfl, h1⟩
  go_wp2
  go_ret
  exact ⟨rfl, by (repeat' (first | exact Ext.refl _ | (with_reducible assumption) | (with_reducible refine Ext.alloc ?_ _) | (with_reducible refine Ext.setCell ?_ (by first | exact Nat.le_refl _ | (dsimp only; omega) | (simp; done) | (simp; omega)) _) | (with_reducible refine Ext.drew ?_) | (with_reducible refine Ext.drewN ?_ _) | (refine Ext.trans ?_ (by with_reducible assumption))))⟩

set_option maxRecDepth 100000 in
set_option maxHeartbeats 1000000 in
theorem l7Find_any (wide deep free step price capp clock bank id : Int) (p : Option Addr) (n cap : Nat) (q : Option Addr) (m c2 : Nat) (vs : List Visit4) (w : World) (hS : Sl w q m c2 4 (vs.flatMap visitCells)) :
    Calls Try.prog 49 #[.agg #[.int .i64 wide, .int .i64 deep, .slice p n cap, .int .i64 free, .int .i64 step, .int .i64 price, .int .i64 capp, .int .i64 clock, .int .i64 bank, .slice q m c2], .int .i64 id] w fun e w' => e = .returned (.int .i64 (vix id vs)) ∧ Ext w w' := by
  have hn := hS.bd
  have HS := Lib.hid hS
  have hl : Hid (vs.length = m) := by
    have := hS.len; rw [flat_len visitCells 4 (fun _ => rfl)] at this; exact (by omega : vs.length = m)
  clear hS
  go_enter Try.func49, Try.ntmps49
  go_wp2
  go_loop [5] (fun i => ∃ k : Nat, k ≤ m ∧ i = .int .i64 k ∧ (vs.take k).any (fun v => v.1 == id) = false) (fun i => m - (intOf i).toNat)
  case atStart => exact ⟨0, Nat.zero_le _, rfl, by simp⟩
  case round =>
    obtain ⟨k, hk, rfl, hp⟩ := hrel
    have HP := Lib.hid hp
    clear hp
    by_cases hlt : k < m
    · obtain ⟨b, off, a0, a1, a2, a3, rfl, hv, hb, g0, g1, g2, g3⟩ := visit_at HS.out hlt
      have HV := Lib.hid hv
      clear hv
      by_cases t : a0 = id
      · have q0 : (a0 == id) = true := by simp [t]
        have hfin : Hid (vix id vs = k) := vix_hit HV.out t HP.out
        clear t
        go_wp2
        go_ret
        exact ⟨by rw [hfin.out]; rfl, by (repeat' (first | exact Ext.refl _ | (with_reducible assumption) | (with_reducible refine Ext.alloc ?_ _) | (with_reducible refine Ext.setCell ?_ (by first | exact Nat.le_refl _ | (dsimp only; omega) | (simp; done) | (simp; omega)) _) | (with_reducible refine Ext.drew ?_) | (with_reducible refine Ext.drewN ?_ _) | (refine Ext.trans ?_ (by with_reducible assumption))))⟩
      · have q0 : (a0 == id) = false := by simp [t]
        have hfin : Hid ((vs.take (k + 1)).any (fun v => v.1 == id) = false) := any_snoc HV.out t HP.out
        clear t
        go_wp2
        go_round
        case rel => exact ⟨k + 1, by omega, by go_num, hfin.out⟩
        case measure => simp [intOf]; omega
    · have hfin : Hid (vix id vs = -1) := vix_miss (by have := HP.out; rwa [List.take_of_length_le (by rw [hl.out]; omega)] at this)
      go_wp2
      go_ret
      exact ⟨by rw [hfin.out]; rfl, by (repeat' (first | exact Ext.refl _ | (with_reducible assumption) | (with_reducible refine Ext.alloc ?_ _) | (with_reducible refine Ext.setCell ?_ (by first | exact Nat.le_refl _ | (dsimp only; omega) | (simp; done) | (simp; omega)) _) | (with_reducible refine Ext.drew ?_) | (with_reducible refine Ext.drewN ?_ _) | (refine Ext.trans ?_ (by with_reducible assumption))))⟩
end Go.Proofs.Ythhcpcjmolbkdaa
