/-
  A visit is looked for by its car: the rewrite's visitIndex (slices.IndexFunc with a closure), the reference's l7Find.
-/
import Derived.Test.YteejdnmmpmcmeaaGreatDoorHouse1
namespace Go.Proofs.YteejdnmmpmcmeaaGreatDoor
open Go.RowKit
set_option linter.unusedVariables false

/-- where the first visit of a car stands, or -1 -/
def vix (id : Int) (vs : List Visit4) : Int := if vs.any (fun v => v.1 == id) then (vs.findIdx (fun v => v.1 == id) : Int) else -1
theorem vix_hit {id : Int} {vs : List Visit4} {k : Nat} {v : Visit4} (hv : vs[k]? = some v) (h : v.1 = id) (hp : (vs.take k).any (fun v => v.1 == id) = false) : vix id vs = k := by
  have hlt : k < vs.length := (List.getElem?_eq_some_iff.1 hv).1
  have e : vs[k] = v := by have := (List.getElem?_eq_some_iff.1 hv).2; exact this
  have ha : vs.any (fun v => v.1 == id) = true := List.any_eq_true.2 ⟨v, List.mem_of_getElem? hv, by simp [h]⟩
  have hi : vs.findIdx (fun v => v.1 == id) = k := by
    rw [List.findIdx_eq hlt]
    refine ⟨by simp [e, h], fun j hj => ?_⟩
    have := List.any_eq_false.1 hp vs[j] (by
      rw [List.mem_take_iff_getElem]; exact ⟨j, by omega, rfl⟩)
    simpa using this
  unfold vix; rw [if_pos ha, hi]
theorem vix_miss {id : Int} {vs : List Visit4} (hp : vs.any (fun v => v.1 == id) = false) : vix id vs = -1 := by unfold vix; simp [hp]
theorem any_snoc {id : Int} {vs : List Visit4} {k : Nat} {v : Visit4} (hv : vs[k]? = some v) (h : ¬ v.1 = id) (hp : (vs.take k).any (fun v => v.1 == id) = false) : (vs.take (k + 1)).any (fun v => v.1 == id) = false := by
  rw [take_snocL hv, List.any_append, hp]; simp [h]
theorem vix_cases (id : Int) (vs : List Visit4) : (vix id vs = -1 ∧ visitAt id vs = none) ∨ ∃ (k : Nat) (a1 a2 a3 : Int), k < vs.length ∧ vix id vs = k ∧ vs[k]? = some (id, a1, a2, a3) ∧ visitAt id vs = some (id, a1, a2, a3) := by
  cases h : vs.any (fun v => v.1 == id) with
  | false => exact .inl ⟨vix_miss h, by unfold visitAt; rw [List.find?_eq_none]; simpa using h⟩
  | true =>
    right
    have hlt : vs.findIdx (fun v => v.1 == id) < vs.length := List.findIdx_lt_length.2 (by simpa using h)
    have hg := List.findIdx_getElem (w := hlt)
    have hf : visitAt id vs = some (vs[vs.findIdx (fun v => v.1 == id)]) := by
      unfold visitAt
      rw [List.find?_eq_some_iff_getElem]
      exact ⟨hg, _, hlt, rfl, fun j hj => by simpa using List.not_of_lt_findIdx hj⟩
    have h0 : vs[vs.findIdx (fun v => v.1 == id)].1 = id := by simpa using hg
    generalize hb : vs[vs.findIdx (fun v => v.1 == id)] = v at *
    obtain ⟨b0, b1, b2, b3⟩ := v
    dsimp only at h0
    subst h0
    exact ⟨_, b1, b2, b3, hlt, by unfold vix; rw [if_pos h], by rw [List.getElem?_eq_getElem hlt, hb], hf⟩

set_option maxRecDepth 100000 in
set_option maxHeartbeats 1000000 in
theorem indexFunc_any (B : Nat) (q : Option Addr) (m c2 : Nat) (vs : List Visit4) (id : Int) (w : World) (hS : Sl w q m c2 4 (vs.flatMap visitCells)) (hB : B < w.heap.size) (hc : w.cell? ⟨B, 0, none⟩ = some (.int .i64 id)) :
    Calls Tryz.prog 125 #[.slice q m c2, .func (.func 126) #[] #[.pointer (some ⟨B, 0, none⟩)]] w fun e w' => e = .returned (.int .i64 (vix id vs)) ∧ Ext w w' := by
  have hn := hS.bd
  have HS := Lib.hid hS
  have hl : Hid (vs.length = m) := by
    have := hS.len; rw [flat_len visitCells 4 (fun _ => rfl)] at this; exact (by omega : vs.length = m)
  clear hS
  go_enter Tryz.func125, Tryz.ntmps125
  go_wp2
  go_loopw [8] (fun i wr => ∃ k : Nat, k ≤ m ∧ i = .int .i64 k ∧ (vs.take k).any (fun v => v.1 == id) = false ∧ Ext w wr ∧ w.heap.size ≤ wr.heap.size ∧ wr.cell? ⟨B, 0, none⟩ = some (.int .i64 id)) (fun i _ => m - (intOf i).toNat)
  case atStart => exact ⟨0, Nat.zero_le _, rfl, by simp, by (repeat' (first | exact Ext.refl _ | (with_reducible assumption) | (with_reducible refine Ext.alloc ?_ _) | (with_reducible refine Ext.setCell ?_ (by first | exact Nat.le_refl _ | (dsimp only; omega) | (simp; done) | (simp; omega)) _) | (with_reducible refine Ext.drew ?_) | (with_reducible refine Ext.drewN ?_ _) | (refine Ext.trans ?_ (by with_reducible assumption)))), by simp, by simpa using hc⟩
  case round =>
    obtain ⟨k, hk, rfl, hp, hE, hsz, hcB⟩ := hrel
    have HP := Lib.hid hp
    clear hp
    by_cases hlt : k < m
    · obtain ⟨b, off, a0, a1, a2, a3, rfl, hv, hb, g0, g1, g2, g3⟩ := visit_at (HS.out.ext hE) hlt
      have HV := Lib.hid hv
      clear hv
      have hcB2 : (wr.alloc (.cells #[.int .i64 a0, .int .i64 a1, .int .i64 a2, .int .i64 a3] 38)).cell? ⟨B, 0, none⟩ = some (.int .i64 id) := by rw [((Ext.refl wr).alloc _).cells.1 _ _ (by omega)]; exact hcB
      by_cases t : a0 = id
      · have q0 : (a0 == id) = true := by simp [t]
        have hfin : Hid (vix id vs = k) := vix_hit HV.out t HP.out
        clear t
        go_wp2_with go_in
        go_ret
        exact ⟨by rw [hfin.out]; rfl, by (repeat' (first | exact Ext.refl _ | (with_reducible assumption) | (with_reducible refine Ext.alloc ?_ _) | (with_reducible refine Ext.setCell ?_ (by first | exact Nat.le_refl _ | (dsimp only; omega) | (simp; done) | (simp; omega)) _) | (with_reducible refine Ext.drew ?_) | (with_reducible refine Ext.drewN ?_ _) | (refine Ext.trans ?_ (by with_reducible assumption))))⟩
      · have q0 : (a0 == id) = false := by simp [t]
        have hfin : Hid ((vs.take (k + 1)).any (fun v => v.1 == id) = false) := any_snoc HV.out t HP.out
        clear t
        go_wp2_with go_in
        go_roundw
        case rel => exact ⟨k + 1, by omega, by go_num, hfin.out, by (repeat' (first | exact Ext.refl _ | (with_reducible assumption) | (with_reducible refine Ext.alloc ?_ _) | (with_reducible refine Ext.setCell ?_ (by first | exact Nat.le_refl _ | (dsimp only; omega) | (simp; done) | (simp; omega)) _) | (with_reducible refine Ext.drew ?_) | (with_reducible refine Ext.drewN ?_ _) | (refine Ext.trans ?_ (by with_reducible assumption)))), by simp; omega, hcB2⟩
        case measure => simp [intOf]; omega
    · have hfin : Hid (vix id vs = -1) := vix_miss (by have := HP.out; rwa [List.take_of_length_le (by rw [hl.out]; omega)] at this)
      go_wp2
      go_ret
      exact ⟨by rw [hfin.out]; rfl, by (repeat' (first | exact Ext.refl _ | (with_reducible assumption) | (with_reducible refine Ext.alloc ?_ _) | (with_reducible refine Ext.setCell ?_ (by first | exact Nat.le_refl _ | (dsimp only; omega) | (simp; done) | (simp; omega)) _) | (with_reducible refine Ext.drew ?_) | (with_reducible refine Ext.drewN ?_ _) | (refine Ext.trans ?_ (by with_reducible assumption))))⟩

set_option maxRecDepth 100000 in
set_option maxHeartbeats 1000000 in
theorem visitIndex_any (wide deep free step price capp clock bank id : Int) (p : Option Addr) (n cap : Nat) (q : Option Addr) (m c2 : Nat) (vs : List Visit4) (w : World) (hS : Sl w q m c2 4 (vs.flatMap visitCells)) :
    Calls Tryz.prog 72 #[.agg #[.int .i64 wide, .int .i64 deep, .slice p n cap, .int .i64 free, .int .i64 step, .int .i64 price, .int .i64 capp, .int .i64 clock, .int .i64 bank, .slice q m c2], .int .i64 id] w fun e w' => e = .returned (.int .i64 (vix id vs)) ∧ Ext w w' := by
  have HI : Hid (∀ w1 B, Ext w w1 → B < w1.heap.size → w1.cell? ⟨B, 0, none⟩ = some (.int .i64 id) → Calls Tryz.prog 125 #[.slice q m c2, .func (.func 126) #[] #[.pointer (some ⟨B, 0, none⟩)]] w1 fun e w' => e = .returned (.int .i64 (vix id vs)) ∧ Ext w1 w') :=
    fun w1 B hx hB hc => indexFunc_any B q m c2 vs id w1 (hS.ext hx) hB hc
  clear hS
  go_enter Tryz.func72, Tryz.ntmps72
  go_wp2_with fail
  refine (HI.out _ _ (by (repeat' (first | exact Ext.refl _ | (with_reducible assumption) | (with_reducible refine Ext.alloc ?_ _) | (with_reducible refine Ext.setCell ?_ (by first | exact Nat.le_refl _ | (dsimp only; omega) | (simp; done) | (simp; omega)) _) | (with_reducible refine Ext.drew ?_) | (with_reducible refine Ext.drewN ?_ _) | (refine Ext.trans ?_ (by with_reducible assumption))))) (by simp) (by simp)).mono ?_
  rintro e w1 ⟨rfl, h1⟩
  go_wp2
  go_ret
  exact ⟨rfl, by (repeat' (first | exact Ext.refl _ | (with_reducible assumption) | (with_reducible refine Ext.alloc ?_ _) | (with_reducible refine Ext.setCell ?_ (by first | exact Nat.le_refl _ | (dsimp only; omega) | (simp; done) | (simp; omega)) _) | (with_reducible refine Ext.drew ?_) | (with_reducible refine Ext.drewN ?_ _) | (refine Ext.trans ?_ (by with_reducible assumption))))⟩

set_option maxRecDepth 100000 in
set_option maxHeartbeats 1000000 in
theorem l7Find_any (wide deep free step price capp clock bank id : Int) (p : Option Addr) (n cap : Nat) (q : Option Addr) (m c2 : Nat) (vs : List Visit4) (w : World) (hS : Sl w q m c2 4 (vs.flatMap visitCells)) :
    Calls Tryz.prog 73 #[.agg #[.int .i64 wide, .int .i64 deep, .slice p n cap, .int .i64 free, .int .i64 step, .int .i64 price, .int .i64 capp, .int .i64 clock, .int .i64 bank, .slice q m c2], .int .i64 id] w fun e w' => e = .returned (.int .i64 (vix id vs)) ∧ Ext w w' := by
  have hn := hS.bd
  have HS := Lib.hid hS
  have hl : Hid (vs.length = m) := by
    have := hS.len; rw [flat_len visitCells 4 (fun _ => rfl)] at this; exact (by omega : vs.length = m)
  clear hS
  go_enter Tryz.func73, Tryz.ntmps73
  go_wp2
  go_loop [5] (fun i => ∃ k : Nat, k ≤ m ∧ i = .int .i64 k ∧ (vs.take k).any (fun v => v.1 == id) = false) (fun i => m - (intOf i).toNat)
  case atStart => exact ⟨0, Nat.zero_le _, rfl, by simp⟩
  case round =>
    obtain ⟨k, hk, rfl, hp⟩ := hrel
    have HP := Lib.hid hp
    clear hp
    by_cases hlt : k < m
    · obtain ⟨b, off, a0, a1, a2, a3, rfl, hv, hb, g0, g1, g2, g3⟩ := visit_at HS.out hlt
      have HV := Lib.hid hv
      clear hv
      by_cases t : a0 = id
      · have q0 : (a0 == id) = true := by simp [t]
        have hfin : Hid (vix id vs = k) := vix_hit HV.out t HP.out
        clear t
        go_wp2
        go_ret
        exact ⟨by rw [hfin.out]; rfl, by (repeat' (first | exact Ext.refl _ | (with_reducible assumption) | (with_reducible refine Ext.alloc ?_ _) | (with_reducible refine Ext.setCell ?_ (by first | exact Nat.le_refl _ | (dsimp only; omega) | (simp; done) | (simp; omega)) _) | (with_reducible refine Ext.drew ?_) | (with_reducible refine Ext.drewN ?_ _) | (refine Ext.trans ?_ (by with_reducible assumption))))⟩
      · have q0 : (a0 == id) = false := by simp [t]
        have hfin : Hid ((vs.take (k + 1)).any (fun v => v.1 == id) = false) := any_snoc HV.out t HP.out
        clear t
        go_wp2
        go_round
        case rel => exact ⟨k + 1, by omega, by go_num, hfin.out⟩
        case measure => simp [intOf]; omega
    · have hfin : Hid (vix id vs = -1) := vix_miss (by have := HP.out; rwa [List.take_of_length_le (by rw [hl.out]; omega)] at this)
      go_wp2
      go_ret
      exact ⟨by rw [hfin.out]; rfl, by (repeat' (first | exact Ext.refl _ | (with_reducible assumption) | (with_reducible refine Ext.alloc ?_ _) | (with_reducible refine Ext.setCell ?_ (by first | exact Nat.le_refl _ | (dsimp only; omega) | (simp; done) | (simp; omega)) _) | (with_reducible refine Ext.drew ?_) | (with_reducible refine Ext.drewN ?_ _) | (refine Ext.trans ?_ (by with_reducible assumption))))⟩
end Go.Proofs.YteejdnmmpmcmeaaGreatDoor

/-
  Both packages' HouseStay, HouseDue, HouseMay: what they say of a car's stay. Condition: the house's slices read as lists.
-/
namespace Go.Proofs.YteejdnmmpmcmeaaGreatDoor
open Go.RowKit
set_option linter.unusedVariables false
set_option linter.unusedSimpArgs false

/-- what HouseStay hands back -/
def stayR (h : HouseD) (id : Int) : Value := match houseStay h id with
  | some s => .tuple #[.agg #[.int .i64 s.1, .int .i64 s.2.1, .int .i64 s.2.2], .bool true]
  | none => .tuple #[.agg #[.int .i64 0, .int .i64 0, .int .i64 0], .bool false]

set_option maxRecDepth 100000 in
set_option maxHeartbeats 1000000 in
theorem implHst_bad (wide deep free step price capp clock bank id : Int) (p : Option Addr) (n cap : Nat) (q : Option Addr) (m c2 : Nat) (w : World)
    (HV : Hid (∀ w', Ext w w' → Calls Tryz.prog 16 #[.agg #[.int .i64 wide, .int .i64 deep, .slice p n cap, .int .i64 free, .int .i64 step, .int .i64 price, .int .i64 capp, .int .i64 clock, .int .i64 bank, .slice q m c2]] w' fun e w'' => e = .returned (.bool false) ∧ Ext w' w'')) :
    Calls Tryz.prog 22 #[.agg #[.int .i64 wide, .int .i64 deep, .slice p n cap, .int .i64 free, .int .i64 step, .int .i64 price, .int .i64 capp, .int .i64 clock, .int .i64 bank, .slice q m c2], .int .i64 id] w fun e w' => e = .returned (.tuple #[.agg #[.int .i64 0, .int .i64 0, .int .i64 0], .bool false]) ∧ Ext w w' := by
  go_enter Tryz.func22, Tryz.ntmps22
  go_wp2_with fail
  refine (HV.out _ (by (repeat' (first | exact Ext.refl _ | (with_reducible assumption) | (with_reducible refine Ext.alloc ?_ _) | (with_reducible refine Ext.setCell ?_ (by first | exact Nat.le_refl _ | (dsimp only; omega) | (simp; done) | (simp; omega)) _) | (with_reducible refine Ext.drew ?_) | (with_reducible refine Ext.drewN ?_ _) | (refine Ext.trans ?_ (by with_reducible assumption)))))).mono ?_
  rintro e w1 ⟨rfl, hh1⟩
  have BA1 : Blk w1 w.heap.size 30 #[.int .i64 wide, .int .i64 deep, .slice p n cap, .int .i64 free, .int .i64 step, .int .i64 price, .int .i64 capp, .int .i64 clock, .int .i64 bank, .slice q m c2] := ((Blk.new w _ _).alloc _).ext hh1
  have BS1 : Blk w1 (w.heap.size + 1) 36 #[.int .i64 0, .int .i64 0, .int .i64 0] := by have := (Blk.new (w.alloc (.cells #[.int .i64 wide, .int .i64 deep, .slice p n cap, .int .i64 free, .int .i64 step, .int .i64 price, .int .i64 capp, .int .i64 clock, .int .i64 bank, .slice q m c2] 30)) 36 #[.int .i64 0, .int .i64 0, .int .i64 0]).ext hh1; simpa using this
  have X1 : Ext w w1 := (((Ext.refl w).alloc _).alloc _).trans hh1
  have s1 : w.heap.size + 1 < w1.heap.size := BS1.lt
  replace BA1 := Lib.hid BA1
  replace BS1 := Lib.hid BS1
  clear hh1
  have e1_0 : w1.cell? ⟨w.heap.size, 0, none⟩ = some (.int .i64 wide) := BA1.out.cell 0
  have e1_1 : w1.cell? ⟨w.heap.size, 1, none⟩ = some (.int .i64 deep) := BA1.out.cell 1
  have e1_2 : w1.cell? ⟨w.heap.size, 2, none⟩ = some (.slice p n cap) := BA1.out.cell 2
  have e1_3 : w1.cell? ⟨w.heap.size, 3, none⟩ = some (.int .i64 free) := BA1.out.cell 3
  have e1_4 : w1.cell? ⟨w.heap.size, 4, none⟩ = some (.int .i64 step) := BA1.out.cell 4
  have e1_5 : w1.cell? ⟨w.heap.size, 5, none⟩ = some (.int .i64 price) := BA1.out.cell 5
  have e1_6 : w1.cell? ⟨w.heap.size, 6, none⟩ = some (.int .i64 capp) := BA1.out.cell 6
  have e1_7 : w1.cell? ⟨w.heap.size, 7, none⟩ = some (.int .i64 clock) := BA1.out.cell 7
  have e1_8 : w1.cell? ⟨w.heap.size, 8, none⟩ = some (.int .i64 bank) := BA1.out.cell 8
  have e1_9 : w1.cell? ⟨w.heap.size, 9, none⟩ = some (.slice q m c2) := BA1.out.cell 9
  have z1_0 : w1.cell? ⟨w.heap.size + 1, 0, none⟩ = some (.int .i64 0) := BS1.out.cell 0
  have z1_1 : w1.cell? ⟨w.heap.size + 1, 1, none⟩ = some (.int .i64 0) := BS1.out.cell 1
  have z1_2 : w1.cell? ⟨w.heap.size + 1, 2, none⟩ = some (.int .i64 0) := BS1.out.cell 2
  have y1_0 : w1.frozen? ⟨w.heap.size + 1, 0, none⟩ = false := BS1.out.frozen 0
  have y1_1 : w1.frozen? ⟨w.heap.size + 1, 1, none⟩ = false := BS1.out.frozen 1
  have y1_2 : w1.frozen? ⟨w.heap.size + 1, 2, none⟩ = false := BS1.out.frozen 2
  go_wp2
  exact bodyPost_ret (v := .tuple #[.agg #[.int .i64 0, .int .i64 0, .int .i64 0], .bool false]) (by simp [results, Tryz.results22, go_sem, *]) rfl ⟨rfl, by (repeat' (first | exact Ext.refl _ | (with_reducible assumption) | (with_reducible refine Ext.alloc ?_ _) | (with_reducible refine Ext.setCell ?_ (by first | exact Nat.le_refl _ | (dsimp only; omega) | (simp; done) | (simp; omega)) _) | (with_reducible refine Ext.drew ?_) | (with_reducible refine Ext.drewN ?_ _) | (refine Ext.trans ?_ (by with_reducible assumption))))⟩

set_option maxRecDepth 100000 in
set_option maxHeartbeats 1000000 in
theorem implHst_no (wide deep free step price capp clock bank id : Int) (p : Option Addr) (n cap : Nat) (q : Option Addr) (m c2 : Nat) (w : World)
    (HV : Hid (∀ w', Ext w w' → Calls Tryz.prog 16 #[.agg #[.int .i64 wide, .int .i64 deep, .slice p n cap, .int .i64 free, .int .i64 step, .int .i64 price, .int .i64 capp, .int .i64 clock, .int .i64 bank, .slice q m c2]] w' fun e w'' => e = .returned (.bool true) ∧ Ext w' w''))
    (HX : Hid (∀ w', Ext w w' → Calls Tryz.prog 72 #[.agg #[.int .i64 wide, .int .i64 deep, .slice p n cap, .int .i64 free, .int .i64 step, .int .i64 price, .int .i64 capp, .int .i64 clock, .int .i64 bank, .slice q m c2], .int .i64 id] w' fun e w'' => e = .returned (.int .i64 (-1)) ∧ Ext w' w'')) :
    Calls Tryz.prog 22 #[.agg #[.int .i64 wide, .int .i64 deep, .slice p n cap, .int .i64 free, .int .i64 step, .int .i64 price, .int .i64 capp, .int .i64 clock, .int .i64 bank, .slice q m c2], .int .i64 id] w fun e w' => e = .returned (.tuple #[.agg #[.int .i64 0, .int .i64 0, .int .i64 0], .bool false]) ∧ Ext w w' := by
  go_enter Tryz.func22, Tryz.ntmps22
  go_wp2_with fail
  refine (HV.out _ (by (repeat' (first | exact Ext.refl _ | (with_reducible assumption) | (with_reducible refine Ext.alloc ?_ _) | (with_reducible refine Ext.setCell ?_ (by first | exact Nat.le_refl _ | (dsimp only; omega) | (simp; done) | (simp; omega)) _) | (with_reducible refine Ext.drew ?_) | (with_reducible refine Ext.drewN ?_ _) | (refine Ext.trans ?_ (by with_reducible assumption)))))).mono ?_
  rintro e w1 ⟨rfl, hh1⟩
  have BA1 : Blk w1 w.heap.size 30 #[.int .i64 wide, .int .i64 deep, .slice p n cap, .int .i64 free, .int .i64 step, .int .i64 price, .int .i64 capp, .int .i64 clock, .int .i64 bank, .slice q m c2] := ((Blk.new w _ _).alloc _).ext hh1
  have BS1 : Blk w1 (w.heap.size + 1) 36 #[.int .i64 0, .int .i64 0, .int .i64 0] := by have := (Blk.new (w.alloc (.cells #[.int .i64 wide, .int .i64 deep, .slice p n cap, .int .i64 free, .int .i64 step, .int .i64 price, .int .i64 capp, .int .i64 clock, .int .i64 bank, .slice q m c2] 30)) 36 #[.int .i64 0, .int .i64 0, .int .i64 0]).ext hh1; simpa using this
  have X1 : Ext w w1 := (((Ext.refl w).alloc _).alloc _).trans hh1
  have s1 : w.heap.size + 1 < w1.heap.size := BS1.lt
  replace BA1 := Lib.hid BA1
  replace BS1 := Lib.hid BS1
  clear hh1
  have e1_0 : w1.cell? ⟨w.heap.size, 0, none⟩ = some (.int .i64 wide) := BA1.out.cell 0
  have e1_1 : w1.cell? ⟨w.heap.size, 1, none⟩ = some (.int .i64 deep) := BA1.out.cell 1
  have e1_2 : w1.cell? ⟨w.heap.size, 2, none⟩ = some (.slice p n cap) := BA1.out.cell 2
  have e1_3 : w1.cell? ⟨w.heap.size, 3, none⟩ = some (.int .i64 free) := BA1.out.cell 3
  have e1_4 : w1.cell? ⟨w.heap.size, 4, none⟩ = some (.int .i64 step) := BA1.out.cell 4
  have e1_5 : w1.cell? ⟨w.heap.size, 5, none⟩ = some (.int .i64 price) := BA1.out.cell 5
  have e1_6 : w1.cell? ⟨w.heap.size, 6, none⟩ = some (.int .i64 capp) := BA1.out.cell 6
  have e1_7 : w1.cell? ⟨w.heap.size, 7, none⟩ = some (.int .i64 clock) := BA1.out.cell 7
  have e1_8 : w1.cell? ⟨w.heap.size, 8, none⟩ = some (.int .i64 bank) := BA1.out.cell 8
  have e1_9 : w1.cell? ⟨w.heap.size, 9, none⟩ = some (.slice q m c2) := BA1.out.cell 9
  have z1_0 : w1.cell? ⟨w.heap.size + 1, 0, none⟩ = some (.int .i64 0) := BS1.out.cell 0
  have z1_1 : w1.cell? ⟨w.heap.size + 1, 1, none⟩ = some (.int .i64 0) := BS1.out.cell 1
  have z1_2 : w1.cell? ⟨w.heap.size + 1, 2, none⟩ = some (.int .i64 0) := BS1.out.cell 2
  have y1_0 : w1.frozen? ⟨w.heap.size + 1, 0, none⟩ = false := BS1.out.frozen 0
  have y1_1 : w1.frozen? ⟨w.heap.size + 1, 1, none⟩ = false := BS1.out.frozen 1
  have y1_2 : w1.frozen? ⟨w.heap.size + 1, 2, none⟩ = false := BS1.out.frozen 2
  go_wp2_with fail
  refine (HX.out _ (by (repeat' (first | exact Ext.refl _ | (with_reducible assumption) | (with_reducible refine Ext.alloc ?_ _) | (with_reducible refine Ext.setCell ?_ (by first | exact Nat.le_refl _ | (dsimp only; omega) | (simp; done) | (simp; omega)) _) | (with_reducible refine Ext.drew ?_) | (with_reducible refine Ext.drewN ?_ _) | (refine Ext.trans ?_ (by with_reducible assumption)))))).mono ?_
  rintro e w2 ⟨rfl, hh2⟩
  have BA2 := Lib.hid (BA1.out.ext hh2)
  have BS2 := Lib.hid (BS1.out.ext hh2)
  have X2 : Ext w w2 := X1.trans hh2
  have s2 : w.heap.size + 1 < w2.heap.size := BS2.out.lt
  clear e1_0 e1_1 e1_2 e1_3 e1_4 e1_5 e1_6 e1_7 e1_8 e1_9 z1_0 z1_1 z1_2 y1_0 y1_1 y1_2
  clear hh2 BA1 BS1 s1
  have e2_0 : w2.cell? ⟨w.heap.size, 0, none⟩ = some (.int .i64 wide) := BA2.out.cell 0
  have e2_1 : w2.cell? ⟨w.heap.size, 1, none⟩ = some (.int .i64 deep) := BA2.out.cell 1
  have e2_2 : w2.cell? ⟨w.heap.size, 2, none⟩ = some (.slice p n cap) := BA2.out.cell 2
  have e2_3 : w2.cell? ⟨w.heap.size, 3, none⟩ = some (.int .i64 free) := BA2.out.cell 3
  have e2_4 : w2.cell? ⟨w.heap.size, 4, none⟩ = some (.int .i64 step) := BA2.out.cell 4
  have e2_5 : w2.cell? ⟨w.heap.size, 5, none⟩ = some (.int .i64 price) := BA2.out.cell 5
  have e2_6 : w2.cell? ⟨w.heap.size, 6, none⟩ = some (.int .i64 capp) := BA2.out.cell 6
  have e2_7 : w2.cell? ⟨w.heap.size, 7, none⟩ = some (.int .i64 clock) := BA2.out.cell 7
  have e2_8 : w2.cell? ⟨w.heap.size, 8, none⟩ = some (.int .i64 bank) := BA2.out.cell 8
  have e2_9 : w2.cell? ⟨w.heap.size, 9, none⟩ = some (.slice q m c2) := BA2.out.cell 9
  have z2_0 : w2.cell? ⟨w.heap.size + 1, 0, none⟩ = some (.int .i64 0) := BS2.out.cell 0
  have z2_1 : w2.cell? ⟨w.heap.size + 1, 1, none⟩ = some (.int .i64 0) := BS2.out.cell 1
  have z2_2 : w2.cell? ⟨w.heap.size + 1, 2, none⟩ = some (.int .i64 0) := BS2.out.cell 2
  have y2_0 : w2.frozen? ⟨w.heap.size + 1, 0, none⟩ = false := BS2.out.frozen 0
  have y2_1 : w2.frozen? ⟨w.heap.size + 1, 1, none⟩ = false := BS2.out.frozen 1
  have y2_2 : w2.frozen? ⟨w.heap.size + 1, 2, none⟩ = false := BS2.out.frozen 2
  go_wp2
  exact bodyPost_ret (v := .tuple #[.agg #[.int .i64 0, .int .i64 0, .int .i64 0], .bool false]) (by simp [results, Tryz.results22, go_sem, *]) rfl ⟨rfl, by (repeat' (first | exact Ext.refl _ | (with_reducible assumption) | (with_reducible refine Ext.alloc ?_ _) | (with_reducible refine Ext.setCell ?_ (by first | exact Nat.le_refl _ | (dsimp only; omega) | (simp; done) | (simp; omega)) _) | (with_reducible refine Ext.drew ?_) | (with_reducible refine Ext.drewN ?_ _) | (refine Ext.trans ?_ (by with_reducible assumption))))⟩

set_option maxRecDepth 100000 in
set_option maxHeartbeats 1000000 in
theorem implHst_yes (wide deep free step price capp clock bank id : Int) (p : Option Addr) (n cap : Nat) (q : Option Addr) (m c2 : Nat) (w : World)
    (k : Nat) (a1 a2 a3 : Int) (vs : List Visit4) (HK : Hid (vs[k]? = some (id, a1, a2, a3))) (hk : k < m) (hm : m ≤ 9223372036854775807) (HS : Hid (Sl w q m c2 4 (vs.flatMap visitCells)))
    (HV : Hid (∀ w', Ext w w' → Calls Tryz.prog 16 #[.agg #[.int .i64 wide, .int .i64 deep, .slice p n cap, .int .i64 free, .int .i64 step, .int .i64 price, .int .i64 capp, .int .i64 clock, .int .i64 bank, .slice q m c2]] w' fun e w'' => e = .returned (.bool true) ∧ Ext w' w''))
    (HX : Hid (∀ w', Ext w w' → Calls Tryz.prog 72 #[.agg #[.int .i64 wide, .int .i64 deep, .slice p n cap, .int .i64 free, .int .i64 step, .int .i64 price, .int .i64 capp, .int .i64 clock, .int .i64 bank, .slice q m c2], .int .i64 id] w' fun e w'' => e = .returned (.int .i64 k) ∧ Ext w' w'')) :
    Calls Tryz.prog 22 #[.agg #[.int .i64 wide, .int .i64 deep, .slice p n cap, .int .i64 free, .int .i64 step, .int .i64 price, .int .i64 capp, .int .i64 clock, .int .i64 bank, .slice q m c2], .int .i64 id] w fun e w' => e = .returned (.tuple #[.agg #[.int .i64 a1, .int .i64 a2, .int .i64 a3], .bool true]) ∧ Ext w w' := by
  go_enter Tryz.func22, Tryz.ntmps22
  go_wp2_with fail
  refine (HV.out _ (by (repeat' (first | exact Ext.refl _ | (with_reducible assumption) | (with_reducible refine Ext.alloc ?_ _) | (with_reducible refine Ext.setCell ?_ (by first | exact Nat.le_refl _ | (dsimp only; omega) | (simp; done) | (simp; omega)) _) | (with_reducible refine Ext.drew ?_) | (with_reducible refine Ext.drewN ?_ _) | (refine Ext.trans ?_ (by with_reducible assumption)))))).mono ?_
  rintro e w1 ⟨rfl, hh1⟩
  have BA1 : Blk w1 w.heap.size 30 #[.int .i64 wide, .int .i64 deep, .slice p n cap, .int .i64 free, .int .i64 step, .int .i64 price, .int .i64 capp, .int .i64 clock, .int .i64 bank, .slice q m c2] := ((Blk.new w _ _).alloc _).ext hh1
  have BS1 : Blk w1 (w.heap.size + 1) 36 #[.int .i64 0, .int .i64 0, .int .i64 0] := by have := (Blk.new (w.alloc (.cells #[.int .i64 wide, .int .i64 deep, .slice p n cap, .int .i64 free, .int .i64 step, .int .i64 price, .int .i64 capp, .int .i64 clock, .int .i64 bank, .slice q m c2] 30)) 36 #[.int .i64 0, .int .i64 0, .int .i64 0]).ext hh1; simpa using this
  have X1 : Ext w w1 := (((Ext.refl w).alloc _).alloc _).trans hh1
  have s1 : w.heap.size + 1 < w1.heap.size := BS1.lt
  replace BA1 := Lib.hid BA1
  replace BS1 := Lib.hid BS1
  clear hh1
  have e1_0 : w1.cell? ⟨w.heap.size, 0, none⟩ = some (.int .i64 wide) := BA1.out.cell 0
  have e1_1 : w1.cell? ⟨w.heap.size, 1, none⟩ = some (.int .i64 deep) := BA1.out.cell 1
  have e1_2 : w1.cell? ⟨w.heap.size, 2, none⟩ = some (.slice p n cap) := BA1.out.cell 2
  have e1_3 : w1.cell? ⟨w.heap.size, 3, none⟩ = some (.int .i64 free) := BA1.out.cell 3
  have e1_4 : w1.cell? ⟨w.heap.size, 4, none⟩ = some (.int .i64 step) := BA1.out.cell 4
  have e1_5 : w1.cell? ⟨w.heap.size, 5, none⟩ = some (.int .i64 price) := BA1.out.cell 5
  have e1_6 : w1.cell? ⟨w.heap.size, 6, none⟩ = some (.int .i64 capp) := BA1.out.cell 6
  have e1_7 : w1.cell? ⟨w.heap.size, 7, none⟩ = some (.int .i64 clock) := BA1.out.cell 7
  have e1_8 : w1.cell? ⟨w.heap.size, 8, none⟩ = some (.int .i64 bank) := BA1.out.cell 8
  have e1_9 : w1.cell? ⟨w.heap.size, 9, none⟩ = some (.slice q m c2) := BA1.out.cell 9
  have z1_0 : w1.cell? ⟨w.heap.size + 1, 0, none⟩ = some (.int .i64 0) := BS1.out.cell 0
  have z1_1 : w1.cell? ⟨w.heap.size + 1, 1, none⟩ = some (.int .i64 0) := BS1.out.cell 1
  have z1_2 : w1.cell? ⟨w.heap.size + 1, 2, none⟩ = some (.int .i64 0) := BS1.out.cell 2
  have y1_0 : w1.frozen? ⟨w.heap.size + 1, 0, none⟩ = false := BS1.out.frozen 0
  have y1_1 : w1.frozen? ⟨w.heap.size + 1, 1, none⟩ = false := BS1.out.frozen 1
  have y1_2 : w1.frozen? ⟨w.heap.size + 1, 2, none⟩ = false := BS1.out.frozen 2
  go_wp2_with fail
  refine (HX.out _ (by (repeat' (first | exact Ext.refl _ | (with_reducible assumption) | (with_reducible refine Ext.alloc ?_ _) | (with_reducible refine Ext.setCell ?_ (by first | exact Nat.le_refl _ | (dsimp only; omega) | (simp; done) | (simp; omega)) _) | (with_reducible refine Ext.drew ?_) | (with_reducible refine Ext.drewN ?_ _) | (refine Ext.trans ?_ (by with_reducible assumption)))))).mono ?_
  rintro e w2 ⟨rfl, hh2⟩
  have BA2 := Lib.hid (BA1.out.ext hh2)
  have BS2 := Lib.hid (BS1.out.ext hh2)
  have X2 : Ext w w2 := X1.trans hh2
  have s2 : w.heap.size + 1 < w2.heap.size := BS2.out.lt
  clear e1_0 e1_1 e1_2 e1_3 e1_4 e1_5 e1_6 e1_7 e1_8 e1_9 z1_0 z1_1 z1_2 y1_0 y1_1 y1_2
  clear hh2 BA1 BS1 s1
  have e2_0 : w2.cell? ⟨w.heap.size, 0, none⟩ = some (.int .i64 wide) := BA2.out.cell 0
  have e2_1 : w2.cell? ⟨w.heap.size, 1, none⟩ = some (.int .i64 deep) := BA2.out.cell 1
  have e2_2 : w2.cell? ⟨w.heap.size, 2, none⟩ = some (.slice p n cap) := BA2.out.cell 2
  have e2_3 : w2.cell? ⟨w.heap.size, 3, none⟩ = some (.int .i64 free) := BA2.out.cell 3
  have e2_4 : w2.cell? ⟨w.heap.size, 4, none⟩ = some (.int .i64 step) := BA2.out.cell 4
  have e2_5 : w2.cell? ⟨w.heap.size, 5, none⟩ = some (.int .i64 price) := BA2.out.cell 5
  have e2_6 : w2.cell? ⟨w.heap.size, 6, none⟩ = some (.int .i64 capp) := BA2.out.cell 6
  have e2_7 : w2.cell? ⟨w.heap.size, 7, none⟩ = some (.int .i64 clock) := BA2.out.cell 7
  have e2_8 : w2.cell? ⟨w.heap.size, 8, none⟩ = some (.int .i64 bank) := BA2.out.cell 8
  have e2_9 : w2.cell? ⟨w.heap.size, 9, none⟩ = some (.slice q m c2) := BA2.out.cell 9
  have z2_0 : w2.cell? ⟨w.heap.size + 1, 0, none⟩ = some (.int .i64 0) := BS2.out.cell 0
  have z2_1 : w2.cell? ⟨w.heap.size + 1, 1, none⟩ = some (.int .i64 0) := BS2.out.cell 1
  have z2_2 : w2.cell? ⟨w.heap.size + 1, 2, none⟩ = some (.int .i64 0) := BS2.out.cell 2
  have y2_0 : w2.frozen? ⟨w.heap.size + 1, 0, none⟩ = false := BS2.out.frozen 0
  have y2_1 : w2.frozen? ⟨w.heap.size + 1, 1, none⟩ = false := BS2.out.frozen 1
  have y2_2 : w2.frozen? ⟨w.heap.size + 1, 2, none⟩ = false := BS2.out.frozen 2
  obtain ⟨b, off, b0, b1, b2, b3, rfl, hv, hb, g0, g1, g2, g3⟩ := visit_at (HS.out.ext X2) hk
  obtain ⟨rfl, rfl, rfl, rfl⟩ : id = b0 ∧ a1 = b1 ∧ a2 = b2 ∧ a3 = b3 := by have t := HK.out; rw [hv] at t; simp only [Option.some.injEq, Prod.mk.injEq] at t; exact ⟨t.1.symm, t.2.1.symm, t.2.2.1.symm, t.2.2.2.symm⟩
  have hne : b ≠ w.heap.size + 1 := by
    have hb0 := hb
    obtain ⟨b', off', _, _, _, _, hq, _, hb', _⟩ := visit_at HS.out hk
    simp only [Option.some.injEq, Addr.mk.injEq] at hq
    omega
  have i1 : (0 : Int) ≤ (k : Int) := by omega
  have i2 : (k : Int) < (m : Int) := by omega
  clear hv
  go_wp2
  exact bodyPost_ret (v := .tuple #[.agg #[.int .i64 a1, .int .i64 a2, .int .i64 a3], .bool true]) (by simp [results, Tryz.results22, go_sem, *]) rfl ⟨rfl, by (repeat' (first | exact Ext.refl _ | (with_reducible assumption) | (with_reducible refine Ext.alloc ?_ _) | (with_reducible refine Ext.setCell ?_ (by first | exact Nat.le_refl _ | (dsimp only; omega) | (simp; done) | (simp; omega)) _) | (with_reducible refine Ext.drew ?_) | (with_reducible refine Ext.drewN ?_ _) | (refine Ext.trans ?_ (by with_reducible assumption))))⟩

set_option maxRecDepth 100000 in
set_option maxHeartbeats 1000000 in
theorem specHst_bad (wide deep free step price capp clock bank id : Int) (p : Option Addr) (n cap : Nat) (q : Option Addr) (m c2 : Nat) (w : World)
    (x : Int)
    (HX : Hid (∀ w', Ext w w' → Calls Tryz.prog 73 #[.agg #[.int .i64 wide, .int .i64 deep, .slice p n cap, .int .i64 free, .int .i64 step, .int .i64 price, .int .i64 capp, .int .i64 clock, .int .i64 bank, .slice q m c2], .int .i64 id] w' fun e w'' => e = .returned (.int .i64 x) ∧ Ext w' w''))
    (HV : Hid (∀ w', Ext w w' → Calls Tryz.prog 17 #[.agg #[.int .i64 wide, .int .i64 deep, .slice p n cap, .int .i64 free, .int .i64 step, .int .i64 price, .int .i64 capp, .int .i64 clock, .int .i64 bank, .slice q m c2]] w' fun e w'' => e = .returned (.bool false) ∧ Ext w' w'')) :
    Calls Tryz.prog 23 #[.agg #[.int .i64 wide, .int .i64 deep, .slice p n cap, .int .i64 free, .int .i64 step, .int .i64 price, .int .i64 capp, .int .i64 clock, .int .i64 bank, .slice q m c2], .int .i64 id] w fun e w' => e = .returned (.tuple #[.agg #[.int .i64 0, .int .i64 0, .int .i64 0], .bool false]) ∧ Ext w w' := by
  go_enter Tryz.func23, Tryz.ntmps23
  go_wp2_with fail
  refine (HX.out _ (by (repeat' (first | exact Ext.refl _ | (with_reducible assumption) | (with_reducible refine Ext.alloc ?_ _) | (with_reducible refine Ext.setCell ?_ (by first | exact Nat.le_refl _ | (dsimp only; omega) | (simp; done) | (simp; omega)) _) | (with_reducible refine Ext.drew ?_) | (with_reducible refine Ext.drewN ?_ _) | (refine Ext.trans ?_ (by with_reducible assumption)))))).mono ?_
  rintro e w1 ⟨rfl, hh1⟩
  have BA1 : Blk w1 w.heap.size 30 #[.int .i64 wide, .int .i64 deep, .slice p n cap, .int .i64 free, .int .i64 step, .int .i64 price, .int .i64 capp, .int .i64 clock, .int .i64 bank, .slice q m c2] := ((Blk.new w _ _).alloc _).ext hh1
  have BS1 : Blk w1 (w.heap.size + 1) 36 #[.int .i64 0, .int .i64 0, .int .i64 0] := by have := (Blk.new (w.alloc (.cells #[.int .i64 wide, .int .i64 deep, .slice p n cap, .int .i64 free, .int .i64 step, .int .i64 price, .int .i64 capp, .int .i64 clock, .int .i64 bank, .slice q m c2] 30)) 36 #[.int .i64 0, .int .i64 0, .int .i64 0]).ext hh1; simpa using this
  have X1 : Ext w w1 := (((Ext.refl w).alloc _).alloc _).trans hh1
  have s1 : w.heap.size + 1 < w1.heap.size := BS1.lt
  replace BA1 := Lib.hid BA1
  replace BS1 := Lib.hid BS1
  clear hh1
  have e1_0 : w1.cell? ⟨w.heap.size, 0, none⟩ = some (.int .i64 wide) := BA1.out.cell 0
  have e1_1 : w1.cell? ⟨w.heap.size, 1, none⟩ = some (.int .i64 deep) := BA1.out.cell 1
  have e1_2 : w1.cell? ⟨w.heap.size, 2, none⟩ = some (.slice p n cap) := BA1.out.cell 2
  have e1_3 : w1.cell? ⟨w.heap.size, 3, none⟩ = some (.int .i64 free) := BA1.out.cell 3
  have e1_4 : w1.cell? ⟨w.heap.size, 4, none⟩ = some (.int .i64 step) := BA1.out.cell 4
  have e1_5 : w1.cell? ⟨w.heap.size, 5, none⟩ = some (.int .i64 price) := BA1.out.cell 5
  have e1_6 : w1.cell? ⟨w.heap.size, 6, none⟩ = some (.int .i64 capp) := BA1.out.cell 6
  have e1_7 : w1.cell? ⟨w.heap.size, 7, none⟩ = some (.int .i64 clock) := BA1.out.cell 7
  have e1_8 : w1.cell? ⟨w.heap.size, 8, none⟩ = some (.int .i64 bank) := BA1.out.cell 8
  have e1_9 : w1.cell? ⟨w.heap.size, 9, none⟩ = some (.slice q m c2) := BA1.out.cell 9
  have z1_0 : w1.cell? ⟨w.heap.size + 1, 0, none⟩ = some (.int .i64 0) := BS1.out.cell 0
  have z1_1 : w1.cell? ⟨w.heap.size + 1, 1, none⟩ = some (.int .i64 0) := BS1.out.cell 1
  have z1_2 : w1.cell? ⟨w.heap.size + 1, 2, none⟩ = some (.int .i64 0) := BS1.out.cell 2
  have y1_0 : w1.frozen? ⟨w.heap.size + 1, 0, none⟩ = false := BS1.out.frozen 0
  have y1_1 : w1.frozen? ⟨w.heap.size + 1, 1, none⟩ = false := BS1.out.frozen 1
  have y1_2 : w1.frozen? ⟨w.heap.size + 1, 2, none⟩ = false := BS1.out.frozen 2
  go_wp2_with fail
  refine (HV.out _ (by (repeat' (first | exact Ext.refl _ | (with_reducible assumption) | (with_reducible refine Ext.alloc ?_ _) | (with_reducible refine Ext.setCell ?_ (by first | exact Nat.le_refl _ | (dsimp only; omega) | (simp; done) | (simp; omega)) _) | (with_reducible refine Ext.drew ?_) | (with_reducible refine Ext.drewN ?_ _) | (refine Ext.trans ?_ (by with_reducible assumption)))))).mono ?_
  rintro e w2 ⟨rfl, hh2⟩
  have BA2 := Lib.hid (BA1.out.ext hh2)
  have BS2 := Lib.hid (BS1.out.ext hh2)
  have X2 : Ext w w2 := X1.trans hh2
  have s2 : w.heap.size + 1 < w2.heap.size := BS2.out.lt
  clear e1_0 e1_1 e1_2 e1_3 e1_4 e1_5 e1_6 e1_7 e1_8 e1_9 z1_0 z1_1 z1_2 y1_0 y1_1 y1_2
  clear hh2 BA1 BS1 s1
  have e2_0 : w2.cell? ⟨w.heap.size, 0, none⟩ = some (.int .i64 wide) := BA2.out.cell 0
  have e2_1 : w2.cell? ⟨w.heap.size, 1, none⟩ = some (.int .i64 deep) := BA2.out.cell 1
  have e2_2 : w2.cell? ⟨w.heap.size, 2, none⟩ = some (.slice p n cap) := BA2.out.cell 2
  have e2_3 : w2.cell? ⟨w.heap.size, 3, none⟩ = some (.int .i64 free) := BA2.out.cell 3
  have e2_4 : w2.cell? ⟨w.heap.size, 4, none⟩ = some (.int .i64 step) := BA2.out.cell 4
  have e2_5 : w2.cell? ⟨w.heap.size, 5, none⟩ = some (.int .i64 price) := BA2.out.cell 5
  have e2_6 : w2.cell? ⟨w.heap.size, 6, none⟩ = some (.int .i64 capp) := BA2.out.cell 6
  have e2_7 : w2.cell? ⟨w.heap.size, 7, none⟩ = some (.int .i64 clock) := BA2.out.cell 7
  have e2_8 : w2.cell? ⟨w.heap.size, 8, none⟩ = some (.int .i64 bank) := BA2.out.cell 8
  have e2_9 : w2.cell? ⟨w.heap.size, 9, none⟩ = some (.slice q m c2) := BA2.out.cell 9
  have z2_0 : w2.cell? ⟨w.heap.size + 1, 0, none⟩ = some (.int .i64 0) := BS2.out.cell 0
  have z2_1 : w2.cell? ⟨w.heap.size + 1, 1, none⟩ = some (.int .i64 0) := BS2.out.cell 1
  have z2_2 : w2.cell? ⟨w.heap.size + 1, 2, none⟩ = some (.int .i64 0) := BS2.out.cell 2
  have y2_0 : w2.frozen? ⟨w.heap.size + 1, 0, none⟩ = false := BS2.out.frozen 0
  have y2_1 : w2.frozen? ⟨w.heap.size + 1, 1, none⟩ = false := BS2.out.frozen 1
  have y2_2 : w2.frozen? ⟨w.heap.size + 1, 2, none⟩ = false := BS2.out.frozen 2
  go_wp2
  exact bodyPost_ret (v := .tuple #[.agg #[.int .i64 0, .int .i64 0, .int .i64 0], .bool false]) (by simp [results, Tryz.results23, go_sem, *]) rfl ⟨rfl, by (repeat' (first | exact Ext.refl _ | (with_reducible assumption) | (with_reducible refine Ext.alloc ?_ _) | (with_reducible refine Ext.setCell ?_ (by first | exact Nat.le_refl _ | (dsimp only; omega) | (simp; done) | (simp; omega)) _) | (with_reducible refine Ext.drew ?_) | (with_reducible refine Ext.drewN ?_ _) | (refine Ext.trans ?_ (by with_reducible assumption))))⟩

set_option maxRecDepth 100000 in
set_option maxHeartbeats 1000000 in
theorem specHst_no (wide deep free step price capp clock bank id : Int) (p : Option Addr) (n cap : Nat) (q : Option Addr) (m c2 : Nat) (w : World)
    (HX : Hid (∀ w', Ext w w' → Calls Tryz.prog 73 #[.agg #[.int .i64 wide, .int .i64 deep, .slice p n cap, .int .i64 free, .int .i64 step, .int .i64 price, .int .i64 capp, .int .i64 clock, .int .i64 bank, .slice q m c2], .int .i64 id] w' fun e w'' => e = .returned (.int .i64 (-1)) ∧ Ext w' w''))
    (HV : Hid (∀ w', Ext w w' → Calls Tryz.prog 17 #[.agg #[.int .i64 wide, .int .i64 deep, .slice p n cap, .int .i64 free, .int .i64 step, .int .i64 price, .int .i64 capp, .int .i64 clock, .int .i64 bank, .slice q m c2]] w' fun e w'' => e = .returned (.bool true) ∧ Ext w' w'')) :
    Calls Tryz.prog 23 #[.agg #[.int .i64 wide, .int .i64 deep, .slice p n cap, .int .i64 free, .int .i64 step, .int .i64 price, .int .i64 capp, .int .i64 clock, .int .i64 bank, .slice q m c2], .int .i64 id] w fun e w' => e = .returned (.tuple #[.agg #[.int .i64 0, .int .i64 0, .int .i64 0], .bool false]) ∧ Ext w w' := by
  go_enter Tryz.func23, Tryz.ntmps23
  go_wp2_with fail
  refine (HX.out _ (by (repeat' (first | exact Ext.refl _ | (with_reducible assumption) | (with_reducible refine Ext.alloc ?_ _) | (with_reducible refine Ext.setCell ?_ (by first | exact Nat.le_refl _ | (dsimp only; omega) | (simp; done) | (simp; omega)) _) | (with_reducible refine Ext.drew ?_) | (with_reducible refine Ext.drewN ?_ _) | (refine Ext.trans ?_ (by with_reducible assumption)))))).mono ?_
  rintro e w1 ⟨rfl, hh1⟩
  have BA1 : Blk w1 w.heap.size 30 #[.int .i64 wide, .int .i64 deep, .slice p n cap, .int .i64 free, .int .i64 step, .int .i64 price, .int .i64 capp, .int .i64 clock, .int .i64 bank, .slice q m c2] := ((Blk.new w _ _).alloc _).ext hh1
  have BS1 : Blk w1 (w.heap.size + 1) 36 #[.int .i64 0, .int .i64 0, .int .i64 0] := by have := (Blk.new (w.alloc (.cells #[.int .i64 wide, .int .i64 deep, .slice p n cap, .int .i64 free, .int .i64 step, .int .i64 price, .int .i64 capp, .int .i64 clock, .int .i64 bank, .slice q m c2] 30)) 36 #[.int .i64 0, .int .i64 0, .int .i64 0]).ext hh1; simpa using this
  have X1 : Ext w w1 := (((Ext.refl w).alloc _).alloc _).trans hh1
  have s1 : w.heap.size + 1 < w1.heap.size := BS1.lt
  replace BA1 := Lib.hid BA1
  replace BS1 := Lib.hid BS1
  clear hh1
  have e1_0 : w1.cell? ⟨w.heap.size, 0, none⟩ = some (.int .i64 wide) := BA1.out.cell 0
  have e1_1 : w1.cell? ⟨w.heap.size, 1, none⟩ = some (.int .i64 deep) := BA1.out.cell 1
  have e1_2 : w1.cell? ⟨w.heap.size, 2, none⟩ = some (.slice p n cap) := BA1.out.cell 2
  have e1_3 : w1.cell? ⟨w.heap.size, 3, none⟩ = some (.int .i64 free) := BA1.out.cell 3
  have e1_4 : w1.cell? ⟨w.heap.size, 4, none⟩ = some (.int .i64 step) := BA1.out.cell 4
  have e1_5 : w1.cell? ⟨w.heap.size, 5, none⟩ = some (.int .i64 price) := BA1.out.cell 5
  have e1_6 : w1.cell? ⟨w.heap.size, 6, none⟩ = some (.int .i64 capp) := BA1.out.cell 6
  have e1_7 : w1.cell? ⟨w.heap.size, 7, none⟩ = some (.int .i64 clock) := BA1.out.cell 7
  have e1_8 : w1.cell? ⟨w.heap.size, 8, none⟩ = some (.int .i64 bank) := BA1.out.cell 8
  have e1_9 : w1.cell? ⟨w.heap.size, 9, none⟩ = some (.slice q m c2) := BA1.out.cell 9
  have z1_0 : w1.cell? ⟨w.heap.size + 1, 0, none⟩ = some (.int .i64 0) := BS1.out.cell 0
  have z1_1 : w1.cell? ⟨w.heap.size + 1, 1, none⟩ = some (.int .i64 0) := BS1.out.cell 1
  have z1_2 : w1.cell? ⟨w.heap.size + 1, 2, none⟩ = some (.int .i64 0) := BS1.out.cell 2
  have y1_0 : w1.frozen? ⟨w.heap.size + 1, 0, none⟩ = false := BS1.out.frozen 0
  have y1_1 : w1.frozen? ⟨w.heap.size + 1, 1, none⟩ = false := BS1.out.frozen 1
  have y1_2 : w1.frozen? ⟨w.heap.size + 1, 2, none⟩ = false := BS1.out.frozen 2
  go_wp2_with fail
  refine (HV.out _ (by (repeat' (first | exact Ext.refl _ | (with_reducible assumption) | (with_reducible refine Ext.alloc ?_ _) | (with_reducible refine Ext.setCell ?_ (by first | exact Nat.le_refl _ | (dsimp only; omega) | (simp; done) | (simp; omega)) _) | (with_reducible refine Ext.drew ?_) | (with_reducible refine Ext.drewN ?_ _) | (refine Ext.trans ?_ (by with_reducible assumption)))))).mono ?_
  rintro e w2 ⟨rfl, hh2⟩
  have BA2 := Lib.hid (BA1.out.ext hh2)
  have BS2 := Lib.hid (BS1.out.ext hh2)
  have X2 : Ext w w2 := X1.trans hh2
  have s2 : w.heap.size + 1 < w2.heap.size := BS2.out.lt
  clear e1_0 e1_1 e1_2 e1_3 e1_4 e1_5 e1_6 e1_7 e1_8 e1_9 z1_0 z1_1 z1_2 y1_0 y1_1 y1_2
  clear hh2 BA1 BS1 s1
  have e2_0 : w2.cell? ⟨w.heap.size, 0, none⟩ = some (.int .i64 wide) := BA2.out.cell 0
  have e2_1 : w2.cell? ⟨w.heap.size, 1, none⟩ = some (.int .i64 deep) := BA2.out.cell 1
  have e2_2 : w2.cell? ⟨w.heap.size, 2, none⟩ = some (.slice p n cap) := BA2.out.cell 2
  have e2_3 : w2.cell? ⟨w.heap.size, 3, none⟩ = some (.int .i64 free) := BA2.out.cell 3
  have e2_4 : w2.cell? ⟨w.heap.size, 4, none⟩ = some (.int .i64 step) := BA2.out.cell 4
  have e2_5 : w2.cell? ⟨w.heap.size, 5, none⟩ = some (.int .i64 price) := BA2.out.cell 5
  have e2_6 : w2.cell? ⟨w.heap.size, 6, none⟩ = some (.int .i64 capp) := BA2.out.cell 6
  have e2_7 : w2.cell? ⟨w.heap.size, 7, none⟩ = some (.int .i64 clock) := BA2.out.cell 7
  have e2_8 : w2.cell? ⟨w.heap.size, 8, none⟩ = some (.int .i64 bank) := BA2.out.cell 8
  have e2_9 : w2.cell? ⟨w.heap.size, 9, none⟩ = some (.slice q m c2) := BA2.out.cell 9
  have z2_0 : w2.cell? ⟨w.heap.size + 1, 0, none⟩ = some (.int .i64 0) := BS2.out.cell 0
  have z2_1 : w2.cell? ⟨w.heap.size + 1, 1, none⟩ = some (.int .i64 0) := BS2.out.cell 1
  have z2_2 : w2.cell? ⟨w.heap.size + 1, 2, none⟩ = some (.int .i64 0) := BS2.out.cell 2
  have y2_0 : w2.frozen? ⟨w.heap.size + 1, 0, none⟩ = false := BS2.out.frozen 0
  have y2_1 : w2.frozen? ⟨w.heap.size + 1, 1, none⟩ = false := BS2.out.frozen 1
  have y2_2 : w2.frozen? ⟨w.heap.size + 1, 2, none⟩ = false := BS2.out.frozen 2
  go_wp2
  exact bodyPost_ret (v := .tuple #[.agg #[.int .i64 0, .int .i64 0, .int .i64 0], .bool false]) (by simp [results, Tryz.results23, go_sem, *]) rfl ⟨rfl, by (repeat' (first | exact Ext.refl _ | (with_reducible assumption) | (with_reducible refine Ext.alloc ?_ _) | (with_reducible refine Ext.setCell ?_ (by first | exact Nat.le_refl _ | (dsimp only; omega) | (simp; done) | (simp; omega)) _) | (with_reducible refine Ext.drew ?_) | (with_reducible refine Ext.drewN ?_ _) | (refine Ext.trans ?_ (by with_reducible assumption))))⟩

set_option maxRecDepth 100000 in
set_option maxHeartbeats 1000000 in
theorem specHst_yes (wide deep free step price capp clock bank id : Int) (p : Option Addr) (n cap : Nat) (q : Option Addr) (m c2 : Nat) (w : World)
    (k : Nat) (a1 a2 a3 : Int) (vs : List Visit4) (HK : Hid (vs[k]? = some (id, a1, a2, a3))) (hk : k < m) (hm : m ≤ 9223372036854775807) (HS : Hid (Sl w q m c2 4 (vs.flatMap visitCells)))
    (HX : Hid (∀ w', Ext w w' → Calls Tryz.prog 73 #[.agg #[.int .i64 wide, .int .i64 deep, .slice p n cap, .int .i64 free, .int .i64 step, .int .i64 price, .int .i64 capp, .int .i64 clock, .int .i64 bank, .slice q m c2], .int .i64 id] w' fun e w'' => e = .returned (.int .i64 k) ∧ Ext w' w''))
    (HV : Hid (∀ w', Ext w w' → Calls Tryz.prog 17 #[.agg #[.int .i64 wide, .int .i64 deep, .slice p n cap, .int .i64 free, .int .i64 step, .int .i64 price, .int .i64 capp, .int .i64 clock, .int .i64 bank, .slice q m c2]] w' fun e w'' => e = .returned (.bool true) ∧ Ext w' w'')) :
    Calls Tryz.prog 23 #[.agg #[.int .i64 wide, .int .i64 deep, .slice p n cap, .int .i64 free, .int .i64 step, .int .i64 price, .int .i64 capp, .int .i64 clock, .int .i64 bank, .slice q m c2], .int .i64 id] w fun e w' => e = .returned (.tuple #[.agg #[.int .i64 a1, .int .i64 a2, .int .i64 a3], .bool true]) ∧ Ext w w' := by
  go_enter Tryz.func23, Tryz.ntmps23
  go_wp2_with fail
  refine (HX.out _ (by (repeat' (first | exact Ext.refl _ | (with_reducible assumption) | (with_reducible refine Ext.alloc ?_ _) | (with_reducible refine Ext.setCell ?_ (by first | exact Nat.le_refl _ | (dsimp only; omega) | (simp; done) | (simp; omega)) _) | (with_reducible refine Ext.drew ?_) | (with_reducible refine Ext.drewN ?_ _) | (refine Ext.trans ?_ (by with_reducible assumption)))))).mono ?_
  rintro e w1 ⟨rfl, hh1⟩
  have BA1 : Blk w1 w.heap.size 30 #[.int .i64 wide, .int .i64 deep, .slice p n cap, .int .i64 free, .int .i64 step, .int .i64 price, .int .i64 capp, .int .i64 clock, .int .i64 bank, .slice q m c2] := ((Blk.new w _ _).alloc _).ext hh1
  have BS1 : Blk w1 (w.heap.size + 1) 36 #[.int .i64 0, .int .i64 0, .int .i64 0] := by have := (Blk.new (w.alloc (.cells #[.int .i64 wide, .int .i64 deep, .slice p n cap, .int .i64 free, .int .i64 step, .int .i64 price, .int .i64 capp, .int .i64 clock, .int .i64 bank, .slice q m c2] 30)) 36 #[.int .i64 0, .int .i64 0, .int .i64 0]).ext hh1; simpa using this
  have X1 : Ext w w1 := (((Ext.refl w).alloc _).alloc _).trans hh1
  have s1 : w.heap.size + 1 < w1.heap.size := BS1.lt
  replace BA1 := Lib.hid BA1
  replace BS1 := Lib.hid BS1
  clear hh1
  have e1_0 : w1.cell? ⟨w.heap.size, 0, none⟩ = some (.int .i64 wide) := BA1.out.cell 0
  have e1_1 : w1.cell? ⟨w.heap.size, 1, none⟩ = some (.int .i64 deep) := BA1.out.cell 1
  have e1_2 : w1.cell? ⟨w.heap.size, 2, none⟩ = some (.slice p n cap) := BA1.out.cell 2
  have e1_3 : w1.cell? ⟨w.heap.size, 3, none⟩ = some (.int .i64 free) := BA1.out.cell 3
  have e1_4 : w1.cell? ⟨w.heap.size, 4, none⟩ = some (.int .i64 step) := BA1.out.cell 4
  have e1_5 : w1.cell? ⟨w.heap.size, 5, none⟩ = some (.int .i64 price) := BA1.out.cell 5
  have e1_6 : w1.cell? ⟨w.heap.size, 6, none⟩ = some (.int .i64 capp) := BA1.out.cell 6
  have e1_7 : w1.cell? ⟨w.heap.size, 7, none⟩ = some (.int .i64 clock) := BA1.out.cell 7
  have e1_8 : w1.cell? ⟨w.heap.size, 8, none⟩ = some (.int .i64 bank) := BA1.out.cell 8
  have e1_9 : w1.cell? ⟨w.heap.size, 9, none⟩ = some (.slice q m c2) := BA1.out.cell 9
  have z1_0 : w1.cell? ⟨w.heap.size + 1, 0, none⟩ = some (.int .i64 0) := BS1.out.cell 0
  have z1_1 : w1.cell? ⟨w.heap.size + 1, 1, none⟩ = some (.int .i64 0) := BS1.out.cell 1
  have z1_2 : w1.cell? ⟨w.heap.size + 1, 2, none⟩ = some (.int .i64 0) := BS1.out.cell 2
  have y1_0 : w1.frozen? ⟨w.heap.size + 1, 0, none⟩ = false := BS1.out.frozen 0
  have y1_1 : w1.frozen? ⟨w.heap.size + 1, 1, none⟩ = false := BS1.out.frozen 1
  have y1_2 : w1.frozen? ⟨w.heap.size + 1, 2, none⟩ = false := BS1.out.frozen 2
  go_wp2_with fail
  refine (HV.out _ (by (repeat' (first | exact Ext.refl _ | (with_reducible assumption) | (with_reducible refine Ext.alloc ?_ _) | (with_reducible refine Ext.setCell ?_ (by first | exact Nat.le_refl _ | (dsimp only; omega) | (simp; done) | (simp; omega)) _) | (with_reducible refine Ext.drew ?_) | (with_reducible refine Ext.drewN ?_ _) | (refine Ext.trans ?_ (by with_reducible assumption)))))).mono ?_
  rintro e w2 ⟨rfl, hh2⟩
  have BA2 := Lib.hid (BA1.out.ext hh2)
  have BS2 := Lib.hid (BS1.out.ext hh2)
  have X2 : Ext w w2 := X1.trans hh2
  have s2 : w.heap.size + 1 < w2.heap.size := BS2.out.lt
  clear e1_0 e1_1 e1_2 e1_3 e1_4 e1_5 e1_6 e1_7 e1_8 e1_9 z1_0 z1_1 z1_2 y1_0 y1_1 y1_2
  clear hh2 BA1 BS1 s1
  have e2_0 : w2.cell? ⟨w.heap.size, 0, none⟩ = some (.int .i64 wide) := BA2.out.cell 0
  have e2_1 : w2.cell? ⟨w.heap.size, 1, none⟩ = some (.int .i64 deep) := BA2.out.cell 1
  have e2_2 : w2.cell? ⟨w.heap.size, 2, none⟩ = some (.slice p n cap) := BA2.out.cell 2
  have e2_3 : w2.cell? ⟨w.heap.size, 3, none⟩ = some (.int .i64 free) := BA2.out.cell 3
  have e2_4 : w2.cell? ⟨w.heap.size, 4, none⟩ = some (.int .i64 step) := BA2.out.cell 4
  have e2_5 : w2.cell? ⟨w.heap.size, 5, none⟩ = some (.int .i64 price) := BA2.out.cell 5
  have e2_6 : w2.cell? ⟨w.heap.size, 6, none⟩ = some (.int .i64 capp) := BA2.out.cell 6
  have e2_7 : w2.cell? ⟨w.heap.size, 7, none⟩ = some (.int .i64 clock) := BA2.out.cell 7
  have e2_8 : w2.cell? ⟨w.heap.size, 8, none⟩ = some (.int .i64 bank) := BA2.out.cell 8
  have e2_9 : w2.cell? ⟨w.heap.size, 9, none⟩ = some (.slice q m c2) := BA2.out.cell 9
  have z2_0 : w2.cell? ⟨w.heap.size + 1, 0, none⟩ = some (.int .i64 0) := BS2.out.cell 0
  have z2_1 : w2.cell? ⟨w.heap.size + 1, 1, none⟩ = some (.int .i64 0) := BS2.out.cell 1
  have z2_2 : w2.cell? ⟨w.heap.size + 1, 2, none⟩ = some (.int .i64 0) := BS2.out.cell 2
  have y2_0 : w2.frozen? ⟨w.heap.size + 1, 0, none⟩ = false := BS2.out.frozen 0
  have y2_1 : w2.frozen? ⟨w.heap.size + 1, 1, none⟩ = false := BS2.out.frozen 1
  have y2_2 : w2.frozen? ⟨w.heap.size + 1, 2, none⟩ = false := BS2.out.frozen 2
  obtain ⟨b, off, b0, b1, b2, b3, rfl, hv, hb, g0, g1, g2, g3⟩ := visit_at (HS.out.ext X2) hk
  obtain ⟨rfl, rfl, rfl, rfl⟩ : id = b0 ∧ a1 = b1 ∧ a2 = b2 ∧ a3 = b3 := by have t := HK.out; rw [hv] at t; simp only [Option.some.injEq, Prod.mk.injEq] at t; exact ⟨t.1.symm, t.2.1.symm, t.2.2.1.symm, t.2.2.2.symm⟩
  have hne : b ≠ w.heap.size + 1 := by
    have hb0 := hb
    obtain ⟨b', off', _, _, _, _, hq, _, hb', _⟩ := visit_at HS.out hk
    simp only [Option.some.injEq, Addr.mk.injEq] at hq
    omega
  have i1 : (0 : Int) ≤ (k : Int) := by omega
  have i2 : (k : Int) < (m : Int) := by omega
  clear hv
  go_wp2
  exact bodyPost_ret (v := .tuple #[.agg #[.int .i64 a1, .int .i64 a2, .int .i64 a3], .bool true]) (by simp [results, Tryz.results23, go_sem, *]) rfl ⟨rfl, by (repeat' (first | exact Ext.refl _ | (with_reducible assumption) | (with_reducible refine Ext.alloc ?_ _) | (with_reducible refine Ext.setCell ?_ (by first | exact Nat.le_refl _ | (dsimp only; omega) | (simp; done) | (simp; omega)) _) | (with_reducible refine Ext.drew ?_) | (with_reducible refine Ext.drewN ?_ _) | (refine Ext.trans ?_ (by with_reducible assumption))))⟩

theorem implHst (h : HouseD) (id : Int) (p : Option Addr) (n cap : Nat) (q : Option Addr) (m c2 : Nat) (w : World) (hi : IsHouse w h p n cap q m c2) :
    Calls Tryz.prog 22 #[houseV h p n cap q m c2, .int .i64 id] w fun e w' => e = .returned (stayR h id) ∧ Ext w w' := by
  have HV := fun (w' : World) (hx : Ext w w') => implHouse h p n cap q m c2 w' (hi.ext hx)
  have hvl := hi.vlen
  obtain ⟨wide, deep, cells, free, step, price, capp, clock, bank, vs⟩ := h
  have HX := fun (w' : World) (hx : Ext w w') => visitIndex_any wide deep free step price capp clock bank id p n cap q m c2 vs w' (hi.vs.ext hx)
  unfold stayR houseStay
  simp only at hvl HV HX ⊢
  cases hok : houseOk ⟨wide, deep, cells, free, step, price, capp, clock, bank, vs⟩ with
  | false =>
    rw [hok] at HV
    simpa using implHst_bad wide deep free step price capp clock bank id p n cap q m c2 w HV
  | true =>
    rw [hok] at HV
    rcases vix_cases id vs with ⟨hx, hv⟩ | ⟨k, a1, a2, a3, hk, hx, hv, hf⟩
    · rw [hx] at HX
      rw [hv]
      simpa using implHst_no wide deep free step price capp clock bank id p n cap q m c2 w HV HX
    · rw [hx] at HX
      rw [hf]
      simpa using implHst_yes wide deep free step price capp clock bank id p n cap q m c2 w k a1 a2 a3 vs hv (by omega) hi.vs.bd hi.vs HV HX

theorem specHst (h : HouseD) (id : Int) (p : Option Addr) (n cap : Nat) (q : Option Addr) (m c2 : Nat) (w : World) (hi : IsHouse w h p n cap q m c2) :
    Calls Tryz.prog 23 #[houseV h p n cap q m c2, .int .i64 id] w fun e w' => e = .returned (stayR h id) ∧ Ext w w' := by
  have HV := fun (w' : World) (hx : Ext w w') => specHouse h p n cap q m c2 w' (hi.ext hx)
  have hvl := hi.vlen
  obtain ⟨wide, deep, cells, free, step, price, capp, clock, bank, vs⟩ := h
  have HX := fun (w' : World) (hx : Ext w w') => l7Find_any wide deep free step price capp clock bank id p n cap q m c2 vs w' (hi.vs.ext hx)
  unfold stayR houseStay
  simp only at hvl HV HX ⊢
  cases hok : houseOk ⟨wide, deep, cells, free, step, price, capp, clock, bank, vs⟩ with
  | false =>
    rw [hok] at HV
    simpa using specHst_bad wide deep free step price capp clock bank id p n cap q m c2 w _ HX HV
  | true =>
    rw [hok] at HV
    rcases vix_cases id vs with ⟨hx, hv⟩ | ⟨k, a1, a2, a3, hk, hx, hv, hf⟩
    · rw [hx] at HX
      rw [hv]
      simpa using specHst_no wide deep free step price capp clock bank id p n cap q m c2 w HX HV
    · rw [hx] at HX
      rw [hf]
      simpa using specHst_yes wide deep free step price capp clock bank id p n cap q m c2 w k a1 a2 a3 vs hv (by omega) hi.vs.bd hi.vs HX HV

end Go.Proofs.YteejdnmmpmcmeaaGreatDoor

/-
  Both packages' HouseDue, HouseMay. Condition: the house's slices read as lists.
-/
namespace Go.Proofs.YteejdnmmpmcmeaaGreatDoor
open Go.RowKit
set_option linter.unusedVariables false
set_option linter.unusedSimpArgs false

set_option maxRecDepth 100000 in
set_option maxHeartbeats 1000000 in
theorem implHd_no (wide deep free step price capp clock bank id : Int) (p : Option Addr) (n cap : Nat) (q : Option Addr) (m c2 : Nat) (w : World)
    (HST : Hid (∀ w', Ext w w' → Calls Tryz.prog 22 #[.agg #[.int .i64 wide, .int .i64 deep, .slice p n cap, .int .i64 free, .int .i64 step, .int .i64 price, .int .i64 capp, .int .i64 clock, .int .i64 bank, .slice q m c2], .int .i64 id] w' fun e w'' => e = .returned (.tuple #[.agg #[.int .i64 0, .int .i64 0, .int .i64 0], .bool false]) ∧ Ext w' w'')) :
    Calls Tryz.prog 26 #[.agg #[.int .i64 wide, .int .i64 deep, .slice p n cap, .int .i64 free, .int .i64 step, .int .i64 price, .int .i64 capp, .int .i64 clock, .int .i64 bank, .slice q m c2], .int .i64 id] w fun e w' => e = .returned (.int .i64 (-1)) ∧ Ext w w' := by
  go_enter Tryz.func26, Tryz.ntmps26
  go_wp2_with fail
  refine (HST.out _ (by (repeat' (first | exact Ext.refl _ | (with_reducible assumption) | (with_reducible refine Ext.alloc ?_ _) | (with_reducible refine Ext.setCell ?_ (by first | exact Nat.le_refl _ | (dsimp only; omega) | (simp; done) | (simp; omega)) _) | (with_reducible refine Ext.drew ?_) | (with_reducible refine Ext.drewN ?_ _) | (refine Ext.trans ?_ (by with_reducible assumption)))))).mono ?_
  rintro e w1 ⟨rfl, hh1⟩
  have BA1 : Blk w1 w.heap.size 30 #[.int .i64 wide, .int .i64 deep, .slice p n cap, .int .i64 free, .int .i64 step, .int .i64 price, .int .i64 capp, .int .i64 clock, .int .i64 bank, .slice q m c2] := (Blk.new w _ _).ext hh1
  have X1 : Ext w w1 := ((Ext.refl w).alloc _).trans hh1
  have s1 : w.heap.size < w1.heap.size := BA1.lt
  replace BA1 := Lib.hid BA1
  clear hh1
  have e1_0 : w1.cell? ⟨w.heap.size, 0, none⟩ = some (.int .i64 wide) := BA1.out.cell 0
  have e1_1 : w1.cell? ⟨w.heap.size, 1, none⟩ = some (.int .i64 deep) := BA1.out.cell 1
  have e1_2 : w1.cell? ⟨w.heap.size, 2, none⟩ = some (.slice p n cap) := BA1.out.cell 2
  have e1_3 : w1.cell? ⟨w.heap.size, 3, none⟩ = some (.int .i64 free) := BA1.out.cell 3
  have e1_4 : w1.cell? ⟨w.heap.size, 4, none⟩ = some (.int .i64 step) := BA1.out.cell 4
  have e1_5 : w1.cell? ⟨w.heap.size, 5, none⟩ = some (.int .i64 price) := BA1.out.cell 5
  have e1_6 : w1.cell? ⟨w.heap.size, 6, none⟩ = some (.int .i64 capp) := BA1.out.cell 6
  have e1_7 : w1.cell? ⟨w.heap.size, 7, none⟩ = some (.int .i64 clock) := BA1.out.cell 7
  have e1_8 : w1.cell? ⟨w.heap.size, 8, none⟩ = some (.int .i64 bank) := BA1.out.cell 8
  have e1_9 : w1.cell? ⟨w.heap.size, 9, none⟩ = some (.slice q m c2) := BA1.out.cell 9
  go_wp2
  go_ret
  exact ⟨rfl, by (repeat' (first | exact Ext.refl _ | (with_reducible assumption) | (with_reducible refine Ext.alloc ?_ _) | (with_reducible refine Ext.setCell ?_ (by first | exact Nat.le_refl _ | (dsimp only; omega) | (simp; done) | (simp; omega)) _) | (with_reducible refine Ext.drew ?_) | (with_reducible refine Ext.drewN ?_ _) | (refine Ext.trans ?_ (by with_reducible assumption))))⟩

set_option maxRecDepth 100000 in
set_option maxHeartbeats 1000000 in
theorem implHd_yes (wide deep free step price capp clock bank id : Int) (p : Option Addr) (n cap : Nat) (q : Option Addr) (m c2 : Nat) (w : World) (a1 a2 a3 : Int) (D : Int)
    (HST : Hid (∀ w', Ext w w' → Calls Tryz.prog 22 #[.agg #[.int .i64 wide, .int .i64 deep, .slice p n cap, .int .i64 free, .int .i64 step, .int .i64 price, .int .i64 capp, .int .i64 clock, .int .i64 bank, .slice q m c2], .int .i64 id] w' fun e w'' => e = .returned (.tuple #[.agg #[.int .i64 a1, .int .i64 a2, .int .i64 a3], .bool true]) ∧ Ext w' w''))
    (HD : Hid (∀ w', Calls Tryz.prog 74 #[tariffV free step price capp, stayV a1 a2 a3, .int .i64 clock] w' fun e w'' => e = .returned (.int .i64 D) ∧ Ext w' w'')) :
    Calls Tryz.prog 26 #[.agg #[.int .i64 wide, .int .i64 deep, .slice p n cap, .int .i64 free, .int .i64 step, .int .i64 price, .int .i64 capp, .int .i64 clock, .int .i64 bank, .slice q m c2], .int .i64 id] w fun e w' => e = .returned (.int .i64 D) ∧ Ext w w' := by
  go_enter Tryz.func26, Tryz.ntmps26
  go_wp2_with fail
  refine (HST.out _ (by (repeat' (first | exact Ext.refl _ | (with_reducible assumption) | (with_reducible refine Ext.alloc ?_ _) | (with_reducible refine Ext.setCell ?_ (by first | exact Nat.le_refl _ | (dsimp only; omega) | (simp; done) | (simp; omega)) _) | (with_reducible refine Ext.drew ?_) | (with_reducible refine Ext.drewN ?_ _) | (refine Ext.trans ?_ (by with_reducible assumption)))))).mono ?_
  rintro e w1 ⟨rfl, hh1⟩
  have BA1 : Blk w1 w.heap.size 30 #[.int .i64 wide, .int .i64 deep, .slice p n cap, .int .i64 free, .int .i64 step, .int .i64 price, .int .i64 capp, .int .i64 clock, .int .i64 bank, .slice q m c2] := (Blk.new w _ _).ext hh1
  have X1 : Ext w w1 := ((Ext.refl w).alloc _).trans hh1
  have s1 : w.heap.size < w1.heap.size := BA1.lt
  replace BA1 := Lib.hid BA1
  clear hh1
  have e1_0 : w1.cell? ⟨w.heap.size, 0, none⟩ = some (.int .i64 wide) := BA1.out.cell 0
  have e1_1 : w1.cell? ⟨w.heap.size, 1, none⟩ = some (.int .i64 deep) := BA1.out.cell 1
  have e1_2 : w1.cell? ⟨w.heap.size, 2, none⟩ = some (.slice p n cap) := BA1.out.cell 2
  have e1_3 : w1.cell? ⟨w.heap.size, 3, none⟩ = some (.int .i64 free) := BA1.out.cell 3
  have e1_4 : w1.cell? ⟨w.heap.size, 4, none⟩ = some (.int .i64 step) := BA1.out.cell 4
  have e1_5 : w1.cell? ⟨w.heap.size, 5, none⟩ = some (.int .i64 price) := BA1.out.cell 5
  have e1_6 : w1.cell? ⟨w.heap.size, 6, none⟩ = some (.int .i64 capp) := BA1.out.cell 6
  have e1_7 : w1.cell? ⟨w.heap.size, 7, none⟩ = some (.int .i64 clock) := BA1.out.cell 7
  have e1_8 : w1.cell? ⟨w.heap.size, 8, none⟩ = some (.int .i64 bank) := BA1.out.cell 8
  have e1_9 : w1.cell? ⟨w.heap.size, 9, none⟩ = some (.slice q m c2) := BA1.out.cell 9
  go_wp2_with fail
  refine (HD.out _).mono ?_
  rintro e w2 ⟨rfl, hh2⟩
  go_wp2
  go_ret
  exact ⟨rfl, by (repeat' (first | exact Ext.refl _ | (with_reducible assumption) | (with_reducible refine Ext.alloc ?_ _) | (with_reducible refine Ext.setCell ?_ (by first | exact Nat.le_refl _ | (dsimp only; omega) | (simp; done) | (simp; omega)) _) | (with_reducible refine Ext.drew ?_) | (with_reducible refine Ext.drewN ?_ _) | (refine Ext.trans ?_ (by with_reducible assumption))))⟩

set_option maxRecDepth 100000 in
set_option maxHeartbeats 1000000 in
theorem implHm_no (wide deep free step price capp clock bank id : Int) (p : Option Addr) (n cap : Nat) (q : Option Addr) (m c2 : Nat) (w : World)
    (HST : Hid (∀ w', Ext w w' → Calls Tryz.prog 22 #[.agg #[.int .i64 wide, .int .i64 deep, .slice p n cap, .int .i64 free, .int .i64 step, .int .i64 price, .int .i64 capp, .int .i64 clock, .int .i64 bank, .slice q m c2], .int .i64 id] w' fun e w'' => e = .returned (.tuple #[.agg #[.int .i64 0, .int .i64 0, .int .i64 0], .bool false]) ∧ Ext w' w'')) :
    Calls Tryz.prog 30 #[.agg #[.int .i64 wide, .int .i64 deep, .slice p n cap, .int .i64 free, .int .i64 step, .int .i64 price, .int .i64 capp, .int .i64 clock, .int .i64 bank, .slice q m c2], .int .i64 id] w fun e w' => e = .returned (.bool false) ∧ Ext w w' := by
  go_enter Tryz.func30, Tryz.ntmps30
  go_wp2_with fail
  refine (HST.out _ (by (repeat' (first | exact Ext.refl _ | (with_reducible assumption) | (with_reducible refine Ext.alloc ?_ _) | (with_reducible refine Ext.setCell ?_ (by first | exact Nat.le_refl _ | (dsimp only; omega) | (simp; done) | (simp; omega)) _) | (with_reducible refine Ext.drew ?_) | (with_reducible refine Ext.drewN ?_ _) | (refine Ext.trans ?_ (by with_reducible assumption)))))).mono ?_
  rintro e w1 ⟨rfl, hh1⟩
  have BA1 : Blk w1 w.heap.size 30 #[.int .i64 wide, .int .i64 deep, .slice p n cap, .int .i64 free, .int .i64 step, .int .i64 price, .int .i64 capp, .int .i64 clock, .int .i64 bank, .slice q m c2] := (Blk.new w _ _).ext hh1
  have X1 : Ext w w1 := ((Ext.refl w).alloc _).trans hh1
  have s1 : w.heap.size < w1.heap.size := BA1.lt
  replace BA1 := Lib.hid BA1
  clear hh1
  have e1_0 : w1.cell? ⟨w.heap.size, 0, none⟩ = some (.int .i64 wide) := BA1.out.cell 0
  have e1_1 : w1.cell? ⟨w.heap.size, 1, none⟩ = some (.int .i64 deep) := BA1.out.cell 1
  have e1_2 : w1.cell? ⟨w.heap.size, 2, none⟩ = some (.slice p n cap) := BA1.out.cell 2
  have e1_3 : w1.cell? ⟨w.heap.size, 3, none⟩ = some (.int .i64 free) := BA1.out.cell 3
  have e1_4 : w1.cell? ⟨w.heap.size, 4, none⟩ = some (.int .i64 step) := BA1.out.cell 4
  have e1_5 : w1.cell? ⟨w.heap.size, 5, none⟩ = some (.int .i64 price) := BA1.out.cell 5
  have e1_6 : w1.cell? ⟨w.heap.size, 6, none⟩ = some (.int .i64 capp) := BA1.out.cell 6
  have e1_7 : w1.cell? ⟨w.heap.size, 7, none⟩ = some (.int .i64 clock) := BA1.out.cell 7
  have e1_8 : w1.cell? ⟨w.heap.size, 8, none⟩ = some (.int .i64 bank) := BA1.out.cell 8
  have e1_9 : w1.cell? ⟨w.heap.size, 9, none⟩ = some (.slice q m c2) := BA1.out.cell 9
  go_wp2
  go_ret
  exact ⟨rfl, by (repeat' (first | exact Ext.refl _ | (with_reducible assumption) | (with_reducible refine Ext.alloc ?_ _) | (with_reducible refine Ext.setCell ?_ (by first | exact Nat.le_refl _ | (dsimp only; omega) | (simp; done) | (simp; omega)) _) | (with_reducible refine Ext.drew ?_) | (with_reducible refine Ext.drewN ?_ _) | (refine Ext.trans ?_ (by with_reducible assumption))))⟩

set_option maxRecDepth 100000 in
set_option maxHeartbeats 1000000 in
theorem implHm_yes (wide deep free step price capp clock bank id : Int) (p : Option Addr) (n cap : Nat) (q : Option Addr) (m c2 : Nat) (w : World) (a1 a2 a3 : Int) (D : Bool)
    (HST : Hid (∀ w', Ext w w' → Calls Tryz.prog 22 #[.agg #[.int .i64 wide, .int .i64 deep, .slice p n cap, .int .i64 free, .int .i64 step, .int .i64 price, .int .i64 capp, .int .i64 clock, .int .i64 bank, .slice q m c2], .int .i64 id] w' fun e w'' => e = .returned (.tuple #[.agg #[.int .i64 a1, .int .i64 a2, .int .i64 a3], .bool true]) ∧ Ext w' w''))
    (HD : Hid (∀ w', Calls Tryz.prog 77 #[tariffV free step price capp, stayV a1 a2 a3, .int .i64 clock] w' fun e w'' => e = .returned (.bool D) ∧ Ext w' w'')) :
    Calls Tryz.prog 30 #[.agg #[.int .i64 wide, .int .i64 deep, .slice p n cap, .int .i64 free, .int .i64 step, .int .i64 price, .int .i64 capp, .int .i64 clock, .int .i64 bank, .slice q m c2], .int .i64 id] w fun e w' => e = .returned (.bool D) ∧ Ext w w' := by
  go_enter Tryz.func30, Tryz.ntmps30
  go_wp2_with fail
  refine (HST.out _ (by (repeat' (first | exact Ext.refl _ | (with_reducible assumption) | (with_reducible refine Ext.alloc ?_ _) | (with_reducible refine Ext.setCell ?_ (by first | exact Nat.le_refl _ | (dsimp only; omega) | (simp; done) | (simp; omega)) _) | (with_reducible refine Ext.drew ?_) | (with_reducible refine Ext.drewN ?_ _) | (refine Ext.trans ?_ (by with_reducible assumption)))))).mono ?_
  rintro e w1 ⟨rfl, hh1⟩
  have BA1 : Blk w1 w.heap.size 30 #[.int .i64 wide, .int .i64 deep, .slice p n cap, .int .i64 free, .int .i64 step, .int .i64 price, .int .i64 capp, .int .i64 clock, .int .i64 bank, .slice q m c2] := (Blk.new w _ _).ext hh1
  have X1 : Ext w w1 := ((Ext.refl w).alloc _).trans hh1
  have s1 : w.heap.size < w1.heap.size := BA1.lt
  replace BA1 := Lib.hid BA1
  clear hh1
  have e1_0 : w1.cell? ⟨w.heap.size, 0, none⟩ = some (.int .i64 wide) := BA1.out.cell 0
  have e1_1 : w1.cell? ⟨w.heap.size, 1, none⟩ = some (.int .i64 deep) := BA1.out.cell 1
  have e1_2 : w1.cell? ⟨w.heap.size, 2, none⟩ = some (.slice p n cap) := BA1.out.cell 2
  have e1_3 : w1.cell? ⟨w.heap.size, 3, none⟩ = some (.int .i64 free) := BA1.out.cell 3
  have e1_4 : w1.cell? ⟨w.heap.size, 4, none⟩ = some (.int .i64 step) := BA1.out.cell 4
  have e1_5 : w1.cell? ⟨w.heap.size, 5, none⟩ = some (.int .i64 price) := BA1.out.cell 5
  have e1_6 : w1.cell? ⟨w.heap.size, 6, none⟩ = some (.int .i64 capp) := BA1.out.cell 6
  have e1_7 : w1.cell? ⟨w.heap.size, 7, none⟩ = some (.int .i64 clock) := BA1.out.cell 7
  have e1_8 : w1.cell? ⟨w.heap.size, 8, none⟩ = some (.int .i64 bank) := BA1.out.cell 8
  have e1_9 : w1.cell? ⟨w.heap.size, 9, none⟩ = some (.slice q m c2) := BA1.out.cell 9
  go_wp2_with fail
  refine (HD.out _).mono ?_
  rintro e w2 ⟨rfl, hh2⟩
  go_wp2
  go_ret
  exact ⟨rfl, by (repeat' (first | exact Ext.refl _ | (with_reducible assumption) | (with_reducible refine Ext.alloc ?_ _) | (with_reducible refine Ext.setCell ?_ (by first | exact Nat.le_refl _ | (dsimp only; omega) | (simp; done) | (simp; omega)) _) | (with_reducible refine Ext.drew ?_) | (with_reducible refine Ext.drewN ?_ _) | (refine Ext.trans ?_ (by with_reducible assumption))))⟩

set_option maxRecDepth 100000 in
set_option maxHeartbeats 1000000 in
theorem specHd_no (wide deep free step price capp clock bank id : Int) (p : Option Addr) (n cap : Nat) (q : Option Addr) (m c2 : Nat) (w : World)
    (HST : Hid (∀ w', Ext w w' → Calls Tryz.prog 23 #[.agg #[.int .i64 wide, .int .i64 deep, .slice p n cap, .int .i64 free, .int .i64 step, .int .i64 price, .int .i64 capp, .int .i64 clock, .int .i64 bank, .slice q m c2], .int .i64 id] w' fun e w'' => e = .returned (.tuple #[.agg #[.int .i64 0, .int .i64 0, .int .i64 0], .bool false]) ∧ Ext w' w'')) :
    Calls Tryz.prog 27 #[.agg #[.int .i64 wide, .int .i64 deep, .slice p n cap, .int .i64 free, .int .i64 step, .int .i64 price, .int .i64 capp, .int .i64 clock, .int .i64 bank, .slice q m c2], .int .i64 id] w fun e w' => e = .returned (.int .i64 (-1)) ∧ Ext w w' := by
  go_enter Tryz.func27, Tryz.ntmps27
  go_wp2_with fail
  refine (HST.out _ (by (repeat' (first | exact Ext.refl _ | (with_reducible assumption) | (with_reducible refine Ext.alloc ?_ _) | (with_reducible refine Ext.setCell ?_ (by first | exact Nat.le_refl _ | (dsimp only; omega) | (simp; done) | (simp; omega)) _) | (with_reducible refine Ext.drew ?_) | (with_reducible refine Ext.drewN ?_ _) | (refine Ext.trans ?_ (by with_reducible assumption)))))).mono ?_
  rintro e w1 ⟨rfl, hh1⟩
  have BA1 : Blk w1 w.heap.size 30 #[.int .i64 wide, .int .i64 deep, .slice p n cap, .int .i64 free, .int .i64 step, .int .i64 price, .int .i64 capp, .int .i64 clock, .int .i64 bank, .slice q m c2] := (Blk.new w _ _).ext hh1
  have X1 : Ext w w1 := ((Ext.refl w).alloc _).trans hh1
  have s1 : w.heap.size < w1.heap.size := BA1.lt
  replace BA1 := Lib.hid BA1
  clear hh1
  have e1_0 : w1.cell? ⟨w.heap.size, 0, none⟩ = some (.int .i64 wide) := BA1.out.cell 0
  have e1_1 : w1.cell? ⟨w.heap.size, 1, none⟩ = some (.int .i64 deep) := BA1.out.cell 1
  have e1_2 : w1.cell? ⟨w.heap.size, 2, none⟩ = some (.slice p n cap) := BA1.out.cell 2
  have e1_3 : w1.cell? ⟨w.heap.size, 3, none⟩ = some (.int .i64 free) := BA1.out.cell 3
  have e1_4 : w1.cell? ⟨w.heap.size, 4, none⟩ = some (.int .i64 step) := BA1.out.cell 4
  have e1_5 : w1.cell? ⟨w.heap.size, 5, none⟩ = some (.int .i64 price) := BA1.out.cell 5
  have e1_6 : w1.cell? ⟨w.heap.size, 6, none⟩ = some (.int .i64 capp) := BA1.out.cell 6
  have e1_7 : w1.cell? ⟨w.heap.size, 7, none⟩ = some (.int .i64 clock) := BA1.out.cell 7
  have e1_8 : w1.cell? ⟨w.heap.size, 8, none⟩ = some (.int .i64 bank) := BA1.out.cell 8
  have e1_9 : w1.cell? ⟨w.heap.size, 9, none⟩ = some (.slice q m c2) := BA1.out.cell 9
  go_wp2
  go_ret
  exact ⟨rfl, by (repeat' (first | exact Ext.refl _ | (with_reducible assumption) | (with_reducible refine Ext.alloc ?_ _) | (with_reducible refine Ext.setCell ?_ (by first | exact Nat.le_refl _ | (dsimp only; omega) | (simp; done) | (simp; omega)) _) | (with_reducible refine Ext.drew ?_) | (with_reducible refine Ext.drewN ?_ _) | (refine Ext.trans ?_ (by with_reducible assumption))))⟩

set_option maxRecDepth 100000 in
set_option maxHeartbeats 1000000 in
theorem specHd_yes (wide deep free step price capp clock bank id : Int) (p : Option Addr) (n cap : Nat) (q : Option Addr) (m c2 : Nat) (w : World) (a1 a2 a3 : Int) (D : Int)
    (HST : Hid (∀ w', Ext w w' → Calls Tryz.prog 23 #[.agg #[.int .i64 wide, .int .i64 deep, .slice p n cap, .int .i64 free, .int .i64 step, .int .i64 price, .int .i64 capp, .int .i64 clock, .int .i64 bank, .slice q m c2], .int .i64 id] w' fun e w'' => e = .returned (.tuple #[.agg #[.int .i64 a1, .int .i64 a2, .int .i64 a3], .bool true]) ∧ Ext w' w''))
    (HD : Hid (∀ w', Calls Tryz.prog 75 #[tariffV free step price capp, stayV a1 a2 a3, .int .i64 clock] w' fun e w'' => e = .returned (.int .i64 D) ∧ Ext w' w'')) :
    Calls Tryz.prog 27 #[.agg #[.int .i64 wide, .int .i64 deep, .slice p n cap, .int .i64 free, .int .i64 step, .int .i64 price, .int .i64 capp, .int .i64 clock, .int .i64 bank, .slice q m c2], .int .i64 id] w fun e w' => e = .returned (.int .i64 D) ∧ Ext w w' := by
  go_enter Tryz.func27, Tryz.ntmps27
  go_wp2_with fail
  refine (HST.out _ (by (repeat' (first | exact Ext.refl _ | (with_reducible assumption) | (with_reducible refine Ext.alloc ?_ _) | (with_reducible refine Ext.setCell ?_ (by first | exact Nat.le_refl _ | (dsimp only; omega) | (simp; done) | (simp; omega)) _) | (with_reducible refine Ext.drew ?_) | (with_reducible refine Ext.drewN ?_ _) | (refine Ext.trans ?_ (by with_reducible assumption)))))).mono ?_
  rintro e w1 ⟨rfl, hh1⟩
  have BA1 : Blk w1 w.heap.size 30 #[.int .i64 wide, .int .i64 deep, .slice p n cap, .int .i64 free, .int .i64 step, .int .i64 price, .int .i64 capp, .int .i64 clock, .int .i64 bank, .slice q m c2] := (Blk.new w _ _).ext hh1
  have X1 : Ext w w1 := ((Ext.refl w).alloc _).trans hh1
  have s1 : w.heap.size < w1.heap.size := BA1.lt
  replace BA1 := Lib.hid BA1
  clear hh1
  have e1_0 : w1.cell? ⟨w.heap.size, 0, none⟩ = some (.int .i64 wide) := BA1.out.cell 0
  have e1_1 : w1.cell? ⟨w.heap.size, 1, none⟩ = some (.int .i64 deep) := BA1.out.cell 1
  have e1_2 : w1.cell? ⟨w.heap.size, 2, none⟩ = some (.slice p n cap) := BA1.out.cell 2
  have e1_3 : w1.cell? ⟨w.heap.size, 3, none⟩ = some (.int .i64 free) := BA1.out.cell 3
  have e1_4 : w1.cell? ⟨w.heap.size, 4, none⟩ = some (.int .i64 step) := BA1.out.cell 4
  have e1_5 : w1.cell? ⟨w.heap.size, 5, none⟩ = some (.int .i64 price) := BA1.out.cell 5
  have e1_6 : w1.cell? ⟨w.heap.size, 6, none⟩ = some (.int .i64 capp) := BA1.out.cell 6
  have e1_7 : w1.cell? ⟨w.heap.size, 7, none⟩ = some (.int .i64 clock) := BA1.out.cell 7
  have e1_8 : w1.cell? ⟨w.heap.size, 8, none⟩ = some (.int .i64 bank) := BA1.out.cell 8
  have e1_9 : w1.cell? ⟨w.heap.size, 9, none⟩ = some (.slice q m c2) := BA1.out.cell 9
  go_wp2_with fail
  refine (HD.out _).mono ?_
  rintro e w2 ⟨rfl, hh2⟩
  go_wp2
  go_ret
  exact ⟨rfl, by (repeat' (first | exact Ext.refl _ | (with_reducible assumption) | (with_reducible refine Ext.alloc ?_ _) | (with_reducible refine Ext.setCell ?_ (by first | exact Nat.le_refl _ | (dsimp only; omega) | (simp; done) | (simp; omega)) _) | (with_reducible refine Ext.drew ?_) | (with_reducible refine Ext.drewN ?_ _) | (refine Ext.trans ?_ (by with_reducible assumption))))⟩

set_option maxRecDepth 100000 in
set_option maxHeartbeats 1000000 in
theorem specHm_no (wide deep free step price capp clock bank id : Int) (p : Option Addr) (n cap : Nat) (q : Option Addr) (m c2 : Nat) (w : World)
    (HST : Hid (∀ w', Ext w w' → Calls Tryz.prog 23 #[.agg #[.int .i64 wide, .int .i64 deep, .slice p n cap, .int .i64 free, .int .i64 step, .int .i64 price, .int .i64 capp, .int .i64 clock, .int .i64 bank, .slice q m c2], .int .i64 id] w' fun e w'' => e = .returned (.tuple #[.agg #[.int .i64 0, .int .i64 0, .int .i64 0], .bool false]) ∧ Ext w' w'')) :
    Calls Tryz.prog 31 #[.agg #[.int .i64 wide, .int .i64 deep, .slice p n cap, .int .i64 free, .int .i64 step, .int .i64 price, .int .i64 capp, .int .i64 clock, .int .i64 bank, .slice q m c2], .int .i64 id] w fun e w' => e = .returned (.bool false) ∧ Ext w w' := by
  go_enter Tryz.func31, Tryz.ntmps31
  go_wp2_with fail
  refine (HST.out _ (by (repeat' (first | exact Ext.refl _ | (with_reducible assumption) | (with_reducible refine Ext.alloc ?_ _) | (with_reducible refine Ext.setCell ?_ (by first | exact Nat.le_refl _ | (dsimp only; omega) | (simp; done) | (simp; omega)) _) | (with_reducible refine Ext.drew ?_) | (with_reducible refine Ext.drewN ?_ _) | (refine Ext.trans ?_ (by with_reducible assumption)))))).mono ?_
  rintro e w1 ⟨rfl, hh1⟩
  have BA1 : Blk w1 w.heap.size 30 #[.int .i64 wide, .int .i64 deep, .slice p n cap, .int .i64 free, .int .i64 step, .int .i64 price, .int .i64 capp, .int .i64 clock, .int .i64 bank, .slice q m c2] := (Blk.new w _ _).ext hh1
  have X1 : Ext w w1 := ((Ext.refl w).alloc _).trans hh1
  have s1 : w.heap.size < w1.heap.size := BA1.lt
  replace BA1 := Lib.hid BA1
  clear hh1
  have e1_0 : w1.cell? ⟨w.heap.size, 0, none⟩ = some (.int .i64 wide) := BA1.out.cell 0
  have e1_1 : w1.cell? ⟨w.heap.size, 1, none⟩ = some (.int .i64 deep) := BA1.out.cell 1
  have e1_2 : w1.cell? ⟨w.heap.size, 2, none⟩ = some (.slice p n cap) := BA1.out.cell 2
  have e1_3 : w1.cell? ⟨w.heap.size, 3, none⟩ = some (.int .i64 free) := BA1.out.cell 3
  have e1_4 : w1.cell? ⟨w.heap.size, 4, none⟩ = some (.int .i64 step) := BA1.out.cell 4
  have e1_5 : w1.cell? ⟨w.heap.size, 5, none⟩ = some (.int .i64 price) := BA1.out.cell 5
  have e1_6 : w1.cell? ⟨w.heap.size, 6, none⟩ = some (.int .i64 capp) := BA1.out.cell 6
  have e1_7 : w1.cell? ⟨w.heap.size, 7, none⟩ = some (.int .i64 clock) := BA1.out.cell 7
  have e1_8 : w1.cell? ⟨w.heap.size, 8, none⟩ = some (.int .i64 bank) := BA1.out.cell 8
  have e1_9 : w1.cell? ⟨w.heap.size, 9, none⟩ = some (.slice q m c2) := BA1.out.cell 9
  go_wp2
  go_ret
  exact ⟨rfl, by (repeat' (first | exact Ext.refl _ | (with_reducible assumption) | (with_reducible refine Ext.alloc ?_ _) | (with_reducible refine Ext.setCell ?_ (by first | exact Nat.le_refl _ | (dsimp only; omega) | (simp; done) | (simp; omega)) _) | (with_reducible refine Ext.drew ?_) | (with_reducible refine Ext.drewN ?_ _) | (refine Ext.trans ?_ (by with_reducible assumption))))⟩

set_option maxRecDepth 100000 in
set_option maxHeartbeats 1000000 in
theorem specHm_yes (wide deep free step price capp clock bank id : Int) (p : Option Addr) (n cap : Nat) (q : Option Addr) (m c2 : Nat) (w : World) (a1 a2 a3 : Int) (D : Bool)
    (HST : Hid (∀ w', Ext w w' → Calls Tryz.prog 23 #[.agg #[.int .i64 wide, .int .i64 deep, .slice p n cap, .int .i64 free, .int .i64 step, .int .i64 price, .int .i64 capp, .int .i64 clock, .int .i64 bank, .slice q m c2], .int .i64 id] w' fun e w'' => e = .returned (.tuple #[.agg #[.int .i64 a1, .int .i64 a2, .int .i64 a3], .bool true]) ∧ Ext w' w''))
    (HD : Hid (∀ w', Calls Tryz.prog 78 #[tariffV free step price capp, stayV a1 a2 a3, .int .i64 clock] w' fun e w'' => e = .returned (.bool D) ∧ Ext w' w'')) :
    Calls Tryz.prog 31 #[.agg #[.int .i64 wide, .int .i64 deep, .slice p n cap, .int .i64 free, .int .i64 step, .int .i64 price, .int .i64 capp, .int .i64 clock, .int .i64 bank, .slice q m c2], .int .i64 id] w fun e w' => e = .returned (.bool D) ∧ Ext w w' := by
  go_enter Tryz.func31, Tryz.ntmps31
  go_wp2_with fail
  refine (HST.out _ (by (repeat' (first | exact Ext.refl _ | (with_reducible assumption) | (with_reducible refine Ext.alloc ?_ _) | (with_reducible refine Ext.setCell ?_ (by first | exact Nat.le_refl _ | (dsimp only; omega) | (simp; done) | (simp; omega)) _) | (with_reducible refine Ext.drew ?_) | (with_reducible refine Ext.drewN ?_ _) | (refine Ext.trans ?_ (by with_reducible assumption)))))).mono ?_
  rintro e w1 ⟨rfl, hh1⟩
  have BA1 : Blk w1 w.heap.size 30 #[.int .i64 wide, .int .i64 deep, .slice p n cap, .int .i64 free, .int .i64 step, .int .i64 price, .int .i64 capp, .int .i64 clock, .int .i64 bank, .slice q m c2] := (Blk.new w _ _).ext hh1
  have X1 : Ext w w1 := ((Ext.refl w).alloc _).trans hh1
  have s1 : w.heap.size < w1.heap.size := BA1.lt
  replace BA1 := Lib.hid BA1
  clear hh1
  have e1_0 : w1.cell? ⟨w.heap.size, 0, none⟩ = some (.int .i64 wide) := BA1.out.cell 0
  have e1_1 : w1.cell? ⟨w.heap.size, 1, none⟩ = some (.int .i64 deep) := BA1.out.cell 1
  have e1_2 : w1.cell? ⟨w.heap.size, 2, none⟩ = some (.slice p n cap) := BA1.out.cell 2
  have e1_3 : w1.cell? ⟨w.heap.size, 3, none⟩ = some (.int .i64 free) := BA1.out.cell 3
  have e1_4 : w1.cell? ⟨w.heap.size, 4, none⟩ = some (.int .i64 step) := BA1.out.cell 4
  have e1_5 : w1.cell? ⟨w.heap.size, 5, none⟩ = some (.int .i64 price) := BA1.out.cell 5
  have e1_6 : w1.cell? ⟨w.heap.size, 6, none⟩ = some (.int .i64 capp) := BA1.out.cell 6
  have e1_7 : w1.cell? ⟨w.heap.size, 7, none⟩ = some (.int .i64 clock) := BA1.out.cell 7
  have e1_8 : w1.cell? ⟨w.heap.size, 8, none⟩ = some (.int .i64 bank) := BA1.out.cell 8
  have e1_9 : w1.cell? ⟨w.heap.size, 9, none⟩ = some (.slice q m c2) := BA1.out.cell 9
  go_wp2_with fail
  refine (HD.out _).mono ?_
  rintro e w2 ⟨rfl, hh2⟩
  go_wp2
  go_ret
  exact ⟨rfl, by (repeat' (first | exact Ext.refl _ | (with_reducible assumption) | (with_reducible refine Ext.alloc ?_ _) | (with_reducible refine Ext.setCell ?_ (by first | exact Nat.le_refl _ | (dsimp only; omega) | (simp; done) | (simp; omega)) _) | (with_reducible refine Ext.drew ?_) | (with_reducible refine Ext.drewN ?_ _) | (refine Ext.trans ?_ (by with_reducible assumption))))⟩

theorem stay_good {h : HouseD} {id a1 a2 a3 : Int} (hs : houseStay h id = some (a1, a2, a3)) : tariffOk h.free h.step h.price h.capp = true ∧ stayOk a1 a2 a3 = true ∧ a3 ≤ h.clock ∧ h.clock ≤ 9999 := by
  unfold houseStay at hs
  split at hs
  · rename_i hok
    rw [Option.map_eq_some_iff] at hs
    obtain ⟨v, hv, e⟩ := hs
    have hm := List.mem_of_find?_eq_some hv
    simp only [houseOk, numsOk, Bool.and_eq_true, decide_eq_true_eq] at hok
    have := (visitsOk_len hok.2).2 v hm
    obtain ⟨v0, v1, v2, v3⟩ := v
    simp only [Prod.mk.injEq] at e
    obtain ⟨rfl, rfl, rfl⟩ := e
    simp only [visitOk, Bool.and_eq_true, decide_eq_true_eq] at this
    exact ⟨hok.1.1.2, this.1, this.2, hok.1.2.2.1⟩
  · simp at hs
theorem implHouseDue (h : HouseD) (id : Int) (p : Option Addr) (n cap : Nat) (q : Option Addr) (m c2 : Nat) (w : World) (hi : IsHouse w h p n cap q m c2) :
    Calls Tryz.prog 26 #[houseV h p n cap q m c2, .int .i64 id] w fun e w' => e = .returned (.int .i64 (houseDue h id)) ∧ Ext w w' := by
  have HST := fun (w' : World) (hx : Ext w w') => implHst h id p n cap q m c2 w' (hi.ext hx)
  unfold stayR at HST
  unfold houseDue
  cases hs : houseStay h id with
  | none =>
    rw [hs] at HST
    exact implHd_no h.wide h.deep h.free h.step h.price h.capp h.clock h.bank id p n cap q m c2 w HST
  | some s =>
    obtain ⟨a1, a2, a3⟩ := s
    rw [hs] at HST
    obtain ⟨t, st, hc, h9⟩ := stay_good hs
    exact implHd_yes h.wide h.deep h.free h.step h.price h.capp h.clock h.bank id p n cap q m c2 w a1 a2 a3 _ HST (fun w' => implSd h.free h.step h.price h.capp a1 a2 a3 h.clock w' t st hc h9)

theorem implHouseMay (h : HouseD) (id : Int) (p : Option Addr) (n cap : Nat) (q : Option Addr) (m c2 : Nat) (w : World) (hi : IsHouse w h p n cap q m c2) :
    Calls Tryz.prog 30 #[houseV h p n cap q m c2, .int .i64 id] w fun e w' => e = .returned (.bool (houseMay h id)) ∧ Ext w w' := by
  have HST := fun (w' : World) (hx : Ext w w') => implHst h id p n cap q m c2 w' (hi.ext hx)
  unfold stayR at HST
  unfold houseMay
  cases hs : houseStay h id with
  | none =>
    rw [hs] at HST
    exact implHm_no h.wide h.deep h.free h.step h.price h.capp h.clock h.bank id p n cap q m c2 w HST
  | some s =>
    obtain ⟨a1, a2, a3⟩ := s
    rw [hs] at HST
    obtain ⟨t, st, hc, h9⟩ := stay_good hs
    exact implHm_yes h.wide h.deep h.free h.step h.price h.capp h.clock h.bank id p n cap q m c2 w a1 a2 a3 _ HST (fun w' => implMl h.free h.step h.price h.capp a1 a2 a3 h.clock w' t st hc h9)

theorem specHouseDue (h : HouseD) (id : Int) (p : Option Addr) (n cap : Nat) (q : Option Addr) (m c2 : Nat) (w : World) (hi : IsHouse w h p n cap q m c2) :
    Calls Tryz.prog 27 #[houseV h p n cap q m c2, .int .i64 id] w fun e w' => e = .returned (.int .i64 (houseDue h id)) ∧ Ext w w' := by
  have HST := fun (w' : World) (hx : Ext w w') => specHst h id p n cap q m c2 w' (hi.ext hx)
  unfold stayR at HST
  unfold houseDue
  cases hs : houseStay h id with
  | none =>
    rw [hs] at HST
    exact specHd_no h.wide h.deep h.free h.step h.price h.capp h.clock h.bank id p n cap q m c2 w HST
  | some s =>
    obtain ⟨a1, a2, a3⟩ := s
    rw [hs] at HST
    obtain ⟨t, st, hc, h9⟩ := stay_good hs
    exact specHd_yes h.wide h.deep h.free h.step h.price h.capp h.clock h.bank id p n cap q m c2 w a1 a2 a3 _ HST (fun w' => specSd h.free h.step h.price h.capp a1 a2 a3 h.clock w' t st hc h9)

theorem specHouseMay (h : HouseD) (id : Int) (p : Option Addr) (n cap : Nat) (q : Option Addr) (m c2 : Nat) (w : World) (hi : IsHouse w h p n cap q m c2) :
    Calls Tryz.prog 31 #[houseV h p n cap q m c2, .int .i64 id] w fun e w' => e = .returned (.bool (houseMay h id)) ∧ Ext w w' := by
  have HST := fun (w' : World) (hx : Ext w w') => specHst h id p n cap q m c2 w' (hi.ext hx)
  unfold stayR at HST
  unfold houseMay
  cases hs : houseStay h id with
  | none =>
    rw [hs] at HST
    exact specHm_no h.wide h.deep h.free h.step h.price h.capp h.clock h.bank id p n cap q m c2 w HST
  | some s =>
    obtain ⟨a1, a2, a3⟩ := s
    rw [hs] at HST
    obtain ⟨t, st, hc, h9⟩ := stay_good hs
    exact specHm_yes h.wide h.deep h.free h.step h.price h.capp h.clock h.bank id p n cap q m c2 w a1 a2 a3 _ HST (fun w' => specMl h.free h.step h.price h.capp a1 a2 a3 h.clock w' t st hc h9)

end Go.Proofs.YteejdnmmpmcmeaaGreatDoor

/-
  Both packages' HouseOwed return the sum of what is due for all stays; -1 for other houses. Condition: the house's slices read as lists.
-/
namespace Go.Proofs.YteejdnmmpmcmeaaGreatDoor
open Go.RowKit
set_option linter.unusedVariables false
set_option linter.unusedSimpArgs false

def sumD (D : Visit4 → Int) (vs : List Visit4) : Int := vs.foldl (fun a v => a + D v) 0
theorem sumD_snoc (D : Visit4 → Int) {vs : List Visit4} {k : Nat} {v : Visit4} (h : vs[k]? = some v) : sumD D (vs.take (k + 1)) = sumD D (vs.take k) + D v := by
  unfold sumD; rw [take_snocL h, List.foldl_append]; rfl
theorem sumD_bd (D : Visit4 → Int) : ∀ (vs : List Visit4) (a : Int), (∀ v ∈ vs, 0 ≤ D v ∧ D v ≤ 693) → a ≤ vs.foldl (fun a v => a + D v) a ∧ vs.foldl (fun a v => a + D v) a ≤ a + 693 * vs.length := by
  intro vs
  induction vs with
  | nil => intro a _; simp
  | cons v vs ih =>
    intro a h
    obtain ⟨h0, h1⟩ := h v (by simp)
    have := ih (a + D v) (fun x hx => h x (by simp [hx]))
    simp only [List.foldl_cons, List.length_cons]
    omega

set_option maxRecDepth 100000 in
set_option maxHeartbeats 1000000 in
theorem implHw_bad (wide deep free step price capp clock bank : Int) (p : Option Addr) (n cap : Nat) (q : Option Addr) (m c2 : Nat) (w : World) (HV : Hid (∀ w', Ext w w' → Calls Tryz.prog 16 #[.agg #[.int .i64 wide, .int .i64 deep, .slice p n cap, .int .i64 free, .int .i64 step, .int .i64 price, .int .i64 capp, .int .i64 clock, .int .i64 bank, .slice q m c2]] w' fun e w'' => e = .returned (.bool false) ∧ Ext w' w'')) :
    Calls Tryz.prog 56 #[.agg #[.int .i64 wide, .int .i64 deep, .slice p n cap, .int .i64 free, .int .i64 step, .int .i64 price, .int .i64 capp, .int .i64 clock, .int .i64 bank, .slice q m c2]] w fun e w' => e = .returned (.int .i64 (-1)) ∧ Ext w w' := by
  go_enter Tryz.func56, Tryz.ntmps56
  go_wp2_with fail
  refine (HV.out _ (by (repeat' (first | exact Ext.refl _ | (with_reducible assumption) | (with_reducible refine Ext.alloc ?_ _) | (with_reducible refine Ext.setCell ?_ (by first | exact Nat.le_refl _ | (dsimp only; omega) | (simp; done) | (simp; omega)) _) | (with_reducible refine Ext.drew ?_) | (with_reducible refine Ext.drewN ?_ _) | (refine Ext.trans ?_ (by with_reducible assumption)))))).mono ?_
  rintro e w1 ⟨rfl, hh1⟩
  go_wp2
  go_ret
  exact ⟨rfl, by (repeat' (first | exact Ext.refl _ | (with_reducible assumption) | (with_reducible refine Ext.alloc ?_ _) | (with_reducible refine Ext.setCell ?_ (by first | exact Nat.le_refl _ | (dsimp only; omega) | (simp; done) | (simp; omega)) _) | (with_reducible refine Ext.drew ?_) | (with_reducible refine Ext.drewN ?_ _) | (refine Ext.trans ?_ (by with_reducible assumption))))⟩

set_option maxRecDepth 100000 in
set_option maxHeartbeats 1000000 in
theorem specHw_bad (wide deep free step price capp clock bank : Int) (p : Option Addr) (n cap : Nat) (q : Option Addr) (m c2 : Nat) (w : World) (HV : Hid (∀ w', Ext w w' → Calls Tryz.prog 17 #[.agg #[.int .i64 wide, .int .i64 deep, .slice p n cap, .int .i64 free, .int .i64 step, .int .i64 price, .int .i64 capp, .int .i64 clock, .int .i64 bank, .slice q m c2]] w' fun e w'' => e = .returned (.bool false) ∧ Ext w' w'')) :
    Calls Tryz.prog 57 #[.agg #[.int .i64 wide, .int .i64 deep, .slice p n cap, .int .i64 free, .int .i64 step, .int .i64 price, .int .i64 capp, .int .i64 clock, .int .i64 bank, .slice q m c2]] w fun e w' => e = .returned (.int .i64 (-1)) ∧ Ext w w' := by
  go_enter Tryz.func57, Tryz.ntmps57
  go_wp2_with fail
  refine (HV.out _ (by (repeat' (first | exact Ext.refl _ | (with_reducible assumption) | (with_reducible refine Ext.alloc ?_ _) | (with_reducible refine Ext.setCell ?_ (by first | exact Nat.le_refl _ | (dsimp only; omega) | (simp; done) | (simp; omega)) _) | (with_reducible refine Ext.drew ?_) | (with_reducible refine Ext.drewN ?_ _) | (refine Ext.trans ?_ (by with_reducible assumption)))))).mono ?_
  rintro e w1 ⟨rfl, hh1⟩
  go_wp2
  go_ret
  exact ⟨rfl, by (repeat' (first | exact Ext.refl _ | (with_reducible assumption) | (with_reducible refine Ext.alloc ?_ _) | (with_reducible refine Ext.setCell ?_ (by first | exact Nat.le_refl _ | (dsimp only; omega) | (simp; done) | (simp; omega)) _) | (with_reducible refine Ext.drew ?_) | (with_reducible refine Ext.drewN ?_ _) | (refine Ext.trans ?_ (by with_reducible assumption))))⟩

set_option maxRecDepth 100000 in
set_option maxHeartbeats 1000000 in
theorem implHw_main (wide deep free step price capp clock bank : Int) (p : Option Addr) (n cap : Nat) (q : Option Addr) (m c2 : Nat) (w : World) (vs : List Visit4) (D : Visit4 → Int) (hm : m ≤ 12) (HB : Hid (∀ v ∈ vs, 0 ≤ D v ∧ D v ≤ 693)) (HS : Hid (Sl w q m c2 4 (vs.flatMap visitCells)))
    (HV : Hid (∀ w', Ext w w' → Calls Tryz.prog 16 #[.agg #[.int .i64 wide, .int .i64 deep, .slice p n cap, .int .i64 free, .int .i64 step, .int .i64 price, .int .i64 capp, .int .i64 clock, .int .i64 bank, .slice q m c2]] w' fun e w'' => e = .returned (.bool true) ∧ Ext w' w''))
    (HD : Hid (∀ w' (k : Nat) a0 a1 a2 a3, vs[k]? = some (a0, a1, a2, a3) → Calls Tryz.prog 74 #[tariffV free step price capp, stayV a1 a2 a3, .int .i64 clock] w' fun e w'' => e = .returned (.int .i64 (D (a0, a1, a2, a3))) ∧ Ext w' w'')) :
    Calls Tryz.prog 56 #[.agg #[.int .i64 wide, .int .i64 deep, .slice p n cap, .int .i64 free, .int .i64 step, .int .i64 price, .int .i64 capp, .int .i64 clock, .int .i64 bank, .slice q m c2]] w fun e w' => e = .returned (.int .i64 (sumD D vs)) ∧ Ext w w' := by
  have hl : Hid (vs.length = m) := by
    have := HS.out.len; rw [flat_len visitCells 4 (fun _ => rfl)] at this; exact (by omega : vs.length = m)
  go_enter Tryz.func56, Tryz.ntmps56
  go_wp2_with fail
  refine (HV.out _ (by (repeat' (first | exact Ext.refl _ | (with_reducible assumption) | (with_reducible refine Ext.alloc ?_ _) | (with_reducible refine Ext.setCell ?_ (by first | exact Nat.le_refl _ | (dsimp only; omega) | (simp; done) | (simp; omega)) _) | (with_reducible refine Ext.drew ?_) | (with_reducible refine Ext.drewN ?_ _) | (refine Ext.trans ?_ (by with_reducible assumption)))))).mono ?_
  rintro e w1 ⟨rfl, hh1⟩
  have BA : Blk w1 w.heap.size 30 #[.int .i64 wide, .int .i64 deep, .slice p n cap, .int .i64 free, .int .i64 step, .int .i64 price, .int .i64 capp, .int .i64 clock, .int .i64 bank, .slice q m c2] := (Blk.new w _ _).ext hh1
  have BAH := Lib.hid BA
  have X1 : Ext w w1 := by (repeat' (first | exact Ext.refl _ | (with_reducible assumption) | (with_reducible refine Ext.alloc ?_ _) | (with_reducible refine Ext.setCell ?_ (by first | exact Nat.le_refl _ | (dsimp only; omega) | (simp; done) | (simp; omega)) _) | (with_reducible refine Ext.drew ?_) | (with_reducible refine Ext.drewN ?_ _) | (refine Ext.trans ?_ (by with_reducible assumption))))
  clear hh1
  have a0 : w1.cell? ⟨w.heap.size, 0, none⟩ = some (.int .i64 wide) := BA.cell 0
  have a1 : w1.cell? ⟨w.heap.size, 1, none⟩ = some (.int .i64 deep) := BA.cell 1
  have a2 : w1.cell? ⟨w.heap.size, 2, none⟩ = some (.slice p n cap) := BA.cell 2
  have a3 : w1.cell? ⟨w.heap.size, 3, none⟩ = some (.int .i64 free) := BA.cell 3
  have a4 : w1.cell? ⟨w.heap.size, 4, none⟩ = some (.int .i64 step) := BA.cell 4
  have a5 : w1.cell? ⟨w.heap.size, 5, none⟩ = some (.int .i64 price) := BA.cell 5
  have a6 : w1.cell? ⟨w.heap.size, 6, none⟩ = some (.int .i64 capp) := BA.cell 6
  have a7 : w1.cell? ⟨w.heap.size, 7, none⟩ = some (.int .i64 clock) := BA.cell 7
  have a8 : w1.cell? ⟨w.heap.size, 8, none⟩ = some (.int .i64 bank) := BA.cell 8
  have a9 : w1.cell? ⟨w.heap.size, 9, none⟩ = some (.slice q m c2) := BA.cell 9
  clear BA
  go_wp2
  clear a0 a1 a2 a3 a4 a5 a6 a7 a8 a9
  go_loopw [3, 12] (fun o i wr => ∃ k : Nat, k ≤ m ∧ i = .int .i64 k ∧ o = .int .i64 (sumD D (vs.take k)) ∧ Ext w wr ∧ Blk wr w.heap.size 30 #[.int .i64 wide, .int .i64 deep, .slice p n cap, .int .i64 free, .int .i64 step, .int .i64 price, .int .i64 capp, .int .i64 clock, .int .i64 bank, .slice q m c2]) (fun _ i _ => m - (intOf i).toNat)
  case atStart => exact ⟨0, Nat.zero_le _, rfl, rfl, X1, BAH.out⟩
  case round =>
    obtain ⟨k, hk, rfl, rfl, hE, hB⟩ := hrel
    have HBk := Lib.hid hB
    clear X1 BAH
    have hsz : w.heap.size < wr.heap.size := hB.lt
    clear hB
    by_cases hlt : k < m
    · obtain ⟨b, off, a0, a1, a2, a3, rfl, hv, hb, g0, g1, g2, g3⟩ := visit_at (HS.out.ext hE) hlt
      have HV2 := Lib.hid hv
      have hsn := Lib.hid (sumD_snoc D hv)
      have hd := HB.out _ (List.mem_of_getElem? hv)
      have hsb := sumD_bd D (vs.take k) 0 (fun x hx => HB.out x (List.mem_of_mem_take hx))
      have hsl : (vs.take k).length ≤ 12 := by rw [List.length_take, hl.out]; omega
      obtain ⟨S, hS⟩ : ∃ S, S = sumD D (vs.take k) := ⟨_, rfl⟩
      obtain ⟨E, hE2⟩ : ∃ E, E = D (a0, a1, a2, a3) := ⟨_, rfl⟩
      change 0 ≤ sumD D (vs.take k) ∧ sumD D (vs.take k) ≤ _ at hsb
      rw [← hS] at hsb ⊢
      rw [← hE2] at hd
      obtain ⟨hd0, hd1⟩ := hd
      obtain ⟨hs0, hs1⟩ := hsb
      have hs2 : S ≤ 8316 := by omega
      have hsn2 : Hid (S + E = sumD D (vs.take (k + 1))) := by show _ = _; rw [hsn.out, hS, hE2]
      have HE2 := Lib.hid hE2
      clear hS hs1 hsl hsn hv hE2
      have e0 : wr.cell? ⟨w.heap.size, 0, none⟩ = some (.int .i64 wide) := HBk.out.cell 0
      have e1 : wr.cell? ⟨w.heap.size, 1, none⟩ = some (.int .i64 deep) := HBk.out.cell 1
      have e2 : wr.cell? ⟨w.heap.size, 2, none⟩ = some (.slice p n cap) := HBk.out.cell 2
      have e3 : wr.cell? ⟨w.heap.size, 3, none⟩ = some (.int .i64 free) := HBk.out.cell 3
      have e4 : wr.cell? ⟨w.heap.size, 4, none⟩ = some (.int .i64 step) := HBk.out.cell 4
      have e5 : wr.cell? ⟨w.heap.size, 5, none⟩ = some (.int .i64 price) := HBk.out.cell 5
      have e6 : wr.cell? ⟨w.heap.size, 6, none⟩ = some (.int .i64 capp) := HBk.out.cell 6
      have e7 : wr.cell? ⟨w.heap.size, 7, none⟩ = some (.int .i64 clock) := HBk.out.cell 7
      have e8 : wr.cell? ⟨w.heap.size, 8, none⟩ = some (.int .i64 bank) := HBk.out.cell 8
      have e9 : wr.cell? ⟨w.heap.size, 9, none⟩ = some (.slice (some ⟨b, off, none⟩) m c2) := HBk.out.cell 9
      go_wp2_with fail
      refine (HD.out _ k a0 a1 a2 a3 HV2.out).mono ?_
      rintro e w2 ⟨rfl, hh2⟩
      rw [← HE2.out]
      have hB2 := Lib.hid ((HBk.out.alloc _).ext hh2)
      go_wp2
      go_roundw
      case rel => exact ⟨k + 1, by omega, by go_num, by rw [← hsn2.out], by (repeat' (first | exact Ext.refl _ | (with_reducible assumption) | (with_reducible refine Ext.alloc ?_ _) | (with_reducible refine Ext.setCell ?_ (by first | exact Nat.le_refl _ | (dsimp only; omega) | (simp; done) | (simp; omega)) _) | (with_reducible refine Ext.drew ?_) | (with_reducible refine Ext.drewN ?_ _) | (refine Ext.trans ?_ (by with_reducible assumption)))), hB2.out⟩
      case measure => simp [intOf]; omega
    · have hfin : Hid (sumD D (vs.take k) = sumD D vs) := by show _ = _; rw [List.take_of_length_le (by rw [hl.out]; omega)]
      have e9 : wr.cell? ⟨w.heap.size, 9, none⟩ = some (.slice q m c2) := HBk.out.cell 9
      go_wp2
      go_ret
      exact ⟨ret_int hfin.out, hE⟩

set_option maxRecDepth 100000 in
set_option maxHeartbeats 1000000 in
theorem specHw_main (wide deep free step price capp clock bank : Int) (p : Option Addr) (n cap : Nat) (q : Option Addr) (m c2 : Nat) (w : World) (vs : List Visit4) (D : Visit4 → Int) (hm : m ≤ 12) (HB : Hid (∀ v ∈ vs, 0 ≤ D v ∧ D v ≤ 693)) (HS : Hid (Sl w q m c2 4 (vs.flatMap visitCells)))
    (HV : Hid (∀ w', Ext w w' → Calls Tryz.prog 17 #[.agg #[.int .i64 wide, .int .i64 deep, .slice p n cap, .int .i64 free, .int .i64 step, .int .i64 price, .int .i64 capp, .int .i64 clock, .int .i64 bank, .slice q m c2]] w' fun e w'' => e = .returned (.bool true) ∧ Ext w' w''))
    (HD : Hid (∀ w' (k : Nat) a0 a1 a2 a3, Ext w w' → vs[k]? = some (a0, a1, a2, a3) → Calls Tryz.prog 27 #[.agg #[.int .i64 wide, .int .i64 deep, .slice p n cap, .int .i64 free, .int .i64 step, .int .i64 price, .int .i64 capp, .int .i64 clock, .int .i64 bank, .slice q m c2], .int .i64 a0] w' fun e w'' => e = .returned (.int .i64 (D (a0, a1, a2, a3))) ∧ Ext w' w'')) :
    Calls Tryz.prog 57 #[.agg #[.int .i64 wide, .int .i64 deep, .slice p n cap, .int .i64 free, .int .i64 step, .int .i64 price, .int .i64 capp, .int .i64 clock, .int .i64 bank, .slice q m c2]] w fun e w' => e = .returned (.int .i64 (sumD D vs)) ∧ Ext w w' := by
  have hl : Hid (vs.length = m) := by
    have := HS.out.len; rw [flat_len visitCells 4 (fun _ => rfl)] at this; exact (by omega : vs.length = m)
  go_enter Tryz.func57, Tryz.ntmps57
  go_wp2_with fail
  refine (HV.out _ (by (repeat' (first | exact Ext.refl _ | (with_reducible assumption) | (with_reducible refine Ext.alloc ?_ _) | (with_reducible refine Ext.setCell ?_ (by first | exact Nat.le_refl _ | (dsimp only; omega) | (simp; done) | (simp; omega)) _) | (with_reducible refine Ext.drew ?_) | (with_reducible refine Ext.drewN ?_ _) | (refine Ext.trans ?_ (by with_reducible assumption)))))).mono ?_
  rintro e w1 ⟨rfl, hh1⟩
  have BA : Blk w1 w.heap.size 30 #[.int .i64 wide, .int .i64 deep, .slice p n cap, .int .i64 free, .int .i64 step, .int .i64 price, .int .i64 capp, .int .i64 clock, .int .i64 bank, .slice q m c2] := (Blk.new w _ _).ext hh1
  have BAH := Lib.hid BA
  have X1 : Ext w w1 := by (repeat' (first | exact Ext.refl _ | (with_reducible assumption) | (with_reducible refine Ext.alloc ?_ _) | (with_reducible refine Ext.setCell ?_ (by first | exact Nat.le_refl _ | (dsimp only; omega) | (simp; done) | (simp; omega)) _) | (with_reducible refine Ext.drew ?_) | (with_reducible refine Ext.drewN ?_ _) | (refine Ext.trans ?_ (by with_reducible assumption))))
  clear hh1
  have a0 : w1.cell? ⟨w.heap.size, 0, none⟩ = some (.int .i64 wide) := BA.cell 0
  have a1 : w1.cell? ⟨w.heap.size, 1, none⟩ = some (.int .i64 deep) := BA.cell 1
  have a2 : w1.cell? ⟨w.heap.size, 2, none⟩ = some (.slice p n cap) := BA.cell 2
  have a3 : w1.cell? ⟨w.heap.size, 3, none⟩ = some (.int .i64 free) := BA.cell 3
  have a4 : w1.cell? ⟨w.heap.size, 4, none⟩ = some (.int .i64 step) := BA.cell 4
  have a5 : w1.cell? ⟨w.heap.size, 5, none⟩ = some (.int .i64 price) := BA.cell 5
  have a6 : w1.cell? ⟨w.heap.size, 6, none⟩ = some (.int .i64 capp) := BA.cell 6
  have a7 : w1.cell? ⟨w.heap.size, 7, none⟩ = some (.int .i64 clock) := BA.cell 7
  have a8 : w1.cell? ⟨w.heap.size, 8, none⟩ = some (.int .i64 bank) := BA.cell 8
  have a9 : w1.cell? ⟨w.heap.size, 9, none⟩ = some (.slice q m c2) := BA.cell 9
  clear BA
  go_wp2
  clear a0 a1 a2 a3 a4 a5 a6 a7 a8 a9
  go_loopw [3, 4] (fun o i wr => ∃ k : Nat, k ≤ m ∧ i = .int .i64 k ∧ o = .int .i64 (sumD D (vs.take k)) ∧ Ext w wr ∧ Blk wr w.heap.size 30 #[.int .i64 wide, .int .i64 deep, .slice p n cap, .int .i64 free, .int .i64 step, .int .i64 price, .int .i64 capp, .int .i64 clock, .int .i64 bank, .slice q m c2]) (fun _ i _ => m - (intOf i).toNat)
  case atStart => exact ⟨0, Nat.zero_le _, rfl, rfl, X1, BAH.out⟩
  case round =>
    obtain ⟨k, hk, rfl, rfl, hE, hB⟩ := hrel
    have HBk := Lib.hid hB
    clear X1 BAH
    have hsz : w.heap.size < wr.heap.size := hB.lt
    clear hB
    by_cases hlt : k < m
    · obtain ⟨b, off, a0, a1, a2, a3, rfl, hv, hb, g0, g1, g2, g3⟩ := visit_at (HS.out.ext hE) hlt
      have HV2 := Lib.hid hv
      have hsn := Lib.hid (sumD_snoc D hv)
      have hd := HB.out _ (List.mem_of_getElem? hv)
      have hsb := sumD_bd D (vs.take k) 0 (fun x hx => HB.out x (List.mem_of_mem_take hx))
      have hsl : (vs.take k).length ≤ 12 := by rw [List.length_take, hl.out]; omega
      obtain ⟨S, hS⟩ : ∃ S, S = sumD D (vs.take k) := ⟨_, rfl⟩
      obtain ⟨E, hE2⟩ : ∃ E, E = D (a0, a1, a2, a3) := ⟨_, rfl⟩
      change 0 ≤ sumD D (vs.take k) ∧ sumD D (vs.take k) ≤ _ at hsb
      rw [← hS] at hsb ⊢
      rw [← hE2] at hd
      obtain ⟨hd0, hd1⟩ := hd
      obtain ⟨hs0, hs1⟩ := hsb
      have hs2 : S ≤ 8316 := by omega
      have hsn2 : Hid (S + E = sumD D (vs.take (k + 1))) := by show _ = _; rw [hsn.out, hS, hE2]
      have HE2 := Lib.hid hE2
      clear hS hs1 hsl hsn hv hE2
      have e0 : wr.cell? ⟨w.heap.size, 0, none⟩ = some (.int .i64 wide) := HBk.out.cell 0
      have e1 : wr.cell? ⟨w.heap.size, 1, none⟩ = some (.int .i64 deep) := HBk.out.cell 1
      have e2 : wr.cell? ⟨w.heap.size, 2, none⟩ = some (.slice p n cap) := HBk.out.cell 2
      have e3 : wr.cell? ⟨w.heap.size, 3, none⟩ = some (.int .i64 free) := HBk.out.cell 3
      have e4 : wr.cell? ⟨w.heap.size, 4, none⟩ = some (.int .i64 step) := HBk.out.cell 4
      have e5 : wr.cell? ⟨w.heap.size, 5, none⟩ = some (.int .i64 price) := HBk.out.cell 5
      have e6 : wr.cell? ⟨w.heap.size, 6, none⟩ = some (.int .i64 capp) := HBk.out.cell 6
      have e7 : wr.cell? ⟨w.heap.size, 7, none⟩ = some (.int .i64 clock) := HBk.out.cell 7
      have e8 : wr.cell? ⟨w.heap.size, 8, none⟩ = some (.int .i64 bank) := HBk.out.cell 8
      have e9 : wr.cell? ⟨w.heap.size, 9, none⟩ = some (.slice (some ⟨b, off, none⟩) m c2) := HBk.out.cell 9
      have i1 : (0 : Int) ≤ (k : Int) := by omega
      have i2 : (k : Int) < (m : Int) := by omega
      have j1 : IntKind.i64.wrap (S + E) = S + E := IntWalk.i64_in _ (by omega)
      go_wp2
      go_region_held3 (fun w' => w'.cell? ⟨w.heap.size, 0, none⟩ = some (.int .i64 wide) ∧ w'.cell? ⟨w.heap.size, 1, none⟩ = some (.int .i64 deep) ∧ w'.cell? ⟨w.heap.size, 2, none⟩ = some (.slice p n cap) ∧ w'.cell? ⟨w.heap.size, 3, none⟩ = some (.int .i64 free) ∧ w'.cell? ⟨w.heap.size, 4, none⟩ = some (.int .i64 step) ∧ w'.cell? ⟨w.heap.size, 5, none⟩ = some (.int .i64 price) ∧ w'.cell? ⟨w.heap.size, 6, none⟩ = some (.int .i64 capp) ∧ w'.cell? ⟨w.heap.size, 7, none⟩ = some (.int .i64 clock) ∧ w'.cell? ⟨w.heap.size, 8, none⟩ = some (.int .i64 bank) ∧ w'.cell? ⟨w.heap.size, 9, none⟩ = some (.slice (some ⟨b, off, none⟩) m c2) ∧ w'.cell? ⟨b, off + k * 4, none⟩ = some (.int .i64 a0)) (first | (refine ⟨?_, ?_, ?_, ?_, ?_, ?_, ?_, ?_, ?_, ?_, ?_⟩ <;> assumption) | go_keep)
        ((go_at_call 27
          refine (HD.out _ k a0 a1 a2 a3 (by first | exact hE | exact hE.drew | exact Ext.drewN hE _) HV2.out).mono ?_
          rintro e w2 ⟨rfl, hh2⟩
          (try replace hh2 := hh2.of_drew)
          rw [← HE2.out]
          have hB2 := Lib.hid (HBk.out.ext hh2)
          have X2 : Ext w w2 := hE.trans hh2
          have gk : w2.cell? ⟨b, off + k * 4, none⟩ = some (.int .i64 a0) := by rw [hh2.cells.1 _ _ hb]; exact g0
          have k0 : w2.cell? ⟨w.heap.size, 0, none⟩ = some (.int .i64 wide) := hB2.out.cell 0
          have k1 : w2.cell? ⟨w.heap.size, 1, none⟩ = some (.int .i64 deep) := hB2.out.cell 1
          have k2 : w2.cell? ⟨w.heap.size, 2, none⟩ = some (.slice p n cap) := hB2.out.cell 2
          have k3 : w2.cell? ⟨w.heap.size, 3, none⟩ = some (.int .i64 free) := hB2.out.cell 3
          have k4 : w2.cell? ⟨w.heap.size, 4, none⟩ = some (.int .i64 step) := hB2.out.cell 4
          have k5 : w2.cell? ⟨w.heap.size, 5, none⟩ = some (.int .i64 price) := hB2.out.cell 5
          have k6 : w2.cell? ⟨w.heap.size, 6, none⟩ = some (.int .i64 capp) := hB2.out.cell 6
          have k7 : w2.cell? ⟨w.heap.size, 7, none⟩ = some (.int .i64 clock) := hB2.out.cell 7
          have k8 : w2.cell? ⟨w.heap.size, 8, none⟩ = some (.int .i64 bank) := hB2.out.cell 8
          have k9 : w2.cell? ⟨w.heap.size, 9, none⟩ = some (.slice (some ⟨b, off, none⟩) m c2) := hB2.out.cell 9
          clear hh2))
      all_goals clear j1
      all_goals go_wp2
      all_goals go_roundw
      all_goals first
        | (case rel => exact ⟨k + 1, by omega, by go_num, by rw [← hsn2.out], by (repeat' (first | exact Ext.refl _ | (with_reducible assumption) | (with_reducible refine Ext.alloc ?_ _) | (with_reducible refine Ext.setCell ?_ (by first | exact Nat.le_refl _ | (dsimp only; omega) | (simp; done) | (simp; omega)) _) | (with_reducible refine Ext.drew ?_) | (with_reducible refine Ext.drewN ?_ _) | (refine Ext.trans ?_ (by with_reducible assumption)))), hB2.out⟩)
        | (case rel => exact ⟨k + 1, by omega, by go_num, by rw [← hsn2.out], by (repeat' (first | exact Ext.refl _ | (with_reducible assumption) | (with_reducible refine Ext.alloc ?_ _) | (with_reducible refine Ext.setCell ?_ (by first | exact Nat.le_refl _ | (dsimp only; omega) | (simp; done) | (simp; omega)) _) | (with_reducible refine Ext.drew ?_) | (with_reducible refine Ext.drewN ?_ _) | (refine Ext.trans ?_ (by with_reducible assumption)))), hB2.out.ext (by (repeat' (first | exact Ext.refl _ | (with_reducible assumption) | (with_reducible refine Ext.alloc ?_ _) | (with_reducible refine Ext.setCell ?_ (by first | exact Nat.le_refl _ | (dsimp only; omega) | (simp; done) | (simp; omega)) _) | (with_reducible refine Ext.drew ?_) | (with_reducible refine Ext.drewN ?_ _) | (refine Ext.trans ?_ (by with_reducible assumption)))))⟩)
        | (case measure => simp [intOf]; omega)
    · have hfin : Hid (sumD D (vs.take k) = sumD D vs) := by show _ = _; rw [List.take_of_length_le (by rw [hl.out]; omega)]
      have e9 : wr.cell? ⟨w.heap.size, 9, none⟩ = some (.slice q m c2) := HBk.out.cell 9
      go_wp2
      go_ret
      exact ⟨ret_int hfin.out, hE⟩

theorem visits_nodup {h : HouseD} (hok : houseOk h = true) : (h.vs.map (·.1)).Nodup ∧ h.vs.length ≤ 12 ∧ ∀ v ∈ h.vs, visitOk h.clock v = true := by
  unfold houseOk at hok
  simp only [Bool.and_eq_true] at hok
  obtain ⟨⟨⟨h1, h2⟩, h3⟩, h4⟩ := hok
  obtain ⟨q1, q2⟩ := visitsOk_len h4
  unfold hallOk at h1
  rw [Bool.and_eq_true] at h1
  have hc := (cellsOk_iff _ _).1 h1.2
  have hb := shape_bd h1.1
  refine ⟨?_, ?_, q2⟩
  · rw [q1]; exact (sortL_perm _).nodup_iff.2 hc.2.2
  · have := congrArg List.length q1
    rw [List.length_map, carsOf_len] at this
    have := posOfL_le h.cells
    omega
theorem visitAt_of {h : HouseD} (hok : houseOk h = true) {v : Visit4} (hv : v ∈ h.vs) : visitAt v.1 h.vs = some v := by
  have hn := (visits_nodup hok).1
  unfold visitAt
  generalize h.vs = vs at hn hv
  induction vs with
  | nil => simp at hv
  | cons x xs ih =>
    rw [List.map_cons, List.nodup_cons] at hn
    rcases List.mem_cons.1 hv with rfl | hv
    · simp [List.find?_cons]
    · rw [List.find?_cons]
      have : (x.1 == v.1) = false := by
        rw [beq_eq_false_iff_ne]; intro e
        exact hn.1 (by rw [e]; exact List.mem_map_of_mem hv)
      rw [this]
      exact ih hn.2 hv
theorem dueOf_house {h : HouseD} (hok : houseOk h = true) {v : Visit4} (hv : v ∈ h.vs) : houseDue h v.1 = dueOf h v := by
  unfold houseDue houseStay dueOf
  rw [if_pos hok, visitAt_of hok hv]; rfl
theorem dueOf_parts {h : HouseD} (hok : houseOk h = true) {v : Visit4} (hv : v ∈ h.vs) : tariffOk h.free h.step h.price h.capp = true ∧ stayOk v.2.1 v.2.2.1 v.2.2.2 = true ∧ v.2.2.2 ≤ h.clock ∧ h.clock ≤ 9999 := by
  have hv2 := (visits_nodup hok).2.2 v hv
  unfold houseOk at hok
  simp only [Bool.and_eq_true] at hok
  obtain ⟨⟨⟨h1, h2⟩, h3⟩, h4⟩ := hok
  unfold visitOk at hv2
  unfold numsOk at h3
  simp at hv2 h3
  exact ⟨h2, hv2.1, hv2.2, h3.2.1⟩
theorem dueOf_bd {h : HouseD} (hok : houseOk h = true) {v : Visit4} (hv : v ∈ h.vs) : 0 ≤ dueOf h v ∧ dueOf h v ≤ 693 := by
  obtain ⟨a, b, c, d⟩ := dueOf_parts hok hv
  have e := stay_parts b
  unfold dueOf stayDue
  rw [a, b]
  have hf := feeOf_bd a (m := h.clock - v.2.1) (by omega) (by omega)
  simp only [Bool.and_self, Bool.true_and, decide_eq_true_eq]
  rw [if_pos ⟨c, d⟩]
  omega
theorem owed_bd {h : HouseD} (hok : houseOk h = true) : 0 ≤ owedSum h h.vs ∧ owedSum h h.vs ≤ 8316 := by
  have := sumD_bd (dueOf h) h.vs 0 (fun v hv => dueOf_bd hok hv)
  have hl := (visits_nodup hok).2.1
  unfold owedSum
  omega

theorem implHouseOwed (h : HouseD) (p : Option Addr) (n cap : Nat) (q : Option Addr) (m c2 : Nat) (w : World) (hi : IsHouse w h p n cap q m c2) :
    Calls Tryz.prog 56 #[houseV h p n cap q m c2] w fun e w' => e = .returned (.int .i64 (houseOwed h)) ∧ Ext w w' := by
  have HV := fun (w' : World) (hx : Ext w w') => implHouse h p n cap q m c2 w' (hi.ext hx)
  have hvl := hi.vlen
  unfold houseOwed
  cases hok : houseOk h with
  | false =>
    rw [hok] at HV
    obtain ⟨wide, deep, cells, free, step, price, capp, clock, bank, vs⟩ := h
    exact implHw_bad wide deep free step price capp clock bank p n cap q m c2 w HV
  | true =>
    rw [hok] at HV
    have hn := (visits_nodup hok).2.1
    have hbd := fun v (hv : v ∈ h.vs) => dueOf_bd hok hv
    rw [if_pos rfl]
    obtain ⟨wide, deep, cells, free, step, price, capp, clock, bank, vs⟩ := h
    simp only at hvl hn
    exact implHw_main wide deep free step price capp clock bank p n cap q m c2 w vs (dueOf ⟨wide, deep, cells, free, step, price, capp, clock, bank, vs⟩) (by omega) hbd hi.vs HV (fun w' k a0 a1 a2 a3 hv => by
        obtain ⟨x1, x2, x3, x4⟩ := dueOf_parts hok (List.mem_of_getElem? hv)
        exact implSd _ _ _ _ _ _ _ _ w' x1 x2 x3 x4)

theorem specHouseOwed (h : HouseD) (p : Option Addr) (n cap : Nat) (q : Option Addr) (m c2 : Nat) (w : World) (hi : IsHouse w h p n cap q m c2) :
    Calls Tryz.prog 57 #[houseV h p n cap q m c2] w fun e w' => e = .returned (.int .i64 (houseOwed h)) ∧ Ext w w' := by
  have HV := fun (w' : World) (hx : Ext w w') => specHouse h p n cap q m c2 w' (hi.ext hx)
  have hvl := hi.vlen
  unfold houseOwed
  cases hok : houseOk h with
  | false =>
    rw [hok] at HV
    obtain ⟨wide, deep, cells, free, step, price, capp, clock, bank, vs⟩ := h
    exact specHw_bad wide deep free step price capp clock bank p n cap q m c2 w HV
  | true =>
    rw [hok] at HV
    have hn := (visits_nodup hok).2.1
    have hbd := fun v (hv : v ∈ h.vs) => dueOf_bd hok hv
    rw [if_pos rfl]
    obtain ⟨wide, deep, cells, free, step, price, capp, clock, bank, vs⟩ := h
    simp only at hvl hn
    exact specHw_main wide deep free step price capp clock bank p n cap q m c2 w vs (dueOf ⟨wide, deep, cells, free, step, price, capp, clock, bank, vs⟩) (by omega) hbd hi.vs HV (fun w' k a0 a1 a2 a3 hx hv => by
        have := specHouseDue _ a0 p n cap q m c2 w' (hi.ext hx)
        rw [dueOf_house hok (List.mem_of_getElem? hv)] at this
        exact this)

end Go.Proofs.YteejdnmmpmcmeaaGreatDoor
