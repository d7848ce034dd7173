/-
  A visit is looked for by its car: the rewrite's visitIndex (slices.IndexFunc with a closure), the reference's l7Find.
-/
import Derived.Test.YtncfnlocdlhagaaDoorHouse1
namespace Go.Proofs.YtncfnlocdlhagaaDoor
open Go.RowKit
set_option linter.unusedVariables false

/-- where the first visit of a car stands, or -1 -/
def vix (id : Int) (vs : List Visit4) : Int := if vs.any (fun v => v.1 == id) then (vs.findIdx (fun v => v.1 == id) : Int) else -1
theorem vix_hit {id : Int} {vs : List Visit4} {k : Nat} {v : Visit4} (hv : vs[k]? = some v) (h : v.1 = id) (hp : (vs.take k).any (fun v => v.1 == id) = false) : vix id vs = k := by
  have hlt : k < vs.length := (List.getElem?_eq_some_iff.1 hv).1
  have e : vs[k] = v := by have := (List.getElem?_eq_some_iff.1 hv).2; exact this
  have ha : vs.any (fun v => v.1 == id) = true := List.any_eq_true.2 ⟨v, List.mem_of_getElem? hv, by simp [h]⟩
  have hi : vs.findIdx (fun v => v.1 == id) = k := by
    rw [List.findIdx_eq hlt]
    refine ⟨by simp [e, h], fun j hj => ?_⟩
    have := List.any_eq_false.1 hp vs[j] (by
      rw [List.mem_take_iff_getElem]; exact ⟨j, by omega, rfl⟩)
    simpa using this
  unfold vix; rw [if_pos ha, hi]
theorem vix_miss {id : Int} {vs : List Visit4} (hp : vs.any (fun v => v.1 == id) = false) : vix id vs = -1 := by unfold vix; simp [hp]
theorem any_snoc {id : Int} {vs : List Visit4} {k : Nat} {v : Visit4} (hv : vs[k]? = some v) (h : ¬ v.1 = id) (hp : (vs.take k).any (fun v => v.1 == id) = false) : (vs.take (k + 1)).any (fun v => v.1 == id) = false := by
  rw [take_snocL hv, List.any_append, hp]; simp [h]
theorem vix_cases (id : Int) (vs : List Visit4) : (vix id vs = -1 ∧ visitAt id vs = none) ∨ ∃ (k : Nat) (a1 a2 a3 : Int), k < vs.length ∧ vix id vs = k ∧ vs[k]? = some (id, a1, a2, a3) ∧ visitAt id vs = some (id, a1, a2, a3) := by
  cases h : vs.any (fun v => v.1 == id) with
  | false => exact .inl ⟨vix_miss h, by unfold visitAt; rw [List.find?_eq_none]; simpa using h⟩
  | true =>
    right
    have hlt : vs.findIdx (fun v => v.1 == id) < vs.length := List.findIdx_lt_length.2 (by simpa using h)
    have hg := List.findIdx_getElem (w := hlt)
    have hf : visitAt id vs = some (vs[vs.findIdx (fun v => v.1 == id)]) := by
      unfold visitAt
      rw [List.find?_eq_some_iff_getElem]
      exact ⟨hg, _, hlt, rfl, fun j hj => by simpa using List.not_of_lt_findIdx hj⟩
    have h0 : vs[vs.findIdx (fun v => v.1 == id)].1 = id := by simpa using hg
    generalize hb : vs[vs.findIdx (fun v => v.1 == id)] = v at *
    obtain ⟨b0, b1, b2, b3⟩ := v
    dsimp only at h0
    subst h0
    exact ⟨_, b1, b2, b3, hlt, by unfold vix; rw [if_pos h], by rw [List.getElem?_eq_getElem hlt, hb], hf⟩

end Go.Proofs.YtncfnlocdlhagaaDoor

/-
  Both packages' HouseStay, HouseDue, HouseMay: what they say of a car's stay. Condition: the house's slices read as lists.
-/
namespace Go.Proofs.YtncfnlocdlhagaaDoor
open Go.RowKit
set_option linter.unusedVariables false
set_option linter.unusedSimpArgs false

/-- what HouseStay hands back -/
def stayR (h : HouseD) (id : Int) : Value := match houseStay h id with
  | some s => .tuple #[.agg #[.int .i64 s.1, .int .i64 s.2.1, .int .i64 s.2.2], .bool true]
  | none => .tuple #[.agg #[.int .i64 0, .int .i64 0, .int .i64 0], .bool false]

end Go.Proofs.YtncfnlocdlhagaaDoor

/-
  Both packages' HouseDue, HouseMay. Condition: the house's slices read as lists.
-/
namespace Go.Proofs.YtncfnlocdlhagaaDoor
open Go.RowKit
set_option linter.unusedVariables false
set_option linter.unusedSimpArgs false

theorem stay_good {h : HouseD} {id a1 a2 a3 : Int} (hs : houseStay h id = some (a1, a2, a3)) : tariffOk h.free h.step h.price h.capp = true ∧ stayOk a1 a2 a3 = true ∧ a3 ≤ h.clock ∧ h.clock ≤ 9999 := by
  unfold houseStay at hs
  split at hs
  · rename_i hok
    rw [Option.map_eq_some_iff] at hs
    obtain ⟨v, hv, e⟩ := hs
    have hm := List.mem_of_find?_eq_some hv
    simp only [houseOk, numsOk, Bool.and_eq_true, decide_eq_true_eq] at hok
    have := (visitsOk_len hok.2).2 v hm
    obtain ⟨v0, v1, v2, v3⟩ := v
    simp only [Prod.mk.injEq] at e
    obtain ⟨rfl, rfl, rfl⟩ := e
    simp only [visitOk, Bool.and_eq_true, decide_eq_true_eq] at this
    exact ⟨hok.1.1.2, this.1, this.2, hok.1.2.2.1⟩
  · simp at hs
end Go.Proofs.YtncfnlocdlhagaaDoor

/-
  Both packages' HouseOwed return the sum of what is due for all stays; -1 for other houses. Condition: the house's slices read as lists.
-/
namespace Go.Proofs.YtncfnlocdlhagaaDoor
open Go.RowKit
set_option linter.unusedVariables false
set_option linter.unusedSimpArgs false

def sumD (D : Visit4 → Int) (vs : List Visit4) : Int := vs.foldl (fun a v => a + D v) 0
theorem sumD_snoc (D : Visit4 → Int) {vs : List Visit4} {k : Nat} {v : Visit4} (h : vs[k]? = some v) : sumD D (vs.take (k + 1)) = sumD D (vs.take k) + D v := by
  unfold sumD; rw [take_snocL h, List.foldl_append]; rfl
theorem sumD_bd (D : Visit4 → Int) : ∀ (vs : List Visit4) (a : Int), (∀ v ∈ vs, 0 ≤ D v ∧ D v ≤ 693) → a ≤ vs.foldl (fun a v => a + D v) a ∧ vs.foldl (fun a v => a + D v) a ≤ a + 693 * vs.length := by
  intro vs
  induction vs with
  | nil => intro a _; simp
  | cons v vs ih =>
    intro a h
    obtain ⟨h0, h1⟩ := h v (by simp)
    have := ih (a + D v) (fun x hx => h x (by simp [hx]))
    simp only [List.foldl_cons, List.length_cons]
    omega

set_option maxRecDepth 100000 in
set_option maxHeartbeats 1000000 in
theorem implHw_bad (wide deep free step price capp clock bank : Int) (p : Option Addr) (n cap : Nat) (q : Option Addr) (m c2 : Nat) (w : World) (HV : Hid (∀ w', Ext w w' → Calls Tryd.prog 30 #[.agg #[.int .i64 wide, .int .i64 deep, .slice p n cap, .int .i64 free, .int .i64 step, .int .i64 price, .int .i64 capp, .int .i64 clock, .int .i64 bank, .slice q m c2]] w' fun e w'' => e = .returned (.bool false) ∧ Ext w' w'')) :
    Calls Tryd.prog 32 #[.agg #[.int .i64 wide, .int .i64 deep, .slice p n cap, .int .i64 free, .int .i64 step, .int .i64 price, .int .i64 capp, .int .i64 clock, .int .i64 bank, .slice q m c2]] w fun e w' => e = .returned (.int .i64 (-1)) ∧ Ext w w' := by
  go_enter Tryd.func32, Tryd.ntmps32
  go_wp2_with fail
  refine (HV.out _ (by (repeat' (first | exact Ext.refl _ | (with_reducible assumption) | (with_reducible refine Ext.alloc ?_ _) | (with_reducible refine Ext.setCell ?_ (by first | exact Nat.le_refl _ | (dsimp only; omega) | (simp; done) | (simp; omega)) _) | (with_reducible refine Ext.drew ?_) | (with_reducible refine Ext.drewN ?_ _) | (refine Ext.trans ?_ (by with_reducible assumption)))))).mono ?_
  rintro e w1 ⟨rfl, hh1⟩
  go_wp2
  go_ret
  exact ⟨rfl, by (repeat' (first | exact Ext.refl _ | (with_reducible assumption) | (with_reducible refine Ext.alloc ?_ _) | (with_reducible refine Ext.setCell ?_ (by first | exact Nat.le_refl _ | (dsimp only; omega) | (simp; done) | (simp; omega)) _) | (with_reducible refine Ext.drew ?_) | (with_reducible refine Ext.drewN ?_ _) | (refine Ext.trans ?_ (by with_reducible assumption))))⟩

set_option maxRecDepth 100000 in
set_option maxHeartbeats 1000000 in
theorem implHw_main (wide deep free step price capp clock bank : Int) (p : Option Addr) (n cap : Nat) (q : Option Addr) (m c2 : Nat) (w : World) (vs : List Visit4) (D : Visit4 → Int) (hm : m ≤ 12) (HB : Hid (∀ v ∈ vs, 0 ≤ D v ∧ D v ≤ 693)) (HS : Hid (Sl w q m c2 4 (vs.flatMap visitCells)))
    (HV : Hid (∀ w', Ext w w' → Calls Tryd.prog 30 #[.agg #[.int .i64 wide, .int .i64 deep, .slice p n cap, .int .i64 free, .int .i64 step, .int .i64 price, .int .i64 capp, .int .i64 clock, .int .i64 bank, .slice q m c2]] w' fun e w'' => e = .returned (.bool true) ∧ Ext w' w''))
    (HD : Hid (∀ w' (k : Nat) a0 a1 a2 a3, vs[k]? = some (a0, a1, a2, a3) → Calls Tryd.prog 79 #[tariffV free step price capp, stayV a1 a2 a3, .int .i64 clock] w' fun e w'' => e = .returned (.int .i64 (D (a0, a1, a2, a3))) ∧ Ext w' w'')) :
    Calls Tryd.prog 32 #[.agg #[.int .i64 wide, .int .i64 deep, .slice p n cap, .int .i64 free, .int .i64 step, .int .i64 price, .int .i64 capp, .int .i64 clock, .int .i64 bank, .slice q m c2]] w fun e w' => e = .returned (.int .i64 (sumD D vs)) ∧ Ext w w' := by
  have hl : Hid (vs.length = m) := by
    have := HS.out.len; rw [flat_len visitCells 4 (fun _ => rfl)] at this; exact (by omega : vs.length = m)
  go_enter Tryd.func32, Tryd.ntmps32
  go_wp2_with fail
  refine (HV.out _ (by (repeat' (first | exact Ext.refl _ | (with_reducible assumption) | (with_reducible refine Ext.alloc ?_ _) | (with_reducible refine Ext.setCell ?_ (by first | exact Nat.le_refl _ | (dsimp only; omega) | (simp; done) | (simp; omega)) _) | (with_reducible refine Ext.drew ?_) | (with_reducible refine Ext.drewN ?_ _) | (refine Ext.trans ?_ (by with_reducible assumption)))))).mono ?_
  rintro e w1 ⟨rfl, hh1⟩
  have BA : Blk w1 w.heap.size 52 #[.int .i64 wide, .int .i64 deep, .slice p n cap, .int .i64 free, .int .i64 step, .int .i64 price, .int .i64 capp, .int .i64 clock, .int .i64 bank, .slice q m c2] := (Blk.new w _ _).ext hh1
  have BAH := Lib.hid BA
  have X1 : Ext w w1 := by (repeat' (first | exact Ext.refl _ | (with_reducible assumption) | (with_reducible refine Ext.alloc ?_ _) | (with_reducible refine Ext.setCell ?_ (by first | exact Nat.le_refl _ | (dsimp only; omega) | (simp; done) | (simp; omega)) _) | (with_reducible refine Ext.drew ?_) | (with_reducible refine Ext.drewN ?_ _) | (refine Ext.trans ?_ (by with_reducible assumption))))
  clear hh1
  have a0 : w1.cell? ⟨w.heap.size, 0, none⟩ = some (.int .i64 wide) := BA.cell 0
  have a1 : w1.cell? ⟨w.heap.size, 1, none⟩ = some (.int .i64 deep) := BA.cell 1
  have a2 : w1.cell? ⟨w.heap.size, 2, none⟩ = some (.slice p n cap) := BA.cell 2
  have a3 : w1.cell? ⟨w.heap.size, 3, none⟩ = some (.int .i64 free) := BA.cell 3
  have a4 : w1.cell? ⟨w.heap.size, 4, none⟩ = some (.int .i64 step) := BA.cell 4
  have a5 : w1.cell? ⟨w.heap.size, 5, none⟩ = some (.int .i64 price) := BA.cell 5
  have a6 : w1.cell? ⟨w.heap.size, 6, none⟩ = some (.int .i64 capp) := BA.cell 6
  have a7 : w1.cell? ⟨w.heap.size, 7, none⟩ = some (.int .i64 clock) := BA.cell 7
  have a8 : w1.cell? ⟨w.heap.size, 8, none⟩ = some (.int .i64 bank) := BA.cell 8
  have a9 : w1.cell? ⟨w.heap.size, 9, none⟩ = some (.slice q m c2) := BA.cell 9
  clear BA
  go_wp2
  clear a0 a1 a2 a3 a4 a5 a6 a7 a8 a9
  go_loopw [3, 12] (fun o i wr => ∃ k : Nat, k ≤ m ∧ i = .int .i64 k ∧ o = .int .i64 (sumD D (vs.take k)) ∧ Ext w wr ∧ Blk wr w.heap.size 52 #[.int .i64 wide, .int .i64 deep, .slice p n cap, .int .i64 free, .int .i64 step, .int .i64 price, .int .i64 capp, .int .i64 clock, .int .i64 bank, .slice q m c2]) (fun _ i _ => m - (intOf i).toNat)
  case atStart => exact ⟨0, Nat.zero_le _, rfl, rfl, X1, BAH.out⟩
  case round =>
    obtain ⟨k, hk, rfl, rfl, hE, hB⟩ := hrel
    have HBk := Lib.hid hB
    clear X1 BAH
    have hsz : w.heap.size < wr.heap.size := hB.lt
    clear hB
    by_cases hlt : k < m
    · obtain ⟨b, off, a0, a1, a2, a3, rfl, hv, hb, g0, g1, g2, g3⟩ := visit_at (HS.out.ext hE) hlt
      have HV2 := Lib.hid hv
      have hsn := Lib.hid (sumD_snoc D hv)
      have hd := HB.out _ (List.mem_of_getElem? hv)
      have hsb := sumD_bd D (vs.take k) 0 (fun x hx => HB.out x (List.mem_of_mem_take hx))
      have hsl : (vs.take k).length ≤ 12 := by rw [List.length_take, hl.out]; omega
      obtain ⟨S, hS⟩ : ∃ S, S = sumD D (vs.take k) := ⟨_, rfl⟩
      obtain ⟨E, hE2⟩ : ∃ E, E = D (a0, a1, a2, a3) := ⟨_, rfl⟩
      change 0 ≤ sumD D (vs.take k) ∧ sumD D (vs.take k) ≤ _ at hsb
      rw [← hS] at hsb ⊢
      rw [← hE2] at hd
      obtain ⟨hd0, hd1⟩ := hd
      obtain ⟨hs0, hs1⟩ := hsb
      have hs2 : S ≤ 8316 := by omega
      have hsn2 : Hid (S + E = sumD D (vs.take (k + 1))) := by show _ = _; rw [hsn.out, hS, hE2]
      have HE2 := Lib.hid hE2
      clear hS hs1 hsl hsn hv hE2
      have e0 : wr.cell? ⟨w.heap.size, 0, none⟩ = some (.int .i64 wide) := HBk.out.cell 0
      have e1 : wr.cell? ⟨w.heap.size, 1, none⟩ = some (.int .i64 deep) := HBk.out.cell 1
      have e2 : wr.cell? ⟨w.heap.size, 2, none⟩ = some (.slice p n cap) := HBk.out.cell 2
      have e3 : wr.cell? ⟨w.heap.size, 3, none⟩ = some (.int .i64 free) := HBk.out.cell 3
      have e4 : wr.cell? ⟨w.heap.size, 4, none⟩ = some (.int .i64 step) := HBk.out.cell 4
      have e5 : wr.cell? ⟨w.heap.size, 5, none⟩ = some (.int .i64 price) := HBk.out.cell 5
      have e6 : wr.cell? ⟨w.heap.size, 6, none⟩ = some (.int .i64 capp) := HBk.out.cell 6
      have e7 : wr.cell? ⟨w.heap.size, 7, none⟩ = some (.int .i64 clock) := HBk.out.cell 7
      have e8 : wr.cell? ⟨w.heap.size, 8, none⟩ = some (.int .i64 bank) := HBk.out.cell 8
      have e9 : wr.cell? ⟨w.heap.size, 9, none⟩ = some (.slice (some ⟨b, off, none⟩) m c2) := HBk.out.cell 9
      go_wp2_with fail
      refine (HD.out _ k a0 a1 a2 a3 HV2.out).mono ?_
      rintro e w2 ⟨rfl, hh2⟩
      rw [← HE2.out]
      have hB2 := Lib.hid ((HBk.out.alloc _).ext hh2)
      go_wp2
      go_roundw
      case rel => exact ⟨k + 1, by omega, by go_num, by rw [← hsn2.out], by (repeat' (first | exact Ext.refl _ | (with_reducible assumption) | (with_reducible refine Ext.alloc ?_ _) | (with_reducible refine Ext.setCell ?_ (by first | exact Nat.le_refl _ | (dsimp only; omega) | (simp; done) | (simp; omega)) _) | (with_reducible refine Ext.drew ?_) | (with_reducible refine Ext.drewN ?_ _) | (refine Ext.trans ?_ (by with_reducible assumption)))), hB2.out⟩
      case measure => simp [intOf]; omega
    · have hfin : Hid (sumD D (vs.take k) = sumD D vs) := by show _ = _; rw [List.take_of_length_le (by rw [hl.out]; omega)]
      have e9 : wr.cell? ⟨w.heap.size, 9, none⟩ = some (.slice q m c2) := HBk.out.cell 9
      go_wp2
      go_ret
      exact ⟨ret_int hfin.out, hE⟩

theorem visits_nodup {h : HouseD} (hok : houseOk h = true) : (h.vs.map (·.1)).Nodup ∧ h.vs.length ≤ 12 ∧ ∀ v ∈ h.vs, visitOk h.clock v = true := by
  unfold houseOk at hok
  simp only [Bool.and_eq_true] at hok
  obtain ⟨⟨⟨h1, h2⟩, h3⟩, h4⟩ := hok
  obtain ⟨q1, q2⟩ := visitsOk_len h4
  unfold hallOk at h1
  rw [Bool.and_eq_true] at h1
  have hc := (cellsOk_iff _ _).1 h1.2
  have hb := shape_bd h1.1
  refine ⟨?_, ?_, q2⟩
  · rw [q1]; exact (sortL_perm _).nodup_iff.2 hc.2.2
  · have := congrArg List.length q1
    rw [List.length_map, carsOf_len] at this
    have := posOfL_le h.cells
    omega
theorem visitAt_of {h : HouseD} (hok : houseOk h = true) {v : Visit4} (hv : v ∈ h.vs) : visitAt v.1 h.vs = some v := by
  have hn := (visits_nodup hok).1
  unfold visitAt
  generalize h.vs = vs at hn hv
  induction vs with
  | nil => simp at hv
  | cons x xs ih =>
    rw [List.map_cons, List.nodup_cons] at hn
    rcases List.mem_cons.1 hv with rfl | hv
    · simp [List.find?_cons]
    · rw [List.find?_cons]
      have : (x.1 == v.1) = false := by
        rw [beq_eq_false_iff_ne]; intro e
        exact hn.1 (by rw [e]; exact List.mem_map_of_mem hv)
      rw [this]
      exact ih hn.2 hv
theorem dueOf_house {h : HouseD} (hok : houseOk h = true) {v : Visit4} (hv : v ∈ h.vs) : houseDue h v.1 = dueOf h v := by
  unfold houseDue houseStay dueOf
  rw [if_pos hok, visitAt_of hok hv]; rfl
theorem dueOf_parts {h : HouseD} (hok : houseOk h = true) {v : Visit4} (hv : v ∈ h.vs) : tariffOk h.free h.step h.price h.capp = true ∧ stayOk v.2.1 v.2.2.1 v.2.2.2 = true ∧ v.2.2.2 ≤ h.clock ∧ h.clock ≤ 9999 := by
  have hv2 := (visits_nodup hok).2.2 v hv
  unfold houseOk at hok
  simp only [Bool.and_eq_true] at hok
  obtain ⟨⟨⟨h1, h2⟩, h3⟩, h4⟩ := hok
  unfold visitOk at hv2
  unfold numsOk at h3
  simp at hv2 h3
  exact ⟨h2, hv2.1, hv2.2, h3.2.1⟩
theorem dueOf_bd {h : HouseD} (hok : houseOk h = true) {v : Visit4} (hv : v ∈ h.vs) : 0 ≤ dueOf h v ∧ dueOf h v ≤ 693 := by
  obtain ⟨a, b, c, d⟩ := dueOf_parts hok hv
  have e := stay_parts b
  unfold dueOf stayDue
  rw [a, b]
  have hf := feeOf_bd a (m := h.clock - v.2.1) (by omega) (by omega)
  simp only [Bool.and_self, Bool.true_and, decide_eq_true_eq]
  rw [if_pos ⟨c, d⟩]
  omega
theorem owed_bd {h : HouseD} (hok : houseOk h = true) : 0 ≤ owedSum h h.vs ∧ owedSum h h.vs ≤ 8316 := by
  have := sumD_bd (dueOf h) h.vs 0 (fun v hv => dueOf_bd hok hv)
  have hl := (visits_nodup hok).2.1
  unfold owedSum
  omega

theorem implHouseOwed (h : HouseD) (p : Option Addr) (n cap : Nat) (q : Option Addr) (m c2 : Nat) (w : World) (hi : IsHouse w h p n cap q m c2) :
    Calls Tryd.prog 32 #[houseV h p n cap q m c2] w fun e w' => e = .returned (.int .i64 (houseOwed h)) ∧ Ext w w' := by
  have HV := fun (w' : World) (hx : Ext w w') => implHouse h p n cap q m c2 w' (hi.ext hx)
  have hvl := hi.vlen
  unfold houseOwed
  cases hok : houseOk h with
  | false =>
    rw [hok] at HV
    obtain ⟨wide, deep, cells, free, step, price, capp, clock, bank, vs⟩ := h
    exact implHw_bad wide deep free step price capp clock bank p n cap q m c2 w HV
  | true =>
    rw [hok] at HV
    have hn := (visits_nodup hok).2.1
    have hbd := fun v (hv : v ∈ h.vs) => dueOf_bd hok hv
    rw [if_pos rfl]
    obtain ⟨wide, deep, cells, free, step, price, capp, clock, bank, vs⟩ := h
    simp only at hvl hn
    exact implHw_main wide deep free step price capp clock bank p n cap q m c2 w vs (dueOf ⟨wide, deep, cells, free, step, price, capp, clock, bank, vs⟩) (by omega) hbd hi.vs HV (fun w' k a0 a1 a2 a3 hv => by
        obtain ⟨x1, x2, x3, x4⟩ := dueOf_parts hok (List.mem_of_getElem? hv)
        exact implSd _ _ _ _ _ _ _ _ w' x1 x2 x3 x4)

end Go.Proofs.YtncfnlocdlhagaaDoor
