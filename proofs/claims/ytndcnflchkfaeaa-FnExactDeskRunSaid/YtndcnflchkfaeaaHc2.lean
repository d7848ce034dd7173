/-
  The reference's l1Sorted and HallCars. Conditions: slices read as lists.
-/
import Derived.Test.YtndcnflchkfaeaaHc
import Derived.Test.YtndcnflchkfaeaaAppS
namespace Go.Proofs.Ytndcnflchkfaeaa
open Go.RowKit
set_option linter.unusedVariables false

/-- ints in a slice of the call's own -/
def RetInts (xs : List Int) (w : World) (e : Ending) (w' : World) : Prop :=
  ∃ p cap, e = .returned (.slice p xs.length cap) ∧ w'.ownsRow w.heap.size TI 1 (.slice p xs.length cap) xs.length (ivs xs) ∧ Ext w w'
theorem ret_ints {p : Option Addr} {n cap : Nat} {xs : List Int} {w w' : World} (hn : xs.length = n) (ho : w'.ownsRow w.heap.size TI 1 (.slice p n cap) n (ivs xs)) (hx : Ext w w') : RetInts xs w (.returned (.slice p n cap)) w' := by
  subst hn; exact ⟨p, cap, rfl, ho, hx⟩
theorem insL_at : ∀ (xs : List Int) (k : Nat) (x : Int), (∀ y ∈ xs.take k, y < x) → (∀ y, xs[k]? = some y → ¬ y < x) → insL x xs = xs.take k ++ x :: xs.drop k := by
  intro xs
  induction xs with
  | nil => intro k x _ _; simp [insL]
  | cons y ys ih =>
    intro k x h1 h2
    cases k with
    | zero =>
      have := h2 y rfl
      simp [insL, this]
    | succ k =>
      have h3 : y < x := h1 y (by simp)
      rw [insL, if_pos h3, ih k x (fun z hz => h1 z (by simp [hz])) (fun z hz => h2 z (by simpa using hz))]
      simp
theorem insL_len (x : Int) (xs : List Int) : (insL x xs).length = xs.length + 1 := (insL_perm x xs).length_eq

theorem sl_drop {w : World} {b off n cap k : Nat} {xs : List Int} (h : Sl w (some ⟨b, off, none⟩) n cap 1 (ivs xs)) (hk : k ≤ n) : Sl w (some ⟨b, off + k, none⟩) (n - k) (cap - k) 1 (ivs (xs.drop k)) := by
  have hl := h.ilen
  have hle := h.le
  have hmx := h.mx
  refine ⟨by simp; omega, by omega, by omega, fun h0 => ?_⟩
  obtain ⟨b', off', e, hb, hc⟩ := h.rd (by omega)
  injection e with e; injection e with e1 e2
  subst e1 e2
  refine ⟨_, _, rfl, hb, fun j hj => ?_⟩
  rw [Nat.add_assoc, hc (k + j) (by omega)]
  simp
theorem sl_zero (w : World) (p : Option Addr) {c : Nat} (hc : c ≤ maxLen) : Sl w p 0 c 1 (ivs []) := ⟨by simp, Nat.zero_le _, hc, fun h => absurd h (by omega)⟩

set_option maxRecDepth 100000 in
set_option maxHeartbeats 1000000 in
theorem l1Sorted_any (p : Option Addr) (n cap : Nat) (xs : List Int) (x : Int) (w : World) (hn : n ≤ 1000000) (hS : Sl w p n cap 1 (ivs xs)) :
    Calls Try.prog 42 #[.slice p n cap, .int .i64 x] w (RetInts (insL x xs) w) := by
  have hl := Lib.hid hS.ilen
  have hncap := hS.le
  have hcm := hS.mx
  unfold maxLen at hcm
  have HS := Lib.hid hS
  clear hS
  go_enter Try.func42, Try.ntmps42
  go_wp2
  go_loopw [5, 6] (fun v i wr => ∃ (k : Nat) (q : Option Addr) (c : Nat), k ≤ n ∧ i = .int .i64 k ∧ v = .slice q k c ∧ wr.ownsRow w.heap.size TI 1 (.slice q k c) k (ivs (xs.take k)) ∧ (∀ y ∈ xs.take k, y < x) ∧ Ext w wr) (fun _ i _ => n - (intOf i).toNat)
  case atStart => exact ⟨0, _, 0, Nat.zero_le _, rfl, rfl, World.ownsRow_made _ #[] 0 (Nat.le_refl _) (by simp [maxLen]) rfl, by simp, by (repeat' (first | exact Ext.refl _ | (with_reducible assumption) | (with_reducible refine Ext.alloc ?_ _) | (with_reducible refine Ext.setCell ?_ (by first | exact Nat.le_refl _ | (dsimp only; omega) | (simp; done) | (simp; omega)) _) | (with_reducible refine Ext.drew ?_) | (with_reducible refine Ext.drewN ?_ _) | (refine Ext.trans ?_ (by with_reducible assumption))))⟩
  case round =>
    obtain ⟨k, q, c, hk, rfl, rfl, hown, hlt', hE⟩ := hrel
    have HO := Lib.hid hown
    have HL := Lib.hid hlt'
    have hsz := hE.sz
    clear hown hlt'
    by_cases hlt : k < n
    · obtain ⟨b, off, y, rfl, hx, hb, hcell⟩ := (HS.out.ext hE).int_at hlt
      have HX := Lib.hid hx
      clear hx
      by_cases hy : y < x
      · have hfin : Hid (∀ z ∈ xs.take (k + 1), z < x) := by
          show ∀ z ∈ xs.take (k + 1), z < x
          rw [take_snocL HX.out]
          intro z hz
          rcases List.mem_append.1 hz with h | h
          · exact HL.out z h
          · simp at h; omega
        go_wp2_with (at_builtin; refine wpList_append_int elInt rfl _ _ rfl w.heap.size _ _ _ rfl (HO.out.alloc _) _ _ y _ rfl (by simp) (by omega) (by simp; omega) ?_; intro p' cap' w1 hown1 hg1; have HO1 := Lib.hid hown1; have hE1 : Ext w w1 := Ext.own (hE.alloc _) (HO.out.alloc _) hg1 (Nat.le_refl _); clear hown1 hg1)
        go_roundw
        case rel => exact ⟨k + 1, p', cap', by omega, by go_num, rfl, by rw [take_snocL HX.out]; exact HO1.out, hfin.out, hE1⟩
        case measure => simp [intOf]; omega
      · have hfin : Hid (insL x xs = xs.take k ++ x :: xs.drop k) := insL_at xs k x HL.out (fun z hz => by rw [HX.out] at hz; injection hz with hz; subst hz; exact hy)
        have i1 : (0 : Int) ≤ (k : Int) := by omega
        have i2 : (k : Int) ≤ (n : Int) := by omega
        have hck : ¬ cap = k := by omega
        go_wp2
        go_region_law ((first
          | (refine step_append_sl _ elInt (by rfl) _ _ (by rfl) w.heap.size _ k (ivs (xs.take k)) (by rfl) (by first | exact HO.out | exact HO.out.alloc _ | exact (HO.out.alloc _).drew | exact (HO.out.drew).alloc _ | exact HO.out.drew) _ 1 1 [iv x] (by rfl) (by first | exact Sl.new wr #[iv x] _ 1 rfl (by decide) | exact (Sl.new wr #[iv x] _ 1 rfl (by decide)).ext (Ext.drew (Ext.refl _)) | exact Sl.new wr.drew #[iv x] _ 1 rfl (by decide)) (ivs_one [x]) (by omega) (by simp; omega) ?_
             intro p1 c1 w1 hown1 hg1
             have hE1 : Ext w w1 := Ext.own (by (repeat' (first | exact Ext.refl _ | (with_reducible assumption) | (with_reducible refine Ext.alloc ?_ _) | (with_reducible refine Ext.setCell ?_ (by first | exact Nat.le_refl _ | (dsimp only; omega) | (simp; done) | (simp; omega)) _) | (with_reducible refine Ext.drew ?_) | (with_reducible refine Ext.drewN ?_ _) | (refine Ext.trans ?_ (by with_reducible assumption))))) (by first | exact HO.out | exact HO.out.alloc _ | exact (HO.out.alloc _).drew | exact (HO.out.drew).alloc _ | exact HO.out.drew) hg1 (Nat.le_refl _)
             have HO1 := Lib.hid hown1
             have HS1 := Lib.hid (HS.out.ext hE1)
             have hz1 := hE1.sz
             clear hown1 hg1)
          | (refine step_append_sl _ elInt (by rfl) _ _ (by rfl) w.heap.size _ (k + 1) (ivs (xs.take k) ++ [iv x]) (by rfl) HO1.out _ (n - k) (cap - k) (ivs (xs.drop k)) (by rfl) (sl_drop HS1.out (by omega)) (ivs_one _) (by omega) (by omega) ?_
             intro p2 c2 w2 hown2 hg2
             have hE2 : Ext w w2 := Ext.own hE1 HO1.out hg2 (Nat.le_refl _)
             have HO2 := Lib.hid hown2
             clear hown2 hg2)))
        all_goals go_wp2
        all_goals go_ret
        all_goals exact ret_ints (by rw [hfin.out]; simp; rw [hl.out]; omega) (by rw [hfin.out]; simpa using HO2.out) hE2
    · obtain rfl : k = n := by omega
      have hfin : Hid (insL x xs = xs ++ [x]) := by
        have := insL_at xs k x HL.out (fun z hz => by rw [List.getElem?_eq_none (by rw [hl.out]; exact Nat.le_refl _)] at hz; cases hz)
        show _ = _
        rw [this, List.take_of_length_le (by rw [hl.out]; exact Nat.le_refl _), List.drop_eq_nil_of_le (by rw [hl.out]; exact Nat.le_refl _)]
      have i1 : (0 : Int) ≤ (k : Int) := by omega
      go_wp2
      go_region_law ((first
        | (refine step_append_sl _ elInt (by rfl) _ _ (by rfl) w.heap.size _ k (ivs (xs.take k)) (by rfl) (by first | exact HO.out | exact HO.out.alloc _ | exact (HO.out.alloc _).drew | exact (HO.out.drew).alloc _ | exact HO.out.drew) _ 1 1 [iv x] (by rfl) (by first | exact Sl.new wr #[iv x] _ 1 rfl (by decide) | exact (Sl.new wr #[iv x] _ 1 rfl (by decide)).ext (Ext.drew (Ext.refl _)) | exact Sl.new wr.drew #[iv x] _ 1 rfl (by decide)) (ivs_one [x]) (by omega) (by simp; omega) ?_
           intro p1 c1 w1 hown1 hg1
           have hE1 : Ext w w1 := Ext.own (by (repeat' (first | exact Ext.refl _ | (with_reducible assumption) | (with_reducible refine Ext.alloc ?_ _) | (with_reducible refine Ext.setCell ?_ (by first | exact Nat.le_refl _ | (dsimp only; omega) | (simp; done) | (simp; omega)) _) | (with_reducible refine Ext.drew ?_) | (with_reducible refine Ext.drewN ?_ _) | (refine Ext.trans ?_ (by with_reducible assumption))))) (by first | exact HO.out | exact HO.out.alloc _ | exact (HO.out.alloc _).drew | exact (HO.out.drew).alloc _ | exact HO.out.drew) hg1 (Nat.le_refl _)
           have HO1 := Lib.hid hown1
           have HS1 := Lib.hid (HS.out.ext hE1)
           have hz1 := hE1.sz
           clear hown1 hg1)
        | (refine step_append_sl _ elInt (by rfl) _ _ (by rfl) w.heap.size _ (k + 1) (ivs (xs.take k) ++ [iv x]) (by rfl) HO1.out _ 0 _ (ivs []) (by rfl) (sl_zero _ _ (by unfold maxLen; omega)) (ivs_one _) (by omega) (by omega) ?_
           intro p2 c2 w2 hown2 hg2
           have hE2 : Ext w w2 := Ext.own hE1 HO1.out hg2 (Nat.le_refl _)
           have HO2 := Lib.hid hown2
           clear hown2 hg2)))
      all_goals go_wp2
      all_goals go_ret
      all_goals exact ret_ints (by rw [hfin.out]; simp; rw [hl.out]) (by rw [hfin.out]; have := HO2.out; rw [List.take_of_length_le (by rw [hl.out]; exact Nat.le_refl _)] at this; simpa using this) hE2
end Go.Proofs.Ytndcnflchkfaeaa
