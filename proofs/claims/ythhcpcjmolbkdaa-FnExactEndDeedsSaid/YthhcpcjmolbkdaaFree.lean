/-
  HallFree returns the free cells, in ascending order. Condition: the slice of cells reads as a list.
-/
import Derived.Test.YthhcpcjmolbkdaaHc3
namespace Go.Proofs.Ythhcpcjmolbkdaa
open Go.RowKit
set_option linter.unusedVariables false
set_option linter.unusedSimpArgs false

/-- the numbers below k that are chosen, in ascending order -/
def selN (f : Nat → Bool) : Nat → List Int
  | 0 => []
  | k + 1 => selN f k ++ (if f k then [(k : Int)] else [])
theorem selN_le (f : Nat → Bool) (k : Nat) : (selN f k).length ≤ k := by
  induction k with
  | zero => exact Nat.le_refl _
  | succ k ih => unfold selN; rw [List.length_append]; split <;> simp <;> omega
theorem selN_mem (f : Nat → Bool) (k : Nat) (x : Int) : x ∈ selN f k ↔ ∃ j : Nat, j < k ∧ f j = true ∧ x = (j : Int) := by
  induction k with
  | zero => simp [selN]
  | succ k ih =>
    unfold selN
    rw [List.mem_append, ih]
    constructor
    · rintro (⟨j, h1, h2, h3⟩ | h)
      · exact ⟨j, by omega, h2, h3⟩
      · by_cases hf : f k = true
        · rw [if_pos hf] at h; simp at h; exact ⟨k, by omega, hf, h⟩
        · rw [if_neg hf] at h; simp at h
    · rintro ⟨j, h1, h2, h3⟩
      by_cases hj : j < k
      · exact .inl ⟨j, hj, h2, h3⟩
      · obtain rfl : j = k := by omega
        right; rw [if_pos h2]; simpa using h3
theorem selN_sorted (f : Nat → Bool) (k : Nat) : (selN f k).Pairwise (· < ·) := by
  induction k with
  | zero => simp [selN]
  | succ k ih =>
    unfold selN
    rw [List.pairwise_append]
    refine ⟨ih, by split <;> simp, fun a ha b hb => ?_⟩
    obtain ⟨j, h1, _, h3⟩ := (selN_mem f k a).1 ha
    split at hb
    · simp at hb; omega
    · simp at hb
theorem selN_congr {f g : Nat → Bool} {k : Nat} (h : ∀ j, j < k → f j = g j) : selN f k = selN g k := by
  induction k with
  | zero => rfl
  | succ k ih => unfold selN; rw [ih (fun j hj => h j (by omega)), h k (by omega)]
def isFree (xs : List Int) (k : Nat) : Bool := xs[k]? == some 0
def freeL (xs : List Int) : List Int := selN (isFree xs) xs.length
theorem freeL_nil (xs : List Int) : freeL xs = [] ↔ (0 : Int) ∉ xs := by
  rw [List.eq_nil_iff_forall_not_mem]
  constructor
  · intro h hm
    obtain ⟨k, hk, e⟩ := List.getElem_of_mem hm
    exact h (k : Int) ((selN_mem _ _ _).2 ⟨k, hk, by simp [isFree, hk, e], rfl⟩)
  · intro h x hx
    obtain ⟨j, h1, h2, h3⟩ := (selN_mem _ _ _).1 hx
    simp [isFree, h1] at h2
    exact h (by rw [← h2]; exact List.getElem_mem h1)

/-- a cell ahead of a slice of the call's own stays as the slice grows -/
theorem own_far {wr w2 : World} {B o n : Nat} {v u : Value} {xs : List Value} {ob : Obj} (ho : wr.ownsRow (B + 1) TI 1 v n xs) (hg : (wr.alloc ob).grownBy w2 v.ownBlock) (hb : B < wr.heap.size) (hc : wr.cell? ⟨B, o, none⟩ = some u) : w2.cell? ⟨B, o, none⟩ = some u := by
  rw [World.cell?_of_block (w := wr.alloc ob) (hg.block B (by simp; omega) (fun e => by have := ho.lt B e.symm; omega))]
  rw [((Ext.refl wr).alloc ob).cells.1 B o hb]; exact hc

set_option maxRecDepth 100000 in
set_option maxHeartbeats 1000000 in
theorem specHf_bad (wide deep : Int) (p : Option Addr) (n cap : Nat) (w : World) (HV : Hid (∀ w', Ext w w' → Calls Try.prog 45 #[hallV wide deep p n cap] w' fun e w'' => e = .returned (.bool false) ∧ Ext w' w'')) :
    Calls Try.prog 31 #[hallV wide deep p n cap] w (RetInts [] w) := by
  go_enter Try.func31, Try.ntmps31
  go_wp2_with fail
  refine (HV.out _ (by (repeat' (first | exact Ext.refl _ | (with_reducible assumption) | (with_reducible refine Ext.alloc ?_ _) | (with_reducible refine Ext.setCell ?_ (by first | exact Nat.le_refl _ | (dsimp only; omega) | (simp; done) | (simp; omega)) _) | (with_reducible refine Ext.drew ?_) | (with_reducible refine Ext.drewN ?_ _) | (refine Ext.trans ?_ (by with_reducible assumption)))))).mono ?_
  rintro e w1 ⟨rfl, h1⟩
  have ho : ((w.alloc (.cells #[.int .i64 wide, .int .i64 deep, .slice p n cap] 33)).alloc (.cells #[] TI)).ownsRow (w.heap.size + 1) TI 1 (.slice (some ⟨(w.alloc (.cells #[.int .i64 wide, .int .i64 deep, .slice p n cap] 33)).heap.size, 0, none⟩) 0 0) 0 [] := World.ownsRow_made _ #[] 0 (by simp) (by simp [maxLen]) rfl
  have HO0 := Lib.hid (own_ext ho h1)
  clear ho
  go_wp2
  go_ret
  exact ret_ints (xs := []) rfl (by simpa using own_base HO0.out (Nat.le_succ _)) (by (repeat' (first | exact Ext.refl _ | (with_reducible assumption) | (with_reducible refine Ext.alloc ?_ _) | (with_reducible refine Ext.setCell ?_ (by first | exact Nat.le_refl _ | (dsimp only; omega) | (simp; done) | (simp; omega)) _) | (with_reducible refine Ext.drew ?_) | (with_reducible refine Ext.drewN ?_ _) | (refine Ext.trans ?_ (by with_reducible assumption)))))

set_option maxRecDepth 100000 in
set_option maxHeartbeats 1000000 in
theorem specHf_ok (wide deep : Int) (p : Option Addr) (n cap : Nat) (xs : List Int) (w : World) (hn : n ≤ 12) (HS : Hid (Sl w p n cap 1 (ivs xs))) (HV : Hid (∀ w', Ext w w' → Calls Try.prog 45 #[hallV wide deep p n cap] w' fun e w'' => e = .returned (.bool true) ∧ Ext w' w'')) :
    Calls Try.prog 31 #[hallV wide deep p n cap] w (RetInts (freeL xs) w) := by
  have hl := Lib.hid HS.out.ilen
  go_enter Try.func31, Try.ntmps31
  go_wp2_with fail
  refine (HV.out _ (by (repeat' (first | exact Ext.refl _ | (with_reducible assumption) | (with_reducible refine Ext.alloc ?_ _) | (with_reducible refine Ext.setCell ?_ (by first | exact Nat.le_refl _ | (dsimp only; omega) | (simp; done) | (simp; omega)) _) | (with_reducible refine Ext.drew ?_) | (with_reducible refine Ext.drewN ?_ _) | (refine Ext.trans ?_ (by with_reducible assumption)))))).mono ?_
  rintro e w1 ⟨rfl, h1⟩
  have ho : ((w.alloc (.cells #[.int .i64 wide, .int .i64 deep, .slice p n cap] 33)).alloc (.cells #[] TI)).ownsRow (w.heap.size + 1) TI 1 (.slice (some ⟨(w.alloc (.cells #[.int .i64 wide, .int .i64 deep, .slice p n cap] 33)).heap.size, 0, none⟩) 0 0) 0 [] := World.ownsRow_made _ #[] 0 (by simp) (by simp [maxLen]) rfl
  have HO0 := Lib.hid (own_ext ho h1)
  clear ho
  have hz1 : w.heap.size < w1.heap.size := Nat.lt_of_lt_of_le (by first | (simp; omega) | simp) h1.sz
  have eb : w1.cell? ⟨w.heap.size, 2, none⟩ = some (.slice p n cap) := by rw [h1.cells.1 _ _ (by first | (simp; done) | (simp; omega))]; simp
  have hx1 : Ext w w1 := by (repeat' (first | exact Ext.refl _ | (with_reducible assumption) | (with_reducible refine Ext.alloc ?_ _) | (with_reducible refine Ext.setCell ?_ (by first | exact Nat.le_refl _ | (dsimp only; omega) | (simp; done) | (simp; omega)) _) | (with_reducible refine Ext.drew ?_) | (with_reducible refine Ext.drewN ?_ _) | (refine Ext.trans ?_ (by with_reducible assumption))))
  go_wp2
  go_loopw [3, 4] (fun v i wr => ∃ (k : Nat) (q : Option Addr) (m c : Nat), k ≤ n ∧ i = .int .i64 k ∧ v = .slice q m c ∧ m ≤ k ∧ wr.ownsRow (w.heap.size + 1) TI 1 (.slice q m c) m (ivs (selN (isFree xs) k)) ∧ Ext w wr ∧ wr.cell? ⟨w.heap.size, 2, none⟩ = some (.slice p n cap) ∧ w.heap.size < wr.heap.size) (fun _ i _ => n - (intOf i).toNat)
  case atStart => exact ⟨0, _, 0, 0, Nat.zero_le _, rfl, rfl, Nat.le_refl _, by simpa [selN] using HO0.out, hx1, eb, hz1⟩
  case round =>
    obtain ⟨k, q, m, c, hk, rfl, rfl, hmk, hown, hEw, ec, hsz⟩ := hrel
    have HO := Lib.hid hown
    clear hown
    by_cases hlt : k < n
    · obtain ⟨b, off, x, rfl, hx, hb, hcell⟩ := (HS.out.ext hEw).int_at hlt
      have HX := Lib.hid hx
      clear hx
      by_cases hx0 : x = 0
      · have t0 : (x == 0) = true := by simp [hx0]
        have hfin : Hid (selN (isFree xs) (k + 1) = selN (isFree xs) k ++ [(k : Int)]) := by
          show _ = _; rw [selN, if_pos (by unfold isFree; rw [HX.out, hx0]; rfl)]
        clear hx0
        go_wp2_with (at_builtin; refine wpList_append_int elInt rfl _ _ rfl (w.heap.size + 1) _ _ _ rfl (HO.out.alloc _) _ _ (k : Int) _ rfl (by simp) (by omega) (by simp; omega) ?_; intro p' cap' w2 hown1 hg1; have HO1 := Lib.hid hown1; have hE1 : Ext w w2 := Ext.own (hEw.alloc _) (HO.out.alloc _) hg1 (by omega); have ec2 := own_far HO.out hg1 hsz ec; have hsz2 : w.heap.size < w2.heap.size := Nat.lt_of_lt_of_le hsz (by have := hg1.size; simp at this; omega); clear hown1 hg1)
        go_roundw
        case rel => exact ⟨k + 1, p', m + 1, cap', by omega, by go_num, rfl, by omega, by rw [hfin.out]; exact HO1.out, hE1, ec2, hsz2⟩
        case measure => simp [intOf]; omega
      · have t0 : (x == 0) = false := by simp [hx0]
        have hfin : Hid (selN (isFree xs) (k + 1) = selN (isFree xs) k) := by
          show _ = _; rw [selN, if_neg (by unfold isFree; rw [HX.out]; simp [hx0]), List.append_nil]
        clear hx0
        go_wp2
        go_roundw
        case rel => exact ⟨k + 1, q, m, c, by omega, by go_num, rfl, by omega, by rw [hfin.out]; exact HO.out, hEw, ec, hsz⟩
        case measure => simp [intOf]; omega
    · have hfin : Hid (selN (isFree xs) k = freeL xs) := by
        show _ = _; unfold freeL; rw [hl.out, show k = n by omega]
      go_wp2
      go_ret
      exact ret_ints (by rw [← hfin.out]; have := HO.out.1; simpa using this) (by rw [← hfin.out]; exact own_base HO.out (Nat.le_succ _)) hEw

theorem specHf (wide deep : Int) (p : Option Addr) (n cap : Nat) (xs : List Int) (w : World) (hS : Sl w p n cap 1 (ivs xs)) : Calls Try.prog 31 #[hallV wide deep p n cap] w (RetInts (if hallOk wide deep xs then freeL xs else []) w) := by
  have hl := hS.ilen
  cases h : hallOk wide deep xs with
  | true =>
    have hb : n ≤ 12 := by unfold hallOk at h; rw [Bool.and_eq_true] at h; have := shape_bd h.1; omega
    simpa using specHf_ok wide deep p n cap xs w hb hS (fun w' hx => by have := specHv wide deep p n cap xs w' (hS.ext hx); rwa [h] at this)
  | false => simpa using specHf_bad wide deep p n cap w (fun w' hx => by have := specHv wide deep p n cap xs w' (hS.ext hx); rwa [h] at this)



end Go.Proofs.Ythhcpcjmolbkdaa
