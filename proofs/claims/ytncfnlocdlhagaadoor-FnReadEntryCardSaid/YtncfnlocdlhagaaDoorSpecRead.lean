/-
  spec.ReadDeed returns the deed that a text is ('specRead'). Condition: the text has at most 2^40 bytes.
-/
import Derived.Test.YtncfnlocdlhagaaDoorReadDeed2
namespace Go.Proofs.YtncfnlocdlhagaaDoor
open Go.RowKit
set_option linter.unusedVariables false

def kdOf (p : List UInt8) : Nat → Int
  | 0 => -1
  | k + 1 => if p = deedName k then k else kdOf p k
theorem kdOf_five (p : List UInt8) : kdOf p 5 = (kindOf p).getD (-1) := by
  cases h : kindOf p with
  | none =>
    obtain ⟨n1, n2, n3, n4, n5⟩ := kindOf_none h
    simp only [beq_eq_false_iff_ne, ne_eq] at n1 n2 n3 n4 n5
    simp [kdOf, deedName, n1, n2, n3, n4, n5]
  | some k => rcases kindOf_cases h with ⟨rfl, rfl⟩ | ⟨rfl, rfl⟩ | ⟨rfl, rfl⟩ | ⟨rfl, rfl⟩ | ⟨rfl, rfl⟩ <;> decide
theorem kdOf_yes {p : List UInt8} {k : Nat} (h : p = deedName k) : kdOf p (k + 1) = k := by simp [kdOf, h]
theorem kdOf_no {p : List UInt8} {k : Nat} (h : p ≠ deedName k) : kdOf p (k + 1) = kdOf p k := by simp [kdOf, h]

theorem grown_set {W0 wr : World} {B : Nat} (hg : W0.grownBy wr (some B)) (o : Nat) (v : Value) : W0.grownBy (wr.setCell ⟨B, o, none⟩ v) (some B) :=
  ⟨hg.os, hg.tape, hg.output, by simpa using hg.size, fun k hk hne => by
    rw [Below.heap_setCell _ _ _ _ (fun e => hne (by simp [e]))]; exact hg.block k hk hne⟩
theorem grown_drew {W0 wr : World} {r : Option Nat} (hg : W0.grownBy wr r) : W0.grownBy wr.drew r := ⟨hg.os, hg.tape, hg.output, hg.size, hg.block⟩
theorem ext_of_grown {w W0 wr : World} {B : Nat} (h : Ext w W0) (hg : W0.grownBy wr (some B)) (hB : w.heap.size ≤ B) : Ext w wr := h.grown hg (fun k hk => by simp at hk; omega)

theorem h1' {w w1 : World} {o o2 : Obj} (h : Ext (w.alloc o) w1) : Ext w (w1.alloc o2) := (((Ext.refl w).alloc o).trans h).alloc o2

set_option maxRecDepth 100000 in
set_option maxHeartbeats 1000000 in
theorem specRead1_ok (l : List UInt8) (w : World) (ps : List (List UInt8)) (n : Nat) (p t : List UInt8)  (hn : n = 1) (hn1 : 1 ≤ n) (hn2 : n ≤ 1099511627777)
    (hp0 : ps[0]? = some p)
    (HS : Hid (∀ w, Calls Tryd.prog 42 #[str l, .int .u8 32] w fun e w' => ∃ v, e = .returned v ∧ w'.ownsRow w.heap.size 9 1 v n (strs ps) ∧ Ext w w'))
    (hl : l.isEmpty = false) (ht : (t == l) = true)
    (HD : Hid (∀ w, Calls Tryd.prog 80 #[deedV (kdOf p 5) 0 0] w fun e w' => e = .returned (str t) ∧ Ext w w')) :
    Calls Tryd.prog 44 #[str l] w (RetRd (some (kdOf p 5, 0, 0)) w) := by
  all_goals
    go_enter Tryd.func44, Tryd.ntmps44
    go_wp2_with fail
    refine (HS.out _).mono ?_
    rintro e w1 ⟨v, rfl, hown, h1⟩
    obtain ⟨g, cap, rfl⟩ := Joins.ownsRow_form hown (by omega)
    have e0 := part_cell hown 0 (by omega) _ hp0
    have hg := (hown.lt g rfl).2
    have hz1 : w.heap.size < w1.heap.size := Nat.lt_of_lt_of_le (by simp) h1.sz
    have hgw : w.heap.size < g := Nat.lt_of_lt_of_le (by simp) (hown.lt g rfl).1
    obtain ⟨hc1, hf1⟩ := h1.cells
    clear hown
    go_wp2
    go_loopw [6] (fun i wr => ∃ k : Nat, k ≤ 5 ∧ i = .int .i64 k ∧ wr.heap[w1.heap.size]? = some (.cells #[.int .i64 (kdOf p k), .int .i64 0, .int .i64 0] 25 (0, 0)) ∧ (w1.alloc (.cells #[.int .i64 (-1), .int .i64 0, .int .i64 0] 25)).grownBy wr (some w1.heap.size)) (fun i _ => 5 - (intOf i).toNat)
    case atStart => exact ⟨0, by omega, rfl, by rw [heap_alloc_new]; rfl, World.grownBy.refl _ _⟩
    case round =>
      obtain ⟨k, hk, rfl, hB, hgr⟩ := hrel
      have b0 : wr.cell? ⟨w1.heap.size, 0, none⟩ = some (.int .i64 (kdOf p k)) := Joins.cell_of_block hB 0
      have b1 : wr.cell? ⟨w1.heap.size, 1, none⟩ = some (.int .i64 0) := Joins.cell_of_block hB 1
      have b2 : wr.cell? ⟨w1.heap.size, 2, none⟩ = some (.int .i64 0) := Joins.cell_of_block hB 2
      have u0 := Joins.unfrozen_of_block hB 0
      have u1 := Joins.unfrozen_of_block hB 1
      have u2 := Joins.unfrozen_of_block hB 2
      have HG := Lib.hid hgr
      have hBX := Lib.hid hB
      have hsz := hgr.size
      simp only [World.size_alloc] at hsz
      have g0 : wr.cell? ⟨g, 0, none⟩ = some (str p) := hgr.cell (by rw [World.cell?_alloc_past _ _ _ (by simpa using hg)]; exact e0) (by simp; omega)
      have r0 : ∀ j, j < 3 → wr.cell? ⟨w.heap.size, j, none⟩ = some (.int .i64 0) := fun j hj => hgr.cell (by rw [World.cell?_alloc_past _ _ _ (by simpa using hz1), hc1 _ _ (by simp)]; rcases (show j = 0 ∨ j = 1 ∨ j = 2 by omega) with rfl | rfl | rfl <;> simp) (by simp; omega)
      have r1 : ∀ j, wr.frozen? ⟨w.heap.size, j, none⟩ = false := fun j => by
        rw [World.frozen?_of_block (w := w1.alloc (.cells #[.int .i64 (-1), .int .i64 0, .int .i64 0] 25)) (hgr.block _ (by simp; omega) (by simp; omega)), World.frozen?_of_block (Below.heap_alloc _ _ _ (by simpa using hz1)), hf1 _ _ (by simp)]; simp
      have r00 := r0 0 (by omega)
      have r01 := r0 1 (by omega)
      have r02 := r0 2 (by omega)
      have r10 := r1 0
      have r11 := r1 1
      have r12 := r1 2
      clear hgr hB r0 r1 hc1 hf1 e0
      by_cases hlt : k < 5
      · by_cases hpk : p = deedName k
        · have hb : (p == deedName (k : Int)) = true := by simp [hpk]
          have HPK := Lib.hid hpk
          clear hpk
          go_wp2
          go_region_held3 (fun w' => w'.cell? ⟨g, 0, none⟩ = some (str p)) (go_keep) ((go_at_call 84; refine (l8Name_any k _ (by omega)).mono ?_; rintro e w2 ⟨rfl, rfl⟩))
          all_goals go_wp2
          all_goals go_roundw
          all_goals first
            | (case rel => exact ⟨k + 1, by omega, by go_num, by rw [kdOf_yes HPK.out]; exact Joins.block_setCell hBX.out _, grown_set (grown_drew HG.out) _ _⟩)
            | (case measure => simp [intOf]; omega)
        · have hb : (p == deedName (k : Int)) = false := by simp [hpk]
          have HPK := Lib.hid hpk
          clear hpk
          go_wp2
          go_region_held3 (fun w' => w'.cell? ⟨g, 0, none⟩ = some (str p)) (go_keep) ((go_at_call 84; refine (l8Name_any k _ (by omega)).mono ?_; rintro e w2 ⟨rfl, rfl⟩))
          all_goals go_wp2
          all_goals go_roundw
          all_goals first
            | (case rel => exact ⟨k + 1, by omega, by go_num, by rw [kdOf_no HPK.out]; exact hBX.out, grown_drew HG.out⟩)
            | (case measure => simp [intOf]; omega)
      · obtain rfl : k = 5 := by omega
        have hEx : Ext w wr := ext_of_grown (h1' h1) HG.out (by omega)
        go_wp2_with fail
        refine (HD.out _).mono ?_
        rintro e w2 ⟨rfl, h2⟩
        obtain ⟨hc2, hf2⟩ := h2.cells
        have hz2 : w1.heap.size < w2.heap.size := Nat.lt_of_lt_of_le (by first | omega | (simp; omega)) h2.sz
        have hz3 : w.heap.size < w2.heap.size := Nat.lt_trans hz1 hz2
        have hz4 : w1.heap.size < wr.heap.size := by omega
        have hz5 : w.heap.size < wr.heap.size := by omega
        go_wp2
        exact bodyPost_ret (v := rdV (some (_, 0, 0))) (by simp [results, Tryd.results44, go_sem, *]; rfl) rfl ⟨rfl, by (repeat' (first | exact Ext.refl _ | (with_reducible assumption) | (with_reducible refine Ext.alloc ?_ _) | (with_reducible refine Ext.setCell ?_ (by first | exact Nat.le_refl _ | (dsimp only; omega) | (simp; done) | (simp; omega)) _) | (with_reducible refine Ext.drew ?_) | (with_reducible refine Ext.drewN ?_ _) | (refine Ext.trans ?_ (by with_reducible assumption))))⟩

set_option maxRecDepth 100000 in
set_option maxHeartbeats 1000000 in
theorem specRead1_no (l : List UInt8) (w : World) (ps : List (List UInt8)) (n : Nat) (p t : List UInt8)  (hn : n = 1) (hn1 : 1 ≤ n) (hn2 : n ≤ 1099511627777)
    (hp0 : ps[0]? = some p)
    (HS : Hid (∀ w, Calls Tryd.prog 42 #[str l, .int .u8 32] w fun e w' => ∃ v, e = .returned v ∧ w'.ownsRow w.heap.size 9 1 v n (strs ps) ∧ Ext w w'))
    (hl : l.isEmpty = false) (ht : (t == l) = false)
    (HD : Hid (∀ w, Calls Tryd.prog 80 #[deedV (kdOf p 5) 0 0] w fun e w' => e = .returned (str t) ∧ Ext w w')) :
    Calls Tryd.prog 44 #[str l] w (RetRd (none) w) := by
  all_goals
    go_enter Tryd.func44, Tryd.ntmps44
    go_wp2_with fail
    refine (HS.out _).mono ?_
    rintro e w1 ⟨v, rfl, hown, h1⟩
    obtain ⟨g, cap, rfl⟩ := Joins.ownsRow_form hown (by omega)
    have e0 := part_cell hown 0 (by omega) _ hp0
    have hg := (hown.lt g rfl).2
    have hz1 : w.heap.size < w1.heap.size := Nat.lt_of_lt_of_le (by simp) h1.sz
    have hgw : w.heap.size < g := Nat.lt_of_lt_of_le (by simp) (hown.lt g rfl).1
    obtain ⟨hc1, hf1⟩ := h1.cells
    clear hown
    go_wp2
    go_loopw [6] (fun i wr => ∃ k : Nat, k ≤ 5 ∧ i = .int .i64 k ∧ wr.heap[w1.heap.size]? = some (.cells #[.int .i64 (kdOf p k), .int .i64 0, .int .i64 0] 25 (0, 0)) ∧ (w1.alloc (.cells #[.int .i64 (-1), .int .i64 0, .int .i64 0] 25)).grownBy wr (some w1.heap.size)) (fun i _ => 5 - (intOf i).toNat)
    case atStart => exact ⟨0, by omega, rfl, by rw [heap_alloc_new]; rfl, World.grownBy.refl _ _⟩
    case round =>
      obtain ⟨k, hk, rfl, hB, hgr⟩ := hrel
      have b0 : wr.cell? ⟨w1.heap.size, 0, none⟩ = some (.int .i64 (kdOf p k)) := Joins.cell_of_block hB 0
      have b1 : wr.cell? ⟨w1.heap.size, 1, none⟩ = some (.int .i64 0) := Joins.cell_of_block hB 1
      have b2 : wr.cell? ⟨w1.heap.size, 2, none⟩ = some (.int .i64 0) := Joins.cell_of_block hB 2
      have u0 := Joins.unfrozen_of_block hB 0
      have u1 := Joins.unfrozen_of_block hB 1
      have u2 := Joins.unfrozen_of_block hB 2
      have HG := Lib.hid hgr
      have hBX := Lib.hid hB
      have hsz := hgr.size
      simp only [World.size_alloc] at hsz
      have g0 : wr.cell? ⟨g, 0, none⟩ = some (str p) := hgr.cell (by rw [World.cell?_alloc_past _ _ _ (by simpa using hg)]; exact e0) (by simp; omega)
      have r0 : ∀ j, j < 3 → wr.cell? ⟨w.heap.size, j, none⟩ = some (.int .i64 0) := fun j hj => hgr.cell (by rw [World.cell?_alloc_past _ _ _ (by simpa using hz1), hc1 _ _ (by simp)]; rcases (show j = 0 ∨ j = 1 ∨ j = 2 by omega) with rfl | rfl | rfl <;> simp) (by simp; omega)
      have r1 : ∀ j, wr.frozen? ⟨w.heap.size, j, none⟩ = false := fun j => by
        rw [World.frozen?_of_block (w := w1.alloc (.cells #[.int .i64 (-1), .int .i64 0, .int .i64 0] 25)) (hgr.block _ (by simp; omega) (by simp; omega)), World.frozen?_of_block (Below.heap_alloc _ _ _ (by simpa using hz1)), hf1 _ _ (by simp)]; simp
      have r00 := r0 0 (by omega)
      have r01 := r0 1 (by omega)
      have r02 := r0 2 (by omega)
      have r10 := r1 0
      have r11 := r1 1
      have r12 := r1 2
      clear hgr hB r0 r1 hc1 hf1 e0
      by_cases hlt : k < 5
      · by_cases hpk : p = deedName k
        · have hb : (p == deedName (k : Int)) = true := by simp [hpk]
          have HPK := Lib.hid hpk
          clear hpk
          go_wp2
          go_region_held3 (fun w' => w'.cell? ⟨g, 0, none⟩ = some (str p)) (go_keep) ((go_at_call 84; refine (l8Name_any k _ (by omega)).mono ?_; rintro e w2 ⟨rfl, rfl⟩))
          all_goals go_wp2
          all_goals go_roundw
          all_goals first
            | (case rel => exact ⟨k + 1, by omega, by go_num, by rw [kdOf_yes HPK.out]; exact Joins.block_setCell hBX.out _, grown_set (grown_drew HG.out) _ _⟩)
            | (case measure => simp [intOf]; omega)
        · have hb : (p == deedName (k : Int)) = false := by simp [hpk]
          have HPK := Lib.hid hpk
          clear hpk
          go_wp2
          go_region_held3 (fun w' => w'.cell? ⟨g, 0, none⟩ = some (str p)) (go_keep) ((go_at_call 84; refine (l8Name_any k _ (by omega)).mono ?_; rintro e w2 ⟨rfl, rfl⟩))
          all_goals go_wp2
          all_goals go_roundw
          all_goals first
            | (case rel => exact ⟨k + 1, by omega, by go_num, by rw [kdOf_no HPK.out]; exact hBX.out, grown_drew HG.out⟩)
            | (case measure => simp [intOf]; omega)
      · obtain rfl : k = 5 := by omega
        have hEx : Ext w wr := ext_of_grown (h1' h1) HG.out (by omega)
        go_wp2_with fail
        refine (HD.out _).mono ?_
        rintro e w2 ⟨rfl, h2⟩
        obtain ⟨hc2, hf2⟩ := h2.cells
        have hz2 : w1.heap.size < w2.heap.size := Nat.lt_of_lt_of_le (by first | omega | (simp; omega)) h2.sz
        have hz3 : w.heap.size < w2.heap.size := Nat.lt_trans hz1 hz2
        have hz4 : w1.heap.size < wr.heap.size := by omega
        have hz5 : w.heap.size < wr.heap.size := by omega
        go_wp2
        exact bodyPost_ret (v := rdV none) (by simp [results, Tryd.results44, go_sem, *]; rfl) rfl ⟨rfl, by (repeat' (first | exact Ext.refl _ | (with_reducible assumption) | (with_reducible refine Ext.alloc ?_ _) | (with_reducible refine Ext.setCell ?_ (by first | exact Nat.le_refl _ | (dsimp only; omega) | (simp; done) | (simp; omega)) _) | (with_reducible refine Ext.drew ?_) | (with_reducible refine Ext.drewN ?_ _) | (refine Ext.trans ?_ (by with_reducible assumption))))⟩

set_option maxRecDepth 100000 in
set_option maxHeartbeats 1000000 in
theorem specRead1_emp (l : List UInt8) (w : World) (ps : List (List UInt8)) (n : Nat) (p t : List UInt8)  (hn : n = 1) (hn1 : 1 ≤ n) (hn2 : n ≤ 1099511627777)
    (hp0 : ps[0]? = some p)
    (HS : Hid (∀ w, Calls Tryd.prog 42 #[str l, .int .u8 32] w fun e w' => ∃ v, e = .returned v ∧ w'.ownsRow w.heap.size 9 1 v n (strs ps) ∧ Ext w w'))
    (hl : l.isEmpty = true)
    (HD : Hid (∀ w, Calls Tryd.prog 80 #[deedV (kdOf p 5) 0 0] w fun e w' => e = .returned (str t) ∧ Ext w w')) :
    Calls Tryd.prog 44 #[str l] w (RetRd (none) w) := by
  all_goals
    go_enter Tryd.func44, Tryd.ntmps44
    go_wp2_with fail
    refine (HS.out _).mono ?_
    rintro e w1 ⟨v, rfl, hown, h1⟩
    obtain ⟨g, cap, rfl⟩ := Joins.ownsRow_form hown (by omega)
    have e0 := part_cell hown 0 (by omega) _ hp0
    have hg := (hown.lt g rfl).2
    have hz1 : w.heap.size < w1.heap.size := Nat.lt_of_lt_of_le (by simp) h1.sz
    have hgw : w.heap.size < g := Nat.lt_of_lt_of_le (by simp) (hown.lt g rfl).1
    obtain ⟨hc1, hf1⟩ := h1.cells
    clear hown
    go_wp2
    go_loopw [6] (fun i wr => ∃ k : Nat, k ≤ 5 ∧ i = .int .i64 k ∧ wr.heap[w1.heap.size]? = some (.cells #[.int .i64 (kdOf p k), .int .i64 0, .int .i64 0] 25 (0, 0)) ∧ (w1.alloc (.cells #[.int .i64 (-1), .int .i64 0, .int .i64 0] 25)).grownBy wr (some w1.heap.size)) (fun i _ => 5 - (intOf i).toNat)
    case atStart => exact ⟨0, by omega, rfl, by rw [heap_alloc_new]; rfl, World.grownBy.refl _ _⟩
    case round =>
      obtain ⟨k, hk, rfl, hB, hgr⟩ := hrel
      have b0 : wr.cell? ⟨w1.heap.size, 0, none⟩ = some (.int .i64 (kdOf p k)) := Joins.cell_of_block hB 0
      have b1 : wr.cell? ⟨w1.heap.size, 1, none⟩ = some (.int .i64 0) := Joins.cell_of_block hB 1
      have b2 : wr.cell? ⟨w1.heap.size, 2, none⟩ = some (.int .i64 0) := Joins.cell_of_block hB 2
      have u0 := Joins.unfrozen_of_block hB 0
      have u1 := Joins.unfrozen_of_block hB 1
      have u2 := Joins.unfrozen_of_block hB 2
      have HG := Lib.hid hgr
      have hBX := Lib.hid hB
      have hsz := hgr.size
      simp only [World.size_alloc] at hsz
      have g0 : wr.cell? ⟨g, 0, none⟩ = some (str p) := hgr.cell (by rw [World.cell?_alloc_past _ _ _ (by simpa using hg)]; exact e0) (by simp; omega)
      have r0 : ∀ j, j < 3 → wr.cell? ⟨w.heap.size, j, none⟩ = some (.int .i64 0) := fun j hj => hgr.cell (by rw [World.cell?_alloc_past _ _ _ (by simpa using hz1), hc1 _ _ (by simp)]; rcases (show j = 0 ∨ j = 1 ∨ j = 2 by omega) with rfl | rfl | rfl <;> simp) (by simp; omega)
      have r1 : ∀ j, wr.frozen? ⟨w.heap.size, j, none⟩ = false := fun j => by
        rw [World.frozen?_of_block (w := w1.alloc (.cells #[.int .i64 (-1), .int .i64 0, .int .i64 0] 25)) (hgr.block _ (by simp; omega) (by simp; omega)), World.frozen?_of_block (Below.heap_alloc _ _ _ (by simpa using hz1)), hf1 _ _ (by simp)]; simp
      have r00 := r0 0 (by omega)
      have r01 := r0 1 (by omega)
      have r02 := r0 2 (by omega)
      have r10 := r1 0
      have r11 := r1 1
      have r12 := r1 2
      clear hgr hB r0 r1 hc1 hf1 e0
      by_cases hlt : k < 5
      · by_cases hpk : p = deedName k
        · have hb : (p == deedName (k : Int)) = true := by simp [hpk]
          have HPK := Lib.hid hpk
          clear hpk
          go_wp2
          go_region_held3 (fun w' => w'.cell? ⟨g, 0, none⟩ = some (str p)) (go_keep) ((go_at_call 84; refine (l8Name_any k _ (by omega)).mono ?_; rintro e w2 ⟨rfl, rfl⟩))
          all_goals go_wp2
          all_goals go_roundw
          all_goals first
            | (case rel => exact ⟨k + 1, by omega, by go_num, by rw [kdOf_yes HPK.out]; exact Joins.block_setCell hBX.out _, grown_set (grown_drew HG.out) _ _⟩)
            | (case measure => simp [intOf]; omega)
        · have hb : (p == deedName (k : Int)) = false := by simp [hpk]
          have HPK := Lib.hid hpk
          clear hpk
          go_wp2
          go_region_held3 (fun w' => w'.cell? ⟨g, 0, none⟩ = some (str p)) (go_keep) ((go_at_call 84; refine (l8Name_any k _ (by omega)).mono ?_; rintro e w2 ⟨rfl, rfl⟩))
          all_goals go_wp2
          all_goals go_roundw
          all_goals first
            | (case rel => exact ⟨k + 1, by omega, by go_num, by rw [kdOf_no HPK.out]; exact hBX.out, grown_drew HG.out⟩)
            | (case measure => simp [intOf]; omega)
      · obtain rfl : k = 5 := by omega
        have hEx : Ext w wr := ext_of_grown (h1' h1) HG.out (by omega)
        go_wp2
        exact bodyPost_ret (v := rdV none) (by simp [results, Tryd.results44, go_sem, *]; rfl) rfl ⟨rfl, by (repeat' (first | exact Ext.refl _ | (with_reducible assumption) | (with_reducible refine Ext.alloc ?_ _) | (with_reducible refine Ext.setCell ?_ (by first | exact Nat.le_refl _ | (dsimp only; omega) | (simp; done) | (simp; omega)) _) | (with_reducible refine Ext.drew ?_) | (with_reducible refine Ext.drewN ?_ _) | (refine Ext.trans ?_ (by with_reducible assumption))))⟩

set_option maxRecDepth 100000 in
set_option maxHeartbeats 1000000 in
theorem specRead2_ok (l : List UInt8) (w : World) (ps : List (List UInt8)) (n : Nat) (p q t : List UInt8) (a : Int) (hn : n = 2) (hn1 : 1 ≤ n) (hn2 : n ≤ 1099511627777)
    (hp0 : ps[0]? = some p) (hp1 : ps[1]? = some q)
    (HS : Hid (∀ w, Calls Tryd.prog 42 #[str l, .int .u8 32] w fun e w' => ∃ v, e = .returned v ∧ w'.ownsRow w.heap.size 9 1 v n (strs ps) ∧ Ext w w'))
    (HR : Hid (∀ w, Calls Tryd.prog 43 #[str q] w fun e w' => e = .returned (.int .i64 a) ∧ w = w'))
    (hl : l.isEmpty = false) (ht : (t == l) = true)
    (HD : Hid (∀ w, Calls Tryd.prog 80 #[deedV (kdOf p 5) a 0] w fun e w' => e = .returned (str t) ∧ Ext w w')) :
    Calls Tryd.prog 44 #[str l] w (RetRd (some (kdOf p 5, a, 0)) w) := by
  all_goals
    go_enter Tryd.func44, Tryd.ntmps44
    go_wp2_with fail
    refine (HS.out _).mono ?_
    rintro e w1 ⟨v, rfl, hown, h1⟩
    obtain ⟨g, cap, rfl⟩ := Joins.ownsRow_form hown (by omega)
    have e0 := part_cell hown 0 (by omega) _ hp0
    have e1 := part_cell hown 1 (by omega) _ hp1
    have hg := (hown.lt g rfl).2
    have hz1 : w.heap.size < w1.heap.size := Nat.lt_of_lt_of_le (by simp) h1.sz
    have hgw : w.heap.size < g := Nat.lt_of_lt_of_le (by simp) (hown.lt g rfl).1
    obtain ⟨hc1, hf1⟩ := h1.cells
    clear hown
    go_wp2
    go_loopw [6] (fun i wr => ∃ k : Nat, k ≤ 5 ∧ i = .int .i64 k ∧ wr.heap[w1.heap.size]? = some (.cells #[.int .i64 (kdOf p k), .int .i64 0, .int .i64 0] 25 (0, 0)) ∧ (w1.alloc (.cells #[.int .i64 (-1), .int .i64 0, .int .i64 0] 25)).grownBy wr (some w1.heap.size)) (fun i _ => 5 - (intOf i).toNat)
    case atStart => exact ⟨0, by omega, rfl, by rw [heap_alloc_new]; rfl, World.grownBy.refl _ _⟩
    case round =>
      obtain ⟨k, hk, rfl, hB, hgr⟩ := hrel
      have b0 : wr.cell? ⟨w1.heap.size, 0, none⟩ = some (.int .i64 (kdOf p k)) := Joins.cell_of_block hB 0
      have b1 : wr.cell? ⟨w1.heap.size, 1, none⟩ = some (.int .i64 0) := Joins.cell_of_block hB 1
      have b2 : wr.cell? ⟨w1.heap.size, 2, none⟩ = some (.int .i64 0) := Joins.cell_of_block hB 2
      have u0 := Joins.unfrozen_of_block hB 0
      have u1 := Joins.unfrozen_of_block hB 1
      have u2 := Joins.unfrozen_of_block hB 2
      have HG := Lib.hid hgr
      have hBX := Lib.hid hB
      have hsz := hgr.size
      simp only [World.size_alloc] at hsz
      have g0 : wr.cell? ⟨g, 0, none⟩ = some (str p) := hgr.cell (by rw [World.cell?_alloc_past _ _ _ (by simpa using hg)]; exact e0) (by simp; omega)
      have g1 : wr.cell? ⟨g, 1, none⟩ = some (str q) := hgr.cell (by rw [World.cell?_alloc_past _ _ _ (by simpa using hg)]; exact e1) (by simp; omega)
      have r0 : ∀ j, j < 3 → wr.cell? ⟨w.heap.size, j, none⟩ = some (.int .i64 0) := fun j hj => hgr.cell (by rw [World.cell?_alloc_past _ _ _ (by simpa using hz1), hc1 _ _ (by simp)]; rcases (show j = 0 ∨ j = 1 ∨ j = 2 by omega) with rfl | rfl | rfl <;> simp) (by simp; omega)
      have r1 : ∀ j, wr.frozen? ⟨w.heap.size, j, none⟩ = false := fun j => by
        rw [World.frozen?_of_block (w := w1.alloc (.cells #[.int .i64 (-1), .int .i64 0, .int .i64 0] 25)) (hgr.block _ (by simp; omega) (by simp; omega)), World.frozen?_of_block (Below.heap_alloc _ _ _ (by simpa using hz1)), hf1 _ _ (by simp)]; simp
      have r00 := r0 0 (by omega)
      have r01 := r0 1 (by omega)
      have r02 := r0 2 (by omega)
      have r10 := r1 0
      have r11 := r1 1
      have r12 := r1 2
      clear hgr hB r0 r1 hc1 hf1 e0
      by_cases hlt : k < 5
      · by_cases hpk : p = deedName k
        · have hb : (p == deedName (k : Int)) = true := by simp [hpk]
          have HPK := Lib.hid hpk
          clear hpk
          go_wp2
          go_region_held3 (fun w' => w'.cell? ⟨g, 0, none⟩ = some (str p)) (go_keep) ((go_at_call 84; refine (l8Name_any k _ (by omega)).mono ?_; rintro e w2 ⟨rfl, rfl⟩))
          all_goals go_wp2
          all_goals go_roundw
          all_goals first
            | (case rel => exact ⟨k + 1, by omega, by go_num, by rw [kdOf_yes HPK.out]; exact Joins.block_setCell hBX.out _, grown_set (grown_drew HG.out) _ _⟩)
            | (case measure => simp [intOf]; omega)
        · have hb : (p == deedName (k : Int)) = false := by simp [hpk]
          have HPK := Lib.hid hpk
          clear hpk
          go_wp2
          go_region_held3 (fun w' => w'.cell? ⟨g, 0, none⟩ = some (str p)) (go_keep) ((go_at_call 84; refine (l8Name_any k _ (by omega)).mono ?_; rintro e w2 ⟨rfl, rfl⟩))
          all_goals go_wp2
          all_goals go_roundw
          all_goals first
            | (case rel => exact ⟨k + 1, by omega, by go_num, by rw [kdOf_no HPK.out]; exact hBX.out, grown_drew HG.out⟩)
            | (case measure => simp [intOf]; omega)
      · obtain rfl : k = 5 := by omega
        have hEx : Ext w wr := ext_of_grown (h1' h1) HG.out (by omega)
        go_wp2_with fail
        refine (HR.out _).mono ?_
        rintro e w2 ⟨rfl, rfl⟩
        go_wp2_with fail
        refine (HD.out _).mono ?_
        rintro e w2 ⟨rfl, h2⟩
        obtain ⟨hc2, hf2⟩ := h2.cells
        have hz2 : w1.heap.size < w2.heap.size := Nat.lt_of_lt_of_le (by first | omega | (simp; omega)) h2.sz
        have hz3 : w.heap.size < w2.heap.size := Nat.lt_trans hz1 hz2
        have hz4 : w1.heap.size < wr.heap.size := by omega
        have hz5 : w.heap.size < wr.heap.size := by omega
        go_wp2
        exact bodyPost_ret (v := rdV (some (_, a, 0))) (by simp [results, Tryd.results44, go_sem, *]; rfl) rfl ⟨rfl, by (repeat' (first | exact Ext.refl _ | (with_reducible assumption) | (with_reducible refine Ext.alloc ?_ _) | (with_reducible refine Ext.setCell ?_ (by first | exact Nat.le_refl _ | (dsimp only; omega) | (simp; done) | (simp; omega)) _) | (with_reducible refine Ext.drew ?_) | (with_reducible refine Ext.drewN ?_ _) | (refine Ext.trans ?_ (by with_reducible assumption))))⟩

set_option maxRecDepth 100000 in
set_option maxHeartbeats 1000000 in
theorem specRead2_no (l : List UInt8) (w : World) (ps : List (List UInt8)) (n : Nat) (p q t : List UInt8) (a : Int) (hn : n = 2) (hn1 : 1 ≤ n) (hn2 : n ≤ 1099511627777)
    (hp0 : ps[0]? = some p) (hp1 : ps[1]? = some q)
    (HS : Hid (∀ w, Calls Tryd.prog 42 #[str l, .int .u8 32] w fun e w' => ∃ v, e = .returned v ∧ w'.ownsRow w.heap.size 9 1 v n (strs ps) ∧ Ext w w'))
    (HR : Hid (∀ w, Calls Tryd.prog 43 #[str q] w fun e w' => e = .returned (.int .i64 a) ∧ w = w'))
    (hl : l.isEmpty = false) (ht : (t == l) = false)
    (HD : Hid (∀ w, Calls Tryd.prog 80 #[deedV (kdOf p 5) a 0] w fun e w' => e = .returned (str t) ∧ Ext w w')) :
    Calls Tryd.prog 44 #[str l] w (RetRd (none) w) := by
  all_goals
    go_enter Tryd.func44, Tryd.ntmps44
    go_wp2_with fail
    refine (HS.out _).mono ?_
    rintro e w1 ⟨v, rfl, hown, h1⟩
    obtain ⟨g, cap, rfl⟩ := Joins.ownsRow_form hown (by omega)
    have e0 := part_cell hown 0 (by omega) _ hp0
    have e1 := part_cell hown 1 (by omega) _ hp1
    have hg := (hown.lt g rfl).2
    have hz1 : w.heap.size < w1.heap.size := Nat.lt_of_lt_of_le (by simp) h1.sz
    have hgw : w.heap.size < g := Nat.lt_of_lt_of_le (by simp) (hown.lt g rfl).1
    obtain ⟨hc1, hf1⟩ := h1.cells
    clear hown
    go_wp2
    go_loopw [6] (fun i wr => ∃ k : Nat, k ≤ 5 ∧ i = .int .i64 k ∧ wr.heap[w1.heap.size]? = some (.cells #[.int .i64 (kdOf p k), .int .i64 0, .int .i64 0] 25 (0, 0)) ∧ (w1.alloc (.cells #[.int .i64 (-1), .int .i64 0, .int .i64 0] 25)).grownBy wr (some w1.heap.size)) (fun i _ => 5 - (intOf i).toNat)
    case atStart => exact ⟨0, by omega, rfl, by rw [heap_alloc_new]; rfl, World.grownBy.refl _ _⟩
    case round =>
      obtain ⟨k, hk, rfl, hB, hgr⟩ := hrel
      have b0 : wr.cell? ⟨w1.heap.size, 0, none⟩ = some (.int .i64 (kdOf p k)) := Joins.cell_of_block hB 0
      have b1 : wr.cell? ⟨w1.heap.size, 1, none⟩ = some (.int .i64 0) := Joins.cell_of_block hB 1
      have b2 : wr.cell? ⟨w1.heap.size, 2, none⟩ = some (.int .i64 0) := Joins.cell_of_block hB 2
      have u0 := Joins.unfrozen_of_block hB 0
      have u1 := Joins.unfrozen_of_block hB 1
      have u2 := Joins.unfrozen_of_block hB 2
      have HG := Lib.hid hgr
      have hBX := Lib.hid hB
      have hsz := hgr.size
      simp only [World.size_alloc] at hsz
      have g0 : wr.cell? ⟨g, 0, none⟩ = some (str p) := hgr.cell (by rw [World.cell?_alloc_past _ _ _ (by simpa using hg)]; exact e0) (by simp; omega)
      have g1 : wr.cell? ⟨g, 1, none⟩ = some (str q) := hgr.cell (by rw [World.cell?_alloc_past _ _ _ (by simpa using hg)]; exact e1) (by simp; omega)
      have r0 : ∀ j, j < 3 → wr.cell? ⟨w.heap.size, j, none⟩ = some (.int .i64 0) := fun j hj => hgr.cell (by rw [World.cell?_alloc_past _ _ _ (by simpa using hz1), hc1 _ _ (by simp)]; rcases (show j = 0 ∨ j = 1 ∨ j = 2 by omega) with rfl | rfl | rfl <;> simp) (by simp; omega)
      have r1 : ∀ j, wr.frozen? ⟨w.heap.size, j, none⟩ = false := fun j => by
        rw [World.frozen?_of_block (w := w1.alloc (.cells #[.int .i64 (-1), .int .i64 0, .int .i64 0] 25)) (hgr.block _ (by simp; omega) (by simp; omega)), World.frozen?_of_block (Below.heap_alloc _ _ _ (by simpa using hz1)), hf1 _ _ (by simp)]; simp
      have r00 := r0 0 (by omega)
      have r01 := r0 1 (by omega)
      have r02 := r0 2 (by omega)
      have r10 := r1 0
      have r11 := r1 1
      have r12 := r1 2
      clear hgr hB r0 r1 hc1 hf1 e0
      by_cases hlt : k < 5
      · by_cases hpk : p = deedName k
        · have hb : (p == deedName (k : Int)) = true := by simp [hpk]
          have HPK := Lib.hid hpk
          clear hpk
          go_wp2
          go_region_held3 (fun w' => w'.cell? ⟨g, 0, none⟩ = some (str p)) (go_keep) ((go_at_call 84; refine (l8Name_any k _ (by omega)).mono ?_; rintro e w2 ⟨rfl, rfl⟩))
          all_goals go_wp2
          all_goals go_roundw
          all_goals first
            | (case rel => exact ⟨k + 1, by omega, by go_num, by rw [kdOf_yes HPK.out]; exact Joins.block_setCell hBX.out _, grown_set (grown_drew HG.out) _ _⟩)
            | (case measure => simp [intOf]; omega)
        · have hb : (p == deedName (k : Int)) = false := by simp [hpk]
          have HPK := Lib.hid hpk
          clear hpk
          go_wp2
          go_region_held3 (fun w' => w'.cell? ⟨g, 0, none⟩ = some (str p)) (go_keep) ((go_at_call 84; refine (l8Name_any k _ (by omega)).mono ?_; rintro e w2 ⟨rfl, rfl⟩))
          all_goals go_wp2
          all_goals go_roundw
          all_goals first
            | (case rel => exact ⟨k + 1, by omega, by go_num, by rw [kdOf_no HPK.out]; exact hBX.out, grown_drew HG.out⟩)
            | (case measure => simp [intOf]; omega)
      · obtain rfl : k = 5 := by omega
        have hEx : Ext w wr := ext_of_grown (h1' h1) HG.out (by omega)
        go_wp2_with fail
        refine (HR.out _).mono ?_
        rintro e w2 ⟨rfl, rfl⟩
        go_wp2_with fail
        refine (HD.out _).mono ?_
        rintro e w2 ⟨rfl, h2⟩
        obtain ⟨hc2, hf2⟩ := h2.cells
        have hz2 : w1.heap.size < w2.heap.size := Nat.lt_of_lt_of_le (by first | omega | (simp; omega)) h2.sz
        have hz3 : w.heap.size < w2.heap.size := Nat.lt_trans hz1 hz2
        have hz4 : w1.heap.size < wr.heap.size := by omega
        have hz5 : w.heap.size < wr.heap.size := by omega
        go_wp2
        exact bodyPost_ret (v := rdV none) (by simp [results, Tryd.results44, go_sem, *]; rfl) rfl ⟨rfl, by (repeat' (first | exact Ext.refl _ | (with_reducible assumption) | (with_reducible refine Ext.alloc ?_ _) | (with_reducible refine Ext.setCell ?_ (by first | exact Nat.le_refl _ | (dsimp only; omega) | (simp; done) | (simp; omega)) _) | (with_reducible refine Ext.drew ?_) | (with_reducible refine Ext.drewN ?_ _) | (refine Ext.trans ?_ (by with_reducible assumption))))⟩

set_option maxRecDepth 100000 in
set_option maxHeartbeats 1000000 in
theorem specRead2_emp (l : List UInt8) (w : World) (ps : List (List UInt8)) (n : Nat) (p q t : List UInt8) (a : Int) (hn : n = 2) (hn1 : 1 ≤ n) (hn2 : n ≤ 1099511627777)
    (hp0 : ps[0]? = some p) (hp1 : ps[1]? = some q)
    (HS : Hid (∀ w, Calls Tryd.prog 42 #[str l, .int .u8 32] w fun e w' => ∃ v, e = .returned v ∧ w'.ownsRow w.heap.size 9 1 v n (strs ps) ∧ Ext w w'))
    (HR : Hid (∀ w, Calls Tryd.prog 43 #[str q] w fun e w' => e = .returned (.int .i64 a) ∧ w = w'))
    (hl : l.isEmpty = true)
    (HD : Hid (∀ w, Calls Tryd.prog 80 #[deedV (kdOf p 5) a 0] w fun e w' => e = .returned (str t) ∧ Ext w w')) :
    Calls Tryd.prog 44 #[str l] w (RetRd (none) w) := by
  all_goals
    go_enter Tryd.func44, Tryd.ntmps44
    go_wp2_with fail
    refine (HS.out _).mono ?_
    rintro e w1 ⟨v, rfl, hown, h1⟩
    obtain ⟨g, cap, rfl⟩ := Joins.ownsRow_form hown (by omega)
    have e0 := part_cell hown 0 (by omega) _ hp0
    have e1 := part_cell hown 1 (by omega) _ hp1
    have hg := (hown.lt g rfl).2
    have hz1 : w.heap.size < w1.heap.size := Nat.lt_of_lt_of_le (by simp) h1.sz
    have hgw : w.heap.size < g := Nat.lt_of_lt_of_le (by simp) (hown.lt g rfl).1
    obtain ⟨hc1, hf1⟩ := h1.cells
    clear hown
    go_wp2
    go_loopw [6] (fun i wr => ∃ k : Nat, k ≤ 5 ∧ i = .int .i64 k ∧ wr.heap[w1.heap.size]? = some (.cells #[.int .i64 (kdOf p k), .int .i64 0, .int .i64 0] 25 (0, 0)) ∧ (w1.alloc (.cells #[.int .i64 (-1), .int .i64 0, .int .i64 0] 25)).grownBy wr (some w1.heap.size)) (fun i _ => 5 - (intOf i).toNat)
    case atStart => exact ⟨0, by omega, rfl, by rw [heap_alloc_new]; rfl, World.grownBy.refl _ _⟩
    case round =>
      obtain ⟨k, hk, rfl, hB, hgr⟩ := hrel
      have b0 : wr.cell? ⟨w1.heap.size, 0, none⟩ = some (.int .i64 (kdOf p k)) := Joins.cell_of_block hB 0
      have b1 : wr.cell? ⟨w1.heap.size, 1, none⟩ = some (.int .i64 0) := Joins.cell_of_block hB 1
      have b2 : wr.cell? ⟨w1.heap.size, 2, none⟩ = some (.int .i64 0) := Joins.cell_of_block hB 2
      have u0 := Joins.unfrozen_of_block hB 0
      have u1 := Joins.unfrozen_of_block hB 1
      have u2 := Joins.unfrozen_of_block hB 2
      have HG := Lib.hid hgr
      have hBX := Lib.hid hB
      have hsz := hgr.size
      simp only [World.size_alloc] at hsz
      have g0 : wr.cell? ⟨g, 0, none⟩ = some (str p) := hgr.cell (by rw [World.cell?_alloc_past _ _ _ (by simpa using hg)]; exact e0) (by simp; omega)
      have g1 : wr.cell? ⟨g, 1, none⟩ = some (str q) := hgr.cell (by rw [World.cell?_alloc_past _ _ _ (by simpa using hg)]; exact e1) (by simp; omega)
      have r0 : ∀ j, j < 3 → wr.cell? ⟨w.heap.size, j, none⟩ = some (.int .i64 0) := fun j hj => hgr.cell (by rw [World.cell?_alloc_past _ _ _ (by simpa using hz1), hc1 _ _ (by simp)]; rcases (show j = 0 ∨ j = 1 ∨ j = 2 by omega) with rfl | rfl | rfl <;> simp) (by simp; omega)
      have r1 : ∀ j, wr.frozen? ⟨w.heap.size, j, none⟩ = false := fun j => by
        rw [World.frozen?_of_block (w := w1.alloc (.cells #[.int .i64 (-1), .int .i64 0, .int .i64 0] 25)) (hgr.block _ (by simp; omega) (by simp; omega)), World.frozen?_of_block (Below.heap_alloc _ _ _ (by simpa using hz1)), hf1 _ _ (by simp)]; simp
      have r00 := r0 0 (by omega)
      have r01 := r0 1 (by omega)
      have r02 := r0 2 (by omega)
      have r10 := r1 0
      have r11 := r1 1
      have r12 := r1 2
      clear hgr hB r0 r1 hc1 hf1 e0
      by_cases hlt : k < 5
      · by_cases hpk : p = deedName k
        · have hb : (p == deedName (k : Int)) = true := by simp [hpk]
          have HPK := Lib.hid hpk
          clear hpk
          go_wp2
          go_region_held3 (fun w' => w'.cell? ⟨g, 0, none⟩ = some (str p)) (go_keep) ((go_at_call 84; refine (l8Name_any k _ (by omega)).mono ?_; rintro e w2 ⟨rfl, rfl⟩))
          all_goals go_wp2
          all_goals go_roundw
          all_goals first
            | (case rel => exact ⟨k + 1, by omega, by go_num, by rw [kdOf_yes HPK.out]; exact Joins.block_setCell hBX.out _, grown_set (grown_drew HG.out) _ _⟩)
            | (case measure => simp [intOf]; omega)
        · have hb : (p == deedName (k : Int)) = false := by simp [hpk]
          have HPK := Lib.hid hpk
          clear hpk
          go_wp2
          go_region_held3 (fun w' => w'.cell? ⟨g, 0, none⟩ = some (str p)) (go_keep) ((go_at_call 84; refine (l8Name_any k _ (by omega)).mono ?_; rintro e w2 ⟨rfl, rfl⟩))
          all_goals go_wp2
          all_goals go_roundw
          all_goals first
            | (case rel => exact ⟨k + 1, by omega, by go_num, by rw [kdOf_no HPK.out]; exact hBX.out, grown_drew HG.out⟩)
            | (case measure => simp [intOf]; omega)
      · obtain rfl : k = 5 := by omega
        have hEx : Ext w wr := ext_of_grown (h1' h1) HG.out (by omega)
        go_wp2_with fail
        refine (HR.out _).mono ?_
        rintro e w2 ⟨rfl, rfl⟩
        go_wp2
        exact bodyPost_ret (v := rdV none) (by simp [results, Tryd.results44, go_sem, *]; rfl) rfl ⟨rfl, by (repeat' (first | exact Ext.refl _ | (with_reducible assumption) | (with_reducible refine Ext.alloc ?_ _) | (with_reducible refine Ext.setCell ?_ (by first | exact Nat.le_refl _ | (dsimp only; omega) | (simp; done) | (simp; omega)) _) | (with_reducible refine Ext.drew ?_) | (with_reducible refine Ext.drewN ?_ _) | (refine Ext.trans ?_ (by with_reducible assumption))))⟩

set_option maxRecDepth 100000 in
set_option maxHeartbeats 1000000 in
theorem specRead3_ok (l : List UInt8) (w : World) (ps : List (List UInt8)) (n : Nat) (p q r t : List UInt8) (a b : Int) (hn : 3 ≤ n) (hn1 : 1 ≤ n) (hn2 : n ≤ 1099511627777)
    (hp0 : ps[0]? = some p) (hp1 : ps[1]? = some q) (hp2 : ps[2]? = some r)
    (HS : Hid (∀ w, Calls Tryd.prog 42 #[str l, .int .u8 32] w fun e w' => ∃ v, e = .returned v ∧ w'.ownsRow w.heap.size 9 1 v n (strs ps) ∧ Ext w w'))
    (HR : Hid (∀ w, Calls Tryd.prog 43 #[str q] w fun e w' => e = .returned (.int .i64 a) ∧ w = w'))
    (HR2 : Hid (∀ w, Calls Tryd.prog 43 #[str r] w fun e w' => e = .returned (.int .i64 b) ∧ w = w'))
    (hl : l.isEmpty = false) (ht : (t == l) = true)
    (HD : Hid (∀ w, Calls Tryd.prog 80 #[deedV (kdOf p 5) a b] w fun e w' => e = .returned (str t) ∧ Ext w w')) :
    Calls Tryd.prog 44 #[str l] w (RetRd (some (kdOf p 5, a, b)) w) := by
  all_goals
    go_enter Tryd.func44, Tryd.ntmps44
    go_wp2_with fail
    refine (HS.out _).mono ?_
    rintro e w1 ⟨v, rfl, hown, h1⟩
    obtain ⟨g, cap, rfl⟩ := Joins.ownsRow_form hown (by omega)
    have hnI : (0 : Int) < (n : Int) := by omega
    have hnN : 0 < n := by omega
    have e0 := part_cell hown 0 (by omega) _ hp0
    have e1 := part_cell hown 1 (by omega) _ hp1
    have e2 := part_cell hown 2 (by omega) _ hp2
    have hg := (hown.lt g rfl).2
    have hz1 : w.heap.size < w1.heap.size := Nat.lt_of_lt_of_le (by simp) h1.sz
    have hgw : w.heap.size < g := Nat.lt_of_lt_of_le (by simp) (hown.lt g rfl).1
    obtain ⟨hc1, hf1⟩ := h1.cells
    clear hown
    go_wp2
    go_loopw [6] (fun i wr => ∃ k : Nat, k ≤ 5 ∧ i = .int .i64 k ∧ wr.heap[w1.heap.size]? = some (.cells #[.int .i64 (kdOf p k), .int .i64 0, .int .i64 0] 25 (0, 0)) ∧ (w1.alloc (.cells #[.int .i64 (-1), .int .i64 0, .int .i64 0] 25)).grownBy wr (some w1.heap.size)) (fun i _ => 5 - (intOf i).toNat)
    case atStart => exact ⟨0, by omega, rfl, by rw [heap_alloc_new]; rfl, World.grownBy.refl _ _⟩
    case round =>
      obtain ⟨k, hk, rfl, hB, hgr⟩ := hrel
      have b0 : wr.cell? ⟨w1.heap.size, 0, none⟩ = some (.int .i64 (kdOf p k)) := Joins.cell_of_block hB 0
      have b1 : wr.cell? ⟨w1.heap.size, 1, none⟩ = some (.int .i64 0) := Joins.cell_of_block hB 1
      have b2 : wr.cell? ⟨w1.heap.size, 2, none⟩ = some (.int .i64 0) := Joins.cell_of_block hB 2
      have u0 := Joins.unfrozen_of_block hB 0
      have u1 := Joins.unfrozen_of_block hB 1
      have u2 := Joins.unfrozen_of_block hB 2
      have HG := Lib.hid hgr
      have hBX := Lib.hid hB
      have hsz := hgr.size
      simp only [World.size_alloc] at hsz
      have g0 : wr.cell? ⟨g, 0, none⟩ = some (str p) := hgr.cell (by rw [World.cell?_alloc_past _ _ _ (by simpa using hg)]; exact e0) (by simp; omega)
      have g1 : wr.cell? ⟨g, 1, none⟩ = some (str q) := hgr.cell (by rw [World.cell?_alloc_past _ _ _ (by simpa using hg)]; exact e1) (by simp; omega)
      have g2 : wr.cell? ⟨g, 2, none⟩ = some (str r) := hgr.cell (by rw [World.cell?_alloc_past _ _ _ (by simpa using hg)]; exact e2) (by simp; omega)
      have r0 : ∀ j, j < 3 → wr.cell? ⟨w.heap.size, j, none⟩ = some (.int .i64 0) := fun j hj => hgr.cell (by rw [World.cell?_alloc_past _ _ _ (by simpa using hz1), hc1 _ _ (by simp)]; rcases (show j = 0 ∨ j = 1 ∨ j = 2 by omega) with rfl | rfl | rfl <;> simp) (by simp; omega)
      have r1 : ∀ j, wr.frozen? ⟨w.heap.size, j, none⟩ = false := fun j => by
        rw [World.frozen?_of_block (w := w1.alloc (.cells #[.int .i64 (-1), .int .i64 0, .int .i64 0] 25)) (hgr.block _ (by simp; omega) (by simp; omega)), World.frozen?_of_block (Below.heap_alloc _ _ _ (by simpa using hz1)), hf1 _ _ (by simp)]; simp
      have r00 := r0 0 (by omega)
      have r01 := r0 1 (by omega)
      have r02 := r0 2 (by omega)
      have r10 := r1 0
      have r11 := r1 1
      have r12 := r1 2
      clear hgr hB r0 r1 hc1 hf1 e0
      by_cases hlt : k < 5
      · by_cases hpk : p = deedName k
        · have hb : (p == deedName (k : Int)) = true := by simp [hpk]
          have HPK := Lib.hid hpk
          clear hpk
          go_wp2
          go_region_held3 (fun w' => w'.cell? ⟨g, 0, none⟩ = some (str p)) (go_keep) ((go_at_call 84; refine (l8Name_any k _ (by omega)).mono ?_; rintro e w2 ⟨rfl, rfl⟩))
          all_goals go_wp2
          all_goals go_roundw
          all_goals first
            | (case rel => exact ⟨k + 1, by omega, by go_num, by rw [kdOf_yes HPK.out]; exact Joins.block_setCell hBX.out _, grown_set (grown_drew HG.out) _ _⟩)
            | (case measure => simp [intOf]; omega)
        · have hb : (p == deedName (k : Int)) = false := by simp [hpk]
          have HPK := Lib.hid hpk
          clear hpk
          go_wp2
          go_region_held3 (fun w' => w'.cell? ⟨g, 0, none⟩ = some (str p)) (go_keep) ((go_at_call 84; refine (l8Name_any k _ (by omega)).mono ?_; rintro e w2 ⟨rfl, rfl⟩))
          all_goals go_wp2
          all_goals go_roundw
          all_goals first
            | (case rel => exact ⟨k + 1, by omega, by go_num, by rw [kdOf_no HPK.out]; exact hBX.out, grown_drew HG.out⟩)
            | (case measure => simp [intOf]; omega)
      · obtain rfl : k = 5 := by omega
        have hEx : Ext w wr := ext_of_grown (h1' h1) HG.out (by omega)
        go_wp2_with fail
        refine (HR.out _).mono ?_
        rintro e w2 ⟨rfl, rfl⟩
        go_wp2_with fail
        refine (HR2.out _).mono ?_
        rintro e w2 ⟨rfl, rfl⟩
        go_wp2_with fail
        refine (HD.out _).mono ?_
        rintro e w2 ⟨rfl, h2⟩
        obtain ⟨hc2, hf2⟩ := h2.cells
        have hz2 : w1.heap.size < w2.heap.size := Nat.lt_of_lt_of_le (by first | omega | (simp; omega)) h2.sz
        have hz3 : w.heap.size < w2.heap.size := Nat.lt_trans hz1 hz2
        have hz4 : w1.heap.size < wr.heap.size := by omega
        have hz5 : w.heap.size < wr.heap.size := by omega
        go_wp2
        exact bodyPost_ret (v := rdV (some (_, a, b))) (by simp [results, Tryd.results44, go_sem, *]; rfl) rfl ⟨rfl, by (repeat' (first | exact Ext.refl _ | (with_reducible assumption) | (with_reducible refine Ext.alloc ?_ _) | (with_reducible refine Ext.setCell ?_ (by first | exact Nat.le_refl _ | (dsimp only; omega) | (simp; done) | (simp; omega)) _) | (with_reducible refine Ext.drew ?_) | (with_reducible refine Ext.drewN ?_ _) | (refine Ext.trans ?_ (by with_reducible assumption))))⟩

set_option maxRecDepth 100000 in
set_option maxHeartbeats 1000000 in
theorem specRead3_no (l : List UInt8) (w : World) (ps : List (List UInt8)) (n : Nat) (p q r t : List UInt8) (a b : Int) (hn : 3 ≤ n) (hn1 : 1 ≤ n) (hn2 : n ≤ 1099511627777)
    (hp0 : ps[0]? = some p) (hp1 : ps[1]? = some q) (hp2 : ps[2]? = some r)
    (HS : Hid (∀ w, Calls Tryd.prog 42 #[str l, .int .u8 32] w fun e w' => ∃ v, e = .returned v ∧ w'.ownsRow w.heap.size 9 1 v n (strs ps) ∧ Ext w w'))
    (HR : Hid (∀ w, Calls Tryd.prog 43 #[str q] w fun e w' => e = .returned (.int .i64 a) ∧ w = w'))
    (HR2 : Hid (∀ w, Calls Tryd.prog 43 #[str r] w fun e w' => e = .returned (.int .i64 b) ∧ w = w'))
    (hl : l.isEmpty = false) (ht : (t == l) = false)
    (HD : Hid (∀ w, Calls Tryd.prog 80 #[deedV (kdOf p 5) a b] w fun e w' => e = .returned (str t) ∧ Ext w w')) :
    Calls Tryd.prog 44 #[str l] w (RetRd (none) w) := by
  all_goals
    go_enter Tryd.func44, Tryd.ntmps44
    go_wp2_with fail
    refine (HS.out _).mono ?_
    rintro e w1 ⟨v, rfl, hown, h1⟩
    obtain ⟨g, cap, rfl⟩ := Joins.ownsRow_form hown (by omega)
    have hnI : (0 : Int) < (n : Int) := by omega
    have hnN : 0 < n := by omega
    have e0 := part_cell hown 0 (by omega) _ hp0
    have e1 := part_cell hown 1 (by omega) _ hp1
    have e2 := part_cell hown 2 (by omega) _ hp2
    have hg := (hown.lt g rfl).2
    have hz1 : w.heap.size < w1.heap.size := Nat.lt_of_lt_of_le (by simp) h1.sz
    have hgw : w.heap.size < g := Nat.lt_of_lt_of_le (by simp) (hown.lt g rfl).1
    obtain ⟨hc1, hf1⟩ := h1.cells
    clear hown
    go_wp2
    go_loopw [6] (fun i wr => ∃ k : Nat, k ≤ 5 ∧ i = .int .i64 k ∧ wr.heap[w1.heap.size]? = some (.cells #[.int .i64 (kdOf p k), .int .i64 0, .int .i64 0] 25 (0, 0)) ∧ (w1.alloc (.cells #[.int .i64 (-1), .int .i64 0, .int .i64 0] 25)).grownBy wr (some w1.heap.size)) (fun i _ => 5 - (intOf i).toNat)
    case atStart => exact ⟨0, by omega, rfl, by rw [heap_alloc_new]; rfl, World.grownBy.refl _ _⟩
    case round =>
      obtain ⟨k, hk, rfl, hB, hgr⟩ := hrel
      have b0 : wr.cell? ⟨w1.heap.size, 0, none⟩ = some (.int .i64 (kdOf p k)) := Joins.cell_of_block hB 0
      have b1 : wr.cell? ⟨w1.heap.size, 1, none⟩ = some (.int .i64 0) := Joins.cell_of_block hB 1
      have b2 : wr.cell? ⟨w1.heap.size, 2, none⟩ = some (.int .i64 0) := Joins.cell_of_block hB 2
      have u0 := Joins.unfrozen_of_block hB 0
      have u1 := Joins.unfrozen_of_block hB 1
      have u2 := Joins.unfrozen_of_block hB 2
      have HG := Lib.hid hgr
      have hBX := Lib.hid hB
      have hsz := hgr.size
      simp only [World.size_alloc] at hsz
      have g0 : wr.cell? ⟨g, 0, none⟩ = some (str p) := hgr.cell (by rw [World.cell?_alloc_past _ _ _ (by simpa using hg)]; exact e0) (by simp; omega)
      have g1 : wr.cell? ⟨g, 1, none⟩ = some (str q) := hgr.cell (by rw [World.cell?_alloc_past _ _ _ (by simpa using hg)]; exact e1) (by simp; omega)
      have g2 : wr.cell? ⟨g, 2, none⟩ = some (str r) := hgr.cell (by rw [World.cell?_alloc_past _ _ _ (by simpa using hg)]; exact e2) (by simp; omega)
      have r0 : ∀ j, j < 3 → wr.cell? ⟨w.heap.size, j, none⟩ = some (.int .i64 0) := fun j hj => hgr.cell (by rw [World.cell?_alloc_past _ _ _ (by simpa using hz1), hc1 _ _ (by simp)]; rcases (show j = 0 ∨ j = 1 ∨ j = 2 by omega) with rfl | rfl | rfl <;> simp) (by simp; omega)
      have r1 : ∀ j, wr.frozen? ⟨w.heap.size, j, none⟩ = false := fun j => by
        rw [World.frozen?_of_block (w := w1.alloc (.cells #[.int .i64 (-1), .int .i64 0, .int .i64 0] 25)) (hgr.block _ (by simp; omega) (by simp; omega)), World.frozen?_of_block (Below.heap_alloc _ _ _ (by simpa using hz1)), hf1 _ _ (by simp)]; simp
      have r00 := r0 0 (by omega)
      have r01 := r0 1 (by omega)
      have r02 := r0 2 (by omega)
      have r10 := r1 0
      have r11 := r1 1
      have r12 := r1 2
      clear hgr hB r0 r1 hc1 hf1 e0
      by_cases hlt : k < 5
      · by_cases hpk : p = deedName k
        · have hb : (p == deedName (k : Int)) = true := by simp [hpk]
          have HPK := Lib.hid hpk
          clear hpk
          go_wp2
          go_region_held3 (fun w' => w'.cell? ⟨g, 0, none⟩ = some (str p)) (go_keep) ((go_at_call 84; refine (l8Name_any k _ (by omega)).mono ?_; rintro e w2 ⟨rfl, rfl⟩))
          all_goals go_wp2
          all_goals go_roundw
          all_goals first
            | (case rel => exact ⟨k + 1, by omega, by go_num, by rw [kdOf_yes HPK.out]; exact Joins.block_setCell hBX.out _, grown_set (grown_drew HG.out) _ _⟩)
            | (case measure => simp [intOf]; omega)
        · have hb : (p == deedName (k : Int)) = false := by simp [hpk]
          have HPK := Lib.hid hpk
          clear hpk
          go_wp2
          go_region_held3 (fun w' => w'.cell? ⟨g, 0, none⟩ = some (str p)) (go_keep) ((go_at_call 84; refine (l8Name_any k _ (by omega)).mono ?_; rintro e w2 ⟨rfl, rfl⟩))
          all_goals go_wp2
          all_goals go_roundw
          all_goals first
            | (case rel => exact ⟨k + 1, by omega, by go_num, by rw [kdOf_no HPK.out]; exact hBX.out, grown_drew HG.out⟩)
            | (case measure => simp [intOf]; omega)
      · obtain rfl : k = 5 := by omega
        have hEx : Ext w wr := ext_of_grown (h1' h1) HG.out (by omega)
        go_wp2_with fail
        refine (HR.out _).mono ?_
        rintro e w2 ⟨rfl, rfl⟩
        go_wp2_with fail
        refine (HR2.out _).mono ?_
        rintro e w2 ⟨rfl, rfl⟩
        go_wp2_with fail
        refine (HD.out _).mono ?_
        rintro e w2 ⟨rfl, h2⟩
        obtain ⟨hc2, hf2⟩ := h2.cells
        have hz2 : w1.heap.size < w2.heap.size := Nat.lt_of_lt_of_le (by first | omega | (simp; omega)) h2.sz
        have hz3 : w.heap.size < w2.heap.size := Nat.lt_trans hz1 hz2
        have hz4 : w1.heap.size < wr.heap.size := by omega
        have hz5 : w.heap.size < wr.heap.size := by omega
        go_wp2
        exact bodyPost_ret (v := rdV none) (by simp [results, Tryd.results44, go_sem, *]; rfl) rfl ⟨rfl, by (repeat' (first | exact Ext.refl _ | (with_reducible assumption) | (with_reducible refine Ext.alloc ?_ _) | (with_reducible refine Ext.setCell ?_ (by first | exact Nat.le_refl _ | (dsimp only; omega) | (simp; done) | (simp; omega)) _) | (with_reducible refine Ext.drew ?_) | (with_reducible refine Ext.drewN ?_ _) | (refine Ext.trans ?_ (by with_reducible assumption))))⟩

set_option maxRecDepth 100000 in
set_option maxHeartbeats 1000000 in
theorem specRead3_emp (l : List UInt8) (w : World) (ps : List (List UInt8)) (n : Nat) (p q r t : List UInt8) (a b : Int) (hn : 3 ≤ n) (hn1 : 1 ≤ n) (hn2 : n ≤ 1099511627777)
    (hp0 : ps[0]? = some p) (hp1 : ps[1]? = some q) (hp2 : ps[2]? = some r)
    (HS : Hid (∀ w, Calls Tryd.prog 42 #[str l, .int .u8 32] w fun e w' => ∃ v, e = .returned v ∧ w'.ownsRow w.heap.size 9 1 v n (strs ps) ∧ Ext w w'))
    (HR : Hid (∀ w, Calls Tryd.prog 43 #[str q] w fun e w' => e = .returned (.int .i64 a) ∧ w = w'))
    (HR2 : Hid (∀ w, Calls Tryd.prog 43 #[str r] w fun e w' => e = .returned (.int .i64 b) ∧ w = w'))
    (hl : l.isEmpty = true)
    (HD : Hid (∀ w, Calls Tryd.prog 80 #[deedV (kdOf p 5) a b] w fun e w' => e = .returned (str t) ∧ Ext w w')) :
    Calls Tryd.prog 44 #[str l] w (RetRd (none) w) := by
  all_goals
    go_enter Tryd.func44, Tryd.ntmps44
    go_wp2_with fail
    refine (HS.out _).mono ?_
    rintro e w1 ⟨v, rfl, hown, h1⟩
    obtain ⟨g, cap, rfl⟩ := Joins.ownsRow_form hown (by omega)
    have hnI : (0 : Int) < (n : Int) := by omega
    have hnN : 0 < n := by omega
    have e0 := part_cell hown 0 (by omega) _ hp0
    have e1 := part_cell hown 1 (by omega) _ hp1
    have e2 := part_cell hown 2 (by omega) _ hp2
    have hg := (hown.lt g rfl).2
    have hz1 : w.heap.size < w1.heap.size := Nat.lt_of_lt_of_le (by simp) h1.sz
    have hgw : w.heap.size < g := Nat.lt_of_lt_of_le (by simp) (hown.lt g rfl).1
    obtain ⟨hc1, hf1⟩ := h1.cells
    clear hown
    go_wp2
    go_loopw [6] (fun i wr => ∃ k : Nat, k ≤ 5 ∧ i = .int .i64 k ∧ wr.heap[w1.heap.size]? = some (.cells #[.int .i64 (kdOf p k), .int .i64 0, .int .i64 0] 25 (0, 0)) ∧ (w1.alloc (.cells #[.int .i64 (-1), .int .i64 0, .int .i64 0] 25)).grownBy wr (some w1.heap.size)) (fun i _ => 5 - (intOf i).toNat)
    case atStart => exact ⟨0, by omega, rfl, by rw [heap_alloc_new]; rfl, World.grownBy.refl _ _⟩
    case round =>
      obtain ⟨k, hk, rfl, hB, hgr⟩ := hrel
      have b0 : wr.cell? ⟨w1.heap.size, 0, none⟩ = some (.int .i64 (kdOf p k)) := Joins.cell_of_block hB 0
      have b1 : wr.cell? ⟨w1.heap.size, 1, none⟩ = some (.int .i64 0) := Joins.cell_of_block hB 1
      have b2 : wr.cell? ⟨w1.heap.size, 2, none⟩ = some (.int .i64 0) := Joins.cell_of_block hB 2
      have u0 := Joins.unfrozen_of_block hB 0
      have u1 := Joins.unfrozen_of_block hB 1
      have u2 := Joins.unfrozen_of_block hB 2
      have HG := Lib.hid hgr
      have hBX := Lib.hid hB
      have hsz := hgr.size
      simp only [World.size_alloc] at hsz
      have g0 : wr.cell? ⟨g, 0, none⟩ = some (str p) := hgr.cell (by rw [World.cell?_alloc_past _ _ _ (by simpa using hg)]; exact e0) (by simp; omega)
      have g1 : wr.cell? ⟨g, 1, none⟩ = some (str q) := hgr.cell (by rw [World.cell?_alloc_past _ _ _ (by simpa using hg)]; exact e1) (by simp; omega)
      have g2 : wr.cell? ⟨g, 2, none⟩ = some (str r) := hgr.cell (by rw [World.cell?_alloc_past _ _ _ (by simpa using hg)]; exact e2) (by simp; omega)
      have r0 : ∀ j, j < 3 → wr.cell? ⟨w.heap.size, j, none⟩ = some (.int .i64 0) := fun j hj => hgr.cell (by rw [World.cell?_alloc_past _ _ _ (by simpa using hz1), hc1 _ _ (by simp)]; rcases (show j = 0 ∨ j = 1 ∨ j = 2 by omega) with rfl | rfl | rfl <;> simp) (by simp; omega)
      have r1 : ∀ j, wr.frozen? ⟨w.heap.size, j, none⟩ = false := fun j => by
        rw [World.frozen?_of_block (w := w1.alloc (.cells #[.int .i64 (-1), .int .i64 0, .int .i64 0] 25)) (hgr.block _ (by simp; omega) (by simp; omega)), World.frozen?_of_block (Below.heap_alloc _ _ _ (by simpa using hz1)), hf1 _ _ (by simp)]; simp
      have r00 := r0 0 (by omega)
      have r01 := r0 1 (by omega)
      have r02 := r0 2 (by omega)
      have r10 := r1 0
      have r11 := r1 1
      have r12 := r1 2
      clear hgr hB r0 r1 hc1 hf1 e0
      by_cases hlt : k < 5
      · by_cases hpk : p = deedName k
        · have hb : (p == deedName (k : Int)) = true := by simp [hpk]
          have HPK := Lib.hid hpk
          clear hpk
          go_wp2
          go_region_held3 (fun w' => w'.cell? ⟨g, 0, none⟩ = some (str p)) (go_keep) ((go_at_call 84; refine (l8Name_any k _ (by omega)).mono ?_; rintro e w2 ⟨rfl, rfl⟩))
          all_goals go_wp2
          all_goals go_roundw
          all_goals first
            | (case rel => exact ⟨k + 1, by omega, by go_num, by rw [kdOf_yes HPK.out]; exact Joins.block_setCell hBX.out _, grown_set (grown_drew HG.out) _ _⟩)
            | (case measure => simp [intOf]; omega)
        · have hb : (p == deedName (k : Int)) = false := by simp [hpk]
          have HPK := Lib.hid hpk
          clear hpk
          go_wp2
          go_region_held3 (fun w' => w'.cell? ⟨g, 0, none⟩ = some (str p)) (go_keep) ((go_at_call 84; refine (l8Name_any k _ (by omega)).mono ?_; rintro e w2 ⟨rfl, rfl⟩))
          all_goals go_wp2
          all_goals go_roundw
          all_goals first
            | (case rel => exact ⟨k + 1, by omega, by go_num, by rw [kdOf_no HPK.out]; exact hBX.out, grown_drew HG.out⟩)
            | (case measure => simp [intOf]; omega)
      · obtain rfl : k = 5 := by omega
        have hEx : Ext w wr := ext_of_grown (h1' h1) HG.out (by omega)
        go_wp2_with fail
        refine (HR.out _).mono ?_
        rintro e w2 ⟨rfl, rfl⟩
        go_wp2_with fail
        refine (HR2.out _).mono ?_
        rintro e w2 ⟨rfl, rfl⟩
        go_wp2
        exact bodyPost_ret (v := rdV none) (by simp [results, Tryd.results44, go_sem, *]; rfl) rfl ⟨rfl, by (repeat' (first | exact Ext.refl _ | (with_reducible assumption) | (with_reducible refine Ext.alloc ?_ _) | (with_reducible refine Ext.setCell ?_ (by first | exact Nat.le_refl _ | (dsimp only; omega) | (simp; done) | (simp; omega)) _) | (with_reducible refine Ext.drew ?_) | (with_reducible refine Ext.drewN ?_ _) | (refine Ext.trans ?_ (by with_reducible assumption))))⟩

end Go.Proofs.YtncfnlocdlhagaaDoor
