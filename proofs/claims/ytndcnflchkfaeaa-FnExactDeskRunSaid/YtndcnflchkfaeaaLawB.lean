/-
  The laws' helpers on bookings: to, sz, eq, marks. Conditions: slices read as lists of at most 2^40 elements.
-/
import Derived.Test.YtndcnflchkfaeaaBk1
import Derived.Test.YtndcnflchkfaeaaLawH
import Derived.Test.YtndcnflchkfaeaaMarks
import Derived.Test.YtndcnflchkfaeaaChg
namespace Go.Proofs.Ytndcnflchkfaeaa
open Go.RowKit
set_option linter.unusedVariables false
set_option linter.unusedSimpArgs false

set_option maxRecDepth 100000 in
set_option maxHeartbeats 1000000 in
theorem szBookS_any (p : Option Addr) (n cap : Nat) (left : Int) (w : World) (hn : n ≤ 9223372036854775807) (hl : 0 ≤ left) (hl2 : left ≤ 1048576) :
    Calls Try.prog 17 #[.slice p n cap, .int .i64 left] w fun e w' => e = .returned (.int .i64 (if left < n then -1 else left - n)) ∧ w = w' := by
  by_cases h : left < n
  · rw [if_pos h]
    go_enter Try.func17, Try.ntmps17
    go_wp2
    go_ret
    exact ⟨rfl, rfl⟩
  · rw [if_neg h]
    go_enter Try.func17, Try.ntmps17
    go_wp2
    go_ret
    exact ⟨rfl, rfl⟩
set_option maxRecDepth 100000 in
set_option maxHeartbeats 1000000 in
theorem toBook_any (a b c d : Int) (w : World) : Calls Try.prog 43 #[visitV a b c d] w fun e w' => e = .returned (visitV a b c d) ∧ Ext w w' := by
  go_enter Try.func43, Try.ntmps43
  go_wp2
  exact bodyPost_ret (v := visitV a b c d) (by simp [results, Try.results43, go_sem]) rfl ⟨rfl, by (repeat' (first | exact Ext.refl _ | (with_reducible assumption) | (with_reducible refine Ext.alloc ?_ _) | (with_reducible refine Ext.setCell ?_ (by first | exact Nat.le_refl _ | (dsimp only; omega) | (simp; done) | (simp; omega)) _) | (with_reducible refine Ext.drew ?_) | (with_reducible refine Ext.drewN ?_ _) | (refine Ext.trans ?_ (by with_reducible assumption))))⟩
set_option maxRecDepth 100000 in
set_option maxHeartbeats 1000000 in
theorem eqBook_any (a b c d : Int) (w : World) : Calls Try.prog 50 #[visitV a b c d, visitV a b c d] w fun e w' => e = .returned (.bool true) ∧ Ext w w' := by
  go_enter Try.func50, Try.ntmps50
  go_wp2
  go_ret
  exact ⟨rfl, by (repeat' (first | exact Ext.refl _ | (with_reducible assumption) | (with_reducible refine Ext.alloc ?_ _) | (with_reducible refine Ext.setCell ?_ (by first | exact Nat.le_refl _ | (dsimp only; omega) | (simp; done) | (simp; omega)) _) | (with_reducible refine Ext.drew ?_) | (with_reducible refine Ext.drewN ?_ _) | (refine Ext.trans ?_ (by with_reducible assumption))))⟩
/-- visits in a slice of the call's own -/
def RetBooks (vs : List Visit4) (w : World) (e : Ending) (w' : World) : Prop :=
  ∃ p cap, e = .returned (.slice p vs.length cap) ∧ w'.ownsRow w.heap.size TBk 4 (.slice p vs.length cap) vs.length (vs.flatMap visitCells) ∧ Ext w w'
theorem ret_books {p : Option Addr} {n cap : Nat} {vs : List Visit4} {w w' : World} (hn : vs.length = n) (ho : w'.ownsRow w.heap.size TBk 4 (.slice p n cap) n (vs.flatMap visitCells)) (hx : Ext w w') : RetBooks vs w (.returned (.slice p n cap)) w' := by
  subst hn; exact ⟨p, cap, rfl, ho, hx⟩
set_option maxRecDepth 100000 in
set_option maxHeartbeats 1000000 in
theorem toBookS_any (p : Option Addr) (n cap : Nat) (vs : List Visit4) (w : World) (hn : n ≤ 1099511627776) (hS : Sl w p n cap 4 (vs.flatMap visitCells)) :
    Calls Try.prog 19 #[.slice p n cap] w (RetBooks vs w) := by
  obtain ⟨i0, hi, hz0, hz1, hz2⟩ := info_parts (show (Try.prog.info? TBk).map (fun i => (i.zero, i.size, i.bytes)) = some (some (visitV 0 0 0 0), 4, 32) by kernel_rfl)
  have hl0 : vs.length = n := by have := hS.len; rw [flat_len visitCells 4 (fun _ => rfl)] at this; omega
  have hl := Lib.hid hl0
  have HS := Lib.hid hS
  clear hS hl0
  go_enter Try.func19, Try.ntmps19
  go_wp2_with (at_make; refine wpList_make_full _ rfl _ _ 26 rfl w.heap.size TBk i0 (visitV 0 0 0 0) 4 Try.underlying26 hi hz0 hz1 .i64 .i64 _ _ n rfl rfl rfl rfl (by rw [hz2]; omega) (by unfold maxLen; omega) (Nat.le_refl _) ?_; intro w0 hown0 hgrow0)
  have hE0 : Ext w w0 := (Ext.refl w).grown hgrow0 (fun q hq => by cases hq)
  have hg0 := (hown0.lt w.heap.size rfl).2
  rw [made_visits] at hown0
  have HO0 := Lib.hid hown0
  clear hown0 hgrow0 hi hz0 hz1 hz2
  go_loopw [4] (fun i wr => ∃ k : Nat, k ≤ n ∧ i = .int .i64 k ∧ wr.ownsRow w.heap.size TBk 4 (.slice (some ⟨w.heap.size, 0, none⟩) n n) n ((vs.take k ++ List.replicate (n - k) vz).flatMap visitCells) ∧ Ext w wr) (fun i _ => n - (intOf i).toNat)
  case atStart => exact ⟨0, Nat.zero_le _, rfl, by rw [List.take_zero, List.nil_append, Nat.sub_zero]; exact HO0.out, hE0⟩
  case round =>
    obtain ⟨k, hk, rfl, hown, hE⟩ := hrel
    by_cases hlt : k < n
    · obtain ⟨b, off, a0, a1, a2, a3, rfl, hx, hb, g0, g1, g2, g3⟩ := visit_at (HS.out.ext hE) hlt
      have HX := Lib.hid hx
      have hlt' : (vs.take k).length = k := by rw [List.length_take, hl.out]; omega
      have HOWN := Lib.hid hown
      have HLT := Lib.hid hlt'
      clear hown hx hlt'
      go_wp2_with fail
      refine (toBook_any a0 a1 a2 a3 _).mono ?_
      rintro e w1 ⟨rfl, h1⟩
      have how1 := own_ext HOWN.out h1
      have hg1 : w.heap.size < w1.heap.size := (how1.lt w.heap.size rfl).2
      have o0 : w1.cell? ⟨w.heap.size, k * 4, none⟩ = some (.int .i64 0) := (how1.cellAt _ (by omega)).trans (vget_next hlt HLT.out 0 (by omega))
      have o1 : w1.cell? ⟨w.heap.size, k * 4 + 1, none⟩ = some (.int .i64 0) := (how1.cellAt _ (by omega)).trans (vget_next hlt HLT.out 1 (by omega))
      have o2 : w1.cell? ⟨w.heap.size, k * 4 + 2, none⟩ = some (.int .i64 0) := (how1.cellAt _ (by omega)).trans (vget_next hlt HLT.out 2 (by omega))
      have o3 : w1.cell? ⟨w.heap.size, k * 4 + 3, none⟩ = some (.int .i64 0) := (how1.cellAt _ (by omega)).trans (vget_next hlt HLT.out 3 (by omega))
      have f0 : w1.frozen? ⟨w.heap.size, k * 4, none⟩ = false := how1.frozenAt _
      have f1 : w1.frozen? ⟨w.heap.size, k * 4 + 1, none⟩ = false := how1.frozenAt _
      have f2 : w1.frozen? ⟨w.heap.size, k * 4 + 2, none⟩ = false := how1.frozenAt _
      have f3 : w1.frozen? ⟨w.heap.size, k * 4 + 3, none⟩ = false := how1.frozenAt _
      have hst := ((((how1.stored (k * 4) (.int .i64 a0)).1.stored (k * 4 + 1) (.int .i64 a1)).1.stored (k * 4 + 2) (.int .i64 a2)).1.stored (k * 4 + 3) (.int .i64 a3)).1
      rw [vset_next hlt HX.out HLT.out] at hst
      have HST := Lib.hid hst
      clear how1 hst
      go_wp2
      go_roundw
      case rel => exact ⟨k + 1, by omega, by go_num, HST.out, by (repeat' (first | exact Ext.refl _ | (with_reducible assumption) | (with_reducible refine Ext.alloc ?_ _) | (with_reducible refine Ext.setCell ?_ (by first | exact Nat.le_refl _ | (dsimp only; omega) | (simp; done) | (simp; omega)) _) | (with_reducible refine Ext.drew ?_) | (with_reducible refine Ext.drewN ?_ _) | (refine Ext.trans ?_ (by with_reducible assumption))))⟩
      case measure => simp [intOf]; omega
    · obtain rfl : k = n := by omega
      have e : vs.take k = vs := List.take_of_length_le (by rw [hl.out]; exact Nat.le_refl _)
      have HO := Lib.hid (show wr.ownsRow w.heap.size TBk 4 (.slice (some ⟨w.heap.size, 0, none⟩) k k) k (vs.flatMap visitCells) by rw [e] at hown; simpa using hown)
      clear hown e
      go_wp2
      go_ret
      exact ret_books hl.out HO.out hE

set_option maxRecDepth 100000 in
set_option maxHeartbeats 1000000 in
theorem eqBookS_any (p q : Option Addr) (n c1 c2 : Nat) (vs : List Visit4) (w : World) (h1 : Sl w p n c1 4 (vs.flatMap visitCells)) (h2 : Sl w q n c2 4 (vs.flatMap visitCells)) :
    Calls Try.prog 21 #[.slice p n c1, .slice q n c2] w fun e w' => e = .returned (.bool true) ∧ Ext w w' := by
  have hn := h1.bd
  have H1 := Lib.hid h1
  have H2 := Lib.hid h2
  clear h1 h2
  go_enter Try.func21, Try.ntmps21
  go_wp2
  go_loopw [5] (fun i wr => ∃ k : Nat, k ≤ n ∧ i = .int .i64 k ∧ Ext w wr) (fun i _ => n - (intOf i).toNat)
  case atStart => exact ⟨0, Nat.zero_le _, rfl, Ext.refl _⟩
  case round =>
    obtain ⟨k, hk, rfl, hE⟩ := hrel
    by_cases hlt : k < n
    · obtain ⟨b, off, a0, a1, a2, a3, rfl, hx, hb, g0, g1, g2, g3⟩ := visit_at (H1.out.ext hE) hlt
      obtain ⟨b2, off2, d0, d1, d2, d3, rfl, hy, hb2, k0, k1, k2, k3⟩ := visit_at (H2.out.ext hE) hlt
      rw [hx] at hy
      injection hy with hy
      simp only [Prod.mk.injEq] at hy
      obtain ⟨rfl, rfl, rfl, rfl⟩ := hy
      clear hx
      have i1 : (0 : Int) ≤ (k : Int) := by omega
      have i2 : (k : Int) < (n : Int) := by omega
      have HQ : Hid (∀ w, Calls Try.prog 50 #[visitV a0 a1 a2 a3, visitV a0 a1 a2 a3] w fun e w' => e = .returned (.bool true) ∧ Ext w w') := fun w => eqBook_any a0 a1 a2 a3 w
      go_wp2
      go_region_held3 (fun w' => w'.cell? ⟨b, off + k * 4, none⟩ = some (.int .i64 a0) ∧ w'.cell? ⟨b, off + k * 4 + 1, none⟩ = some (.int .i64 a1) ∧ w'.cell? ⟨b, off + k * 4 + 2, none⟩ = some (.int .i64 a2) ∧ w'.cell? ⟨b, off + k * 4 + 3, none⟩ = some (.int .i64 a3) ∧ w'.cell? ⟨b2, off2 + k * 4, none⟩ = some (.int .i64 a0) ∧ w'.cell? ⟨b2, off2 + k * 4 + 1, none⟩ = some (.int .i64 a1) ∧ w'.cell? ⟨b2, off2 + k * 4 + 2, none⟩ = some (.int .i64 a2) ∧ w'.cell? ⟨b2, off2 + k * 4 + 3, none⟩ = some (.int .i64 a3)) (go_keep) ((go_at_call 50; refine (HQ.out _).mono ?_; rintro e w1 ⟨rfl, h1⟩; (try replace h1 := h1.of_drew); have hce := h1.cells.1))
      all_goals go_wp2
      all_goals go_roundw
      all_goals first
        | (case rel => exact ⟨k + 1, by omega, by go_num, by (repeat' (first | exact Ext.refl _ | (with_reducible assumption) | (with_reducible refine Ext.alloc ?_ _) | (with_reducible refine Ext.setCell ?_ (by first | exact Nat.le_refl _ | (dsimp only; omega) | (simp; done) | (simp; omega)) _) | (with_reducible refine Ext.drew ?_) | (with_reducible refine Ext.drewN ?_ _) | (refine Ext.trans ?_ (by with_reducible assumption))))⟩)
        | (case measure => simp [intOf]; omega)
    · go_wp2
      go_ret
      exact ⟨rfl, hE⟩
theorem gset {W0 wr : World} {B : Nat} (hg : W0.grownBy wr (some B)) (o : Nat) (v : Value) : W0.grownBy (wr.setCell ⟨B, o, none⟩ v) (some B) :=
  ⟨hg.os, hg.tape, hg.output, by simpa using hg.size, fun k hk hne => by
    rw [Below.heap_setCell _ _ _ _ (fun e => hne (by simp [e]))]; exact hg.block k hk hne⟩
set_option maxRecDepth 100000 in
set_option maxHeartbeats 1000000 in
theorem markBook_some (g n cap base : Nat) (xs : List Value) (K0 : Int) (w : World) (hn2 : n ≤ 1099511627776) (h0 : 0 ≤ K0) (h1 : K0 ≤ 4611686018427387904)
    (HO : Hid (w.ownsRow base TBk 4 (.slice (some ⟨g, 0, none⟩) n cap) n xs)) :
    Calls Try.prog 22 #[.slice (some ⟨g, 0, none⟩) n cap, .int .i64 K0] w fun e w' => e = .returned (.int .i64 (K0 + (n * 4 : Nat))) ∧ w'.ownsRow base TBk 4 (.slice (some ⟨g, 0, none⟩) n cap) n (marksFrom K0 (n * 4)) ∧ w.grownBy w' (some g) := by
  go_enter Try.func22, Try.ntmps22
  go_wp2
  go_loopw [1, 5] (fun kk i wr => ∃ (k : Nat) (K : Int) (rest : List Value), k ≤ n ∧ kk = .int .i64 K ∧ i = .int .i64 k ∧ K = K0 + (k * 4 : Nat) ∧ rest.length = (n - k) * 4 ∧ wr.ownsRow base TBk 4 (.slice (some ⟨g, 0, none⟩) n cap) n (marksFrom K0 (k * 4) ++ rest) ∧ w.grownBy wr (some g)) (fun _ i _ => n - (intOf i).toNat)
  case atStart => exact ⟨0, K0, xs, Nat.zero_le _, rfl, rfl, by simp, by rw [HO.out.1]; simp, by simpa [marksFrom] using HO.out, World.grownBy.refl _ _⟩
  case round =>
    obtain ⟨k, K, rest, hk, rfl, rfl, hK, hrl, hown, hg⟩ := hrel
    have hK1 : 0 ≤ K := by omega
    have hK2 : K ≤ 4611697013543665664 := by omega
    have HK := Lib.hid hK
    have HOWN := Lib.hid hown
    have HRL := Lib.hid hrl
    have HG := Lib.hid hg
    clear hK hown hrl hg
    by_cases hlt : k < n
    · obtain ⟨r0, r1, r2, r3, rest', hrest⟩ : ∃ r0 r1 r2 r3 rest', rest = r0 :: r1 :: r2 :: r3 :: rest' := by
        have h3 : 4 ≤ rest.length := by
          rw [HRL.out]
          have := Nat.mul_le_mul_right 4 (show 1 ≤ n - k by omega)
          omega
        match rest, h3 with
        | r0 :: r1 :: r2 :: r3 :: rest', _ => exact ⟨r0, r1, r2, r3, rest', rfl⟩
      have hpl : (marksFrom K0 (k * 4)).length = k * 4 := marksFrom_len _ _
      have o0 : wr.cell? ⟨g, k * 4, none⟩ = some r0 := by rw [HOWN.out.cellAt _ (by have := Nat.mul_le_mul_right 4 hlt; rw [Nat.succ_mul] at this; omega), hrest, List.getElem?_append_right (by omega), hpl]; simp
      have f0 : wr.frozen? ⟨g, k * 4, none⟩ = false := HOWN.out.frozenAt _
      have o1 : wr.cell? ⟨g, k * 4 + 1, none⟩ = some r1 := by rw [HOWN.out.cellAt _ (by have := Nat.mul_le_mul_right 4 hlt; rw [Nat.succ_mul] at this; omega), hrest, List.getElem?_append_right (by omega), hpl]; simp
      have f1 : wr.frozen? ⟨g, k * 4 + 1, none⟩ = false := HOWN.out.frozenAt _
      have o2 : wr.cell? ⟨g, k * 4 + 2, none⟩ = some r2 := by rw [HOWN.out.cellAt _ (by have := Nat.mul_le_mul_right 4 hlt; rw [Nat.succ_mul] at this; omega), hrest, List.getElem?_append_right (by omega), hpl]; simp
      have f2 : wr.frozen? ⟨g, k * 4 + 2, none⟩ = false := HOWN.out.frozenAt _
      have o3 : wr.cell? ⟨g, k * 4 + 3, none⟩ = some r3 := by rw [HOWN.out.cellAt _ (by have := Nat.mul_le_mul_right 4 hlt; rw [Nat.succ_mul] at this; omega), hrest, List.getElem?_append_right (by omega), hpl]; simp
      have f3 : wr.frozen? ⟨g, k * 4 + 3, none⟩ = false := HOWN.out.frozenAt _
      have HPL := Lib.hid hpl
      have HREST := Lib.hid hrest
      clear hpl hrest
      go_wp2
      go_roundw
      case rel =>
        refine ⟨k + 1, K + 1 + 1 + 1 + 1, rest', by omega, by go_num, by go_num, by rw [HK.out]; omega, ?_, ?_, ?_⟩
        · have := HRL.out
          rw [HREST.out] at this
          simp only [List.length_cons] at this
          have e2 : n - k = (n - (k + 1)) + 1 := by omega
          rw [e2, Nat.succ_mul] at this
          omega
        · have hs := ((((HOWN.out.stored (k * 4) (.int .i64 (K))).1.stored (k * 4 + 1) (.int .i64 (K + 1))).1.stored (k * 4 + 2) (.int .i64 (K + 1 + 1))).1.stored (k * 4 + 3) (.int .i64 (K + 1 + 1 + 1))).1
          have e : (((((marksFrom K0 (k * 4) ++ rest).set (k * 4) (.int .i64 (K))).set (k * 4 + 1) (.int .i64 (K + 1))).set (k * 4 + 2) (.int .i64 (K + 1 + 1))).set (k * 4 + 3) (.int .i64 (K + 1 + 1 + 1))) = marksFrom K0 ((k + 1) * 4) ++ rest' := by
            rw [marksFrom_4, HREST.out, ← HK.out]
            have := HPL.out
            try simp only [Nat.mul_one] at this
            simp [this]
          rw [e] at hs
          exact hs
        · exact (gset (gset (gset (gset HG.out _ _) _ _) _ _) _ _)
      case measure => simp [intOf]; omega
    · obtain rfl : k = n := by omega
      have e2 : rest = [] := List.eq_nil_of_length_eq_zero (by rw [HRL.out]; simp)
      have HE2 := Lib.hid e2
      clear e2
      go_wp2
      go_ret
      refine ⟨ret_int (by simpa using HK.out), ?_, HG.out⟩
      have := HOWN.out
      rw [HE2.out] at this
      simpa using this

set_option maxRecDepth 100000 in
set_option maxHeartbeats 1000000 in
theorem markBook_zero (p : Option Addr) (cap : Nat) (K0 : Int) (w : World) :
    Calls Try.prog 22 #[.slice p 0 cap, .int .i64 K0] w fun e w' => e = .returned (.int .i64 K0) ∧ w = w' := by
  go_enter Try.func22, Try.ntmps22
  go_wp2
  go_rounds 1
  go_ret
  exact ⟨rfl, rfl⟩

set_option maxRecDepth 100000 in
set_option maxHeartbeats 1000000 in
theorem heldBook_some (b off n cap : Nat) (K0 : Int) (w : World) (hn2 : n ≤ 1099511627776) (h0 : 0 ≤ K0) (h1 : K0 ≤ 4611686018427387904)
    (HR : Hid (∀ j, j < n * 4 → w.cell? ⟨b, off + j, none⟩ = some (.int .i64 (K0 + j)))) :
    Calls Try.prog 38 #[.slice (some ⟨b, off, none⟩) n cap, .int .i64 K0] w fun e w' => e = .returned (.int .i64 (K0 + (n * 4 : Nat))) ∧ w = w' := by
  go_enter Try.func38, Try.ntmps38
  go_wp2
  go_loop [1, 5] (fun kk i => ∃ (k : Nat) (K : Int), k ≤ n ∧ kk = .int .i64 K ∧ i = .int .i64 k ∧ K = K0 + (k * 4 : Nat)) (fun _ i => n - (intOf i).toNat)
  case atStart => exact ⟨0, K0, Nat.zero_le _, rfl, rfl, by simp⟩
  case round =>
    obtain ⟨k, K, hk, rfl, rfl, hK⟩ := hrel
    have hK1 : 0 ≤ K := by omega
    have hK2 : K ≤ 4611697013543665664 := by omega
    by_cases hlt : k < n
    · have hmul := Nat.mul_le_mul_right 4 hlt
      rw [Nat.succ_mul] at hmul
      have v0 : w.cell? ⟨b, off + k * 4, none⟩ = some (.int .i64 (K)) := by have := HR.out (k * 4) (by omega); rw [show (K : Int) = K0 + ((k * 4 : Nat) : Int) by omega]; exact this
      have v1 : w.cell? ⟨b, off + k * 4 + 1, none⟩ = some (.int .i64 (K + 1)) := by have := HR.out (k * 4 + 1) (by omega); rw [show (K + 1 : Int) = K0 + ((k * 4 + 1 : Nat) : Int) by omega]; exact this
      have v2 : w.cell? ⟨b, off + k * 4 + 2, none⟩ = some (.int .i64 (K + 1 + 1)) := by have := HR.out (k * 4 + 2) (by omega); rw [show (K + 1 + 1 : Int) = K0 + ((k * 4 + 2 : Nat) : Int) by omega]; exact this
      have v3 : w.cell? ⟨b, off + k * 4 + 3, none⟩ = some (.int .i64 (K + 1 + 1 + 1)) := by have := HR.out (k * 4 + 3) (by omega); rw [show (K + 1 + 1 + 1 : Int) = K0 + ((k * 4 + 3 : Nat) : Int) by omega]; exact this
      have HK := Lib.hid hK
      clear hK hmul
      go_wp2
      go_round
      case rel => exact ⟨k + 1, K + 1 + 1 + 1 + 1, by omega, by go_num, by go_num, by rw [HK.out]; omega⟩
      case measure => simp [intOf]; omega
    · obtain rfl : k = n := by omega
      have HK := Lib.hid hK
      clear hK
      go_wp2
      go_ret
      exact ⟨ret_int (by simpa using HK.out), rfl⟩

set_option maxRecDepth 100000 in
set_option maxHeartbeats 1000000 in
theorem heldBook_zero (p : Option Addr) (cap : Nat) (K0 : Int) (w : World) :
    Calls Try.prog 38 #[.slice p 0 cap, .int .i64 K0] w fun e w' => e = .returned (.int .i64 K0) ∧ w = w' := by
  go_enter Try.func38, Try.ntmps38
  go_wp2
  go_rounds 1
  go_ret
  exact ⟨rfl, rfl⟩


theorem markBook_m {B n cap : Nat} {p : Option Addr} {xs : List Value} (K : Int) (w : World) (h : w.ownsRow B TBk 4 (.slice p n cap) n xs) (hn : n ≤ 1099511627776) (h0 : 0 ≤ K) (h1 : K ≤ 4611686018427387904) :
    Calls Try.prog 22 #[.slice p n cap, .int .i64 K] w fun e w' => e = .returned (.int .i64 (K + (n * 4 : Nat))) ∧ w'.ownsRow B TBk 4 (.slice p n cap) n (marksFrom K (n * 4)) ∧ w.grownBy w' (Value.slice p n cap).ownBlock := by
  by_cases hz : 0 < n
  · have h2 := h
    rcases h2.2 with ⟨_, h3⟩ | ⟨g, cap', cur, e1, hb, hg, r⟩
    · omega
    · injection e1 with e1 e2 e3
      subst e1
      refine (markBook_some g n cap B xs K w hn h0 h1 h).mono ?_
      rintro e w' ⟨rfl, h4, h5⟩
      exact ⟨rfl, h4, h5⟩
  · obtain rfl : n = 0 := by omega
    refine (markBook_zero p cap K w).mono ?_
    rintro e w' ⟨rfl, rfl⟩
    obtain rfl : xs = [] := List.eq_nil_of_length_eq_zero (by have := h.1; simpa using this)
    exact ⟨by simp, by simpa [marksFrom] using h, World.grownBy.refl _ _⟩
theorem heldBook_m {B n cap : Nat} {p : Option Addr} (K : Int) (w : World) (h : w.ownsRow B TBk 4 (.slice p n cap) n (marksFrom K (n * 4))) (hn : n ≤ 1099511627776) (h0 : 0 ≤ K) (h1 : K ≤ 4611686018427387904) :
    Calls Try.prog 38 #[.slice p n cap, .int .i64 K] w fun e w' => e = .returned (.int .i64 (K + (n * 4 : Nat))) ∧ w = w' := by
  by_cases hz : 0 < n
  · have h2 := h
    rcases h2.2 with ⟨_, h3⟩ | ⟨g, cap', cur, e1, hb, hg, r⟩
    · omega
    · injection e1 with e1 e2 e3
      subst e1
      refine heldBook_some g 0 n cap K w hn h0 h1 (Lib.hid fun j hj => ?_)
      rw [Nat.zero_add, h.cellAt j hj]
      exact marksFrom_get _ _ _ hj
  · obtain rfl : n = 0 := by omega
    refine (heldBook_zero p cap K w).mono ?_
    rintro e w' ⟨rfl, rfl⟩
    exact ⟨by simp, rfl⟩
end Go.Proofs.Ytndcnflchkfaeaa
