/-
  Marks on numbers in slices of the call's own; how a list of bookings among the arguments of a law is opened. Conditions: slices of at most 2^40 elements.
-/
import Derived.Test.YtndcnflchkfaeaaOpenD
namespace Go.Proofs.Ytndcnflchkfaeaa
open Go.ChangeShapes Go.WideShapes Go.ChangeAt Go.RowKit Go.Deep
set_option linter.unusedVariables false
set_option linter.unusedSimpArgs false

set_option maxRecDepth 100000 in
set_option maxHeartbeats 1000000 in
theorem markInt_some (g n cap base : Nat) (xs : List Value) (K0 : Int) (w : World) (hn2 : n ≤ 1099511627776) (h0 : 0 ≤ K0) (h1 : K0 ≤ 4611686018427387904)
    (HO : Hid (w.ownsRow base TI 1 (.slice (some ⟨g, 0, none⟩) n cap) n xs)) :
    Calls Try.prog 14 #[.slice (some ⟨g, 0, none⟩) n cap, .int .i64 K0] w fun e w' => e = .returned (.int .i64 (K0 + (n * 1 : Nat))) ∧ w'.ownsRow base TI 1 (.slice (some ⟨g, 0, none⟩) n cap) n (marksFrom K0 (n * 1)) ∧ w.grownBy w' (some g) := by
  go_enter Try.func14, Try.ntmps14
  go_wp2
  go_loopw [1, 5] (fun kk i wr => ∃ (k : Nat) (K : Int) (rest : List Value), k ≤ n ∧ kk = .int .i64 K ∧ i = .int .i64 k ∧ K = K0 + (k * 1 : Nat) ∧ rest.length = (n - k) * 1 ∧ wr.ownsRow base TI 1 (.slice (some ⟨g, 0, none⟩) n cap) n (marksFrom K0 (k * 1) ++ rest) ∧ w.grownBy wr (some g)) (fun _ i _ => n - (intOf i).toNat)
  case atStart => exact ⟨0, K0, xs, Nat.zero_le _, rfl, rfl, by simp, by rw [HO.out.1]; simp, by simpa [marksFrom] using HO.out, World.grownBy.refl _ _⟩
  case round =>
    obtain ⟨k, K, rest, hk, rfl, rfl, hK, hrl, hown, hg⟩ := hrel
    have hK1 : 0 ≤ K := by omega
    have hK2 : K ≤ 4611697013543665664 := by omega
    have HK := Lib.hid hK
    have HOWN := Lib.hid hown
    have HRL := Lib.hid hrl
    have HG := Lib.hid hg
    clear hK hown hrl hg
    by_cases hlt : k < n
    · obtain ⟨r0, rest', hrest⟩ : ∃ r0 rest', rest = r0 :: rest' := by
        have h3 : 1 ≤ rest.length := by
          rw [HRL.out]
          have := Nat.mul_le_mul_right 1 (show 1 ≤ n - k by omega)
          omega
        match rest, h3 with
        | r0 :: rest', _ => exact ⟨r0, rest', rfl⟩
      have hpl : (marksFrom K0 (k * 1)).length = k * 1 := marksFrom_len _ _
      have o0 : wr.cell? ⟨g, k, none⟩ = some r0 := by rw [HOWN.out.cellAt _ (by have := Nat.mul_le_mul_right 1 hlt; rw [Nat.succ_mul] at this; omega), hrest, List.getElem?_append_right (by omega), hpl]; simp
      have f0 : wr.frozen? ⟨g, k, none⟩ = false := HOWN.out.frozenAt _
      have HPL := Lib.hid hpl
      have HREST := Lib.hid hrest
      clear hpl hrest
      go_wp2
      go_roundw
      case rel =>
        refine ⟨k + 1, K + 1, rest', by omega, by go_num, by go_num, by rw [HK.out]; omega, ?_, ?_, ?_⟩
        · have := HRL.out
          rw [HREST.out] at this
          simp only [List.length_cons] at this
          have e2 : n - k = (n - (k + 1)) + 1 := by omega
          rw [e2, Nat.succ_mul] at this
          omega
        · have hs := (HOWN.out.stored (k) (.int .i64 (K))).1
          have e : ((marksFrom K0 (k * 1) ++ rest).set (k) (.int .i64 (K))) = marksFrom K0 ((k + 1) * 1) ++ rest' := by
            rw [marksFrom_1, HREST.out, ← HK.out]
            have := HPL.out
            try simp only [Nat.mul_one] at this
            simp [this]
          rw [e] at hs
          exact hs
        · exact (gset HG.out _ _)
      case measure => simp [intOf]; omega
    · obtain rfl : k = n := by omega
      have e2 : rest = [] := List.eq_nil_of_length_eq_zero (by rw [HRL.out]; simp)
      have HE2 := Lib.hid e2
      clear e2
      go_wp2
      go_ret
      refine ⟨ret_int (by simpa using HK.out), ?_, HG.out⟩
      have := HOWN.out
      rw [HE2.out] at this
      simpa using this

set_option maxRecDepth 100000 in
set_option maxHeartbeats 1000000 in
theorem markInt_zero (p : Option Addr) (cap : Nat) (K0 : Int) (w : World) :
    Calls Try.prog 14 #[.slice p 0 cap, .int .i64 K0] w fun e w' => e = .returned (.int .i64 K0) ∧ w = w' := by
  go_enter Try.func14, Try.ntmps14
  go_wp2
  go_rounds 1
  go_ret
  exact ⟨rfl, rfl⟩

set_option maxRecDepth 100000 in
set_option maxHeartbeats 1000000 in
theorem heldInt_some (b off n cap : Nat) (K0 : Int) (w : World) (hn2 : n ≤ 1099511627776) (h0 : 0 ≤ K0) (h1 : K0 ≤ 4611686018427387904)
    (HR : Hid (∀ j, j < n * 1 → w.cell? ⟨b, off + j, none⟩ = some (.int .i64 (K0 + j)))) :
    Calls Try.prog 16 #[.slice (some ⟨b, off, none⟩) n cap, .int .i64 K0] w fun e w' => e = .returned (.int .i64 (K0 + (n * 1 : Nat))) ∧ w = w' := by
  go_enter Try.func16, Try.ntmps16
  go_wp2
  go_loop [1, 5] (fun kk i => ∃ (k : Nat) (K : Int), k ≤ n ∧ kk = .int .i64 K ∧ i = .int .i64 k ∧ K = K0 + (k * 1 : Nat)) (fun _ i => n - (intOf i).toNat)
  case atStart => exact ⟨0, K0, Nat.zero_le _, rfl, rfl, by simp⟩
  case round =>
    obtain ⟨k, K, hk, rfl, rfl, hK⟩ := hrel
    have hK1 : 0 ≤ K := by omega
    have hK2 : K ≤ 4611697013543665664 := by omega
    by_cases hlt : k < n
    · have hmul := Nat.mul_le_mul_right 1 hlt
      rw [Nat.succ_mul] at hmul
      have v0 : w.cell? ⟨b, off + k, none⟩ = some (.int .i64 (K)) := by have := HR.out (k) (by omega); rw [show (K : Int) = K0 + ((k : Nat) : Int) by omega]; exact this
      have HK := Lib.hid hK
      clear hK hmul
      go_wp2
      go_round
      case rel => exact ⟨k + 1, K + 1, by omega, by go_num, by go_num, by rw [HK.out]; omega⟩
      case measure => simp [intOf]; omega
    · obtain rfl : k = n := by omega
      have HK := Lib.hid hK
      clear hK
      go_wp2
      go_ret
      exact ⟨ret_int (by simpa using HK.out), rfl⟩

set_option maxRecDepth 100000 in
set_option maxHeartbeats 1000000 in
theorem heldInt_zero (p : Option Addr) (cap : Nat) (K0 : Int) (w : World) :
    Calls Try.prog 16 #[.slice p 0 cap, .int .i64 K0] w fun e w' => e = .returned (.int .i64 K0) ∧ w = w' := by
  go_enter Try.func16, Try.ntmps16
  go_wp2
  go_rounds 1
  go_ret
  exact ⟨rfl, rfl⟩


theorem markInt_m {B n cap : Nat} {p : Option Addr} {xs : List Value} (K : Int) (w : World) (h : w.ownsRow B TI 1 (.slice p n cap) n xs) (hn : n ≤ 1099511627776) (h0 : 0 ≤ K) (h1 : K ≤ 4611686018427387904) :
    Calls Try.prog 14 #[.slice p n cap, .int .i64 K] w fun e w' => e = .returned (.int .i64 (K + (n * 1 : Nat))) ∧ w'.ownsRow B TI 1 (.slice p n cap) n (marksFrom K (n * 1)) ∧ w.grownBy w' (Value.slice p n cap).ownBlock := by
  by_cases hz : 0 < n
  · have h2 := h
    rcases h2.2 with ⟨_, h3⟩ | ⟨g, cap', cur, e1, hb, hg, r⟩
    · omega
    · injection e1 with e1 e2 e3
      subst e1
      refine (markInt_some g n cap B xs K w hn h0 h1 h).mono ?_
      rintro e w' ⟨rfl, h4, h5⟩
      exact ⟨rfl, h4, h5⟩
  · obtain rfl : n = 0 := by omega
    refine (markInt_zero p cap K w).mono ?_
    rintro e w' ⟨rfl, rfl⟩
    obtain rfl : xs = [] := List.eq_nil_of_length_eq_zero (by have := h.1; simpa using this)
    exact ⟨by simp, by simpa [marksFrom] using h, World.grownBy.refl _ _⟩
theorem heldInt_m {B n cap : Nat} {p : Option Addr} (K : Int) (w : World) (h : w.ownsRow B TI 1 (.slice p n cap) n (marksFrom K (n * 1))) (hn : n ≤ 1099511627776) (h0 : 0 ≤ K) (h1 : K ≤ 4611686018427387904) :
    Calls Try.prog 16 #[.slice p n cap, .int .i64 K] w fun e w' => e = .returned (.int .i64 (K + (n * 1 : Nat))) ∧ w = w' := by
  by_cases hz : 0 < n
  · have h2 := h
    rcases h2.2 with ⟨_, h3⟩ | ⟨g, cap', cur, e1, hb, hg, r⟩
    · omega
    · injection e1 with e1 e2 e3
      subst e1
      refine heldInt_some g 0 n cap K w hn h0 h1 (Lib.hid fun j hj => ?_)
      rw [Nat.zero_add, h.cellAt j hj]
      exact marksFrom_get _ _ _ hj
  · obtain rfl : n = 0 := by omega
    refine (heldInt_zero p cap K w).mono ?_
    rintro e w' ⟨rfl, rfl⟩
    exact ⟨by simp, rfl⟩
section
variable {H : Type} {enc : TypeId × Value → H} {w : World} {base : Nat} {spare : Nat → Bool} {held : Bool} {b0 : Nat} {r : Reach} {v : Value} {d : DataW H} {p : List MemPlace}
set_option maxRecDepth 100000 in
theorem open_books (hv : Value.okWide Try.prog w r b0 22 v) (h : DataW.Trod enc Try.prog w base spare held 22 v d p) :
    ∃ y : List Visit4 × (Option Addr × Nat), v = .slice y.2.1 y.1.length y.2.2 ∧ Sl w y.2.1 y.1.length y.2.2 4 (y.1.flatMap visitCells) ∧ ∀ a ∈ y.1, goodBook a := by
  obtain ⟨a0, len, cap, rfl⟩ := okWide_slice Try.underlying22 hv
  obtain ⟨fuel, hh⟩ := h
  have hcl : (Value.slice a0 len cap).cells.toList = [.slice a0 len cap] := rfl
  rw [hcl] at hh
  obtain ⟨ts, tp, tc, e, hT, gts⟩ := open_slc (α := Visit4) visitCells goodBook 4 Try.underlying22 (by kernel_rfl) (by omega) (fun _ => rfl) (fun n cs y hy => trod_book hy) hh
  exact ⟨(ts, (tp, tc)), e, hT, gts⟩
end
end Go.Proofs.Ytndcnflchkfaeaa
