/-
  Marks on slices of the call's own: a mark turns its slice alone; a held mark is read again. Conditions: slices of at most 2^40 elements.
-/
import Derived.Test.YthhcpcjmolbkdaaMarks
import Derived.Test.YthhcpcjmolbkdaaChg
import Derived.Test.YthhcpcjmolbkdaaLawH3
namespace Go.Proofs.Ythhcpcjmolbkdaa
open Go.RowKit
set_option linter.unusedVariables false
set_option linter.unusedSimpArgs false

theorem gset {W0 wr : World} {B : Nat} (hg : W0.grownBy wr (some B)) (o : Nat) (v : Value) : W0.grownBy (wr.setCell ⟨B, o, none⟩ v) (some B) :=
  ⟨hg.os, hg.tape, hg.output, by simpa using hg.size, fun k hk hne => by
    rw [Below.heap_setCell _ _ _ _ (fun e => hne (by simp [e]))]; exact hg.block k hk hne⟩
/-- one slice of the call's own turned: its elements have type e, it lies in blocks from B up to T -/
def ChgE (e : TypeId) (B T : Nat) (w w' : World) : Prop := ∃ row, w.grownBy w' row ∧ ∀ g, row = some g → B ≤ g ∧ g < T ∧ ∃ cur, w.heap[g]? = some (.cells cur e (0, 0))
theorem ChgE.chg {e : TypeId} {B T : Nat} {w w' : World} (h : ChgE e B T w w') : Chg B T w w' := by
  obtain ⟨row, hg, hr⟩ := h
  exact Chg.of_grown hg (fun g e => ⟨(hr g e).1, (hr g e).2.1⟩)
theorem ChgE.refl (e : TypeId) (B T : Nat) (w : World) : ChgE e B T w w := ⟨none, World.grownBy.refl _ _, fun g h => by cases h⟩
theorem OwnT.chgE {w w' : World} {B T B' T' : Nat} {e e' : TypeId} {sz n cap : Nat} {p : Option Addr} {xs : List Value} (h : OwnT w B T e sz p n cap xs) (hc : ChgE e' B' T' w w') (hne : e ≠ e') : OwnT w' B T e sz p n cap xs := by
  obtain ⟨row, hg, hr⟩ := hc
  refine ⟨Nat.le_trans h.1 hg.size, ?_⟩
  rcases h.2 with h2 | ⟨h2, k⟩
  · exact .inl h2
  · refine .inr ⟨h2.kept hg ?_, k⟩
    rcases h2.2 with ⟨h3, _⟩ | ⟨g, cap', cur, h1, hb, hgg, r⟩
    · left; rw [h3]; rfl
    · right
      rw [h1]
      intro e2
      obtain ⟨_, _, cur2, hc2⟩ := hr g e2.symm
      rw [hgg] at hc2
      injection hc2 with hc2
      injection hc2 with _ q _
      exact hne q
theorem Blk.chg {w w' : World} {g B T : Nat} {t : TypeId} {cs : Array Value} (h : Blk w g t cs) (hc : Chg B T w w') (hd : g < B ∨ T ≤ g) : Blk w' g t cs := (hc.block g h.lt hd).trans h
theorem OwnT.held {w : World} {B T n cap : Nat} {e : TypeId} {sz : Nat} {p : Option Addr} {K : Int} (h : OwnT w B T e sz p n cap (marksFrom K (n * sz))) (hn : 0 < n) :
    ∃ g, p = some ⟨g, 0, none⟩ ∧ ∀ j, j < n * sz → w.cell? ⟨g, 0 + j, none⟩ = some (.int .i64 (K + j)) := by
  rcases h.2 with ⟨rfl, _⟩ | ⟨h2, _⟩
  · omega
  · rcases h2.2 with ⟨_, h3⟩ | ⟨g, cap', cur, h1, hb, hg, hn, hm, hs, ht⟩
    · omega
    · injection h1 with e1 e2 e3
      refine ⟨g, e1, fun j hj => ?_⟩
      subst e1
      rw [Nat.zero_add, h2.cellAt j hj]
      exact marksFrom_get _ _ _ hj
theorem OwnT.slot {w : World} {B T n cap : Nat} {e : TypeId} {sz : Nat} {p : Option Addr} {xs : List Value} (h : OwnT w B T e sz p n cap xs) (hn : 0 < n) :
    ∃ g cur, p = some ⟨g, 0, none⟩ ∧ w.ownsRow B e sz (.slice (some ⟨g, 0, none⟩) n cap) n xs ∧ B ≤ g ∧ g < T ∧ w.heap[g]? = some (.cells cur e (0, 0)) := by
  rcases h.2 with ⟨rfl, _⟩ | ⟨h2, k⟩
  · omega
  · have h2' := h2
    rcases h2.2 with ⟨_, h3⟩ | ⟨g, cap', cur, h1, hb, hg, r⟩
    · omega
    · injection h1 with e1 e2 e3
      subst e1
      exact ⟨g, cur, rfl, h2', hb, k g rfl, hg⟩
theorem OwnT.own_new {w w' : World} {B T n cap g : Nat} {e : TypeId} {sz : Nat} {xs ys : List Value} (h : OwnT w B T e sz (some ⟨g, 0, none⟩) n cap xs) (hT : g < T) (ho : w'.ownsRow B e sz (.slice (some ⟨g, 0, none⟩) n cap) n ys) (hz : w.heap.size ≤ w'.heap.size) : OwnT w' B T e sz (some ⟨g, 0, none⟩) n cap ys :=
  ⟨Nat.le_trans h.1 hz, .inr ⟨ho, fun g' e => by simp [Value.ownBlock] at e; omega⟩⟩
theorem OwnT.nomark {w : World} {B T cap : Nat} {e : TypeId} {sz : Nat} {p : Option Addr} {xs : List Value} (h : OwnT w B T e sz p 0 cap xs) : xs = [] := by
  rcases h.2 with ⟨_, _, h⟩ | ⟨h, _⟩
  · exact h
  · exact List.eq_nil_of_length_eq_zero (by rw [h.1]; simp)

set_option maxRecDepth 100000 in
set_option maxHeartbeats 1000000 in
theorem markInt_some (g n cap base : Nat) (xs : List Value) (K0 : Int) (w : World) (hn2 : n ≤ 1099511627776) (h0 : 0 ≤ K0) (h1 : K0 ≤ 4611686018427387904)
    (HO : Hid (w.ownsRow base TI 1 (.slice (some ⟨g, 0, none⟩) n cap) n xs)) :
    Calls Try.prog 43 #[.slice (some ⟨g, 0, none⟩) n cap, .int .i64 K0] w fun e w' => e = .returned (.int .i64 (K0 + (n * 1 : Nat))) ∧ w'.ownsRow base TI 1 (.slice (some ⟨g, 0, none⟩) n cap) n (marksFrom K0 (n * 1)) ∧ w.grownBy w' (some g) := by
  go_enter Try.func43, Try.ntmps43
  go_wp2
  go_loopw [1, 5] (fun kk i wr => ∃ (k : Nat) (K : Int) (rest : List Value), k ≤ n ∧ kk = .int .i64 K ∧ i = .int .i64 k ∧ K = K0 + (k * 1 : Nat) ∧ rest.length = (n - k) * 1 ∧ wr.ownsRow base TI 1 (.slice (some ⟨g, 0, none⟩) n cap) n (marksFrom K0 (k * 1) ++ rest) ∧ w.grownBy wr (some g)) (fun _ i _ => n - (intOf i).toNat)
  case atStart => exact ⟨0, K0, xs, Nat.zero_le _, rfl, rfl, by simp, by rw [HO.out.1]; simp, by simpa [marksFrom] using HO.out, World.grownBy.refl _ _⟩
  case round =>
    obtain ⟨k, K, rest, hk, rfl, rfl, hK, hrl, hown, hg⟩ := hrel
    have hK1 : 0 ≤ K := by omega
    have hK2 : K ≤ 4611697013543665664 := by omega
    have HK := Lib.hid hK
    have HOWN := Lib.hid hown
    have HRL := Lib.hid hrl
    have HG := Lib.hid hg
    clear hK hown hrl hg
    by_cases hlt : k < n
    · obtain ⟨r0, rest', hrest⟩ : ∃ r0 rest', rest = r0 :: rest' := by
        have h3 : 1 ≤ rest.length := by
          rw [HRL.out]
          have := Nat.mul_le_mul_right 1 (show 1 ≤ n - k by omega)
          omega
        match rest, h3 with
        | r0 :: rest', _ => exact ⟨r0, rest', rfl⟩
      have hpl : (marksFrom K0 (k * 1)).length = k * 1 := marksFrom_len _ _
      have o0 : wr.cell? ⟨g, k, none⟩ = some r0 := by rw [HOWN.out.cellAt _ (by have := Nat.mul_le_mul_right 1 hlt; rw [Nat.succ_mul] at this; omega), hrest, List.getElem?_append_right (by omega), hpl]; simp
      have f0 : wr.frozen? ⟨g, k, none⟩ = false := HOWN.out.frozenAt _
      have HPL := Lib.hid hpl
      have HREST := Lib.hid hrest
      clear hpl hrest
      go_wp2
      go_roundw
      case rel =>
        refine ⟨k + 1, K + 1, rest', by omega, by go_num, by go_num, by rw [HK.out]; omega, ?_, ?_, ?_⟩
        · have := HRL.out
          rw [HREST.out] at this
          simp only [List.length_cons] at this
          have e2 : n - k = (n - (k + 1)) + 1 := by omega
          rw [e2, Nat.succ_mul] at this
          omega
        · have hs := (HOWN.out.stored (k) (.int .i64 (K))).1
          have e : ((marksFrom K0 (k * 1) ++ rest).set (k) (.int .i64 (K))) = marksFrom K0 ((k + 1) * 1) ++ rest' := by
            rw [marksFrom_1, HREST.out, ← HK.out]
            have := HPL.out
            try simp only [Nat.mul_one] at this
            simp [this]
          rw [e] at hs
          exact hs
        · exact (gset HG.out _ _)
      case measure => simp [intOf]; omega
    · obtain rfl : k = n := by omega
      have e2 : rest = [] := List.eq_nil_of_length_eq_zero (by rw [HRL.out]; simp)
      have HE2 := Lib.hid e2
      clear e2
      go_wp2
      go_ret
      refine ⟨ret_int (by simpa using HK.out), ?_, HG.out⟩
      have := HOWN.out
      rw [HE2.out] at this
      simpa using this

set_option maxRecDepth 100000 in
set_option maxHeartbeats 1000000 in
theorem markInt_zero (p : Option Addr) (cap : Nat) (K0 : Int) (w : World) :
    Calls Try.prog 43 #[.slice p 0 cap, .int .i64 K0] w fun e w' => e = .returned (.int .i64 K0) ∧ w = w' := by
  go_enter Try.func43, Try.ntmps43
  go_wp2
  go_rounds 1
  go_ret
  exact ⟨rfl, rfl⟩

theorem markInt (B T n cap : Nat) (p : Option Addr) (xs : List Value) (K : Int) (w : World) (h : OwnT w B T TI 1 p n cap xs) (hn : n ≤ 1099511627776) (h0 : 0 ≤ K) (h1 : K ≤ 4611686018427387904) :
    Calls Try.prog 43 #[.slice p n cap, .int .i64 K] w fun e w' => e = .returned (.int .i64 (K + (n * 1 : Nat))) ∧ OwnT w' B T TI 1 p n cap (marksFrom K (n * 1)) ∧ ChgE TI B T w w' := by
  by_cases hz : 0 < n
  · obtain ⟨g, cur, rfl, ho, hB, hT, hg⟩ := h.slot hz
    refine (markInt_some g n cap B xs K w hn h0 h1 ho).mono ?_
    rintro e w' ⟨rfl, h2, h3⟩
    exact ⟨rfl, h.own_new hT h2 h3.size, some g, h3, fun g' e => by simp at e; subst e; exact ⟨hB, hT, cur, hg⟩⟩
  · obtain rfl : n = 0 := by omega
    refine (markInt_zero p cap K w).mono ?_
    rintro e w' ⟨rfl, rfl⟩
    have := h.nomark
    subst this
    exact ⟨by simp, by simpa [marksFrom] using h, ChgE.refl _ _ _ _⟩
set_option maxRecDepth 100000 in
set_option maxHeartbeats 1000000 in
theorem markVisit_some (g n cap base : Nat) (xs : List Value) (K0 : Int) (w : World) (hn2 : n ≤ 1099511627776) (h0 : 0 ≤ K0) (h1 : K0 ≤ 4611686018427387904)
    (HO : Hid (w.ownsRow base TV 4 (.slice (some ⟨g, 0, none⟩) n cap) n xs)) :
    Calls Try.prog 28 #[.slice (some ⟨g, 0, none⟩) n cap, .int .i64 K0] w fun e w' => e = .returned (.int .i64 (K0 + (n * 4 : Nat))) ∧ w'.ownsRow base TV 4 (.slice (some ⟨g, 0, none⟩) n cap) n (marksFrom K0 (n * 4)) ∧ w.grownBy w' (some g) := by
  go_enter Try.func28, Try.ntmps28
  go_wp2
  go_loopw [1, 5] (fun kk i wr => ∃ (k : Nat) (K : Int) (rest : List Value), k ≤ n ∧ kk = .int .i64 K ∧ i = .int .i64 k ∧ K = K0 + (k * 4 : Nat) ∧ rest.length = (n - k) * 4 ∧ wr.ownsRow base TV 4 (.slice (some ⟨g, 0, none⟩) n cap) n (marksFrom K0 (k * 4) ++ rest) ∧ w.grownBy wr (some g)) (fun _ i _ => n - (intOf i).toNat)
  case atStart => exact ⟨0, K0, xs, Nat.zero_le _, rfl, rfl, by simp, by rw [HO.out.1]; simp, by simpa [marksFrom] using HO.out, World.grownBy.refl _ _⟩
  case round =>
    obtain ⟨k, K, rest, hk, rfl, rfl, hK, hrl, hown, hg⟩ := hrel
    have hK1 : 0 ≤ K := by omega
    have hK2 : K ≤ 4611697013543665664 := by omega
    have HK := Lib.hid hK
    have HOWN := Lib.hid hown
    have HRL := Lib.hid hrl
    have HG := Lib.hid hg
    clear hK hown hrl hg
    by_cases hlt : k < n
    · obtain ⟨r0, r1, r2, r3, rest', hrest⟩ : ∃ r0 r1 r2 r3 rest', rest = r0 :: r1 :: r2 :: r3 :: rest' := by
        have h3 : 4 ≤ rest.length := by
          rw [HRL.out]
          have := Nat.mul_le_mul_right 4 (show 1 ≤ n - k by omega)
          omega
        match rest, h3 with
        | r0 :: r1 :: r2 :: r3 :: rest', _ => exact ⟨r0, r1, r2, r3, rest', rfl⟩
      have hpl : (marksFrom K0 (k * 4)).length = k * 4 := marksFrom_len _ _
      have o0 : wr.cell? ⟨g, k * 4, none⟩ = some r0 := by rw [HOWN.out.cellAt _ (by have := Nat.mul_le_mul_right 4 hlt; rw [Nat.succ_mul] at this; omega), hrest, List.getElem?_append_right (by omega), hpl]; simp
      have f0 : wr.frozen? ⟨g, k * 4, none⟩ = false := HOWN.out.frozenAt _
      have o1 : wr.cell? ⟨g, k * 4 + 1, none⟩ = some r1 := by rw [HOWN.out.cellAt _ (by have := Nat.mul_le_mul_right 4 hlt; rw [Nat.succ_mul] at this; omega), hrest, List.getElem?_append_right (by omega), hpl]; simp
      have f1 : wr.frozen? ⟨g, k * 4 + 1, none⟩ = false := HOWN.out.frozenAt _
      have o2 : wr.cell? ⟨g, k * 4 + 2, none⟩ = some r2 := by rw [HOWN.out.cellAt _ (by have := Nat.mul_le_mul_right 4 hlt; rw [Nat.succ_mul] at this; omega), hrest, List.getElem?_append_right (by omega), hpl]; simp
      have f2 : wr.frozen? ⟨g, k * 4 + 2, none⟩ = false := HOWN.out.frozenAt _
      have o3 : wr.cell? ⟨g, k * 4 + 3, none⟩ = some r3 := by rw [HOWN.out.cellAt _ (by have := Nat.mul_le_mul_right 4 hlt; rw [Nat.succ_mul] at this; omega), hrest, List.getElem?_append_right (by omega), hpl]; simp
      have f3 : wr.frozen? ⟨g, k * 4 + 3, none⟩ = false := HOWN.out.frozenAt _
      have HPL := Lib.hid hpl
      have HREST := Lib.hid hrest
      clear hpl hrest
      go_wp2
      go_roundw
      case rel =>
        refine ⟨k + 1, K + 1 + 1 + 1 + 1, rest', by omega, by go_num, by go_num, by rw [HK.out]; omega, ?_, ?_, ?_⟩
        · have := HRL.out
          rw [HREST.out] at this
          simp only [List.length_cons] at this
          have e2 : n - k = (n - (k + 1)) + 1 := by omega
          rw [e2, Nat.succ_mul] at this
          omega
        · have hs := ((((HOWN.out.stored (k * 4) (.int .i64 (K))).1.stored (k * 4 + 1) (.int .i64 (K + 1))).1.stored (k * 4 + 2) (.int .i64 (K + 1 + 1))).1.stored (k * 4 + 3) (.int .i64 (K + 1 + 1 + 1))).1
          have e : (((((marksFrom K0 (k * 4) ++ rest).set (k * 4) (.int .i64 (K))).set (k * 4 + 1) (.int .i64 (K + 1))).set (k * 4 + 2) (.int .i64 (K + 1 + 1))).set (k * 4 + 3) (.int .i64 (K + 1 + 1 + 1))) = marksFrom K0 ((k + 1) * 4) ++ rest' := by
            rw [marksFrom_4, HREST.out, ← HK.out]
            have := HPL.out
            try simp only [Nat.mul_one] at this
            simp [this]
          rw [e] at hs
          exact hs
        · exact (gset (gset (gset (gset HG.out _ _) _ _) _ _) _ _)
      case measure => simp [intOf]; omega
    · obtain rfl : k = n := by omega
      have e2 : rest = [] := List.eq_nil_of_length_eq_zero (by rw [HRL.out]; simp)
      have HE2 := Lib.hid e2
      clear e2
      go_wp2
      go_ret
      refine ⟨ret_int (by simpa using HK.out), ?_, HG.out⟩
      have := HOWN.out
      rw [HE2.out] at this
      simpa using this

set_option maxRecDepth 100000 in
set_option maxHeartbeats 1000000 in
theorem markVisit_zero (p : Option Addr) (cap : Nat) (K0 : Int) (w : World) :
    Calls Try.prog 28 #[.slice p 0 cap, .int .i64 K0] w fun e w' => e = .returned (.int .i64 K0) ∧ w = w' := by
  go_enter Try.func28, Try.ntmps28
  go_wp2
  go_rounds 1
  go_ret
  exact ⟨rfl, rfl⟩

theorem markVisit (B T n cap : Nat) (p : Option Addr) (xs : List Value) (K : Int) (w : World) (h : OwnT w B T TV 4 p n cap xs) (hn : n ≤ 1099511627776) (h0 : 0 ≤ K) (h1 : K ≤ 4611686018427387904) :
    Calls Try.prog 28 #[.slice p n cap, .int .i64 K] w fun e w' => e = .returned (.int .i64 (K + (n * 4 : Nat))) ∧ OwnT w' B T TV 4 p n cap (marksFrom K (n * 4)) ∧ ChgE TV B T w w' := by
  by_cases hz : 0 < n
  · obtain ⟨g, cur, rfl, ho, hB, hT, hg⟩ := h.slot hz
    refine (markVisit_some g n cap B xs K w hn h0 h1 ho).mono ?_
    rintro e w' ⟨rfl, h2, h3⟩
    exact ⟨rfl, h.own_new hT h2 h3.size, some g, h3, fun g' e => by simp at e; subst e; exact ⟨hB, hT, cur, hg⟩⟩
  · obtain rfl : n = 0 := by omega
    refine (markVisit_zero p cap K w).mono ?_
    rintro e w' ⟨rfl, rfl⟩
    have := h.nomark
    subst this
    exact ⟨by simp, by simpa [marksFrom] using h, ChgE.refl _ _ _ _⟩
theorem ChgE.pre {e : TypeId} {B T : Nat} {w a w' : World} (h : ChgE e B T a w') (hx : Ext w a) (hT : T ≤ w.heap.size) : ChgE e B T w w' := by
  obtain ⟨row, hg, hr⟩ := h
  refine ⟨row, ⟨hg.os.trans hx.os, hg.tape.trans hx.tape, hg.output.trans hx.output, Nat.le_trans hx.size hg.size, fun i hi hne => (hg.block i (Nat.lt_of_lt_of_le hi hx.size) hne).trans (hx.block i hi)⟩, fun g e => ?_⟩
  obtain ⟨h1, h2, cur, h3⟩ := hr g e
  exact ⟨h1, h2, cur, by rw [← hx.block g (by omega)]; exact h3⟩
set_option maxRecDepth 100000 in
set_option maxHeartbeats 1000000 in
theorem markHall (wide deep : Int) (B T n cap : Nat) (p : Option Addr) (xs : List Value) (K : Int) (w : World) (h : OwnT w B T TI 1 p n cap xs) (hn : n ≤ 1099511627776) (h0 : 0 ≤ K) (h1 : K ≤ 4611686018427387904) :
    Calls Try.prog 27 #[hallV wide deep p n cap, .int .i64 K] w fun e w' => e = .returned (.int .i64 (K + (n : Nat))) ∧ OwnT w' B T TI 1 p n cap (marksFrom K n) ∧ ChgE TI B T w w' := by
  have HM : Hid (∀ w', Ext w w' → Calls Try.prog 43 #[.slice p n cap, .int .i64 K] w' fun e w'' => e = .returned (.int .i64 (K + (n : Nat))) ∧ OwnT w'' B T TI 1 p n cap (marksFrom K n) ∧ ChgE TI B T w' w'') := fun w' hx => by
    have := markInt B T n cap p xs K w' (h.ext hx) hn h0 h1
    simpa using this
  have HH := Lib.hid h
  clear h
  go_enter Try.func27, Try.ntmps27
  go_wp2_with fail
  refine (HM.out _ (by (repeat' (first | exact Ext.refl _ | (with_reducible assumption) | (with_reducible refine Ext.alloc ?_ _) | (with_reducible refine Ext.setCell ?_ (by first | exact Nat.le_refl _ | (dsimp only; omega) | (simp; done) | (simp; omega)) _) | (with_reducible refine Ext.drew ?_) | (with_reducible refine Ext.drewN ?_ _) | (refine Ext.trans ?_ (by with_reducible assumption)))))).mono ?_
  rintro e w1 ⟨rfl, h2, h3⟩
  have hT := HH.out.1
  go_wp2
  go_ret
  exact ⟨rfl, h2, ChgE.pre h3 ((Ext.refl w).alloc _) hT⟩

set_option maxRecDepth 100000 in
set_option maxHeartbeats 1000000 in
theorem markHouse_o (wide deep free step price capp clock bank : Int) (p : Option Addr) (n cap : Nat) (q : Option Addr) (m c2 : Nat) (B T : Nat) (xs ys : List Value) (K : Int) (w : World) (h : Hid (OwnT w B T TI 1 p n cap xs)) (hv : Hid (OwnT w B T TV 4 q m c2 ys)) (hn : n ≤ 1099511627776) (hm : m ≤ 1099511627776) (h0 : 0 ≤ K) (h1 : K ≤ 1099511627776) :
    Calls Try.prog 10 #[.agg #[.int .i64 wide, .int .i64 deep, .slice p n cap, .int .i64 free, .int .i64 step, .int .i64 price, .int .i64 capp, .int .i64 clock, .int .i64 bank, .slice q m c2], .int .i64 K] w fun e w' => e = .returned (.int .i64 (K + n + (m * 4 : Nat))) ∧ OwnT w' B T TI 1 p n cap (marksFrom K n) ∧ OwnT w' B T TV 4 q m c2 (marksFrom (K + n) (m * 4)) ∧ Chg B T w w' := by
  go_enter Try.func10, Try.ntmps10
  go_wp2_with fail
  refine (markHall wide deep B T n cap p xs K _ (h.out.ext (by (repeat' (first | exact Ext.refl _ | (with_reducible assumption) | (with_reducible refine Ext.alloc ?_ _) | (with_reducible refine Ext.setCell ?_ (by first | exact Nat.le_refl _ | (dsimp only; omega) | (simp; done) | (simp; omega)) _) | (with_reducible refine Ext.drew ?_) | (with_reducible refine Ext.drewN ?_ _) | (refine Ext.trans ?_ (by with_reducible assumption)))))) hn h0 (by omega)).mono ?_
  rintro e w1 ⟨rfl, h2, h3⟩
  have hT := h.out.1
  have BX := Lib.hid ((Blk.new w 37 #[.int .i64 wide, .int .i64 deep, .slice p n cap, .int .i64 free, .int .i64 step, .int .i64 price, .int .i64 capp, .int .i64 clock, .int .i64 bank, .slice q m c2]).chg h3.chg (.inr hT))
  have HV := Lib.hid ((hv.out.ext ((Ext.refl w).alloc _)).chgE h3 (by decide))
  have HC := Lib.hid h2
  have C1 := Lib.hid ((((Ext.refl w).alloc _).chg B T).trans h3.chg)
  clear h2 h3
  have a0 : w1.cell? ⟨w.heap.size, 0, none⟩ = some (.int .i64 wide) := BX.out.cell 0
  have a1 : w1.cell? ⟨w.heap.size, 1, none⟩ = some (.int .i64 deep) := BX.out.cell 1
  have a2 : w1.cell? ⟨w.heap.size, 2, none⟩ = some (.slice p n cap) := BX.out.cell 2
  have a3 : w1.cell? ⟨w.heap.size, 3, none⟩ = some (.int .i64 free) := BX.out.cell 3
  have a4 : w1.cell? ⟨w.heap.size, 4, none⟩ = some (.int .i64 step) := BX.out.cell 4
  have a5 : w1.cell? ⟨w.heap.size, 5, none⟩ = some (.int .i64 price) := BX.out.cell 5
  have a6 : w1.cell? ⟨w.heap.size, 6, none⟩ = some (.int .i64 capp) := BX.out.cell 6
  have a7 : w1.cell? ⟨w.heap.size, 7, none⟩ = some (.int .i64 clock) := BX.out.cell 7
  have a8 : w1.cell? ⟨w.heap.size, 8, none⟩ = some (.int .i64 bank) := BX.out.cell 8
  have a9 : w1.cell? ⟨w.heap.size, 9, none⟩ = some (.slice q m c2) := BX.out.cell 9
  go_wp2_with fail
  clear a0 a1 a2 a3 a4 a5 a6 a7 a8 a9
  refine (markVisit B T m c2 q ys (K + n) _ (HV.out) hm (by omega) (by omega)).mono ?_
  rintro e w2 ⟨rfl, h4, h5⟩
  have HC2 := Lib.hid (HC.out.chgE h5 (by decide))
  have HV2 := Lib.hid h4
  have C2 := Lib.hid (C1.out.trans h5.chg)
  clear h4 h5
  go_wp2
  go_ret
  exact ⟨rfl, HC2.out, HV2.out, C2.out⟩

theorem markHouse (h : HouseD) (B T n cap m c2 : Nat) (p q : Option Addr) (K : Int) (xs ys : List Value) (w : World) (h1 : OwnT w B T TI 1 p n cap xs) (hv : OwnT w B T TV 4 q m c2 ys) (hn : n ≤ 1099511627776) (hm : m ≤ 1099511627776) (h0 : 0 ≤ K) (hk : K ≤ 1099511627776) :
    Calls Try.prog 10 #[houseV h p n cap q m c2, .int .i64 K] w fun e w' => e = .returned (.int .i64 (K + n + (m * 4 : Nat))) ∧ OwnT w' B T TI 1 p n cap (marksFrom K n) ∧ OwnT w' B T TV 4 q m c2 (marksFrom (K + n) (m * 4)) ∧ Chg B T w w' :=
  markHouse_o h.wide h.deep h.free h.step h.price h.capp h.clock h.bank p n cap q m c2 B T xs ys K w h1 hv hn hm h0 hk
end Go.Proofs.Ythhcpcjmolbkdaa
