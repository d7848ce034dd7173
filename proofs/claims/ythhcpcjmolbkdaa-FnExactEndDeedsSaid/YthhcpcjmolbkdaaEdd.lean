/-
  The deeds that empty a house (plain), and the laws on slices of deeds: equality, marks. No condition but lengths.
-/
import Derived.Test.YthhcpcjmolbkdaaMk
import Derived.Test.YthhcpcjmolbkdaaEord
namespace Go.Proofs.Ythhcpcjmolbkdaa
open Go.RowKit
set_option linter.unusedVariables false
set_option linter.unusedSimpArgs false

abbrev TDd : TypeId := 49
abbrev Dd3 := Int × Int × Int
def ddCells (d : Dd3) : List Value := [.int .i64 d.1, .int .i64 d.2.1, .int .i64 d.2.2]
abbrev ddV (a b c : Int) : Value := .agg #[.int .i64 a, .int .i64 b, .int .i64 c]
/-- what is paid in parts for one car -/
def payCnt (a : Int) : Nat := ((a + 299) / 300).toNat
def payPart (id a : Int) (i : Nat) : Dd3 := (1, id, min (a - 300 * (i : Int)) 300)
def payTo (id a : Int) (k : Nat) : List Dd3 := (List.range k).map (payPart id a)
def endDeeds (due : Int → Int) (ids : List Int) : List Dd3 := ids.flatMap (fun id => payTo id (due id) (payCnt (due id)) ++ [(2, id, 0)])
theorem payCnt_iff (a : Int) (k : Nat) : k < payCnt a ↔ 0 < a - 300 * (k : Int) := by unfold payCnt; omega
theorem payTo_succ (id a : Int) (k : Nat) : payTo id a (k + 1) = payTo id a k ++ [payPart id a k] := by unfold payTo; rw [List.range_succ, List.map_append]; rfl
theorem payTo_zero (id a : Int) : payTo id a 0 = [] := rfl
theorem payTo_len (id a : Int) (k : Nat) : (payTo id a k).length = k := by unfold payTo; simp
theorem endDeeds_nil (due : Int → Int) : endDeeds due [] = [] := rfl
theorem endDeeds_snoc (due : Int → Int) {ids : List Int} {k : Nat} {x : Int} (hx : ids[k]? = some x) : endDeeds due (ids.take (k + 1)) = endDeeds due (ids.take k) ++ payTo x (due x) (payCnt (due x)) ++ [(2, x, 0)] := by
  unfold endDeeds
  rw [take_snocL hx, List.flatMap_append]
  simp
theorem endDeeds_len (due : Int → Int) (ids : List Int) (M : Nat) (h : ∀ x ∈ ids, payCnt (due x) ≤ M) : (endDeeds due ids).length ≤ ids.length * (M + 1) := by
  unfold endDeeds
  induction ids with
  | nil => simp
  | cons x xs ih =>
    have h1 := h x (by simp)
    have h2 := ih (fun y hy => h y (by simp [hy]))
    rw [List.flatMap_cons, List.length_append, List.length_append, payTo_len]
    simp only [List.length_cons, List.length_nil]
    rw [Nat.add_mul xs.length 1, Nat.one_mul]
    omega
theorem dd_one (d : Dd3) : ddCells d = [d].flatMap ddCells := by simp
theorem deed_at {w : World} {q : Option Addr} {m c2 : Nat} {ds : List Dd3} (h : Sl w q m c2 3 (ds.flatMap ddCells)) {k : Nat} (hk : k < m) :
    ∃ b off a0 a1 a2, q = some ⟨b, off, none⟩ ∧ ds[k]? = some (a0, a1, a2) ∧ b < w.heap.size ∧ w.cell? ⟨b, off + k * 3, none⟩ = some (.int .i64 a0) ∧ w.cell? ⟨b, off + k * 3 + 1, none⟩ = some (.int .i64 a1) ∧ w.cell? ⟨b, off + k * 3 + 2, none⟩ = some (.int .i64 a2) := by
  obtain ⟨b, off, x, hp, hx, hb, hc⟩ := Sl.at_ (sz := 3) (f := ddCells) (fun _ => rfl) h hk (by omega)
  obtain ⟨a0, a1, a2⟩ := x
  exact ⟨b, off, a0, a1, a2, hp, hx, hb, hc 0 (by omega), hc 1 (by omega), hc 2 (by omega)⟩
/-- deeds in a slice of the call's own -/
def RetDeeds (ds : List Dd3) (w : World) (e : Ending) (w' : World) : Prop :=
  ∃ p cap, e = .returned (.slice p ds.length cap) ∧ w'.ownsRow w.heap.size TDd 3 (.slice p ds.length cap) ds.length (ds.flatMap ddCells) ∧ Ext w w'
set_option maxRecDepth 100000 in
set_option maxHeartbeats 1000000 in
theorem eqDeed_any (a b c : Int) (w : World) : Calls Try.prog 23 #[ddV a b c, ddV a b c] w fun e w' => e = .returned (.bool true) ∧ Ext w w' := by
  go_enter Try.func23, Try.ntmps23
  go_wp2
  go_ret
  exact ⟨rfl, by (repeat' (first | exact Ext.refl _ | (with_reducible assumption) | (with_reducible refine Ext.alloc ?_ _) | (with_reducible refine Ext.setCell ?_ (by first | exact Nat.le_refl _ | (dsimp only; omega) | (simp; done) | (simp; omega)) _) | (with_reducible refine Ext.drew ?_) | (with_reducible refine Ext.drewN ?_ _) | (refine Ext.trans ?_ (by with_reducible assumption))))⟩
set_option maxRecDepth 100000 in
set_option maxHeartbeats 1000000 in
theorem eqDeedS_any (p q : Option Addr) (n c1 c2 : Nat) (ds : List Dd3) (w : World) (h1 : Sl w p n c1 3 (ds.flatMap ddCells)) (h2 : Sl w q n c2 3 (ds.flatMap ddCells)) :
    Calls Try.prog 8 #[.slice p n c1, .slice q n c2] w fun e w' => e = .returned (.bool true) ∧ Ext w w' := by
  have hn := h1.bd
  have H1 := Lib.hid h1
  have H2 := Lib.hid h2
  clear h1 h2
  go_enter Try.func8, Try.ntmps8
  go_wp2
  go_loopw [5] (fun i wr => ∃ k : Nat, k ≤ n ∧ i = .int .i64 k ∧ Ext w wr) (fun i _ => n - (intOf i).toNat)
  case atStart => exact ⟨0, Nat.zero_le _, rfl, Ext.refl _⟩
  case round =>
    obtain ⟨k, hk, rfl, hE⟩ := hrel
    by_cases hlt : k < n
    · obtain ⟨b, off, a0, a1, a2, rfl, hx, hb, g0, g1, g2⟩ := deed_at (H1.out.ext hE) hlt
      obtain ⟨b2, off2, d0, d1, d2, rfl, hy, hb2, k0, k1, k2⟩ := deed_at (H2.out.ext hE) hlt
      rw [hx] at hy
      injection hy with hy
      simp only [Prod.mk.injEq] at hy
      obtain ⟨rfl, rfl, rfl⟩ := hy
      clear hx
      have i1 : (0 : Int) ≤ (k : Int) := by omega
      have i2 : (k : Int) < (n : Int) := by omega
      have HQ : Hid (∀ w, Calls Try.prog 23 #[ddV a0 a1 a2, ddV a0 a1 a2] w fun e w' => e = .returned (.bool true) ∧ Ext w w') := fun w => eqDeed_any a0 a1 a2 w
      go_wp2
      go_region_held3 (fun w' => w'.cell? ⟨b, off + k * 3, none⟩ = some (.int .i64 a0) ∧ w'.cell? ⟨b, off + k * 3 + 1, none⟩ = some (.int .i64 a1) ∧ w'.cell? ⟨b, off + k * 3 + 2, none⟩ = some (.int .i64 a2) ∧ w'.cell? ⟨b2, off2 + k * 3, none⟩ = some (.int .i64 a0) ∧ w'.cell? ⟨b2, off2 + k * 3 + 1, none⟩ = some (.int .i64 a1) ∧ w'.cell? ⟨b2, off2 + k * 3 + 2, none⟩ = some (.int .i64 a2)) (go_keep)
        ((go_at_call 23; refine (HQ.out _).mono ?_; rintro e w1 ⟨rfl, h1⟩; (try replace h1 := h1.of_drew); have hce := h1.cells.1))
      all_goals go_wp2
      all_goals go_roundw
      all_goals first
        | (case rel => exact ⟨k + 1, by omega, by go_num, by (repeat' (first | exact Ext.refl _ | (with_reducible assumption) | (with_reducible refine Ext.alloc ?_ _) | (with_reducible refine Ext.setCell ?_ (by first | exact Nat.le_refl _ | (dsimp only; omega) | (simp; done) | (simp; omega)) _) | (with_reducible refine Ext.drew ?_) | (with_reducible refine Ext.drewN ?_ _) | (refine Ext.trans ?_ (by with_reducible assumption))))⟩)
        | (case measure => simp [intOf]; omega)
    · go_wp2
      go_ret
      exact ⟨rfl, hE⟩
set_option maxRecDepth 100000 in
set_option maxHeartbeats 1000000 in
theorem markHouseDeed_some (g n cap base : Nat) (xs : List Value) (K0 : Int) (w : World) (hn2 : n ≤ 1099511627776) (h0 : 0 ≤ K0) (h1 : K0 ≤ 4611686018427387904)
    (HO : Hid (w.ownsRow base TDd 3 (.slice (some ⟨g, 0, none⟩) n cap) n xs)) :
    Calls Try.prog 11 #[.slice (some ⟨g, 0, none⟩) n cap, .int .i64 K0] w fun e w' => e = .returned (.int .i64 (K0 + (n * 3 : Nat))) ∧ w'.ownsRow base TDd 3 (.slice (some ⟨g, 0, none⟩) n cap) n (marksFrom K0 (n * 3)) ∧ w.grownBy w' (some g) := by
  go_enter Try.func11, Try.ntmps11
  go_wp2
  go_loopw [1, 5] (fun kk i wr => ∃ (k : Nat) (K : Int) (rest : List Value), k ≤ n ∧ kk = .int .i64 K ∧ i = .int .i64 k ∧ K = K0 + (k * 3 : Nat) ∧ rest.length = (n - k) * 3 ∧ wr.ownsRow base TDd 3 (.slice (some ⟨g, 0, none⟩) n cap) n (marksFrom K0 (k * 3) ++ rest) ∧ w.grownBy wr (some g)) (fun _ i _ => n - (intOf i).toNat)
  case atStart => exact ⟨0, K0, xs, Nat.zero_le _, rfl, rfl, by simp, by rw [HO.out.1]; simp, by simpa [marksFrom] using HO.out, World.grownBy.refl _ _⟩
  case round =>
    obtain ⟨k, K, rest, hk, rfl, rfl, hK, hrl, hown, hg⟩ := hrel
    have hK1 : 0 ≤ K := by omega
    have hK2 : K ≤ 4611697013543665664 := by omega
    have HK := Lib.hid hK
    have HOWN := Lib.hid hown
    have HRL := Lib.hid hrl
    have HG := Lib.hid hg
    clear hK hown hrl hg
    by_cases hlt : k < n
    · obtain ⟨r0, r1, r2, rest', hrest⟩ : ∃ r0 r1 r2 rest', rest = r0 :: r1 :: r2 :: rest' := by
        have h3 : 3 ≤ rest.length := by
          rw [HRL.out]
          have := Nat.mul_le_mul_right 3 (show 1 ≤ n - k by omega)
          omega
        match rest, h3 with
        | r0 :: r1 :: r2 :: rest', _ => exact ⟨r0, r1, r2, rest', rfl⟩
      have hpl : (marksFrom K0 (k * 3)).length = k * 3 := marksFrom_len _ _
      have o0 : wr.cell? ⟨g, k * 3, none⟩ = some r0 := by rw [HOWN.out.cellAt _ (by have := Nat.mul_le_mul_right 3 hlt; rw [Nat.succ_mul] at this; omega), hrest, List.getElem?_append_right (by omega), hpl]; simp
      have f0 : wr.frozen? ⟨g, k * 3, none⟩ = false := HOWN.out.frozenAt _
      have o1 : wr.cell? ⟨g, k * 3 + 1, none⟩ = some r1 := by rw [HOWN.out.cellAt _ (by have := Nat.mul_le_mul_right 3 hlt; rw [Nat.succ_mul] at this; omega), hrest, List.getElem?_append_right (by omega), hpl]; simp
      have f1 : wr.frozen? ⟨g, k * 3 + 1, none⟩ = false := HOWN.out.frozenAt _
      have o2 : wr.cell? ⟨g, k * 3 + 2, none⟩ = some r2 := by rw [HOWN.out.cellAt _ (by have := Nat.mul_le_mul_right 3 hlt; rw [Nat.succ_mul] at this; omega), hrest, List.getElem?_append_right (by omega), hpl]; simp
      have f2 : wr.frozen? ⟨g, k * 3 + 2, none⟩ = false := HOWN.out.frozenAt _
      have HPL := Lib.hid hpl
      have HREST := Lib.hid hrest
      clear hpl hrest
      go_wp2
      go_roundw
      case rel =>
        refine ⟨k + 1, K + 1 + 1 + 1, rest', by omega, by go_num, by go_num, by rw [HK.out]; omega, ?_, ?_, ?_⟩
        · have := HRL.out
          rw [HREST.out] at this
          simp only [List.length_cons] at this
          have e2 : n - k = (n - (k + 1)) + 1 := by omega
          rw [e2, Nat.succ_mul] at this
          omega
        · have hs := (((HOWN.out.stored (k * 3) (.int .i64 (K))).1.stored (k * 3 + 1) (.int .i64 (K + 1))).1.stored (k * 3 + 2) (.int .i64 (K + 1 + 1))).1
          have e : ((((marksFrom K0 (k * 3) ++ rest).set (k * 3) (.int .i64 (K))).set (k * 3 + 1) (.int .i64 (K + 1))).set (k * 3 + 2) (.int .i64 (K + 1 + 1))) = marksFrom K0 ((k + 1) * 3) ++ rest' := by
            rw [marksFrom_3, HREST.out, ← HK.out]
            have := HPL.out
            try simp only [Nat.mul_one] at this
            simp [this]
          rw [e] at hs
          exact hs
        · exact (gset (gset (gset HG.out _ _) _ _) _ _)
      case measure => simp [intOf]; omega
    · obtain rfl : k = n := by omega
      have e2 : rest = [] := List.eq_nil_of_length_eq_zero (by rw [HRL.out]; simp)
      have HE2 := Lib.hid e2
      clear e2
      go_wp2
      go_ret
      refine ⟨ret_int (by simpa using HK.out), ?_, HG.out⟩
      have := HOWN.out
      rw [HE2.out] at this
      simpa using this

set_option maxRecDepth 100000 in
set_option maxHeartbeats 1000000 in
theorem markHouseDeed_zero (p : Option Addr) (cap : Nat) (K0 : Int) (w : World) :
    Calls Try.prog 11 #[.slice p 0 cap, .int .i64 K0] w fun e w' => e = .returned (.int .i64 K0) ∧ w = w' := by
  go_enter Try.func11, Try.ntmps11
  go_wp2
  go_rounds 1
  go_ret
  exact ⟨rfl, rfl⟩

set_option maxRecDepth 100000 in
set_option maxHeartbeats 1000000 in
theorem heldHouseDeed_some (b off n cap : Nat) (K0 : Int) (w : World) (hn2 : n ≤ 1099511627776) (h0 : 0 ≤ K0) (h1 : K0 ≤ 4611686018427387904)
    (HR : Hid (∀ j, j < n * 3 → w.cell? ⟨b, off + j, none⟩ = some (.int .i64 (K0 + j)))) :
    Calls Try.prog 12 #[.slice (some ⟨b, off, none⟩) n cap, .int .i64 K0] w fun e w' => e = .returned (.int .i64 (K0 + (n * 3 : Nat))) ∧ w = w' := by
  go_enter Try.func12, Try.ntmps12
  go_wp2
  go_loop [1, 5] (fun kk i => ∃ (k : Nat) (K : Int), k ≤ n ∧ kk = .int .i64 K ∧ i = .int .i64 k ∧ K = K0 + (k * 3 : Nat)) (fun _ i => n - (intOf i).toNat)
  case atStart => exact ⟨0, K0, Nat.zero_le _, rfl, rfl, by simp⟩
  case round =>
    obtain ⟨k, K, hk, rfl, rfl, hK⟩ := hrel
    have hK1 : 0 ≤ K := by omega
    have hK2 : K ≤ 4611697013543665664 := by omega
    by_cases hlt : k < n
    · have hmul := Nat.mul_le_mul_right 3 hlt
      rw [Nat.succ_mul] at hmul
      have v0 : w.cell? ⟨b, off + k * 3, none⟩ = some (.int .i64 (K)) := by have := HR.out (k * 3) (by omega); rw [show (K : Int) = K0 + ((k * 3 : Nat) : Int) by omega]; exact this
      have v1 : w.cell? ⟨b, off + k * 3 + 1, none⟩ = some (.int .i64 (K + 1)) := by have := HR.out (k * 3 + 1) (by omega); rw [show (K + 1 : Int) = K0 + ((k * 3 + 1 : Nat) : Int) by omega]; exact this
      have v2 : w.cell? ⟨b, off + k * 3 + 2, none⟩ = some (.int .i64 (K + 1 + 1)) := by have := HR.out (k * 3 + 2) (by omega); rw [show (K + 1 + 1 : Int) = K0 + ((k * 3 + 2 : Nat) : Int) by omega]; exact this
      have HK := Lib.hid hK
      clear hK hmul
      go_wp2
      go_round
      case rel => exact ⟨k + 1, K + 1 + 1 + 1, by omega, by go_num, by go_num, by rw [HK.out]; omega⟩
      case measure => simp [intOf]; omega
    · obtain rfl : k = n := by omega
      have HK := Lib.hid hK
      clear hK
      go_wp2
      go_ret
      exact ⟨ret_int (by simpa using HK.out), rfl⟩

set_option maxRecDepth 100000 in
set_option maxHeartbeats 1000000 in
theorem heldHouseDeed_zero (p : Option Addr) (cap : Nat) (K0 : Int) (w : World) :
    Calls Try.prog 12 #[.slice p 0 cap, .int .i64 K0] w fun e w' => e = .returned (.int .i64 K0) ∧ w = w' := by
  go_enter Try.func12, Try.ntmps12
  go_wp2
  go_rounds 1
  go_ret
  exact ⟨rfl, rfl⟩

theorem markHouseDeed (B T n cap : Nat) (p : Option Addr) (xs : List Value) (K : Int) (w : World) (h : OwnT w B T TDd 3 p n cap xs) (hn : n ≤ 1099511627776) (h0 : 0 ≤ K) (h1 : K ≤ 4611686018427387904) :
    Calls Try.prog 11 #[.slice p n cap, .int .i64 K] w fun e w' => e = .returned (.int .i64 (K + (n * 3 : Nat))) ∧ OwnT w' B T TDd 3 p n cap (marksFrom K (n * 3)) ∧ ChgE TDd B T w w' := by
  by_cases hz : 0 < n
  · obtain ⟨g, cur, rfl, ho, hB, hT, hg⟩ := h.slot hz
    refine (markHouseDeed_some g n cap B xs K w hn h0 h1 ho).mono ?_
    rintro e w' ⟨rfl, h2, h3⟩
    exact ⟨rfl, h.own_new hT h2 h3.size, some g, h3, fun g' e => by simp at e; subst e; exact ⟨hB, hT, cur, hg⟩⟩
  · obtain rfl : n = 0 := by omega
    refine (markHouseDeed_zero p cap K w).mono ?_
    rintro e w' ⟨rfl, rfl⟩
    have := h.nomark
    subst this
    exact ⟨by simp, by simpa [marksFrom] using h, ChgE.refl _ _ _ _⟩
theorem heldHouseDeed (B T n cap : Nat) (p : Option Addr) (K : Int) (w : World) (h : OwnT w B T TDd 3 p n cap (marksFrom K (n * 3))) (hn : n ≤ 1099511627776) (h0 : 0 ≤ K) (h1 : K ≤ 4611686018427387904) :
    Calls Try.prog 12 #[.slice p n cap, .int .i64 K] w fun e w' => e = .returned (.int .i64 (K + (n * 3 : Nat))) ∧ w = w' := by
  by_cases hz : 0 < n
  · obtain ⟨g, rfl, hc⟩ := h.held hz
    exact heldHouseDeed_some g 0 n cap K w hn h0 h1 hc
  · obtain rfl : n = 0 := by omega
    refine (heldHouseDeed_zero p cap K w).mono ?_
    rintro e w' ⟨rfl, rfl⟩
    exact ⟨by simp, rfl⟩

end Go.Proofs.Ythhcpcjmolbkdaa
