/-
  The laws' helpers on lists of numbers, visits, halls, tariffs and houses: to, sz, eq. Conditions: slices read as lists of at most 2^40 elements.
-/
import Derived.Test.YthhcpcjmolbkdaaHouse1
namespace Go.Proofs.Ythhcpcjmolbkdaa
open Go.RowKit
set_option linter.unusedVariables false

abbrev TV : TypeId := 66
abbrev visitV (a b c d : Int) : Value := .agg #[.int .i64 a, .int .i64 b, .int .i64 c, .int .i64 d]
theorem Blk.four {w : World} {g : Nat} {t : TypeId} {a b c d : Value} (h : Blk w g t #[a, b, c, d]) : w.cell? ⟨g, 0, none⟩ = some a ∧ w.cell? ⟨g, 1, none⟩ = some b ∧ w.cell? ⟨g, 2, none⟩ = some c ∧ w.cell? ⟨g, 3, none⟩ = some d ∧ w.frozen? ⟨g, 0, none⟩ = false ∧ w.frozen? ⟨g, 1, none⟩ = false ∧ w.frozen? ⟨g, 2, none⟩ = false ∧ w.frozen? ⟨g, 3, none⟩ = false :=
  ⟨h.cell 0, h.cell 1, h.cell 2, h.cell 3, h.frozen 0, h.frozen 1, h.frozen 2, h.frozen 3⟩

theorem get_next {xs : List Int} {k n : Nat} (h : k < n) (hl : (xs.take k).length = k) : (ivs (xs.take k ++ List.replicate (n - k) 0))[k]? = some (.int .i64 0) := by
  simp only [ivs, List.map_append]
  rw [List.getElem?_append_right (by rw [List.length_map, hl]; exact Nat.le_refl _), List.length_map, hl, Nat.sub_self]
  rw [show n - k = (n - (k + 1)) + 1 by omega, List.replicate_succ]; rfl

theorem set_next {xs : List Int} {k n : Nat} {x : Int} (h : k < n) (hx : xs[k]? = some x) (hl : (xs.take k).length = k) : (ivs (xs.take k ++ List.replicate (n - k) 0)).set k (.int .i64 x) = ivs (xs.take (k + 1) ++ List.replicate (n - (k + 1)) 0) := by
  rw [take_snocL hx]
  rw [show n - k = (n - (k + 1)) + 1 by omega, List.replicate_succ]
  simp only [ivs, List.map_append, List.map_cons]
  rw [List.set_append_right _ _ (by rw [List.length_map, hl]; exact Nat.le_refl _)]
  simp only [List.length_map, hl, Nat.sub_self, List.set_cons_zero]
  simp [iv]

set_option maxRecDepth 100000 in
set_option maxHeartbeats 1000000 in
theorem toIntS_any (p : Option Addr) (n cap : Nat) (xs : List Int) (w : World) (hn : n ≤ 1099511627776) (hS : Sl w p n cap 1 (ivs xs)) :
    Calls Try.prog 35 #[.slice p n cap] w (RetInts xs w) := by
  obtain ⟨i0, hi, hz0, hz1, hz2⟩ := info_parts (show (Try.prog.info? 3).map (fun i => (i.zero, i.size, i.bytes)) = some (some (.int .i64 0), 1, 8) by kernel_rfl)
  have hl := Lib.hid hS.ilen
  have HS := Lib.hid hS
  clear hS
  go_enter Try.func35, Try.ntmps35
  go_wp2_with (at_make; refine wpList_make_full _ rfl _ _ 22 rfl w.heap.size 3 i0 (.int .i64 0) 1 Try.underlying22 hi hz0 hz1 .i64 .i64 _ _ n rfl rfl rfl rfl (by rw [hz2]; omega) (by unfold maxLen; omega) (Nat.le_refl _) ?_; intro w0 hown0 hgrow0)
  have hE0 : Ext w w0 := (Ext.refl w).grown hgrow0 (fun q hq => by cases hq)
  have hg0 := (hown0.lt w.heap.size rfl).2
  rw [made_zero] at hown0
  have HO0 := Lib.hid hown0
  clear hown0 hgrow0 hi hz0 hz1 hz2
  go_loopw [4] (fun i wr => ∃ k : Nat, k ≤ n ∧ i = .int .i64 k ∧ wr.ownsRow w.heap.size TI 1 (.slice (some ⟨w.heap.size, 0, none⟩) n n) n (ivs (xs.take k ++ List.replicate (n - k) 0)) ∧ Ext w wr) (fun i _ => n - (intOf i).toNat)
  case atStart => exact ⟨0, Nat.zero_le _, rfl, by simpa using HO0.out, hE0⟩
  case round =>
    obtain ⟨k, hk, rfl, hown, hE⟩ := hrel
    by_cases hlt : k < n
    · obtain ⟨b, off, x, rfl, hx, hb, hcell⟩ := (HS.out.ext hE).int_at hlt
      have HX := Lib.hid hx
      have hlt' : (xs.take k).length = k := by rw [List.length_take, hl.out]; omega
      have o0 : wr.cell? ⟨w.heap.size, k, none⟩ = some (.int .i64 0) := by
        rw [hown.cellAt k (by omega)]
        exact get_next hlt hlt'
      have f0 : wr.frozen? ⟨w.heap.size, k, none⟩ = false := hown.frozenAt k
      have HN : Hid ((wr.setCell ⟨w.heap.size, k, none⟩ (.int .i64 x)).ownsRow w.heap.size TI 1 (.slice (some ⟨w.heap.size, 0, none⟩) n n) n (ivs (xs.take (k + 1) ++ List.replicate (n - (k + 1)) 0))) := by
        have := (hown.stored k (.int .i64 x)).1
        rw [set_next hlt HX.out hlt'] at this
        exact this
      have hsz := hE.sz
      clear hown hx
      go_wp2
      go_roundw
      case rel => exact ⟨k + 1, by omega, by go_num, HN.out, by (repeat' (first | exact Ext.refl _ | (with_reducible assumption) | (with_reducible refine Ext.alloc ?_ _) | (with_reducible refine Ext.setCell ?_ (by first | exact Nat.le_refl _ | (dsimp only; omega) | (simp; done) | (simp; omega)) _) | (with_reducible refine Ext.drew ?_) | (with_reducible refine Ext.drewN ?_ _) | (refine Ext.trans ?_ (by with_reducible assumption))))⟩
      case measure => simp [intOf]; omega
    · obtain rfl : k = n := by omega
      have e : xs.take k = xs := List.take_of_length_le (by rw [hl.out]; exact Nat.le_refl _)
      have HO := Lib.hid (show wr.ownsRow w.heap.size TI 1 (.slice (some ⟨w.heap.size, 0, none⟩) k k) k (ivs xs) by rw [e] at hown; simpa using hown)
      clear hown e
      go_wp2
      go_ret
      exact ret_ints hl.out HO.out hE

set_option maxRecDepth 100000 in
set_option maxHeartbeats 1000000 in
theorem eqIntS_any (p q : Option Addr) (n c1 c2 : Nat) (xs : List Int) (w : World) (h1 : Sl w p n c1 1 (ivs xs)) (h2 : Sl w q n c2 1 (ivs xs)) :
    Calls Try.prog 41 #[.slice p n c1, .slice q n c2] w fun e w' => e = .returned (.bool true) ∧ Ext w w' := by
  have hn := h1.bd
  have H1 := Lib.hid h1
  have H2 := Lib.hid h2
  clear h1 h2
  go_enter Try.func41, Try.ntmps41
  go_wp2
  go_loopw [5] (fun i wr => ∃ k : Nat, k ≤ n ∧ i = .int .i64 k ∧ Ext w wr) (fun i _ => n - (intOf i).toNat)
  case atStart => exact ⟨0, Nat.zero_le _, rfl, Ext.refl _⟩
  case round =>
    obtain ⟨k, hk, rfl, hE⟩ := hrel
    by_cases hlt : k < n
    · obtain ⟨b, off, x, rfl, hx, hb, hcell⟩ := (H1.out.ext hE).int_at hlt
      obtain ⟨b2, off2, y, rfl, hy, hb2, hcell2⟩ := (H2.out.ext hE).int_at hlt
      rw [hx] at hy
      injection hy with hy
      subst hy
      clear hx
      have i1 : (0 : Int) ≤ (k : Int) := by omega
      have i2 : (k : Int) < (n : Int) := by omega
      go_wp2
      go_quiet (fail)
      go_wp2
      go_roundw
      case rel => exact ⟨k + 1, by omega, by go_num, by (repeat' (first | exact Ext.refl _ | (with_reducible assumption) | (with_reducible refine Ext.alloc ?_ _) | (with_reducible refine Ext.setCell ?_ (by first | exact Nat.le_refl _ | (dsimp only; omega) | (simp; done) | (simp; omega)) _) | (with_reducible refine Ext.drew ?_) | (with_reducible refine Ext.drewN ?_ _) | (refine Ext.trans ?_ (by with_reducible assumption))))⟩
      case measure => simp [intOf]; omega
    · go_wp2
      go_ret
      exact ⟨rfl, hE⟩

set_option maxRecDepth 100000 in
set_option maxHeartbeats 1000000 in
theorem szIntS_any (p : Option Addr) (n cap : Nat) (left : Int) (w : World) (hn : n ≤ 9223372036854775807) (hl : 0 ≤ left) (hl2 : left ≤ 1048576) :
    Calls Try.prog 29 #[.slice p n cap, .int .i64 left] w fun e w' => e = .returned (.int .i64 (if left < n then -1 else left - n)) ∧ w = w' := by
  by_cases h : left < n
  · rw [if_pos h]
    go_enter Try.func29, Try.ntmps29
    go_wp2
    go_ret
    exact ⟨rfl, rfl⟩
  · rw [if_neg h]
    go_enter Try.func29, Try.ntmps29
    go_wp2
    go_ret
    exact ⟨rfl, rfl⟩
set_option maxRecDepth 100000 in
set_option maxHeartbeats 1000000 in
theorem szVisitS_any (p : Option Addr) (n cap : Nat) (left : Int) (w : World) (hn : n ≤ 9223372036854775807) (hl : 0 ≤ left) (hl2 : left ≤ 1048576) :
    Calls Try.prog 14 #[.slice p n cap, .int .i64 left] w fun e w' => e = .returned (.int .i64 (if left < n then -1 else left - n)) ∧ w = w' := by
  by_cases h : left < n
  · rw [if_pos h]
    go_enter Try.func14, Try.ntmps14
    go_wp2
    go_ret
    exact ⟨rfl, rfl⟩
  · rw [if_neg h]
    go_enter Try.func14, Try.ntmps14
    go_wp2
    go_ret
    exact ⟨rfl, rfl⟩
set_option maxRecDepth 100000 in
set_option maxHeartbeats 1000000 in
theorem szHouse_any (h : HouseD) (p : Option Addr) (n cap : Nat) (q : Option Addr) (m c2 : Nat) (w : World) (hn : n ≤ 9223372036854775807) (hm : m ≤ 9223372036854775807) :
    Calls Try.prog 4 #[houseV h p n cap q m c2, .int .i64 1048576] w fun e w' => e = .returned (.int .i64 (if 1048576 < n + m then -1 else 1048576 - n - m)) ∧ Ext w w' := by
  obtain ⟨wide, deep, cells, free, step, price, capp, clock, bank, vs⟩ := h
  by_cases h1 : (1048576 : Int) < n
  · have HA : Hid (∀ w, Calls Try.prog 29 #[.slice p n cap, .int .i64 1048576] w fun e w' => e = .returned (.int .i64 (-1)) ∧ w = w') := fun w => by have := szIntS_any p n cap 1048576 w hn (by omega) (by omega); rwa [if_pos h1] at this
    rw [if_pos (by omega)]
    go_enter Try.func4, Try.ntmps4
    go_wp2_with (first | (go_at_call 29; refine (HA.out _).mono ?_; rintro e w1 ⟨rfl, rfl⟩) | go_in)
    go_ret
    exact ⟨rfl, by (repeat' (first | exact Ext.refl _ | (with_reducible assumption) | (with_reducible refine Ext.alloc ?_ _) | (with_reducible refine Ext.setCell ?_ (by first | exact Nat.le_refl _ | (dsimp only; omega) | (simp; done) | (simp; omega)) _) | (with_reducible refine Ext.drew ?_) | (with_reducible refine Ext.drewN ?_ _) | (refine Ext.trans ?_ (by with_reducible assumption))))⟩
  · have HA : Hid (∀ w, Calls Try.prog 29 #[.slice p n cap, .int .i64 1048576] w fun e w' => e = .returned (.int .i64 (1048576 - n)) ∧ w = w') := fun w => by have := szIntS_any p n cap 1048576 w hn (by omega) (by omega); rwa [if_neg h1] at this
    by_cases h2 : (1048576 - n : Int) < m
    · have HB : Hid (∀ w, Calls Try.prog 14 #[.slice q m c2, .int .i64 (1048576 - n)] w fun e w' => e = .returned (.int .i64 (-1)) ∧ w = w') := fun w => by have := szVisitS_any q m c2 (1048576 - n) w hm (by omega) (by omega); rwa [if_pos h2] at this
      rw [if_pos (by omega)]
      go_enter Try.func4, Try.ntmps4
      go_wp2_with (first | (go_at_call 29; refine (HA.out _).mono ?_; rintro e w1 ⟨rfl, rfl⟩) | (go_at_call 14; refine (HB.out _).mono ?_; rintro e w1 ⟨rfl, rfl⟩) | go_in)
      go_ret
      exact ⟨rfl, by (repeat' (first | exact Ext.refl _ | (with_reducible assumption) | (with_reducible refine Ext.alloc ?_ _) | (with_reducible refine Ext.setCell ?_ (by first | exact Nat.le_refl _ | (dsimp only; omega) | (simp; done) | (simp; omega)) _) | (with_reducible refine Ext.drew ?_) | (with_reducible refine Ext.drewN ?_ _) | (refine Ext.trans ?_ (by with_reducible assumption))))⟩
    · have HB : Hid (∀ w, Calls Try.prog 14 #[.slice q m c2, .int .i64 (1048576 - n)] w fun e w' => e = .returned (.int .i64 (1048576 - n - m)) ∧ w = w') := fun w => by have := szVisitS_any q m c2 (1048576 - n) w hm (by omega) (by omega); rwa [if_neg h2] at this
      rw [if_neg (by omega)]
      go_enter Try.func4, Try.ntmps4
      go_wp2_with (first | (go_at_call 29; refine (HA.out _).mono ?_; rintro e w1 ⟨rfl, rfl⟩) | (go_at_call 14; refine (HB.out _).mono ?_; rintro e w1 ⟨rfl, rfl⟩) | go_in)
      go_ret
      exact ⟨rfl, by (repeat' (first | exact Ext.refl _ | (with_reducible assumption) | (with_reducible refine Ext.alloc ?_ _) | (with_reducible refine Ext.setCell ?_ (by first | exact Nat.le_refl _ | (dsimp only; omega) | (simp; done) | (simp; omega)) _) | (with_reducible refine Ext.drew ?_) | (with_reducible refine Ext.drewN ?_ _) | (refine Ext.trans ?_ (by with_reducible assumption))))⟩

set_option maxRecDepth 100000 in
set_option maxHeartbeats 1000000 in
theorem toTariff_any (f s p c : Int) (w : World) : Calls Try.prog 19 #[tariffV f s p c] w fun e w' => e = .returned (tariffV f s p c) ∧ Ext w w' := by
  go_enter Try.func19, Try.ntmps19
  go_wp2
  exact bodyPost_ret (v := tariffV f s p c) (by simp [results, Try.results19, go_sem]) rfl ⟨rfl, by (repeat' (first | exact Ext.refl _ | (with_reducible assumption) | (with_reducible refine Ext.alloc ?_ _) | (with_reducible refine Ext.setCell ?_ (by first | exact Nat.le_refl _ | (dsimp only; omega) | (simp; done) | (simp; omega)) _) | (with_reducible refine Ext.drew ?_) | (with_reducible refine Ext.drewN ?_ _) | (refine Ext.trans ?_ (by with_reducible assumption))))⟩
set_option maxRecDepth 100000 in
set_option maxHeartbeats 1000000 in
theorem toVisit_any (a b c d : Int) (w : World) : Calls Try.prog 36 #[visitV a b c d] w fun e w' => e = .returned (visitV a b c d) ∧ Ext w w' := by
  go_enter Try.func36, Try.ntmps36
  go_wp2_with go_in
  exact bodyPost_ret (v := visitV a b c d) (by simp [results, Try.results36, go_sem]) rfl ⟨rfl, by (repeat' (first | exact Ext.refl _ | (with_reducible assumption) | (with_reducible refine Ext.alloc ?_ _) | (with_reducible refine Ext.setCell ?_ (by first | exact Nat.le_refl _ | (dsimp only; omega) | (simp; done) | (simp; omega)) _) | (with_reducible refine Ext.drew ?_) | (with_reducible refine Ext.drewN ?_ _) | (refine Ext.trans ?_ (by with_reducible assumption))))⟩
set_option maxRecDepth 100000 in
set_option maxHeartbeats 1000000 in
theorem eqTariff_any (f s p c : Int) (w : World) : Calls Try.prog 25 #[tariffV f s p c, tariffV f s p c] w fun e w' => e = .returned (.bool true) ∧ Ext w w' := by
  go_enter Try.func25, Try.ntmps25
  go_wp2
  go_ret
  exact ⟨rfl, by (repeat' (first | exact Ext.refl _ | (with_reducible assumption) | (with_reducible refine Ext.alloc ?_ _) | (with_reducible refine Ext.setCell ?_ (by first | exact Nat.le_refl _ | (dsimp only; omega) | (simp; done) | (simp; omega)) _) | (with_reducible refine Ext.drew ?_) | (with_reducible refine Ext.drewN ?_ _) | (refine Ext.trans ?_ (by with_reducible assumption))))⟩
set_option maxRecDepth 100000 in
set_option maxHeartbeats 1000000 in
theorem eqStay_any (a b c : Int) (w : World) : Calls Try.prog 58 #[stayV a b c, stayV a b c] w fun e w' => e = .returned (.bool true) ∧ Ext w w' := by
  go_enter Try.func58, Try.ntmps58
  go_wp2
  go_ret
  exact ⟨rfl, by (repeat' (first | exact Ext.refl _ | (with_reducible assumption) | (with_reducible refine Ext.alloc ?_ _) | (with_reducible refine Ext.setCell ?_ (by first | exact Nat.le_refl _ | (dsimp only; omega) | (simp; done) | (simp; omega)) _) | (with_reducible refine Ext.drew ?_) | (with_reducible refine Ext.drewN ?_ _) | (refine Ext.trans ?_ (by with_reducible assumption))))⟩
set_option maxRecDepth 100000 in
set_option maxHeartbeats 1000000 in
theorem eqVisit_any (a b c d : Int) (w : World) : Calls Try.prog 42 #[visitV a b c d, visitV a b c d] w fun e w' => e = .returned (.bool true) ∧ Ext w w' := by
  go_enter Try.func42, Try.ntmps42
  go_wp2_with fail
  refine (eqStay_any b c d _).mono ?_
  rintro e w1 ⟨rfl, h1⟩
  go_wp2
  go_ret
  exact ⟨rfl, by (repeat' (first | exact Ext.refl _ | (with_reducible assumption) | (with_reducible refine Ext.alloc ?_ _) | (with_reducible refine Ext.setCell ?_ (by first | exact Nat.le_refl _ | (dsimp only; omega) | (simp; done) | (simp; omega)) _) | (with_reducible refine Ext.drew ?_) | (with_reducible refine Ext.drewN ?_ _) | (refine Ext.trans ?_ (by with_reducible assumption))))⟩

/-- visits in a slice of the call's own -/
def RetVisits (vs : List Visit4) (w : World) (e : Ending) (w' : World) : Prop :=
  ∃ p cap, e = .returned (.slice p vs.length cap) ∧ w'.ownsRow w.heap.size TV 4 (.slice p vs.length cap) vs.length (vs.flatMap visitCells) ∧ Ext w w'
theorem ret_visits {p : Option Addr} {n cap : Nat} {vs : List Visit4} {w w' : World} (hn : vs.length = n) (ho : w'.ownsRow w.heap.size TV 4 (.slice p n cap) n (vs.flatMap visitCells)) (hx : Ext w w') : RetVisits vs w (.returned (.slice p n cap)) w' := by
  subst hn; exact ⟨p, cap, rfl, ho, hx⟩
def vz : Visit4 := (0, 0, 0, 0)
theorem made_visits (n : Nat) : (madeCells (visitV 0 0 0 0).cells (n * 4)).toList = (List.replicate n vz).flatMap visitCells := by
  apply List.ext_getElem?
  intro j
  by_cases hj : j < n * 4
  · have h1 : j / 4 < n := by omega
    have hv : (List.replicate n vz)[j / 4]? = some vz := by simp [h1]
    have := flat_get visitCells 4 (fun _ => rfl) _ _ _ hv (j % 4) (by omega)
    rw [show j / 4 * 4 + j % 4 = j by omega] at this
    rw [this]
    simp [madeCells, Value.cells, hj]
    have : j % 4 = 0 ∨ j % 4 = 1 ∨ j % 4 = 2 ∨ j % 4 = 3 := by omega
    rcases this with h | h | h | h <;> simp [h, visitCells, vz]
  · rw [List.getElem?_eq_none (by simp [madeCells]; omega), List.getElem?_eq_none (by rw [flat_len visitCells 4 (fun _ => rfl)]; simp; omega)]
theorem vset_next {vs : List Visit4} {k n : Nat} {a b c d : Int} (h : k < n) (hx : vs[k]? = some (a, b, c, d)) (hl : (vs.take k).length = k) :
    (((((vs.take k ++ List.replicate (n - k) vz).flatMap visitCells).set (k * 4) (.int .i64 a)).set (k * 4 + 1) (.int .i64 b)).set (k * 4 + 2) (.int .i64 c)).set (k * 4 + 3) (.int .i64 d) = (vs.take (k + 1) ++ List.replicate (n - (k + 1)) vz).flatMap visitCells := by
  rw [take_snocL hx, show n - k = (n - (k + 1)) + 1 by omega, List.replicate_succ]
  have hf : ((vs.take k).flatMap visitCells).length = k * 4 := by rw [flat_len visitCells 4 (fun _ => rfl), hl]
  simp only [List.flatMap_append, List.flatMap_cons, List.append_assoc]
  generalize (vs.take k).flatMap visitCells = A at hf
  rw [List.set_append_right _ _ (by omega), List.set_append_right _ _ (by omega), List.set_append_right _ _ (by omega), List.set_append_right _ _ (by omega)]
  simp [hf, visitCells, vz]
theorem vget_next {vs : List Visit4} {k n : Nat} (h : k < n) (hl : (vs.take k).length = k) (j : Nat) (hj : j < 4) : ((vs.take k ++ List.replicate (n - k) vz).flatMap visitCells)[k * 4 + j]? = some (.int .i64 0) := by
  have hv : (vs.take k ++ List.replicate (n - k) vz)[k]? = some vz := by
    rw [List.getElem?_append_right (by omega), hl, Nat.sub_self, List.getElem?_replicate, if_pos (by omega)]
  rw [flat_get visitCells 4 (fun _ => rfl) _ _ _ hv j hj]
  match j, hj with
  | 0, _ => rfl
  | 1, _ => rfl
  | 2, _ => rfl
  | 3, _ => rfl

set_option maxRecDepth 100000 in
set_option maxHeartbeats 1000000 in
theorem toVisitS_any (p : Option Addr) (n cap : Nat) (vs : List Visit4) (w : World) (hn : n ≤ 1099511627776) (hS : Sl w p n cap 4 (vs.flatMap visitCells)) :
    Calls Try.prog 20 #[.slice p n cap] w (RetVisits vs w) := by
  obtain ⟨i0, hi, hz0, hz1, hz2⟩ := info_parts (show (Try.prog.info? TV).map (fun i => (i.zero, i.size, i.bytes)) = some (some (visitV 0 0 0 0), 4, 32) by kernel_rfl)
  have hl0 : vs.length = n := by have := hS.len; rw [flat_len visitCells 4 (fun _ => rfl)] at this; omega
  have hl := Lib.hid hl0
  have HS := Lib.hid hS
  clear hS hl0
  go_enter Try.func20, Try.ntmps20
  go_wp2_with (at_make; refine wpList_make_full _ rfl _ _ 35 rfl w.heap.size TV i0 (visitV 0 0 0 0) 4 Try.underlying35 hi hz0 hz1 .i64 .i64 _ _ n rfl rfl rfl rfl (by rw [hz2]; omega) (by unfold maxLen; omega) (Nat.le_refl _) ?_; intro w0 hown0 hgrow0)
  have hE0 : Ext w w0 := (Ext.refl w).grown hgrow0 (fun q hq => by cases hq)
  have hg0 := (hown0.lt w.heap.size rfl).2
  rw [made_visits] at hown0
  have HO0 := Lib.hid hown0
  clear hown0 hgrow0 hi hz0 hz1 hz2
  go_loopw [4] (fun i wr => ∃ k : Nat, k ≤ n ∧ i = .int .i64 k ∧ wr.ownsRow w.heap.size TV 4 (.slice (some ⟨w.heap.size, 0, none⟩) n n) n ((vs.take k ++ List.replicate (n - k) vz).flatMap visitCells) ∧ Ext w wr) (fun i _ => n - (intOf i).toNat)
  case atStart => exact ⟨0, Nat.zero_le _, rfl, by rw [List.take_zero, List.nil_append, Nat.sub_zero]; exact HO0.out, hE0⟩
  case round =>
    obtain ⟨k, hk, rfl, hown, hE⟩ := hrel
    by_cases hlt : k < n
    · obtain ⟨b, off, a0, a1, a2, a3, rfl, hx, hb, g0, g1, g2, g3⟩ := visit_at (HS.out.ext hE) hlt
      have HX := Lib.hid hx
      have hlt' : (vs.take k).length = k := by rw [List.length_take, hl.out]; omega
      have HOWN := Lib.hid hown
      have HLT := Lib.hid hlt'
      clear hown hx hlt'
      go_wp2_with fail
      refine (toVisit_any a0 a1 a2 a3 _).mono ?_
      rintro e w1 ⟨rfl, h1⟩
      have how1 := own_ext HOWN.out h1
      have hg1 : w.heap.size < w1.heap.size := (how1.lt w.heap.size rfl).2
      have o0 : w1.cell? ⟨w.heap.size, k * 4, none⟩ = some (.int .i64 0) := (how1.cellAt _ (by omega)).trans (vget_next hlt HLT.out 0 (by omega))
      have o1 : w1.cell? ⟨w.heap.size, k * 4 + 1, none⟩ = some (.int .i64 0) := (how1.cellAt _ (by omega)).trans (vget_next hlt HLT.out 1 (by omega))
      have o2 : w1.cell? ⟨w.heap.size, k * 4 + 2, none⟩ = some (.int .i64 0) := (how1.cellAt _ (by omega)).trans (vget_next hlt HLT.out 2 (by omega))
      have o3 : w1.cell? ⟨w.heap.size, k * 4 + 3, none⟩ = some (.int .i64 0) := (how1.cellAt _ (by omega)).trans (vget_next hlt HLT.out 3 (by omega))
      have f0 : w1.frozen? ⟨w.heap.size, k * 4, none⟩ = false := how1.frozenAt _
      have f1 : w1.frozen? ⟨w.heap.size, k * 4 + 1, none⟩ = false := how1.frozenAt _
      have f2 : w1.frozen? ⟨w.heap.size, k * 4 + 2, none⟩ = false := how1.frozenAt _
      have f3 : w1.frozen? ⟨w.heap.size, k * 4 + 3, none⟩ = false := how1.frozenAt _
      have hst := ((((how1.stored (k * 4) (.int .i64 a0)).1.stored (k * 4 + 1) (.int .i64 a1)).1.stored (k * 4 + 2) (.int .i64 a2)).1.stored (k * 4 + 3) (.int .i64 a3)).1
      rw [vset_next hlt HX.out HLT.out] at hst
      have HST := Lib.hid hst
      clear how1 hst
      go_wp2
      go_roundw
      case rel => exact ⟨k + 1, by omega, by go_num, HST.out, by (repeat' (first | exact Ext.refl _ | (with_reducible assumption) | (with_reducible refine Ext.alloc ?_ _) | (with_reducible refine Ext.setCell ?_ (by first | exact Nat.le_refl _ | (dsimp only; omega) | (simp; done) | (simp; omega)) _) | (with_reducible refine Ext.drew ?_) | (with_reducible refine Ext.drewN ?_ _) | (refine Ext.trans ?_ (by with_reducible assumption))))⟩
      case measure => simp [intOf]; omega
    · obtain rfl : k = n := by omega
      have e : vs.take k = vs := List.take_of_length_le (by rw [hl.out]; exact Nat.le_refl _)
      have HO := Lib.hid (show wr.ownsRow w.heap.size TV 4 (.slice (some ⟨w.heap.size, 0, none⟩) k k) k (vs.flatMap visitCells) by rw [e] at hown; simpa using hown)
      clear hown e
      go_wp2
      go_ret
      exact ret_visits hl.out HO.out hE

set_option maxRecDepth 100000 in
set_option maxHeartbeats 1000000 in
theorem eqVisitS_any (p q : Option Addr) (n c1 c2 : Nat) (vs : List Visit4) (w : World) (h1 : Sl w p n c1 4 (vs.flatMap visitCells)) (h2 : Sl w q n c2 4 (vs.flatMap visitCells)) :
    Calls Try.prog 26 #[.slice p n c1, .slice q n c2] w fun e w' => e = .returned (.bool true) ∧ Ext w w' := by
  have hn := h1.bd
  have H1 := Lib.hid h1
  have H2 := Lib.hid h2
  clear h1 h2
  go_enter Try.func26, Try.ntmps26
  go_wp2
  go_loopw [5] (fun i wr => ∃ k : Nat, k ≤ n ∧ i = .int .i64 k ∧ Ext w wr) (fun i _ => n - (intOf i).toNat)
  case atStart => exact ⟨0, Nat.zero_le _, rfl, Ext.refl _⟩
  case round =>
    obtain ⟨k, hk, rfl, hE⟩ := hrel
    by_cases hlt : k < n
    · obtain ⟨b, off, a0, a1, a2, a3, rfl, hx, hb, g0, g1, g2, g3⟩ := visit_at (H1.out.ext hE) hlt
      obtain ⟨b2, off2, d0, d1, d2, d3, rfl, hy, hb2, k0, k1, k2, k3⟩ := visit_at (H2.out.ext hE) hlt
      rw [hx] at hy
      injection hy with hy
      simp only [Prod.mk.injEq] at hy
      obtain ⟨rfl, rfl, rfl, rfl⟩ := hy
      clear hx
      have i1 : (0 : Int) ≤ (k : Int) := by omega
      have i2 : (k : Int) < (n : Int) := by omega
      have HQ : Hid (∀ w, Calls Try.prog 42 #[visitV a0 a1 a2 a3, visitV a0 a1 a2 a3] w fun e w' => e = .returned (.bool true) ∧ Ext w w') := fun w => eqVisit_any a0 a1 a2 a3 w
      go_wp2
      go_region_held3 (fun w' => w'.cell? ⟨b, off + k * 4, none⟩ = some (.int .i64 a0) ∧ w'.cell? ⟨b, off + k * 4 + 1, none⟩ = some (.int .i64 a1) ∧ w'.cell? ⟨b, off + k * 4 + 2, none⟩ = some (.int .i64 a2) ∧ w'.cell? ⟨b, off + k * 4 + 3, none⟩ = some (.int .i64 a3) ∧ w'.cell? ⟨b2, off2 + k * 4, none⟩ = some (.int .i64 a0) ∧ w'.cell? ⟨b2, off2 + k * 4 + 1, none⟩ = some (.int .i64 a1) ∧ w'.cell? ⟨b2, off2 + k * 4 + 2, none⟩ = some (.int .i64 a2) ∧ w'.cell? ⟨b2, off2 + k * 4 + 3, none⟩ = some (.int .i64 a3)) (go_keep) ((go_at_call 42; refine (HQ.out _).mono ?_; rintro e w1 ⟨rfl, h1⟩; (try replace h1 := h1.of_drew); have hce := h1.cells.1))
      all_goals go_wp2
      all_goals go_roundw
      all_goals first
        | (case rel => exact ⟨k + 1, by omega, by go_num, by (repeat' (first | exact Ext.refl _ | (with_reducible assumption) | (with_reducible refine Ext.alloc ?_ _) | (with_reducible refine Ext.setCell ?_ (by first | exact Nat.le_refl _ | (dsimp only; omega) | (simp; done) | (simp; omega)) _) | (with_reducible refine Ext.drew ?_) | (with_reducible refine Ext.drewN ?_ _) | (refine Ext.trans ?_ (by with_reducible assumption))))⟩)
        | (case measure => simp [intOf]; omega)
    · go_wp2
      go_ret
      exact ⟨rfl, hE⟩
end Go.Proofs.Ythhcpcjmolbkdaa
