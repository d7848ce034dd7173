/-
  Both packages' HouseValid tell whether a house is valid ('houseOk'). Conditions: its slices read as lists.
-/
import Derived.Test.YthhcpcjmolbkdaaHc3
import Derived.Test.YthhcpcjmolbkdaaTake
namespace Go.Proofs.Ythhcpcjmolbkdaa
open Go.RowKit
set_option linter.unusedVariables false

abbrev houseV (h : HouseD) (p : Option Addr) (n cap : Nat) (q : Option Addr) (m c2 : Nat) : Value :=
  .agg #[.int .i64 h.wide, .int .i64 h.deep, .slice p n cap, .int .i64 h.free, .int .i64 h.step, .int .i64 h.price, .int .i64 h.capp, .int .i64 h.clock, .int .i64 h.bank, .slice q m c2]
/-- a house's slices read as its lists -/
structure IsHouse (w : World) (h : HouseD) (p : Option Addr) (n cap : Nat) (q : Option Addr) (m c2 : Nat) : Prop where
  cells : Sl w p n cap 1 (ivs h.cells)
  vs : Sl w q m c2 4 (h.vs.flatMap visitCells)
theorem IsHouse.ext {w w' : World} {h : HouseD} {p q : Option Addr} {n cap m c2 : Nat} (i : IsHouse w h p n cap q m c2) (hx : Ext w w') : IsHouse w' h p n cap q m c2 := ⟨i.cells.ext hx, i.vs.ext hx⟩
theorem IsHouse.vlen {w : World} {h : HouseD} {p q : Option Addr} {n cap m c2 : Nat} (i : IsHouse w h p n cap q m c2) : h.vs.length = m := by
  have := i.vs.len; rw [flat_len visitCells 4 (fun _ => rfl)] at this; omega
theorem IsHouse.clen {w : World} {h : HouseD} {p q : Option Addr} {n cap m c2 : Nat} (i : IsHouse w h p n cap q m c2) : h.cells.length = n := i.cells.ilen
theorem visit_at {w : World} {q : Option Addr} {m c2 : Nat} {vs : List Visit4} (h : Sl w q m c2 4 (vs.flatMap visitCells)) {k : Nat} (hk : k < m) :
    ∃ b off a0 a1 a2 a3, q = some ⟨b, off, none⟩ ∧ vs[k]? = some (a0, a1, a2, a3) ∧ b < w.heap.size ∧ w.cell? ⟨b, off + k * 4, none⟩ = some (.int .i64 a0) ∧ w.cell? ⟨b, off + k * 4 + 1, none⟩ = some (.int .i64 a1) ∧ w.cell? ⟨b, off + k * 4 + 2, none⟩ = some (.int .i64 a2) ∧ w.cell? ⟨b, off + k * 4 + 3, none⟩ = some (.int .i64 a3) := by
  obtain ⟨b, off, x, hp, hx, hb, hc⟩ := Sl.at_ (sz := 4) (f := visitCells) (fun _ => rfl) h hk (by omega)
  obtain ⟨a0, a1, a2, a3⟩ := x
  exact ⟨b, off, a0, a1, a2, a3, hp, hx, hb, hc 0 (by omega), hc 1 (by omega), hc 2 (by omega), hc 3 (by omega)⟩

def OwnZ (w : World) (p : Option Addr) (n c : Nat) (xs : List Int) : Prop := Sl w p n c 1 (ivs xs)
theorem OwnZ.ext {w w' : World} {p : Option Addr} {n c : Nat} {xs : List Int} (h : OwnZ w p n c xs) (hx : Ext w w') : Sl w' p n c 1 (ivs xs) := Sl.ext h hx
theorem own_z {w : World} {B n c : Nat} {p : Option Addr} {xs : List Int} (h : w.ownsRow B TI 1 (.slice p n c) n (ivs xs)) : OwnZ w p n c xs := Sl.own h

set_option maxRecDepth 100000 in
set_option maxHeartbeats 1000000 in
theorem implHo_bad1 (wide deep free step price capp clock bank : Int) (p : Option Addr) (n cap : Nat) (q : Option Addr) (m c2 : Nat) (w : World) (hm : m ≤ 9223372036854775807)
    (HV : Hid (∀ w', Ext w w' → Calls Try.prog 52 #[hallV wide deep p n cap] w' fun e w'' => e = .returned (.bool false) ∧ Ext w' w'')) :
    Calls Try.prog 37 #[.agg #[.int .i64 wide, .int .i64 deep, .slice p n cap, .int .i64 free, .int .i64 step, .int .i64 price, .int .i64 capp, .int .i64 clock, .int .i64 bank, .slice q m c2]] w fun e w' => e = .returned (.bool false) ∧ Ext w w' := by
  go_enter Try.func37, Try.ntmps37
  go_wp2_with fail
  refine (HV.out _ (by (repeat' (first | exact Ext.refl _ | (with_reducible assumption) | (with_reducible refine Ext.alloc ?_ _) | (with_reducible refine Ext.setCell ?_ (by first | exact Nat.le_refl _ | (dsimp only; omega) | (simp; done) | (simp; omega)) _) | (with_reducible refine Ext.drew ?_) | (with_reducible refine Ext.drewN ?_ _) | (refine Ext.trans ?_ (by with_reducible assumption)))))).mono ?_
  rintro e w1 ⟨rfl, hh1⟩
  have hx1 : Ext (w.alloc (.cells #[.int .i64 wide, .int .i64 deep, .slice p n cap, .int .i64 free, .int .i64 step, .int .i64 price, .int .i64 capp, .int .i64 clock, .int .i64 bank, .slice q m c2] 37)) w1 := hh1
  have hz1 : w.heap.size < w1.heap.size := Nat.lt_of_lt_of_le (by simp) hx1.sz
  have e1_0 : w1.cell? ⟨w.heap.size, 0, none⟩ = some (.int .i64 wide) := by rw [hx1.cells.1 _ _ (by simp)]; simp
  have e1_1 : w1.cell? ⟨w.heap.size, 1, none⟩ = some (.int .i64 deep) := by rw [hx1.cells.1 _ _ (by simp)]; simp
  have e1_2 : w1.cell? ⟨w.heap.size, 2, none⟩ = some (.slice p n cap) := by rw [hx1.cells.1 _ _ (by simp)]; simp
  have e1_3 : w1.cell? ⟨w.heap.size, 3, none⟩ = some (.int .i64 free) := by rw [hx1.cells.1 _ _ (by simp)]; simp
  have e1_4 : w1.cell? ⟨w.heap.size, 4, none⟩ = some (.int .i64 step) := by rw [hx1.cells.1 _ _ (by simp)]; simp
  have e1_5 : w1.cell? ⟨w.heap.size, 5, none⟩ = some (.int .i64 price) := by rw [hx1.cells.1 _ _ (by simp)]; simp
  have e1_6 : w1.cell? ⟨w.heap.size, 6, none⟩ = some (.int .i64 capp) := by rw [hx1.cells.1 _ _ (by simp)]; simp
  have e1_7 : w1.cell? ⟨w.heap.size, 7, none⟩ = some (.int .i64 clock) := by rw [hx1.cells.1 _ _ (by simp)]; simp
  have e1_8 : w1.cell? ⟨w.heap.size, 8, none⟩ = some (.int .i64 bank) := by rw [hx1.cells.1 _ _ (by simp)]; simp
  have e1_9 : w1.cell? ⟨w.heap.size, 9, none⟩ = some (.slice q m c2) := by rw [hx1.cells.1 _ _ (by simp)]; simp
  go_wp2
  go_ret
  exact ⟨rfl, by (repeat' (first | exact Ext.refl _ | (with_reducible assumption) | (with_reducible refine Ext.alloc ?_ _) | (with_reducible refine Ext.setCell ?_ (by first | exact Nat.le_refl _ | (dsimp only; omega) | (simp; done) | (simp; omega)) _) | (with_reducible refine Ext.drew ?_) | (with_reducible refine Ext.drewN ?_ _) | (refine Ext.trans ?_ (by with_reducible assumption))))⟩

set_option maxRecDepth 100000 in
set_option maxHeartbeats 1000000 in
theorem implHo_bad2 (wide deep free step price capp clock bank : Int) (p : Option Addr) (n cap : Nat) (q : Option Addr) (m c2 : Nat) (w : World) (hm : m ≤ 9223372036854775807)
    (HV : Hid (∀ w', Ext w w' → Calls Try.prog 52 #[hallV wide deep p n cap] w' fun e w'' => e = .returned (.bool true) ∧ Ext w' w''))
    (TV : Hid (∀ w', Calls Try.prog 53 #[tariffV free step price capp] w' fun e w'' => e = .returned (.bool false) ∧ Ext w' w'')) :
    Calls Try.prog 37 #[.agg #[.int .i64 wide, .int .i64 deep, .slice p n cap, .int .i64 free, .int .i64 step, .int .i64 price, .int .i64 capp, .int .i64 clock, .int .i64 bank, .slice q m c2]] w fun e w' => e = .returned (.bool false) ∧ Ext w w' := by
  go_enter Try.func37, Try.ntmps37
  go_wp2_with fail
  refine (HV.out _ (by (repeat' (first | exact Ext.refl _ | (with_reducible assumption) | (with_reducible refine Ext.alloc ?_ _) | (with_reducible refine Ext.setCell ?_ (by first | exact Nat.le_refl _ | (dsimp only; omega) | (simp; done) | (simp; omega)) _) | (with_reducible refine Ext.drew ?_) | (with_reducible refine Ext.drewN ?_ _) | (refine Ext.trans ?_ (by with_reducible assumption)))))).mono ?_
  rintro e w1 ⟨rfl, hh1⟩
  have hx1 : Ext (w.alloc (.cells #[.int .i64 wide, .int .i64 deep, .slice p n cap, .int .i64 free, .int .i64 step, .int .i64 price, .int .i64 capp, .int .i64 clock, .int .i64 bank, .slice q m c2] 37)) w1 := hh1
  have hz1 : w.heap.size < w1.heap.size := Nat.lt_of_lt_of_le (by simp) hx1.sz
  have e1_0 : w1.cell? ⟨w.heap.size, 0, none⟩ = some (.int .i64 wide) := by rw [hx1.cells.1 _ _ (by simp)]; simp
  have e1_1 : w1.cell? ⟨w.heap.size, 1, none⟩ = some (.int .i64 deep) := by rw [hx1.cells.1 _ _ (by simp)]; simp
  have e1_2 : w1.cell? ⟨w.heap.size, 2, none⟩ = some (.slice p n cap) := by rw [hx1.cells.1 _ _ (by simp)]; simp
  have e1_3 : w1.cell? ⟨w.heap.size, 3, none⟩ = some (.int .i64 free) := by rw [hx1.cells.1 _ _ (by simp)]; simp
  have e1_4 : w1.cell? ⟨w.heap.size, 4, none⟩ = some (.int .i64 step) := by rw [hx1.cells.1 _ _ (by simp)]; simp
  have e1_5 : w1.cell? ⟨w.heap.size, 5, none⟩ = some (.int .i64 price) := by rw [hx1.cells.1 _ _ (by simp)]; simp
  have e1_6 : w1.cell? ⟨w.heap.size, 6, none⟩ = some (.int .i64 capp) := by rw [hx1.cells.1 _ _ (by simp)]; simp
  have e1_7 : w1.cell? ⟨w.heap.size, 7, none⟩ = some (.int .i64 clock) := by rw [hx1.cells.1 _ _ (by simp)]; simp
  have e1_8 : w1.cell? ⟨w.heap.size, 8, none⟩ = some (.int .i64 bank) := by rw [hx1.cells.1 _ _ (by simp)]; simp
  have e1_9 : w1.cell? ⟨w.heap.size, 9, none⟩ = some (.slice q m c2) := by rw [hx1.cells.1 _ _ (by simp)]; simp
  go_wp2_with fail
  refine (TV.out _).mono ?_
  rintro e w2 ⟨rfl, ht2⟩
  have hx2 : Ext (w.alloc (.cells #[.int .i64 wide, .int .i64 deep, .slice p n cap, .int .i64 free, .int .i64 step, .int .i64 price, .int .i64 capp, .int .i64 clock, .int .i64 bank, .slice q m c2] 37)) w2 := hx1.trans ht2
  have hz2 : w.heap.size < w2.heap.size := Nat.lt_of_lt_of_le (by simp) hx2.sz
  have e2_0 : w2.cell? ⟨w.heap.size, 0, none⟩ = some (.int .i64 wide) := by rw [hx2.cells.1 _ _ (by simp)]; simp
  have e2_1 : w2.cell? ⟨w.heap.size, 1, none⟩ = some (.int .i64 deep) := by rw [hx2.cells.1 _ _ (by simp)]; simp
  have e2_2 : w2.cell? ⟨w.heap.size, 2, none⟩ = some (.slice p n cap) := by rw [hx2.cells.1 _ _ (by simp)]; simp
  have e2_3 : w2.cell? ⟨w.heap.size, 3, none⟩ = some (.int .i64 free) := by rw [hx2.cells.1 _ _ (by simp)]; simp
  have e2_4 : w2.cell? ⟨w.heap.size, 4, none⟩ = some (.int .i64 step) := by rw [hx2.cells.1 _ _ (by simp)]; simp
  have e2_5 : w2.cell? ⟨w.heap.size, 5, none⟩ = some (.int .i64 price) := by rw [hx2.cells.1 _ _ (by simp)]; simp
  have e2_6 : w2.cell? ⟨w.heap.size, 6, none⟩ = some (.int .i64 capp) := by rw [hx2.cells.1 _ _ (by simp)]; simp
  have e2_7 : w2.cell? ⟨w.heap.size, 7, none⟩ = some (.int .i64 clock) := by rw [hx2.cells.1 _ _ (by simp)]; simp
  have e2_8 : w2.cell? ⟨w.heap.size, 8, none⟩ = some (.int .i64 bank) := by rw [hx2.cells.1 _ _ (by simp)]; simp
  have e2_9 : w2.cell? ⟨w.heap.size, 9, none⟩ = some (.slice q m c2) := by rw [hx2.cells.1 _ _ (by simp)]; simp
  clear hz1 e1_0 e1_1 e1_2 e1_3 e1_4 e1_5 e1_6 e1_7 e1_8 e1_9
  go_wp2
  go_ret
  exact ⟨rfl, by (repeat' (first | exact Ext.refl _ | (with_reducible assumption) | (with_reducible refine Ext.alloc ?_ _) | (with_reducible refine Ext.setCell ?_ (by first | exact Nat.le_refl _ | (dsimp only; omega) | (simp; done) | (simp; omega)) _) | (with_reducible refine Ext.drew ?_) | (with_reducible refine Ext.drewN ?_ _) | (refine Ext.trans ?_ (by with_reducible assumption))))⟩

set_option maxRecDepth 100000 in
set_option maxHeartbeats 1000000 in
theorem implHo_bad3 (wide deep free step price capp clock bank : Int) (p : Option Addr) (n cap : Nat) (q : Option Addr) (m c2 : Nat) (w : World) (hm : m ≤ 9223372036854775807)
    (HV : Hid (∀ w', Ext w w' → Calls Try.prog 52 #[hallV wide deep p n cap] w' fun e w'' => e = .returned (.bool true) ∧ Ext w' w''))
    (TV : Hid (∀ w', Calls Try.prog 53 #[tariffV free step price capp] w' fun e w'' => e = .returned (.bool true) ∧ Ext w' w''))
    (h : clock < 0 ∨ 0 ≤ clock ∧ 9999 < clock ∨ 0 ≤ clock ∧ clock ≤ 9999 ∧ bank < 0 ∨ 0 ≤ clock ∧ clock ≤ 9999 ∧ 0 ≤ bank ∧ 99999 < bank) :
    Calls Try.prog 37 #[.agg #[.int .i64 wide, .int .i64 deep, .slice p n cap, .int .i64 free, .int .i64 step, .int .i64 price, .int .i64 capp, .int .i64 clock, .int .i64 bank, .slice q m c2]] w fun e w' => e = .returned (.bool false) ∧ Ext w w' := by
  rcases h with h | ⟨h0, h⟩ | ⟨h0, h1, h⟩ | ⟨h0, h1, h2, h⟩
  all_goals
    (try (have hdd : decide (clock ≤ 9999) = false := by simp; omega))
    (try (have hdd : decide (bank ≤ 99999) = false := by simp; omega))
    go_enter Try.func37, Try.ntmps37
    go_wp2_with fail
    refine (HV.out _ (by (repeat' (first | exact Ext.refl _ | (with_reducible assumption) | (with_reducible refine Ext.alloc ?_ _) | (with_reducible refine Ext.setCell ?_ (by first | exact Nat.le_refl _ | (dsimp only; omega) | (simp; done) | (simp; omega)) _) | (with_reducible refine Ext.drew ?_) | (with_reducible refine Ext.drewN ?_ _) | (refine Ext.trans ?_ (by with_reducible assumption)))))).mono ?_
    rintro e w1 ⟨rfl, hh1⟩
    have hx1 : Ext (w.alloc (.cells #[.int .i64 wide, .int .i64 deep, .slice p n cap, .int .i64 free, .int .i64 step, .int .i64 price, .int .i64 capp, .int .i64 clock, .int .i64 bank, .slice q m c2] 37)) w1 := hh1
    have hz1 : w.heap.size < w1.heap.size := Nat.lt_of_lt_of_le (by simp) hx1.sz
    have e1_0 : w1.cell? ⟨w.heap.size, 0, none⟩ = some (.int .i64 wide) := by rw [hx1.cells.1 _ _ (by simp)]; simp
    have e1_1 : w1.cell? ⟨w.heap.size, 1, none⟩ = some (.int .i64 deep) := by rw [hx1.cells.1 _ _ (by simp)]; simp
    have e1_2 : w1.cell? ⟨w.heap.size, 2, none⟩ = some (.slice p n cap) := by rw [hx1.cells.1 _ _ (by simp)]; simp
    have e1_3 : w1.cell? ⟨w.heap.size, 3, none⟩ = some (.int .i64 free) := by rw [hx1.cells.1 _ _ (by simp)]; simp
    have e1_4 : w1.cell? ⟨w.heap.size, 4, none⟩ = some (.int .i64 step) := by rw [hx1.cells.1 _ _ (by simp)]; simp
    have e1_5 : w1.cell? ⟨w.heap.size, 5, none⟩ = some (.int .i64 price) := by rw [hx1.cells.1 _ _ (by simp)]; simp
    have e1_6 : w1.cell? ⟨w.heap.size, 6, none⟩ = some (.int .i64 capp) := by rw [hx1.cells.1 _ _ (by simp)]; simp
    have e1_7 : w1.cell? ⟨w.heap.size, 7, none⟩ = some (.int .i64 clock) := by rw [hx1.cells.1 _ _ (by simp)]; simp
    have e1_8 : w1.cell? ⟨w.heap.size, 8, none⟩ = some (.int .i64 bank) := by rw [hx1.cells.1 _ _ (by simp)]; simp
    have e1_9 : w1.cell? ⟨w.heap.size, 9, none⟩ = some (.slice q m c2) := by rw [hx1.cells.1 _ _ (by simp)]; simp
    go_wp2_with fail
    refine (TV.out _).mono ?_
    rintro e w2 ⟨rfl, ht2⟩
    have hx2 : Ext (w.alloc (.cells #[.int .i64 wide, .int .i64 deep, .slice p n cap, .int .i64 free, .int .i64 step, .int .i64 price, .int .i64 capp, .int .i64 clock, .int .i64 bank, .slice q m c2] 37)) w2 := hx1.trans ht2
    have hz2 : w.heap.size < w2.heap.size := Nat.lt_of_lt_of_le (by simp) hx2.sz
    have e2_0 : w2.cell? ⟨w.heap.size, 0, none⟩ = some (.int .i64 wide) := by rw [hx2.cells.1 _ _ (by simp)]; simp
    have e2_1 : w2.cell? ⟨w.heap.size, 1, none⟩ = some (.int .i64 deep) := by rw [hx2.cells.1 _ _ (by simp)]; simp
    have e2_2 : w2.cell? ⟨w.heap.size, 2, none⟩ = some (.slice p n cap) := by rw [hx2.cells.1 _ _ (by simp)]; simp
    have e2_3 : w2.cell? ⟨w.heap.size, 3, none⟩ = some (.int .i64 free) := by rw [hx2.cells.1 _ _ (by simp)]; simp
    have e2_4 : w2.cell? ⟨w.heap.size, 4, none⟩ = some (.int .i64 step) := by rw [hx2.cells.1 _ _ (by simp)]; simp
    have e2_5 : w2.cell? ⟨w.heap.size, 5, none⟩ = some (.int .i64 price) := by rw [hx2.cells.1 _ _ (by simp)]; simp
    have e2_6 : w2.cell? ⟨w.heap.size, 6, none⟩ = some (.int .i64 capp) := by rw [hx2.cells.1 _ _ (by simp)]; simp
    have e2_7 : w2.cell? ⟨w.heap.size, 7, none⟩ = some (.int .i64 clock) := by rw [hx2.cells.1 _ _ (by simp)]; simp
    have e2_8 : w2.cell? ⟨w.heap.size, 8, none⟩ = some (.int .i64 bank) := by rw [hx2.cells.1 _ _ (by simp)]; simp
    have e2_9 : w2.cell? ⟨w.heap.size, 9, none⟩ = some (.slice q m c2) := by rw [hx2.cells.1 _ _ (by simp)]; simp
    clear hz1 e1_0 e1_1 e1_2 e1_3 e1_4 e1_5 e1_6 e1_7 e1_8 e1_9
    go_wp2
    go_ret
    exact ⟨rfl, by (repeat' (first | exact Ext.refl _ | (with_reducible assumption) | (with_reducible refine Ext.alloc ?_ _) | (with_reducible refine Ext.setCell ?_ (by first | exact Nat.le_refl _ | (dsimp only; omega) | (simp; done) | (simp; omega)) _) | (with_reducible refine Ext.drew ?_) | (with_reducible refine Ext.drewN ?_ _) | (refine Ext.trans ?_ (by with_reducible assumption))))⟩

set_option maxRecDepth 100000 in
set_option maxHeartbeats 1000000 in
theorem implHo_bad4 (wide deep free step price capp clock bank : Int) (p : Option Addr) (n cap : Nat) (q : Option Addr) (m c2 : Nat) (w : World) (hm : m ≤ 9223372036854775807)
    (Cs : List Int) (HC : Hid (∀ w', Ext w w' → Calls Try.prog 38 #[hallV wide deep p n cap] w' (RetInts Cs w')))
    (HV : Hid (∀ w', Ext w w' → Calls Try.prog 52 #[hallV wide deep p n cap] w' fun e w'' => e = .returned (.bool true) ∧ Ext w' w''))
    (TV : Hid (∀ w', Calls Try.prog 53 #[tariffV free step price capp] w' fun e w'' => e = .returned (.bool true) ∧ Ext w' w''))
    (h0 : 0 ≤ clock) (h1 : clock ≤ 9999) (h2 : 0 ≤ bank) (h3 : bank ≤ 99999) (hL : ((Cs.length : Int) != m) = true) :
    Calls Try.prog 37 #[.agg #[.int .i64 wide, .int .i64 deep, .slice p n cap, .int .i64 free, .int .i64 step, .int .i64 price, .int .i64 capp, .int .i64 clock, .int .i64 bank, .slice q m c2]] w fun e w' => e = .returned (.bool false) ∧ Ext w w' := by
  go_enter Try.func37, Try.ntmps37
  go_wp2_with fail
  refine (HV.out _ (by (repeat' (first | exact Ext.refl _ | (with_reducible assumption) | (with_reducible refine Ext.alloc ?_ _) | (with_reducible refine Ext.setCell ?_ (by first | exact Nat.le_refl _ | (dsimp only; omega) | (simp; done) | (simp; omega)) _) | (with_reducible refine Ext.drew ?_) | (with_reducible refine Ext.drewN ?_ _) | (refine Ext.trans ?_ (by with_reducible assumption)))))).mono ?_
  rintro e w1 ⟨rfl, hh1⟩
  have hx1 : Ext (w.alloc (.cells #[.int .i64 wide, .int .i64 deep, .slice p n cap, .int .i64 free, .int .i64 step, .int .i64 price, .int .i64 capp, .int .i64 clock, .int .i64 bank, .slice q m c2] 37)) w1 := hh1
  have hz1 : w.heap.size < w1.heap.size := Nat.lt_of_lt_of_le (by simp) hx1.sz
  have e1_0 : w1.cell? ⟨w.heap.size, 0, none⟩ = some (.int .i64 wide) := by rw [hx1.cells.1 _ _ (by simp)]; simp
  have e1_1 : w1.cell? ⟨w.heap.size, 1, none⟩ = some (.int .i64 deep) := by rw [hx1.cells.1 _ _ (by simp)]; simp
  have e1_2 : w1.cell? ⟨w.heap.size, 2, none⟩ = some (.slice p n cap) := by rw [hx1.cells.1 _ _ (by simp)]; simp
  have e1_3 : w1.cell? ⟨w.heap.size, 3, none⟩ = some (.int .i64 free) := by rw [hx1.cells.1 _ _ (by simp)]; simp
  have e1_4 : w1.cell? ⟨w.heap.size, 4, none⟩ = some (.int .i64 step) := by rw [hx1.cells.1 _ _ (by simp)]; simp
  have e1_5 : w1.cell? ⟨w.heap.size, 5, none⟩ = some (.int .i64 price) := by rw [hx1.cells.1 _ _ (by simp)]; simp
  have e1_6 : w1.cell? ⟨w.heap.size, 6, none⟩ = some (.int .i64 capp) := by rw [hx1.cells.1 _ _ (by simp)]; simp
  have e1_7 : w1.cell? ⟨w.heap.size, 7, none⟩ = some (.int .i64 clock) := by rw [hx1.cells.1 _ _ (by simp)]; simp
  have e1_8 : w1.cell? ⟨w.heap.size, 8, none⟩ = some (.int .i64 bank) := by rw [hx1.cells.1 _ _ (by simp)]; simp
  have e1_9 : w1.cell? ⟨w.heap.size, 9, none⟩ = some (.slice q m c2) := by rw [hx1.cells.1 _ _ (by simp)]; simp
  go_wp2_with fail
  refine (TV.out _).mono ?_
  rintro e w2 ⟨rfl, ht2⟩
  have hx2 : Ext (w.alloc (.cells #[.int .i64 wide, .int .i64 deep, .slice p n cap, .int .i64 free, .int .i64 step, .int .i64 price, .int .i64 capp, .int .i64 clock, .int .i64 bank, .slice q m c2] 37)) w2 := hx1.trans ht2
  have hz2 : w.heap.size < w2.heap.size := Nat.lt_of_lt_of_le (by simp) hx2.sz
  have e2_0 : w2.cell? ⟨w.heap.size, 0, none⟩ = some (.int .i64 wide) := by rw [hx2.cells.1 _ _ (by simp)]; simp
  have e2_1 : w2.cell? ⟨w.heap.size, 1, none⟩ = some (.int .i64 deep) := by rw [hx2.cells.1 _ _ (by simp)]; simp
  have e2_2 : w2.cell? ⟨w.heap.size, 2, none⟩ = some (.slice p n cap) := by rw [hx2.cells.1 _ _ (by simp)]; simp
  have e2_3 : w2.cell? ⟨w.heap.size, 3, none⟩ = some (.int .i64 free) := by rw [hx2.cells.1 _ _ (by simp)]; simp
  have e2_4 : w2.cell? ⟨w.heap.size, 4, none⟩ = some (.int .i64 step) := by rw [hx2.cells.1 _ _ (by simp)]; simp
  have e2_5 : w2.cell? ⟨w.heap.size, 5, none⟩ = some (.int .i64 price) := by rw [hx2.cells.1 _ _ (by simp)]; simp
  have e2_6 : w2.cell? ⟨w.heap.size, 6, none⟩ = some (.int .i64 capp) := by rw [hx2.cells.1 _ _ (by simp)]; simp
  have e2_7 : w2.cell? ⟨w.heap.size, 7, none⟩ = some (.int .i64 clock) := by rw [hx2.cells.1 _ _ (by simp)]; simp
  have e2_8 : w2.cell? ⟨w.heap.size, 8, none⟩ = some (.int .i64 bank) := by rw [hx2.cells.1 _ _ (by simp)]; simp
  have e2_9 : w2.cell? ⟨w.heap.size, 9, none⟩ = some (.slice q m c2) := by rw [hx2.cells.1 _ _ (by simp)]; simp
  clear hz1 e1_0 e1_1 e1_2 e1_3 e1_4 e1_5 e1_6 e1_7 e1_8 e1_9
  go_wp2_with fail
  refine (HC.out _ (by (repeat' (first | exact Ext.refl _ | (with_reducible assumption) | (with_reducible refine Ext.alloc ?_ _) | (with_reducible refine Ext.setCell ?_ (by first | exact Nat.le_refl _ | (dsimp only; omega) | (simp; done) | (simp; omega)) _) | (with_reducible refine Ext.drew ?_) | (with_reducible refine Ext.drewN ?_ _) | (refine Ext.trans ?_ (by with_reducible assumption)))))).mono ?_
  rintro e w3 ⟨cp, cc, rfl, hco, hc3⟩
  have HCO := Lib.hid hco
  clear hco
  have hx3 : Ext (w.alloc (.cells #[.int .i64 wide, .int .i64 deep, .slice p n cap, .int .i64 free, .int .i64 step, .int .i64 price, .int .i64 capp, .int .i64 clock, .int .i64 bank, .slice q m c2] 37)) w3 := hx2.trans hc3
  have hz3 : w.heap.size < w3.heap.size := Nat.lt_of_lt_of_le (by simp) hx3.sz
  have e3_0 : w3.cell? ⟨w.heap.size, 0, none⟩ = some (.int .i64 wide) := by rw [hx3.cells.1 _ _ (by simp)]; simp
  have e3_1 : w3.cell? ⟨w.heap.size, 1, none⟩ = some (.int .i64 deep) := by rw [hx3.cells.1 _ _ (by simp)]; simp
  have e3_2 : w3.cell? ⟨w.heap.size, 2, none⟩ = some (.slice p n cap) := by rw [hx3.cells.1 _ _ (by simp)]; simp
  have e3_3 : w3.cell? ⟨w.heap.size, 3, none⟩ = some (.int .i64 free) := by rw [hx3.cells.1 _ _ (by simp)]; simp
  have e3_4 : w3.cell? ⟨w.heap.size, 4, none⟩ = some (.int .i64 step) := by rw [hx3.cells.1 _ _ (by simp)]; simp
  have e3_5 : w3.cell? ⟨w.heap.size, 5, none⟩ = some (.int .i64 price) := by rw [hx3.cells.1 _ _ (by simp)]; simp
  have e3_6 : w3.cell? ⟨w.heap.size, 6, none⟩ = some (.int .i64 capp) := by rw [hx3.cells.1 _ _ (by simp)]; simp
  have e3_7 : w3.cell? ⟨w.heap.size, 7, none⟩ = some (.int .i64 clock) := by rw [hx3.cells.1 _ _ (by simp)]; simp
  have e3_8 : w3.cell? ⟨w.heap.size, 8, none⟩ = some (.int .i64 bank) := by rw [hx3.cells.1 _ _ (by simp)]; simp
  have e3_9 : w3.cell? ⟨w.heap.size, 9, none⟩ = some (.slice q m c2) := by rw [hx3.cells.1 _ _ (by simp)]; simp
  clear hz2 e2_0 e2_1 e2_2 e2_3 e2_4 e2_5 e2_6 e2_7 e2_8 e2_9
  go_wp2
  go_ret
  exact ⟨rfl, by (repeat' (first | exact Ext.refl _ | (with_reducible assumption) | (with_reducible refine Ext.alloc ?_ _) | (with_reducible refine Ext.setCell ?_ (by first | exact Nat.le_refl _ | (dsimp only; omega) | (simp; done) | (simp; omega)) _) | (with_reducible refine Ext.drew ?_) | (with_reducible refine Ext.drewN ?_ _) | (refine Ext.trans ?_ (by with_reducible assumption))))⟩

set_option maxRecDepth 100000 in
set_option maxHeartbeats 1000000 in
theorem implHo_main (wide deep free step price capp clock bank : Int) (p : Option Addr) (n cap : Nat) (q : Option Addr) (m c2 : Nat) (w : World) (hm : m ≤ 9223372036854775807)
    (Cs : List Int) (HC : Hid (∀ w', Ext w w' → Calls Try.prog 38 #[hallV wide deep p n cap] w' (RetInts Cs w')))
    (HV : Hid (∀ w', Ext w w' → Calls Try.prog 52 #[hallV wide deep p n cap] w' fun e w'' => e = .returned (.bool true) ∧ Ext w' w''))
    (TV : Hid (∀ w', Calls Try.prog 53 #[tariffV free step price capp] w' fun e w'' => e = .returned (.bool true) ∧ Ext w' w''))
    (h0 : 0 ≤ clock) (h1 : clock ≤ 9999) (h2 : 0 ≤ bank) (h3 : bank ≤ 99999) (hL : ((Cs.length : Int) != m) = false) (hL2 : Cs.length = m) (hm2 : m ≤ 100) (vs : List Visit4) (HVS : Hid (Sl w q m c2 4 (vs.flatMap visitCells))) :
    Calls Try.prog 37 #[.agg #[.int .i64 wide, .int .i64 deep, .slice p n cap, .int .i64 free, .int .i64 step, .int .i64 price, .int .i64 capp, .int .i64 clock, .int .i64 bank, .slice q m c2]] w fun e w' => e = .returned (.bool (visitsOk clock Cs vs)) ∧ Ext w w' := by
  have hvl : vs.length = m := by have := HVS.out.len; rw [flat_len visitCells 4 (fun _ => rfl)] at this; omega
  have HVL := Lib.hid hvl
  have HCL := Lib.hid hL2
  clear hvl hL2
  go_enter Try.func37, Try.ntmps37
  go_wp2_with fail
  refine (HV.out _ (by (repeat' (first | exact Ext.refl _ | (with_reducible assumption) | (with_reducible refine Ext.alloc ?_ _) | (with_reducible refine Ext.setCell ?_ (by first | exact Nat.le_refl _ | (dsimp only; omega) | (simp; done) | (simp; omega)) _) | (with_reducible refine Ext.drew ?_) | (with_reducible refine Ext.drewN ?_ _) | (refine Ext.trans ?_ (by with_reducible assumption)))))).mono ?_
  rintro e w1 ⟨rfl, hh1⟩
  have hx1 : Ext (w.alloc (.cells #[.int .i64 wide, .int .i64 deep, .slice p n cap, .int .i64 free, .int .i64 step, .int .i64 price, .int .i64 capp, .int .i64 clock, .int .i64 bank, .slice q m c2] 37)) w1 := hh1
  have hz1 : w.heap.size < w1.heap.size := Nat.lt_of_lt_of_le (by simp) hx1.sz
  have e1_0 : w1.cell? ⟨w.heap.size, 0, none⟩ = some (.int .i64 wide) := by rw [hx1.cells.1 _ _ (by simp)]; simp
  have e1_1 : w1.cell? ⟨w.heap.size, 1, none⟩ = some (.int .i64 deep) := by rw [hx1.cells.1 _ _ (by simp)]; simp
  have e1_2 : w1.cell? ⟨w.heap.size, 2, none⟩ = some (.slice p n cap) := by rw [hx1.cells.1 _ _ (by simp)]; simp
  have e1_3 : w1.cell? ⟨w.heap.size, 3, none⟩ = some (.int .i64 free) := by rw [hx1.cells.1 _ _ (by simp)]; simp
  have e1_4 : w1.cell? ⟨w.heap.size, 4, none⟩ = some (.int .i64 step) := by rw [hx1.cells.1 _ _ (by simp)]; simp
  have e1_5 : w1.cell? ⟨w.heap.size, 5, none⟩ = some (.int .i64 price) := by rw [hx1.cells.1 _ _ (by simp)]; simp
  have e1_6 : w1.cell? ⟨w.heap.size, 6, none⟩ = some (.int .i64 capp) := by rw [hx1.cells.1 _ _ (by simp)]; simp
  have e1_7 : w1.cell? ⟨w.heap.size, 7, none⟩ = some (.int .i64 clock) := by rw [hx1.cells.1 _ _ (by simp)]; simp
  have e1_8 : w1.cell? ⟨w.heap.size, 8, none⟩ = some (.int .i64 bank) := by rw [hx1.cells.1 _ _ (by simp)]; simp
  have e1_9 : w1.cell? ⟨w.heap.size, 9, none⟩ = some (.slice q m c2) := by rw [hx1.cells.1 _ _ (by simp)]; simp
  go_wp2_with fail
  refine (TV.out _).mono ?_
  rintro e w2 ⟨rfl, ht2⟩
  have hx2 : Ext (w.alloc (.cells #[.int .i64 wide, .int .i64 deep, .slice p n cap, .int .i64 free, .int .i64 step, .int .i64 price, .int .i64 capp, .int .i64 clock, .int .i64 bank, .slice q m c2] 37)) w2 := hx1.trans ht2
  have hz2 : w.heap.size < w2.heap.size := Nat.lt_of_lt_of_le (by simp) hx2.sz
  have e2_0 : w2.cell? ⟨w.heap.size, 0, none⟩ = some (.int .i64 wide) := by rw [hx2.cells.1 _ _ (by simp)]; simp
  have e2_1 : w2.cell? ⟨w.heap.size, 1, none⟩ = some (.int .i64 deep) := by rw [hx2.cells.1 _ _ (by simp)]; simp
  have e2_2 : w2.cell? ⟨w.heap.size, 2, none⟩ = some (.slice p n cap) := by rw [hx2.cells.1 _ _ (by simp)]; simp
  have e2_3 : w2.cell? ⟨w.heap.size, 3, none⟩ = some (.int .i64 free) := by rw [hx2.cells.1 _ _ (by simp)]; simp
  have e2_4 : w2.cell? ⟨w.heap.size, 4, none⟩ = some (.int .i64 step) := by rw [hx2.cells.1 _ _ (by simp)]; simp
  have e2_5 : w2.cell? ⟨w.heap.size, 5, none⟩ = some (.int .i64 price) := by rw [hx2.cells.1 _ _ (by simp)]; simp
  have e2_6 : w2.cell? ⟨w.heap.size, 6, none⟩ = some (.int .i64 capp) := by rw [hx2.cells.1 _ _ (by simp)]; simp
  have e2_7 : w2.cell? ⟨w.heap.size, 7, none⟩ = some (.int .i64 clock) := by rw [hx2.cells.1 _ _ (by simp)]; simp
  have e2_8 : w2.cell? ⟨w.heap.size, 8, none⟩ = some (.int .i64 bank) := by rw [hx2.cells.1 _ _ (by simp)]; simp
  have e2_9 : w2.cell? ⟨w.heap.size, 9, none⟩ = some (.slice q m c2) := by rw [hx2.cells.1 _ _ (by simp)]; simp
  clear hz1 e1_0 e1_1 e1_2 e1_3 e1_4 e1_5 e1_6 e1_7 e1_8 e1_9
  go_wp2_with fail
  refine (HC.out _ (by (repeat' (first | exact Ext.refl _ | (with_reducible assumption) | (with_reducible refine Ext.alloc ?_ _) | (with_reducible refine Ext.setCell ?_ (by first | exact Nat.le_refl _ | (dsimp only; omega) | (simp; done) | (simp; omega)) _) | (with_reducible refine Ext.drew ?_) | (with_reducible refine Ext.drewN ?_ _) | (refine Ext.trans ?_ (by with_reducible assumption)))))).mono ?_
  rintro e w3 ⟨cp, cc, rfl, hco, hc3⟩
  have HCO := Lib.hid hco
  clear hco
  have hx3 : Ext (w.alloc (.cells #[.int .i64 wide, .int .i64 deep, .slice p n cap, .int .i64 free, .int .i64 step, .int .i64 price, .int .i64 capp, .int .i64 clock, .int .i64 bank, .slice q m c2] 37)) w3 := hx2.trans hc3
  have hz3 : w.heap.size < w3.heap.size := Nat.lt_of_lt_of_le (by simp) hx3.sz
  have e3_0 : w3.cell? ⟨w.heap.size, 0, none⟩ = some (.int .i64 wide) := by rw [hx3.cells.1 _ _ (by simp)]; simp
  have e3_1 : w3.cell? ⟨w.heap.size, 1, none⟩ = some (.int .i64 deep) := by rw [hx3.cells.1 _ _ (by simp)]; simp
  have e3_2 : w3.cell? ⟨w.heap.size, 2, none⟩ = some (.slice p n cap) := by rw [hx3.cells.1 _ _ (by simp)]; simp
  have e3_3 : w3.cell? ⟨w.heap.size, 3, none⟩ = some (.int .i64 free) := by rw [hx3.cells.1 _ _ (by simp)]; simp
  have e3_4 : w3.cell? ⟨w.heap.size, 4, none⟩ = some (.int .i64 step) := by rw [hx3.cells.1 _ _ (by simp)]; simp
  have e3_5 : w3.cell? ⟨w.heap.size, 5, none⟩ = some (.int .i64 price) := by rw [hx3.cells.1 _ _ (by simp)]; simp
  have e3_6 : w3.cell? ⟨w.heap.size, 6, none⟩ = some (.int .i64 capp) := by rw [hx3.cells.1 _ _ (by simp)]; simp
  have e3_7 : w3.cell? ⟨w.heap.size, 7, none⟩ = some (.int .i64 clock) := by rw [hx3.cells.1 _ _ (by simp)]; simp
  have e3_8 : w3.cell? ⟨w.heap.size, 8, none⟩ = some (.int .i64 bank) := by rw [hx3.cells.1 _ _ (by simp)]; simp
  have e3_9 : w3.cell? ⟨w.heap.size, 9, none⟩ = some (.slice q m c2) := by rw [hx3.cells.1 _ _ (by simp)]; simp
  clear hz2 e2_0 e2_1 e2_2 e2_3 e2_4 e2_5 e2_6 e2_7 e2_8 e2_9
  have hco : OwnZ w3 cp Cs.length cc Cs := (own_z HCO.out)
  have hxw : Ext w w3 := (Ext.alloc (Ext.refl w) _).trans hx3
  go_wp2
  clear hL
  go_loopw [48] (fun i wr => ∃ k : Nat, k ≤ m ∧ i = .int .i64 k ∧ visitsOk clock Cs vs = visitsOk clock (Cs.drop k) (vs.drop k) ∧ Ext w3 wr) (fun i _ => m - (intOf i).toNat)
  case atStart => exact ⟨0, Nat.zero_le _, rfl, rfl, Ext.refl _⟩
  case round =>
    obtain ⟨k, hk, rfl, hok, hE⟩ := hrel
    have hcl : wr.cell? ⟨w.heap.size, 7, none⟩ = some (.int .i64 clock) := (hE.cells.1 _ _ hz3).trans e3_7
    have hcv : wr.cell? ⟨w.heap.size, 9, none⟩ = some (.slice q m c2) := (hE.cells.1 _ _ hz3).trans e3_9
    have hzr : w.heap.size < wr.heap.size := Nat.lt_of_lt_of_le hz3 hE.sz
    have HCL2 := HCL.out
    by_cases hlt : k < m
    · obtain ⟨b, off, a0, a1, a2, a3, rfl, hv, hb, g0, g1, g2, g3⟩ := visit_at (HVS.out.ext (hxw.trans hE)) hlt
      obtain ⟨cb, coff, c, rfl, hc, hcb, gc⟩ := (hco.ext hE).int_at (show k < Cs.length by omega)
      have hfin := Lib.hid (hok.trans (visitsOk_at hc hv))
      have i1 : (0 : Int) ≤ (k : Int) := by omega
      have i2 : (k : Int) < (m : Int) := by omega
      have i3 : (k : Int) < (Cs.length : Int) := by omega
      clear hok hc hv HCL2
      have hSv : Hid (∀ w', Calls Try.prog 54 #[stayV a1 a2 a3] w' fun e w'' => e = .returned (.bool (stayOk a1 a2 a3)) ∧ Ext w' w'') := fun w' => implSv a1 a2 a3 w'
      go_wp2_with fail
      by_cases t0 : a0 = c
      · have q0 : (a0 != c) = false := by simp [t0]
        have T0 := Lib.hid t0
        clear t0
        cases hst : stayOk a1 a2 a3 with
        | true =>
          rw [hst] at hSv
          have HST := Lib.hid hst
          clear hst
          by_cases t1 : clock < a3
          · have hf2 : Hid (visitsOk clock Cs vs = false) := by show _ = _; rw [hfin.out]; simp [visitOk, HST.out]; omega
            go_region_held3 (fun w' => w'.cell? ⟨wr.heap.size, 0, none⟩ = some (.int .i64 a0) ∧ w'.cell? ⟨wr.heap.size, 1, none⟩ = some (.int .i64 a1) ∧ w'.cell? ⟨wr.heap.size, 2, none⟩ = some (.int .i64 a2) ∧ w'.cell? ⟨wr.heap.size, 3, none⟩ = some (.int .i64 a3) ∧ w'.cell? ⟨cb, coff + k, none⟩ = some (.int .i64 c) ∧ w'.cell? ⟨w.heap.size, 7, none⟩ = some (.int .i64 clock)) (go_keep) ((go_at_call 54; refine (hSv.out _).mono ?_; rintro e w9 ⟨rfl, h9⟩; (try replace h9 := h9.of_drew); have x9 : Ext wr w9 := (by first | exact ((Ext.refl wr).alloc _).trans h9 | exact (((Ext.refl wr).alloc _).drew).trans h9); have g9a := (x9.cells.1 cb (coff + k) hcb).trans gc; have g9b := (x9.cells.1 w.heap.size 7 hzr).trans hcl; have hc9 := h9.cells.1; have hz9 : wr.heap.size < w9.heap.size := Nat.lt_of_lt_of_le (by simp) h9.sz; have hz10 : w.heap.size < w9.heap.size := Nat.lt_trans hzr hz9; have hz11 : cb < w9.heap.size := Nat.lt_trans hcb hz9))
            all_goals go_wp2
            all_goals go_ret
            all_goals exact ⟨ret_bool hf2.out.symm, by (repeat' (first | exact Ext.refl _ | (with_reducible assumption) | (with_reducible refine Ext.alloc ?_ _) | (with_reducible refine Ext.setCell ?_ (by first | exact Nat.le_refl _ | (dsimp only; omega) | (simp; done) | (simp; omega)) _) | (with_reducible refine Ext.drew ?_) | (with_reducible refine Ext.drewN ?_ _) | (refine Ext.trans ?_ (by with_reducible assumption))))⟩
          · have hf2 : Hid (visitsOk clock Cs vs = visitsOk clock (Cs.drop (k + 1)) (vs.drop (k + 1))) := by show _ = _; rw [hfin.out]; simp [visitOk, HST.out, T0.out]; intro h; omega
            go_region_held3 (fun w' => w'.cell? ⟨wr.heap.size, 0, none⟩ = some (.int .i64 a0) ∧ w'.cell? ⟨wr.heap.size, 1, none⟩ = some (.int .i64 a1) ∧ w'.cell? ⟨wr.heap.size, 2, none⟩ = some (.int .i64 a2) ∧ w'.cell? ⟨wr.heap.size, 3, none⟩ = some (.int .i64 a3) ∧ w'.cell? ⟨cb, coff + k, none⟩ = some (.int .i64 c) ∧ w'.cell? ⟨w.heap.size, 7, none⟩ = some (.int .i64 clock)) (go_keep) ((go_at_call 54; refine (hSv.out _).mono ?_; rintro e w9 ⟨rfl, h9⟩; (try replace h9 := h9.of_drew); have x9 : Ext wr w9 := (by first | exact ((Ext.refl wr).alloc _).trans h9 | exact (((Ext.refl wr).alloc _).drew).trans h9); have g9a := (x9.cells.1 cb (coff + k) hcb).trans gc; have g9b := (x9.cells.1 w.heap.size 7 hzr).trans hcl; have hc9 := h9.cells.1; have hz9 : wr.heap.size < w9.heap.size := Nat.lt_of_lt_of_le (by simp) h9.sz; have hz10 : w.heap.size < w9.heap.size := Nat.lt_trans hzr hz9; have hz11 : cb < w9.heap.size := Nat.lt_trans hcb hz9))
            all_goals go_wp2
            all_goals go_roundw
            all_goals first
              | (case rel => first | exact ⟨k + 1, by omega, by go_num, hf2.out, by (repeat' (first | exact Ext.refl _ | (with_reducible assumption) | (with_reducible refine Ext.alloc ?_ _) | (with_reducible refine Ext.setCell ?_ (by first | exact Nat.le_refl _ | (dsimp only; omega) | (simp; done) | (simp; omega)) _) | (with_reducible refine Ext.drew ?_) | (with_reducible refine Ext.drewN ?_ _) | (refine Ext.trans ?_ (by with_reducible assumption))))⟩ | ((repeat apply Exists.intro); exact ⟨⟨k + 1, by omega, by go_num, hf2.out, by (repeat' (first | exact Ext.refl _ | (with_reducible assumption) | (with_reducible refine Ext.alloc ?_ _) | (with_reducible refine Ext.setCell ?_ (by first | exact Nat.le_refl _ | (dsimp only; omega) | (simp; done) | (simp; omega)) _) | (with_reducible refine Ext.drew ?_) | (with_reducible refine Ext.drewN ?_ _) | (refine Ext.trans ?_ (by with_reducible assumption))))⟩, rfl⟩))
              | (case measure => simp [intOf]; omega)
        | false =>
          rw [hst] at hSv
          have hf2 : Hid (visitsOk clock Cs vs = false) := by show _ = _; rw [hfin.out]; simp [visitOk, hst]
          clear hst
          refine wp_region_held_drew (S := fun w' => w'.cell? ⟨wr.heap.size, 0, none⟩ = some (.int .i64 a0) ∧ w'.cell? ⟨wr.heap.size, 1, none⟩ = some (.int .i64 a1) ∧ w'.cell? ⟨wr.heap.size, 2, none⟩ = some (.int .i64 a2) ∧ w'.cell? ⟨wr.heap.size, 3, none⟩ = some (.int .i64 a3) ∧ w'.cell? ⟨cb, coff + k, none⟩ = some (.int .i64 c)) (by kernel_rfl) (by go_keep) (fun hHeld => ?_)
          refine take_l (i := 0) (v := ?_) rfl (by kernel_rfl) (by kernel_rfl) (by kernel_rfl) (fun _ _ _ h => h) (by rfl) ?_ (by assumption) ?_
          rotate_left
          · (intro w hSw; (try dsimp only at hSw); go_simp; (try with_reducible rfl))
          (try simp only [Act.put, List.setIfInBounds_toArray, List.set_cons_zero, List.set_cons_succ])
          refine take_l (i := 1) (v := ?_) rfl (by kernel_rfl) (by kernel_rfl) (by kernel_rfl) (fun _ _ _ h => h) (by rfl) ?_ (by assumption) ?_
          rotate_left
          · (intro w hSw; (try dsimp only at hSw); go_simp; (try with_reducible rfl))
          (try simp only [Act.put, List.setIfInBounds_toArray, List.set_cons_zero, List.set_cons_succ])
          refine take_l (i := 2) (v := ?_) rfl (by kernel_rfl) (by kernel_rfl) (by kernel_rfl) (fun _ _ _ h => h) (by rfl) ?_ (by assumption) ?_
          rotate_left
          · (intro w hSw; (try dsimp only at hSw); go_simp; (try with_reducible rfl))
          (try simp only [Act.put, List.setIfInBounds_toArray, List.set_cons_zero, List.set_cons_succ])
          refine take_l (i := 3) (v := ?_) rfl (by kernel_rfl) (by kernel_rfl) (by kernel_rfl) (fun _ _ _ h => h) (by rfl) ?_ (by assumption) ?_
          rotate_left
          · (intro w hSw; (try dsimp only at hSw); go_simp; (try with_reducible rfl))
          (try simp only [Act.put, List.setIfInBounds_toArray, List.set_cons_zero, List.set_cons_succ])
          refine take_l (i := 4) (v := ?_) rfl (by kernel_rfl) (by kernel_rfl) (by kernel_rfl) (fun _ _ _ h => h) (by rfl) ?_ (by assumption) ?_
          rotate_left
          · (intro w hSw; (try dsimp only at hSw); go_simp; (try with_reducible rfl))
          (try simp only [Act.put, List.setIfInBounds_toArray, List.set_cons_zero, List.set_cons_succ])
          refine take_l (i := 5) (v := ?_) rfl (by kernel_rfl) (by kernel_rfl) (by kernel_rfl) (fun _ _ _ h => h) (by rfl) ?_ (by assumption) ?_
          rotate_left
          · (intro w hSw; (try dsimp only at hSw); go_simp; (try with_reducible rfl))
          (try simp only [Act.put, List.setIfInBounds_toArray, List.set_cons_zero, List.set_cons_succ])
          refine take_l (i := 6) (v := ?_) rfl (by kernel_rfl) (by kernel_rfl) (by kernel_rfl) (fun _ _ _ h => h) (by rfl) ?_ (by assumption) ?_
          rotate_left
          · (intro w hSw; (try dsimp only at hSw); go_simp; (try with_reducible rfl))
          (try simp only [Act.put, List.setIfInBounds_toArray, List.set_cons_zero, List.set_cons_succ])
          refine take_l (i := 7) (v := ?_) rfl (by kernel_rfl) (by kernel_rfl) (by kernel_rfl) (fun _ _ _ h => h) (by rfl) ?_ (by assumption) ?_
          rotate_left
          · (intro w hSw; (try dsimp only at hSw); go_simp; (try with_reducible rfl))
          (try simp only [Act.put, List.setIfInBounds_toArray, List.set_cons_zero, List.set_cons_succ])
          refine take_l (i := 8) (v := ?_) rfl (by kernel_rfl) (by kernel_rfl) (by kernel_rfl) (fun _ _ _ h => h) (by rfl) ?_ (by assumption) ?_
          rotate_left
          · (intro w hSw; (try dsimp only at hSw); go_simp; (try with_reducible rfl))
          (try simp only [Act.put, List.setIfInBounds_toArray, List.set_cons_zero, List.set_cons_succ])
          refine take_l (i := 9) (v := ?_) rfl (by kernel_rfl) (by kernel_rfl) (by kernel_rfl) (fun _ _ _ h => h) (by rfl) ?_ (by assumption) ?_
          rotate_left
          · (intro w hSw; (try dsimp only at hSw); go_simp; (try with_reducible rfl))
          (try simp only [Act.put, List.setIfInBounds_toArray, List.set_cons_zero, List.set_cons_succ])
          refine wpAnyH_ready (rs := [10]) (by kernel_rfl) (by simp) ?_
          refine cons_l rfl (fun K hK => ?_)
          go_simp
          go_at_call 54
          refine (hSv.out _).mono ?_
          rintro e w9 ⟨rfl, h9⟩
          (try replace h9 := h9.of_drew)
          have x9 : Ext wr w9 := (by first | exact ((Ext.refl wr).alloc _).trans h9 | exact (((Ext.refl wr).alloc _).drew).trans h9)
          have g9a := (x9.cells.1 cb (coff + k) hcb).trans gc
          have hc9 := h9.cells.1
          have hz9 : wr.heap.size < w9.heap.size := Nat.lt_of_lt_of_le (by simp) h9.sz
          go_wp2_with fail
          refine hK.out _ _ (by (try dsimp only); go_keep) (fun hHeld => ?_)
          clear hK K
          (try simp only [Act.put, List.setIfInBounds_toArray, List.set_cons_zero, List.set_cons_succ])
          refine take_l (i := 11) (v := ?_) rfl (by kernel_rfl) (by kernel_rfl) (by kernel_rfl) (fun _ _ _ h => h) (by rfl) ?_ (by assumption) ?_
          rotate_left
          · (intro w hSw; (try dsimp only at hSw); go_simp; (try with_reducible rfl))
          (try simp only [Act.put, List.setIfInBounds_toArray, List.set_cons_zero, List.set_cons_succ])
          refine take_l (i := 12) (v := ?_) rfl (by kernel_rfl) (by kernel_rfl) (by kernel_rfl) (fun _ _ _ h => h) (by rfl) ?_ (by assumption) ?_
          rotate_left
          · (intro w hSw; (try dsimp only at hSw); go_simp; (try with_reducible rfl))
          (try simp only [Act.put, List.setIfInBounds_toArray, List.set_cons_zero, List.set_cons_succ])
          refine take_l (i := 13) (v := ?_) rfl (by kernel_rfl) (by kernel_rfl) (by kernel_rfl) (fun _ _ _ h => h) (by rfl) ?_ (by assumption) ?_
          rotate_left
          · (intro w hSw; (try dsimp only at hSw); go_simp; (try with_reducible rfl))
          (try simp only [Act.put, List.setIfInBounds_toArray, List.set_cons_zero, List.set_cons_succ])
          refine skip_l (i := 14) rfl (by kernel_rfl) (by kernel_rfl) (by kernel_rfl) (fun _ _ _ h => h) (by rfl) (by assumption) ?_
          (try simp only [Act.put, List.setIfInBounds_toArray, List.set_cons_zero, List.set_cons_succ])
          refine skip_l (i := 15) rfl (by kernel_rfl) (by kernel_rfl) (by kernel_rfl) (fun _ _ _ h => h) (by rfl) (by assumption) ?_
          (try simp only [Act.put, List.setIfInBounds_toArray, List.set_cons_zero, List.set_cons_succ])
          refine skip_l (i := 16) rfl (by kernel_rfl) (by kernel_rfl) (by kernel_rfl) (fun _ _ _ h => h) (by rfl) (by assumption) ?_
          (try simp only [Act.put, List.setIfInBounds_toArray, List.set_cons_zero, List.set_cons_succ])
          refine skip_l (i := 17) rfl (by kernel_rfl) (by kernel_rfl) (by kernel_rfl) (fun _ _ _ h => h) (by rfl) (by assumption) ?_
          (try simp only [Act.put, List.setIfInBounds_toArray, List.set_cons_zero, List.set_cons_succ])
          refine skip_l (i := 18) rfl (by kernel_rfl) (by kernel_rfl) (by kernel_rfl) (fun _ _ _ h => h) (by rfl) (by assumption) ?_
          (try simp only [Act.put, List.setIfInBounds_toArray, List.set_cons_zero, List.set_cons_succ])
          refine skip_l (i := 19) rfl (by kernel_rfl) (by kernel_rfl) (by kernel_rfl) (fun _ _ _ h => h) (by rfl) (by assumption) ?_
          (try simp only [Act.put, List.setIfInBounds_toArray, List.set_cons_zero, List.set_cons_succ])
          refine take_l (i := 20) (v := ?_) rfl (by kernel_rfl) (by kernel_rfl) (by kernel_rfl) (fun _ _ _ h => h) (by rfl) ?_ (by assumption) ?_
          rotate_left
          · (intro w hSw; (try dsimp only at hSw); go_simp; (try with_reducible rfl))
          (try simp only [Act.put, List.setIfInBounds_toArray, List.set_cons_zero, List.set_cons_succ])
          refine wpAnyH_done (by kernel_rfl) ?_ _
          all_goals go_wp2
          all_goals go_ret
          all_goals exact ⟨ret_bool hf2.out.symm, by (repeat' (first | exact Ext.refl _ | (with_reducible assumption) | (with_reducible refine Ext.alloc ?_ _) | (with_reducible refine Ext.setCell ?_ (by first | exact Nat.le_refl _ | (dsimp only; omega) | (simp; done) | (simp; omega)) _) | (with_reducible refine Ext.drew ?_) | (with_reducible refine Ext.drewN ?_ _) | (refine Ext.trans ?_ (by with_reducible assumption))))⟩
      · have q0 : (a0 != c) = true := by simp [t0]
        have hf2 : Hid (visitsOk clock Cs vs = false) := by show _ = _; rw [hfin.out]; simp [t0]
        clear t0
        go_quiet (fail)
        all_goals go_wp2
        all_goals go_ret
        all_goals exact ⟨ret_bool hf2.out.symm, by (repeat' (first | exact Ext.refl _ | (with_reducible assumption) | (with_reducible refine Ext.alloc ?_ _) | (with_reducible refine Ext.setCell ?_ (by first | exact Nat.le_refl _ | (dsimp only; omega) | (simp; done) | (simp; omega)) _) | (with_reducible refine Ext.drew ?_) | (with_reducible refine Ext.drewN ?_ _) | (refine Ext.trans ?_ (by with_reducible assumption))))⟩
    · have hfin : Hid (visitsOk clock Cs vs = true) := by
        show _ = _
        rw [hok, List.drop_eq_nil_of_le (by rw [HCL.out]; omega), List.drop_eq_nil_of_le (by rw [HVL.out]; omega)]; rfl
      clear hok
      go_wp2
      go_ret
      exact ⟨ret_bool hfin.out.symm, by (repeat' (first | exact Ext.refl _ | (with_reducible assumption) | (with_reducible refine Ext.alloc ?_ _) | (with_reducible refine Ext.setCell ?_ (by first | exact Nat.le_refl _ | (dsimp only; omega) | (simp; done) | (simp; omega)) _) | (with_reducible refine Ext.drew ?_) | (with_reducible refine Ext.drewN ?_ _) | (refine Ext.trans ?_ (by with_reducible assumption))))⟩

theorem implHouse (h : HouseD) (p : Option Addr) (n cap : Nat) (q : Option Addr) (m c2 : Nat) (w : World) (hi : IsHouse w h p n cap q m c2) :
    Calls Try.prog 37 #[houseV h p n cap q m c2] w fun e w' => e = .returned (.bool (houseOk h)) ∧ Ext w w' := by
  obtain ⟨wide, deep, cells, free, step, price, capp, clock, bank, vs⟩ := h
  have hm := hi.vs.bd
  have hvl := hi.vlen
  have hcl := hi.clen
  have HV := fun (w' : World) (hx : Ext w w') => implHv wide deep p n cap cells w' (hi.cells.ext hx)
  have HC := fun (w' : World) (hx : Ext w w') => implHc wide deep p n cap cells w' (hi.cells.ext hx)
  have TV := fun (w' : World) => implTv free step price capp w'
  unfold houseOk
  simp only at hvl hcl HV HC TV ⊢
  cases h1 : hallOk wide deep cells with
  | false =>
    rw [h1] at HV HC
    simpa using implHo_bad1 wide deep free step price capp clock bank p n cap q m c2 w hm  HV
  | true =>
    rw [h1] at HV HC
    rw [if_pos rfl] at HC
    cases h2 : tariffOk free step price capp with
    | false =>
      rw [h2] at TV
      simpa using implHo_bad2 wide deep free step price capp clock bank p n cap q m c2 w hm  HV TV
    | true =>
      rw [h2] at TV
      by_cases h3 : 0 ≤ clock ∧ clock ≤ 9999 ∧ 0 ≤ bank ∧ bank ≤ 99999
      · obtain ⟨a1, a2, a3, a4⟩ := h3
        have hn : numsOk ⟨wide, deep, cells, free, step, price, capp, clock, bank, vs⟩ = true := by simp [numsOk, a1, a2, a3, a4]
        rw [hn]
        by_cases hL : (carsOf cells).length = m
        · simpa using implHo_main wide deep free step price capp clock bank p n cap q m c2 w hm (carsOf cells) HC HV TV a1 a2 a3 a4 (by simp [hL]) hL (by
            have e1 := carsOf_len cells; have e2 := posOfL_le cells
            have e3 : cells.length ≤ 12 := by simp only [hallOk, Bool.and_eq_true] at h1; exact (shape_bd h1.1).2.2.2.2.2.1
            omega) vs hi.vs
        · rw [visitsOk_ne (by omega)]
          simpa using implHo_bad4 wide deep free step price capp clock bank p n cap q m c2 w hm (carsOf cells) HC HV TV a1 a2 a3 a4 (by simp; omega)
      · have hn : numsOk ⟨wide, deep, cells, free, step, price, capp, clock, bank, vs⟩ = false := by simp [numsOk]; omega
        rw [hn]
        simpa using implHo_bad3 wide deep free step price capp clock bank p n cap q m c2 w hm  HV TV (by omega)

set_option maxRecDepth 100000 in
set_option maxHeartbeats 1000000 in
theorem specHo_bad1 (wide deep free step price capp clock bank : Int) (p : Option Addr) (n cap : Nat) (q : Option Addr) (m c2 : Nat) (w : World) (hm : m ≤ 9223372036854775807)
    (Cs : List Int) (HC : Hid (∀ w', Ext w w' → Calls Try.prog 44 #[hallV wide deep p n cap] w' (RetInts Cs w')))
    (HV : Hid (∀ w', Ext w w' → Calls Try.prog 45 #[hallV wide deep p n cap] w' fun e w'' => e = .returned (.bool false) ∧ Ext w' w'')) :
    Calls Try.prog 30 #[.agg #[.int .i64 wide, .int .i64 deep, .slice p n cap, .int .i64 free, .int .i64 step, .int .i64 price, .int .i64 capp, .int .i64 clock, .int .i64 bank, .slice q m c2]] w fun e w' => e = .returned (.bool false) ∧ Ext w w' := by
  go_enter Try.func30, Try.ntmps30
  go_wp2_with fail
  refine (HC.out _ (by (repeat' (first | exact Ext.refl _ | (with_reducible assumption) | (with_reducible refine Ext.alloc ?_ _) | (with_reducible refine Ext.setCell ?_ (by first | exact Nat.le_refl _ | (dsimp only; omega) | (simp; done) | (simp; omega)) _) | (with_reducible refine Ext.drew ?_) | (with_reducible refine Ext.drewN ?_ _) | (refine Ext.trans ?_ (by with_reducible assumption)))))).mono ?_
  rintro e w1 ⟨cp, cc, rfl, hco, hc1⟩
  have HCO := Lib.hid hco
  clear hco
  have hx1 : Ext (w.alloc (.cells #[.int .i64 wide, .int .i64 deep, .slice p n cap, .int .i64 free, .int .i64 step, .int .i64 price, .int .i64 capp, .int .i64 clock, .int .i64 bank, .slice q m c2] 37)) w1 := hc1
  have hz1 : w.heap.size < w1.heap.size := Nat.lt_of_lt_of_le (by simp) hx1.sz
  have e1_0 : w1.cell? ⟨w.heap.size, 0, none⟩ = some (.int .i64 wide) := by rw [hx1.cells.1 _ _ (by simp)]; simp
  have e1_1 : w1.cell? ⟨w.heap.size, 1, none⟩ = some (.int .i64 deep) := by rw [hx1.cells.1 _ _ (by simp)]; simp
  have e1_2 : w1.cell? ⟨w.heap.size, 2, none⟩ = some (.slice p n cap) := by rw [hx1.cells.1 _ _ (by simp)]; simp
  have e1_3 : w1.cell? ⟨w.heap.size, 3, none⟩ = some (.int .i64 free) := by rw [hx1.cells.1 _ _ (by simp)]; simp
  have e1_4 : w1.cell? ⟨w.heap.size, 4, none⟩ = some (.int .i64 step) := by rw [hx1.cells.1 _ _ (by simp)]; simp
  have e1_5 : w1.cell? ⟨w.heap.size, 5, none⟩ = some (.int .i64 price) := by rw [hx1.cells.1 _ _ (by simp)]; simp
  have e1_6 : w1.cell? ⟨w.heap.size, 6, none⟩ = some (.int .i64 capp) := by rw [hx1.cells.1 _ _ (by simp)]; simp
  have e1_7 : w1.cell? ⟨w.heap.size, 7, none⟩ = some (.int .i64 clock) := by rw [hx1.cells.1 _ _ (by simp)]; simp
  have e1_8 : w1.cell? ⟨w.heap.size, 8, none⟩ = some (.int .i64 bank) := by rw [hx1.cells.1 _ _ (by simp)]; simp
  have e1_9 : w1.cell? ⟨w.heap.size, 9, none⟩ = some (.slice q m c2) := by rw [hx1.cells.1 _ _ (by simp)]; simp
  go_wp2_with fail
  refine (HV.out _ (by (repeat' (first | exact Ext.refl _ | (with_reducible assumption) | (with_reducible refine Ext.alloc ?_ _) | (with_reducible refine Ext.setCell ?_ (by first | exact Nat.le_refl _ | (dsimp only; omega) | (simp; done) | (simp; omega)) _) | (with_reducible refine Ext.drew ?_) | (with_reducible refine Ext.drewN ?_ _) | (refine Ext.trans ?_ (by with_reducible assumption)))))).mono ?_
  rintro e w2 ⟨rfl, hh2⟩
  have hx2 : Ext (w.alloc (.cells #[.int .i64 wide, .int .i64 deep, .slice p n cap, .int .i64 free, .int .i64 step, .int .i64 price, .int .i64 capp, .int .i64 clock, .int .i64 bank, .slice q m c2] 37)) w2 := hx1.trans hh2
  have hz2 : w.heap.size < w2.heap.size := Nat.lt_of_lt_of_le (by simp) hx2.sz
  have e2_0 : w2.cell? ⟨w.heap.size, 0, none⟩ = some (.int .i64 wide) := by rw [hx2.cells.1 _ _ (by simp)]; simp
  have e2_1 : w2.cell? ⟨w.heap.size, 1, none⟩ = some (.int .i64 deep) := by rw [hx2.cells.1 _ _ (by simp)]; simp
  have e2_2 : w2.cell? ⟨w.heap.size, 2, none⟩ = some (.slice p n cap) := by rw [hx2.cells.1 _ _ (by simp)]; simp
  have e2_3 : w2.cell? ⟨w.heap.size, 3, none⟩ = some (.int .i64 free) := by rw [hx2.cells.1 _ _ (by simp)]; simp
  have e2_4 : w2.cell? ⟨w.heap.size, 4, none⟩ = some (.int .i64 step) := by rw [hx2.cells.1 _ _ (by simp)]; simp
  have e2_5 : w2.cell? ⟨w.heap.size, 5, none⟩ = some (.int .i64 price) := by rw [hx2.cells.1 _ _ (by simp)]; simp
  have e2_6 : w2.cell? ⟨w.heap.size, 6, none⟩ = some (.int .i64 capp) := by rw [hx2.cells.1 _ _ (by simp)]; simp
  have e2_7 : w2.cell? ⟨w.heap.size, 7, none⟩ = some (.int .i64 clock) := by rw [hx2.cells.1 _ _ (by simp)]; simp
  have e2_8 : w2.cell? ⟨w.heap.size, 8, none⟩ = some (.int .i64 bank) := by rw [hx2.cells.1 _ _ (by simp)]; simp
  have e2_9 : w2.cell? ⟨w.heap.size, 9, none⟩ = some (.slice q m c2) := by rw [hx2.cells.1 _ _ (by simp)]; simp
  clear hz1 e1_0 e1_1 e1_2 e1_3 e1_4 e1_5 e1_6 e1_7 e1_8 e1_9
  go_wp2_with go_in
  go_ret
  exact ⟨rfl, by (repeat' (first | exact Ext.refl _ | (with_reducible assumption) | (with_reducible refine Ext.alloc ?_ _) | (with_reducible refine Ext.setCell ?_ (by first | exact Nat.le_refl _ | (dsimp only; omega) | (simp; done) | (simp; omega)) _) | (with_reducible refine Ext.drew ?_) | (with_reducible refine Ext.drewN ?_ _) | (refine Ext.trans ?_ (by with_reducible assumption))))⟩

set_option maxRecDepth 100000 in
set_option maxHeartbeats 1000000 in
theorem specHo_bad2 (wide deep free step price capp clock bank : Int) (p : Option Addr) (n cap : Nat) (q : Option Addr) (m c2 : Nat) (w : World) (hm : m ≤ 9223372036854775807)
    (Cs : List Int) (HC : Hid (∀ w', Ext w w' → Calls Try.prog 44 #[hallV wide deep p n cap] w' (RetInts Cs w')))
    (HV : Hid (∀ w', Ext w w' → Calls Try.prog 45 #[hallV wide deep p n cap] w' fun e w'' => e = .returned (.bool true) ∧ Ext w' w''))
    (TV : Hid (∀ w', Calls Try.prog 46 #[tariffV free step price capp] w' fun e w'' => e = .returned (.bool false) ∧ Ext w' w'')) :
    Calls Try.prog 30 #[.agg #[.int .i64 wide, .int .i64 deep, .slice p n cap, .int .i64 free, .int .i64 step, .int .i64 price, .int .i64 capp, .int .i64 clock, .int .i64 bank, .slice q m c2]] w fun e w' => e = .returned (.bool false) ∧ Ext w w' := by
  go_enter Try.func30, Try.ntmps30
  go_wp2_with fail
  refine (HC.out _ (by (repeat' (first | exact Ext.refl _ | (with_reducible assumption) | (with_reducible refine Ext.alloc ?_ _) | (with_reducible refine Ext.setCell ?_ (by first | exact Nat.le_refl _ | (dsimp only; omega) | (simp; done) | (simp; omega)) _) | (with_reducible refine Ext.drew ?_) | (with_reducible refine Ext.drewN ?_ _) | (refine Ext.trans ?_ (by with_reducible assumption)))))).mono ?_
  rintro e w1 ⟨cp, cc, rfl, hco, hc1⟩
  have HCO := Lib.hid hco
  clear hco
  have hx1 : Ext (w.alloc (.cells #[.int .i64 wide, .int .i64 deep, .slice p n cap, .int .i64 free, .int .i64 step, .int .i64 price, .int .i64 capp, .int .i64 clock, .int .i64 bank, .slice q m c2] 37)) w1 := hc1
  have hz1 : w.heap.size < w1.heap.size := Nat.lt_of_lt_of_le (by simp) hx1.sz
  have e1_0 : w1.cell? ⟨w.heap.size, 0, none⟩ = some (.int .i64 wide) := by rw [hx1.cells.1 _ _ (by simp)]; simp
  have e1_1 : w1.cell? ⟨w.heap.size, 1, none⟩ = some (.int .i64 deep) := by rw [hx1.cells.1 _ _ (by simp)]; simp
  have e1_2 : w1.cell? ⟨w.heap.size, 2, none⟩ = some (.slice p n cap) := by rw [hx1.cells.1 _ _ (by simp)]; simp
  have e1_3 : w1.cell? ⟨w.heap.size, 3, none⟩ = some (.int .i64 free) := by rw [hx1.cells.1 _ _ (by simp)]; simp
  have e1_4 : w1.cell? ⟨w.heap.size, 4, none⟩ = some (.int .i64 step) := by rw [hx1.cells.1 _ _ (by simp)]; simp
  have e1_5 : w1.cell? ⟨w.heap.size, 5, none⟩ = some (.int .i64 price) := by rw [hx1.cells.1 _ _ (by simp)]; simp
  have e1_6 : w1.cell? ⟨w.heap.size, 6, none⟩ = some (.int .i64 capp) := by rw [hx1.cells.1 _ _ (by simp)]; simp
  have e1_7 : w1.cell? ⟨w.heap.size, 7, none⟩ = some (.int .i64 clock) := by rw [hx1.cells.1 _ _ (by simp)]; simp
  have e1_8 : w1.cell? ⟨w.heap.size, 8, none⟩ = some (.int .i64 bank) := by rw [hx1.cells.1 _ _ (by simp)]; simp
  have e1_9 : w1.cell? ⟨w.heap.size, 9, none⟩ = some (.slice q m c2) := by rw [hx1.cells.1 _ _ (by simp)]; simp
  go_wp2_with fail
  refine (HV.out _ (by (repeat' (first | exact Ext.refl _ | (with_reducible assumption) | (with_reducible refine Ext.alloc ?_ _) | (with_reducible refine Ext.setCell ?_ (by first | exact Nat.le_refl _ | (dsimp only; omega) | (simp; done) | (simp; omega)) _) | (with_reducible refine Ext.drew ?_) | (with_reducible refine Ext.drewN ?_ _) | (refine Ext.trans ?_ (by with_reducible assumption)))))).mono ?_
  rintro e w2 ⟨rfl, hh2⟩
  have hx2 : Ext (w.alloc (.cells #[.int .i64 wide, .int .i64 deep, .slice p n cap, .int .i64 free, .int .i64 step, .int .i64 price, .int .i64 capp, .int .i64 clock, .int .i64 bank, .slice q m c2] 37)) w2 := hx1.trans hh2
  have hz2 : w.heap.size < w2.heap.size := Nat.lt_of_lt_of_le (by simp) hx2.sz
  have e2_0 : w2.cell? ⟨w.heap.size, 0, none⟩ = some (.int .i64 wide) := by rw [hx2.cells.1 _ _ (by simp)]; simp
  have e2_1 : w2.cell? ⟨w.heap.size, 1, none⟩ = some (.int .i64 deep) := by rw [hx2.cells.1 _ _ (by simp)]; simp
  have e2_2 : w2.cell? ⟨w.heap.size, 2, none⟩ = some (.slice p n cap) := by rw [hx2.cells.1 _ _ (by simp)]; simp
  have e2_3 : w2.cell? ⟨w.heap.size, 3, none⟩ = some (.int .i64 free) := by rw [hx2.cells.1 _ _ (by simp)]; simp
  have e2_4 : w2.cell? ⟨w.heap.size, 4, none⟩ = some (.int .i64 step) := by rw [hx2.cells.1 _ _ (by simp)]; simp
  have e2_5 : w2.cell? ⟨w.heap.size, 5, none⟩ = some (.int .i64 price) := by rw [hx2.cells.1 _ _ (by simp)]; simp
  have e2_6 : w2.cell? ⟨w.heap.size, 6, none⟩ = some (.int .i64 capp) := by rw [hx2.cells.1 _ _ (by simp)]; simp
  have e2_7 : w2.cell? ⟨w.heap.size, 7, none⟩ = some (.int .i64 clock) := by rw [hx2.cells.1 _ _ (by simp)]; simp
  have e2_8 : w2.cell? ⟨w.heap.size, 8, none⟩ = some (.int .i64 bank) := by rw [hx2.cells.1 _ _ (by simp)]; simp
  have e2_9 : w2.cell? ⟨w.heap.size, 9, none⟩ = some (.slice q m c2) := by rw [hx2.cells.1 _ _ (by simp)]; simp
  clear hz1 e1_0 e1_1 e1_2 e1_3 e1_4 e1_5 e1_6 e1_7 e1_8 e1_9
  go_wp2_with fail
  refine (TV.out _).mono ?_
  rintro e w3 ⟨rfl, ht3⟩
  have hx3 : Ext (w.alloc (.cells #[.int .i64 wide, .int .i64 deep, .slice p n cap, .int .i64 free, .int .i64 step, .int .i64 price, .int .i64 capp, .int .i64 clock, .int .i64 bank, .slice q m c2] 37)) w3 := hx2.trans ht3
  have hz3 : w.heap.size < w3.heap.size := Nat.lt_of_lt_of_le (by simp) hx3.sz
  have e3_0 : w3.cell? ⟨w.heap.size, 0, none⟩ = some (.int .i64 wide) := by rw [hx3.cells.1 _ _ (by simp)]; simp
  have e3_1 : w3.cell? ⟨w.heap.size, 1, none⟩ = some (.int .i64 deep) := by rw [hx3.cells.1 _ _ (by simp)]; simp
  have e3_2 : w3.cell? ⟨w.heap.size, 2, none⟩ = some (.slice p n cap) := by rw [hx3.cells.1 _ _ (by simp)]; simp
  have e3_3 : w3.cell? ⟨w.heap.size, 3, none⟩ = some (.int .i64 free) := by rw [hx3.cells.1 _ _ (by simp)]; simp
  have e3_4 : w3.cell? ⟨w.heap.size, 4, none⟩ = some (.int .i64 step) := by rw [hx3.cells.1 _ _ (by simp)]; simp
  have e3_5 : w3.cell? ⟨w.heap.size, 5, none⟩ = some (.int .i64 price) := by rw [hx3.cells.1 _ _ (by simp)]; simp
  have e3_6 : w3.cell? ⟨w.heap.size, 6, none⟩ = some (.int .i64 capp) := by rw [hx3.cells.1 _ _ (by simp)]; simp
  have e3_7 : w3.cell? ⟨w.heap.size, 7, none⟩ = some (.int .i64 clock) := by rw [hx3.cells.1 _ _ (by simp)]; simp
  have e3_8 : w3.cell? ⟨w.heap.size, 8, none⟩ = some (.int .i64 bank) := by rw [hx3.cells.1 _ _ (by simp)]; simp
  have e3_9 : w3.cell? ⟨w.heap.size, 9, none⟩ = some (.slice q m c2) := by rw [hx3.cells.1 _ _ (by simp)]; simp
  clear hz2 e2_0 e2_1 e2_2 e2_3 e2_4 e2_5 e2_6 e2_7 e2_8 e2_9
  go_wp2_with go_in
  go_ret
  exact ⟨rfl, by (repeat' (first | exact Ext.refl _ | (with_reducible assumption) | (with_reducible refine Ext.alloc ?_ _) | (with_reducible refine Ext.setCell ?_ (by first | exact Nat.le_refl _ | (dsimp only; omega) | (simp; done) | (simp; omega)) _) | (with_reducible refine Ext.drew ?_) | (with_reducible refine Ext.drewN ?_ _) | (refine Ext.trans ?_ (by with_reducible assumption))))⟩

set_option maxRecDepth 100000 in
set_option maxHeartbeats 1000000 in
theorem specHo_bad3 (wide deep free step price capp clock bank : Int) (p : Option Addr) (n cap : Nat) (q : Option Addr) (m c2 : Nat) (w : World) (hm : m ≤ 9223372036854775807)
    (Cs : List Int) (HC : Hid (∀ w', Ext w w' → Calls Try.prog 44 #[hallV wide deep p n cap] w' (RetInts Cs w')))
    (HV : Hid (∀ w', Ext w w' → Calls Try.prog 45 #[hallV wide deep p n cap] w' fun e w'' => e = .returned (.bool true) ∧ Ext w' w''))
    (TV : Hid (∀ w', Calls Try.prog 46 #[tariffV free step price capp] w' fun e w'' => e = .returned (.bool true) ∧ Ext w' w''))
    (h : clock < 0 ∨ 0 ≤ clock ∧ 9999 < clock ∨ 0 ≤ clock ∧ clock ≤ 9999 ∧ bank < 0 ∨ 0 ≤ clock ∧ clock ≤ 9999 ∧ 0 ≤ bank ∧ 99999 < bank) :
    Calls Try.prog 30 #[.agg #[.int .i64 wide, .int .i64 deep, .slice p n cap, .int .i64 free, .int .i64 step, .int .i64 price, .int .i64 capp, .int .i64 clock, .int .i64 bank, .slice q m c2]] w fun e w' => e = .returned (.bool false) ∧ Ext w w' := by
  rcases h with h | ⟨h0, h⟩ | ⟨h0, h1, h⟩ | ⟨h0, h1, h2, h⟩
  all_goals
    (try (have hdd : decide (clock ≤ 9999) = false := by simp; omega))
    (try (have hdd : decide (bank ≤ 99999) = false := by simp; omega))
    go_enter Try.func30, Try.ntmps30
    go_wp2_with fail
    refine (HC.out _ (by (repeat' (first | exact Ext.refl _ | (with_reducible assumption) | (with_reducible refine Ext.alloc ?_ _) | (with_reducible refine Ext.setCell ?_ (by first | exact Nat.le_refl _ | (dsimp only; omega) | (simp; done) | (simp; omega)) _) | (with_reducible refine Ext.drew ?_) | (with_reducible refine Ext.drewN ?_ _) | (refine Ext.trans ?_ (by with_reducible assumption)))))).mono ?_
    rintro e w1 ⟨cp, cc, rfl, hco, hc1⟩
    have HCO := Lib.hid hco
    clear hco
    have hx1 : Ext (w.alloc (.cells #[.int .i64 wide, .int .i64 deep, .slice p n cap, .int .i64 free, .int .i64 step, .int .i64 price, .int .i64 capp, .int .i64 clock, .int .i64 bank, .slice q m c2] 37)) w1 := hc1
    have hz1 : w.heap.size < w1.heap.size := Nat.lt_of_lt_of_le (by simp) hx1.sz
    have e1_0 : w1.cell? ⟨w.heap.size, 0, none⟩ = some (.int .i64 wide) := by rw [hx1.cells.1 _ _ (by simp)]; simp
    have e1_1 : w1.cell? ⟨w.heap.size, 1, none⟩ = some (.int .i64 deep) := by rw [hx1.cells.1 _ _ (by simp)]; simp
    have e1_2 : w1.cell? ⟨w.heap.size, 2, none⟩ = some (.slice p n cap) := by rw [hx1.cells.1 _ _ (by simp)]; simp
    have e1_3 : w1.cell? ⟨w.heap.size, 3, none⟩ = some (.int .i64 free) := by rw [hx1.cells.1 _ _ (by simp)]; simp
    have e1_4 : w1.cell? ⟨w.heap.size, 4, none⟩ = some (.int .i64 step) := by rw [hx1.cells.1 _ _ (by simp)]; simp
    have e1_5 : w1.cell? ⟨w.heap.size, 5, none⟩ = some (.int .i64 price) := by rw [hx1.cells.1 _ _ (by simp)]; simp
    have e1_6 : w1.cell? ⟨w.heap.size, 6, none⟩ = some (.int .i64 capp) := by rw [hx1.cells.1 _ _ (by simp)]; simp
    have e1_7 : w1.cell? ⟨w.heap.size, 7, none⟩ = some (.int .i64 clock) := by rw [hx1.cells.1 _ _ (by simp)]; simp
    have e1_8 : w1.cell? ⟨w.heap.size, 8, none⟩ = some (.int .i64 bank) := by rw [hx1.cells.1 _ _ (by simp)]; simp
    have e1_9 : w1.cell? ⟨w.heap.size, 9, none⟩ = some (.slice q m c2) := by rw [hx1.cells.1 _ _ (by simp)]; simp
    go_wp2_with fail
    refine (HV.out _ (by (repeat' (first | exact Ext.refl _ | (with_reducible assumption) | (with_reducible refine Ext.alloc ?_ _) | (with_reducible refine Ext.setCell ?_ (by first | exact Nat.le_refl _ | (dsimp only; omega) | (simp; done) | (simp; omega)) _) | (with_reducible refine Ext.drew ?_) | (with_reducible refine Ext.drewN ?_ _) | (refine Ext.trans ?_ (by with_reducible assumption)))))).mono ?_
    rintro e w2 ⟨rfl, hh2⟩
    have hx2 : Ext (w.alloc (.cells #[.int .i64 wide, .int .i64 deep, .slice p n cap, .int .i64 free, .int .i64 step, .int .i64 price, .int .i64 capp, .int .i64 clock, .int .i64 bank, .slice q m c2] 37)) w2 := hx1.trans hh2
    have hz2 : w.heap.size < w2.heap.size := Nat.lt_of_lt_of_le (by simp) hx2.sz
    have e2_0 : w2.cell? ⟨w.heap.size, 0, none⟩ = some (.int .i64 wide) := by rw [hx2.cells.1 _ _ (by simp)]; simp
    have e2_1 : w2.cell? ⟨w.heap.size, 1, none⟩ = some (.int .i64 deep) := by rw [hx2.cells.1 _ _ (by simp)]; simp
    have e2_2 : w2.cell? ⟨w.heap.size, 2, none⟩ = some (.slice p n cap) := by rw [hx2.cells.1 _ _ (by simp)]; simp
    have e2_3 : w2.cell? ⟨w.heap.size, 3, none⟩ = some (.int .i64 free) := by rw [hx2.cells.1 _ _ (by simp)]; simp
    have e2_4 : w2.cell? ⟨w.heap.size, 4, none⟩ = some (.int .i64 step) := by rw [hx2.cells.1 _ _ (by simp)]; simp
    have e2_5 : w2.cell? ⟨w.heap.size, 5, none⟩ = some (.int .i64 price) := by rw [hx2.cells.1 _ _ (by simp)]; simp
    have e2_6 : w2.cell? ⟨w.heap.size, 6, none⟩ = some (.int .i64 capp) := by rw [hx2.cells.1 _ _ (by simp)]; simp
    have e2_7 : w2.cell? ⟨w.heap.size, 7, none⟩ = some (.int .i64 clock) := by rw [hx2.cells.1 _ _ (by simp)]; simp
    have e2_8 : w2.cell? ⟨w.heap.size, 8, none⟩ = some (.int .i64 bank) := by rw [hx2.cells.1 _ _ (by simp)]; simp
    have e2_9 : w2.cell? ⟨w.heap.size, 9, none⟩ = some (.slice q m c2) := by rw [hx2.cells.1 _ _ (by simp)]; simp
    clear hz1 e1_0 e1_1 e1_2 e1_3 e1_4 e1_5 e1_6 e1_7 e1_8 e1_9
    go_wp2_with fail
    refine (TV.out _).mono ?_
    rintro e w3 ⟨rfl, ht3⟩
    have hx3 : Ext (w.alloc (.cells #[.int .i64 wide, .int .i64 deep, .slice p n cap, .int .i64 free, .int .i64 step, .int .i64 price, .int .i64 capp, .int .i64 clock, .int .i64 bank, .slice q m c2] 37)) w3 := hx2.trans ht3
    have hz3 : w.heap.size < w3.heap.size := Nat.lt_of_lt_of_le (by simp) hx3.sz
    have e3_0 : w3.cell? ⟨w.heap.size, 0, none⟩ = some (.int .i64 wide) := by rw [hx3.cells.1 _ _ (by simp)]; simp
    have e3_1 : w3.cell? ⟨w.heap.size, 1, none⟩ = some (.int .i64 deep) := by rw [hx3.cells.1 _ _ (by simp)]; simp
    have e3_2 : w3.cell? ⟨w.heap.size, 2, none⟩ = some (.slice p n cap) := by rw [hx3.cells.1 _ _ (by simp)]; simp
    have e3_3 : w3.cell? ⟨w.heap.size, 3, none⟩ = some (.int .i64 free) := by rw [hx3.cells.1 _ _ (by simp)]; simp
    have e3_4 : w3.cell? ⟨w.heap.size, 4, none⟩ = some (.int .i64 step) := by rw [hx3.cells.1 _ _ (by simp)]; simp
    have e3_5 : w3.cell? ⟨w.heap.size, 5, none⟩ = some (.int .i64 price) := by rw [hx3.cells.1 _ _ (by simp)]; simp
    have e3_6 : w3.cell? ⟨w.heap.size, 6, none⟩ = some (.int .i64 capp) := by rw [hx3.cells.1 _ _ (by simp)]; simp
    have e3_7 : w3.cell? ⟨w.heap.size, 7, none⟩ = some (.int .i64 clock) := by rw [hx3.cells.1 _ _ (by simp)]; simp
    have e3_8 : w3.cell? ⟨w.heap.size, 8, none⟩ = some (.int .i64 bank) := by rw [hx3.cells.1 _ _ (by simp)]; simp
    have e3_9 : w3.cell? ⟨w.heap.size, 9, none⟩ = some (.slice q m c2) := by rw [hx3.cells.1 _ _ (by simp)]; simp
    clear hz2 e2_0 e2_1 e2_2 e2_3 e2_4 e2_5 e2_6 e2_7 e2_8 e2_9
    go_wp2_with go_in
    go_ret
    exact ⟨rfl, by (repeat' (first | exact Ext.refl _ | (with_reducible assumption) | (with_reducible refine Ext.alloc ?_ _) | (with_reducible refine Ext.setCell ?_ (by first | exact Nat.le_refl _ | (dsimp only; omega) | (simp; done) | (simp; omega)) _) | (with_reducible refine Ext.drew ?_) | (with_reducible refine Ext.drewN ?_ _) | (refine Ext.trans ?_ (by with_reducible assumption))))⟩

set_option maxRecDepth 100000 in
set_option maxHeartbeats 1000000 in
theorem specHo_bad4 (wide deep free step price capp clock bank : Int) (p : Option Addr) (n cap : Nat) (q : Option Addr) (m c2 : Nat) (w : World) (hm : m ≤ 9223372036854775807)
    (Cs : List Int) (HC : Hid (∀ w', Ext w w' → Calls Try.prog 44 #[hallV wide deep p n cap] w' (RetInts Cs w')))
    (HV : Hid (∀ w', Ext w w' → Calls Try.prog 45 #[hallV wide deep p n cap] w' fun e w'' => e = .returned (.bool true) ∧ Ext w' w''))
    (TV : Hid (∀ w', Calls Try.prog 46 #[tariffV free step price capp] w' fun e w'' => e = .returned (.bool true) ∧ Ext w' w''))
    (h0 : 0 ≤ clock) (h1 : clock ≤ 9999) (h2 : 0 ≤ bank) (h3 : bank ≤ 99999) (hL : ((Cs.length : Int) != m) = true) :
    Calls Try.prog 30 #[.agg #[.int .i64 wide, .int .i64 deep, .slice p n cap, .int .i64 free, .int .i64 step, .int .i64 price, .int .i64 capp, .int .i64 clock, .int .i64 bank, .slice q m c2]] w fun e w' => e = .returned (.bool false) ∧ Ext w w' := by
  go_enter Try.func30, Try.ntmps30
  go_wp2_with fail
  refine (HC.out _ (by (repeat' (first | exact Ext.refl _ | (with_reducible assumption) | (with_reducible refine Ext.alloc ?_ _) | (with_reducible refine Ext.setCell ?_ (by first | exact Nat.le_refl _ | (dsimp only; omega) | (simp; done) | (simp; omega)) _) | (with_reducible refine Ext.drew ?_) | (with_reducible refine Ext.drewN ?_ _) | (refine Ext.trans ?_ (by with_reducible assumption)))))).mono ?_
  rintro e w1 ⟨cp, cc, rfl, hco, hc1⟩
  have HCO := Lib.hid hco
  clear hco
  have hx1 : Ext (w.alloc (.cells #[.int .i64 wide, .int .i64 deep, .slice p n cap, .int .i64 free, .int .i64 step, .int .i64 price, .int .i64 capp, .int .i64 clock, .int .i64 bank, .slice q m c2] 37)) w1 := hc1
  have hz1 : w.heap.size < w1.heap.size := Nat.lt_of_lt_of_le (by simp) hx1.sz
  have e1_0 : w1.cell? ⟨w.heap.size, 0, none⟩ = some (.int .i64 wide) := by rw [hx1.cells.1 _ _ (by simp)]; simp
  have e1_1 : w1.cell? ⟨w.heap.size, 1, none⟩ = some (.int .i64 deep) := by rw [hx1.cells.1 _ _ (by simp)]; simp
  have e1_2 : w1.cell? ⟨w.heap.size, 2, none⟩ = some (.slice p n cap) := by rw [hx1.cells.1 _ _ (by simp)]; simp
  have e1_3 : w1.cell? ⟨w.heap.size, 3, none⟩ = some (.int .i64 free) := by rw [hx1.cells.1 _ _ (by simp)]; simp
  have e1_4 : w1.cell? ⟨w.heap.size, 4, none⟩ = some (.int .i64 step) := by rw [hx1.cells.1 _ _ (by simp)]; simp
  have e1_5 : w1.cell? ⟨w.heap.size, 5, none⟩ = some (.int .i64 price) := by rw [hx1.cells.1 _ _ (by simp)]; simp
  have e1_6 : w1.cell? ⟨w.heap.size, 6, none⟩ = some (.int .i64 capp) := by rw [hx1.cells.1 _ _ (by simp)]; simp
  have e1_7 : w1.cell? ⟨w.heap.size, 7, none⟩ = some (.int .i64 clock) := by rw [hx1.cells.1 _ _ (by simp)]; simp
  have e1_8 : w1.cell? ⟨w.heap.size, 8, none⟩ = some (.int .i64 bank) := by rw [hx1.cells.1 _ _ (by simp)]; simp
  have e1_9 : w1.cell? ⟨w.heap.size, 9, none⟩ = some (.slice q m c2) := by rw [hx1.cells.1 _ _ (by simp)]; simp
  go_wp2_with fail
  refine (HV.out _ (by (repeat' (first | exact Ext.refl _ | (with_reducible assumption) | (with_reducible refine Ext.alloc ?_ _) | (with_reducible refine Ext.setCell ?_ (by first | exact Nat.le_refl _ | (dsimp only; omega) | (simp; done) | (simp; omega)) _) | (with_reducible refine Ext.drew ?_) | (with_reducible refine Ext.drewN ?_ _) | (refine Ext.trans ?_ (by with_reducible assumption)))))).mono ?_
  rintro e w2 ⟨rfl, hh2⟩
  have hx2 : Ext (w.alloc (.cells #[.int .i64 wide, .int .i64 deep, .slice p n cap, .int .i64 free, .int .i64 step, .int .i64 price, .int .i64 capp, .int .i64 clock, .int .i64 bank, .slice q m c2] 37)) w2 := hx1.trans hh2
  have hz2 : w.heap.size < w2.heap.size := Nat.lt_of_lt_of_le (by simp) hx2.sz
  have e2_0 : w2.cell? ⟨w.heap.size, 0, none⟩ = some (.int .i64 wide) := by rw [hx2.cells.1 _ _ (by simp)]; simp
  have e2_1 : w2.cell? ⟨w.heap.size, 1, none⟩ = some (.int .i64 deep) := by rw [hx2.cells.1 _ _ (by simp)]; simp
  have e2_2 : w2.cell? ⟨w.heap.size, 2, none⟩ = some (.slice p n cap) := by rw [hx2.cells.1 _ _ (by simp)]; simp
  have e2_3 : w2.cell? ⟨w.heap.size, 3, none⟩ = some (.int .i64 free) := by rw [hx2.cells.1 _ _ (by simp)]; simp
  have e2_4 : w2.cell? ⟨w.heap.size, 4, none⟩ = some (.int .i64 step) := by rw [hx2.cells.1 _ _ (by simp)]; simp
  have e2_5 : w2.cell? ⟨w.heap.size, 5, none⟩ = some (.int .i64 price) := by rw [hx2.cells.1 _ _ (by simp)]; simp
  have e2_6 : w2.cell? ⟨w.heap.size, 6, none⟩ = some (.int .i64 capp) := by rw [hx2.cells.1 _ _ (by simp)]; simp
  have e2_7 : w2.cell? ⟨w.heap.size, 7, none⟩ = some (.int .i64 clock) := by rw [hx2.cells.1 _ _ (by simp)]; simp
  have e2_8 : w2.cell? ⟨w.heap.size, 8, none⟩ = some (.int .i64 bank) := by rw [hx2.cells.1 _ _ (by simp)]; simp
  have e2_9 : w2.cell? ⟨w.heap.size, 9, none⟩ = some (.slice q m c2) := by rw [hx2.cells.1 _ _ (by simp)]; simp
  clear hz1 e1_0 e1_1 e1_2 e1_3 e1_4 e1_5 e1_6 e1_7 e1_8 e1_9
  go_wp2_with fail
  refine (TV.out _).mono ?_
  rintro e w3 ⟨rfl, ht3⟩
  have hx3 : Ext (w.alloc (.cells #[.int .i64 wide, .int .i64 deep, .slice p n cap, .int .i64 free, .int .i64 step, .int .i64 price, .int .i64 capp, .int .i64 clock, .int .i64 bank, .slice q m c2] 37)) w3 := hx2.trans ht3
  have hz3 : w.heap.size < w3.heap.size := Nat.lt_of_lt_of_le (by simp) hx3.sz
  have e3_0 : w3.cell? ⟨w.heap.size, 0, none⟩ = some (.int .i64 wide) := by rw [hx3.cells.1 _ _ (by simp)]; simp
  have e3_1 : w3.cell? ⟨w.heap.size, 1, none⟩ = some (.int .i64 deep) := by rw [hx3.cells.1 _ _ (by simp)]; simp
  have e3_2 : w3.cell? ⟨w.heap.size, 2, none⟩ = some (.slice p n cap) := by rw [hx3.cells.1 _ _ (by simp)]; simp
  have e3_3 : w3.cell? ⟨w.heap.size, 3, none⟩ = some (.int .i64 free) := by rw [hx3.cells.1 _ _ (by simp)]; simp
  have e3_4 : w3.cell? ⟨w.heap.size, 4, none⟩ = some (.int .i64 step) := by rw [hx3.cells.1 _ _ (by simp)]; simp
  have e3_5 : w3.cell? ⟨w.heap.size, 5, none⟩ = some (.int .i64 price) := by rw [hx3.cells.1 _ _ (by simp)]; simp
  have e3_6 : w3.cell? ⟨w.heap.size, 6, none⟩ = some (.int .i64 capp) := by rw [hx3.cells.1 _ _ (by simp)]; simp
  have e3_7 : w3.cell? ⟨w.heap.size, 7, none⟩ = some (.int .i64 clock) := by rw [hx3.cells.1 _ _ (by simp)]; simp
  have e3_8 : w3.cell? ⟨w.heap.size, 8, none⟩ = some (.int .i64 bank) := by rw [hx3.cells.1 _ _ (by simp)]; simp
  have e3_9 : w3.cell? ⟨w.heap.size, 9, none⟩ = some (.slice q m c2) := by rw [hx3.cells.1 _ _ (by simp)]; simp
  clear hz2 e2_0 e2_1 e2_2 e2_3 e2_4 e2_5 e2_6 e2_7 e2_8 e2_9
  go_wp2_with go_in
  go_ret
  exact ⟨rfl, by (repeat' (first | exact Ext.refl _ | (with_reducible assumption) | (with_reducible refine Ext.alloc ?_ _) | (with_reducible refine Ext.setCell ?_ (by first | exact Nat.le_refl _ | (dsimp only; omega) | (simp; done) | (simp; omega)) _) | (with_reducible refine Ext.drew ?_) | (with_reducible refine Ext.drewN ?_ _) | (refine Ext.trans ?_ (by with_reducible assumption))))⟩

set_option maxRecDepth 100000 in
set_option maxHeartbeats 1000000 in
theorem specHo_main (wide deep free step price capp clock bank : Int) (p : Option Addr) (n cap : Nat) (q : Option Addr) (m c2 : Nat) (w : World) (hm : m ≤ 9223372036854775807)
    (Cs : List Int) (HC : Hid (∀ w', Ext w w' → Calls Try.prog 44 #[hallV wide deep p n cap] w' (RetInts Cs w')))
    (HV : Hid (∀ w', Ext w w' → Calls Try.prog 45 #[hallV wide deep p n cap] w' fun e w'' => e = .returned (.bool true) ∧ Ext w' w''))
    (TV : Hid (∀ w', Calls Try.prog 46 #[tariffV free step price capp] w' fun e w'' => e = .returned (.bool true) ∧ Ext w' w''))
    (h0 : 0 ≤ clock) (h1 : clock ≤ 9999) (h2 : 0 ≤ bank) (h3 : bank ≤ 99999) (hL : ((Cs.length : Int) != m) = false) (hL2 : Cs.length = m) (hm2 : m ≤ 100) (vs : List Visit4) (HVS : Hid (Sl w q m c2 4 (vs.flatMap visitCells))) :
    Calls Try.prog 30 #[.agg #[.int .i64 wide, .int .i64 deep, .slice p n cap, .int .i64 free, .int .i64 step, .int .i64 price, .int .i64 capp, .int .i64 clock, .int .i64 bank, .slice q m c2]] w fun e w' => e = .returned (.bool (visitsOk clock Cs vs)) ∧ Ext w w' := by
  have hvl : vs.length = m := by have := HVS.out.len; rw [flat_len visitCells 4 (fun _ => rfl)] at this; omega
  have HVL := Lib.hid hvl
  have HCL := Lib.hid hL2
  clear hvl hL2
  go_enter Try.func30, Try.ntmps30
  go_wp2_with fail
  refine (HC.out _ (by (repeat' (first | exact Ext.refl _ | (with_reducible assumption) | (with_reducible refine Ext.alloc ?_ _) | (with_reducible refine Ext.setCell ?_ (by first | exact Nat.le_refl _ | (dsimp only; omega) | (simp; done) | (simp; omega)) _) | (with_reducible refine Ext.drew ?_) | (with_reducible refine Ext.drewN ?_ _) | (refine Ext.trans ?_ (by with_reducible assumption)))))).mono ?_
  rintro e w1 ⟨cp, cc, rfl, hco, hc1⟩
  have HCO := Lib.hid hco
  clear hco
  have hx1 : Ext (w.alloc (.cells #[.int .i64 wide, .int .i64 deep, .slice p n cap, .int .i64 free, .int .i64 step, .int .i64 price, .int .i64 capp, .int .i64 clock, .int .i64 bank, .slice q m c2] 37)) w1 := hc1
  have hz1 : w.heap.size < w1.heap.size := Nat.lt_of_lt_of_le (by simp) hx1.sz
  have e1_0 : w1.cell? ⟨w.heap.size, 0, none⟩ = some (.int .i64 wide) := by rw [hx1.cells.1 _ _ (by simp)]; simp
  have e1_1 : w1.cell? ⟨w.heap.size, 1, none⟩ = some (.int .i64 deep) := by rw [hx1.cells.1 _ _ (by simp)]; simp
  have e1_2 : w1.cell? ⟨w.heap.size, 2, none⟩ = some (.slice p n cap) := by rw [hx1.cells.1 _ _ (by simp)]; simp
  have e1_3 : w1.cell? ⟨w.heap.size, 3, none⟩ = some (.int .i64 free) := by rw [hx1.cells.1 _ _ (by simp)]; simp
  have e1_4 : w1.cell? ⟨w.heap.size, 4, none⟩ = some (.int .i64 step) := by rw [hx1.cells.1 _ _ (by simp)]; simp
  have e1_5 : w1.cell? ⟨w.heap.size, 5, none⟩ = some (.int .i64 price) := by rw [hx1.cells.1 _ _ (by simp)]; simp
  have e1_6 : w1.cell? ⟨w.heap.size, 6, none⟩ = some (.int .i64 capp) := by rw [hx1.cells.1 _ _ (by simp)]; simp
  have e1_7 : w1.cell? ⟨w.heap.size, 7, none⟩ = some (.int .i64 clock) := by rw [hx1.cells.1 _ _ (by simp)]; simp
  have e1_8 : w1.cell? ⟨w.heap.size, 8, none⟩ = some (.int .i64 bank) := by rw [hx1.cells.1 _ _ (by simp)]; simp
  have e1_9 : w1.cell? ⟨w.heap.size, 9, none⟩ = some (.slice q m c2) := by rw [hx1.cells.1 _ _ (by simp)]; simp
  go_wp2_with fail
  refine (HV.out _ (by (repeat' (first | exact Ext.refl _ | (with_reducible assumption) | (with_reducible refine Ext.alloc ?_ _) | (with_reducible refine Ext.setCell ?_ (by first | exact Nat.le_refl _ | (dsimp only; omega) | (simp; done) | (simp; omega)) _) | (with_reducible refine Ext.drew ?_) | (with_reducible refine Ext.drewN ?_ _) | (refine Ext.trans ?_ (by with_reducible assumption)))))).mono ?_
  rintro e w2 ⟨rfl, hh2⟩
  have hx2 : Ext (w.alloc (.cells #[.int .i64 wide, .int .i64 deep, .slice p n cap, .int .i64 free, .int .i64 step, .int .i64 price, .int .i64 capp, .int .i64 clock, .int .i64 bank, .slice q m c2] 37)) w2 := hx1.trans hh2
  have hz2 : w.heap.size < w2.heap.size := Nat.lt_of_lt_of_le (by simp) hx2.sz
  have e2_0 : w2.cell? ⟨w.heap.size, 0, none⟩ = some (.int .i64 wide) := by rw [hx2.cells.1 _ _ (by simp)]; simp
  have e2_1 : w2.cell? ⟨w.heap.size, 1, none⟩ = some (.int .i64 deep) := by rw [hx2.cells.1 _ _ (by simp)]; simp
  have e2_2 : w2.cell? ⟨w.heap.size, 2, none⟩ = some (.slice p n cap) := by rw [hx2.cells.1 _ _ (by simp)]; simp
  have e2_3 : w2.cell? ⟨w.heap.size, 3, none⟩ = some (.int .i64 free) := by rw [hx2.cells.1 _ _ (by simp)]; simp
  have e2_4 : w2.cell? ⟨w.heap.size, 4, none⟩ = some (.int .i64 step) := by rw [hx2.cells.1 _ _ (by simp)]; simp
  have e2_5 : w2.cell? ⟨w.heap.size, 5, none⟩ = some (.int .i64 price) := by rw [hx2.cells.1 _ _ (by simp)]; simp
  have e2_6 : w2.cell? ⟨w.heap.size, 6, none⟩ = some (.int .i64 capp) := by rw [hx2.cells.1 _ _ (by simp)]; simp
  have e2_7 : w2.cell? ⟨w.heap.size, 7, none⟩ = some (.int .i64 clock) := by rw [hx2.cells.1 _ _ (by simp)]; simp
  have e2_8 : w2.cell? ⟨w.heap.size, 8, none⟩ = some (.int .i64 bank) := by rw [hx2.cells.1 _ _ (by simp)]; simp
  have e2_9 : w2.cell? ⟨w.heap.size, 9, none⟩ = some (.slice q m c2) := by rw [hx2.cells.1 _ _ (by simp)]; simp
  clear hz1 e1_0 e1_1 e1_2 e1_3 e1_4 e1_5 e1_6 e1_7 e1_8 e1_9
  go_wp2_with fail
  refine (TV.out _).mono ?_
  rintro e w3 ⟨rfl, ht3⟩
  have hx3 : Ext (w.alloc (.cells #[.int .i64 wide, .int .i64 deep, .slice p n cap, .int .i64 free, .int .i64 step, .int .i64 price, .int .i64 capp, .int .i64 clock, .int .i64 bank, .slice q m c2] 37)) w3 := hx2.trans ht3
  have hz3 : w.heap.size < w3.heap.size := Nat.lt_of_lt_of_le (by simp) hx3.sz
  have e3_0 : w3.cell? ⟨w.heap.size, 0, none⟩ = some (.int .i64 wide) := by rw [hx3.cells.1 _ _ (by simp)]; simp
  have e3_1 : w3.cell? ⟨w.heap.size, 1, none⟩ = some (.int .i64 deep) := by rw [hx3.cells.1 _ _ (by simp)]; simp
  have e3_2 : w3.cell? ⟨w.heap.size, 2, none⟩ = some (.slice p n cap) := by rw [hx3.cells.1 _ _ (by simp)]; simp
  have e3_3 : w3.cell? ⟨w.heap.size, 3, none⟩ = some (.int .i64 free) := by rw [hx3.cells.1 _ _ (by simp)]; simp
  have e3_4 : w3.cell? ⟨w.heap.size, 4, none⟩ = some (.int .i64 step) := by rw [hx3.cells.1 _ _ (by simp)]; simp
  have e3_5 : w3.cell? ⟨w.heap.size, 5, none⟩ = some (.int .i64 price) := by rw [hx3.cells.1 _ _ (by simp)]; simp
  have e3_6 : w3.cell? ⟨w.heap.size, 6, none⟩ = some (.int .i64 capp) := by rw [hx3.cells.1 _ _ (by simp)]; simp
  have e3_7 : w3.cell? ⟨w.heap.size, 7, none⟩ = some (.int .i64 clock) := by rw [hx3.cells.1 _ _ (by simp)]; simp
  have e3_8 : w3.cell? ⟨w.heap.size, 8, none⟩ = some (.int .i64 bank) := by rw [hx3.cells.1 _ _ (by simp)]; simp
  have e3_9 : w3.cell? ⟨w.heap.size, 9, none⟩ = some (.slice q m c2) := by rw [hx3.cells.1 _ _ (by simp)]; simp
  clear hz2 e2_0 e2_1 e2_2 e2_3 e2_4 e2_5 e2_6 e2_7 e2_8 e2_9
  have hco : OwnZ w3 cp Cs.length cc Cs := (own_z (own_ext HCO.out (Ext.trans hh2 ht3)))
  have hxw : Ext w w3 := (Ext.alloc (Ext.refl w) _).trans hx3
  go_wp2_with go_in
  clear hL
  go_loopw [4] (fun i wr => ∃ k : Nat, k ≤ m ∧ i = .int .i64 k ∧ visitsOk clock Cs vs = visitsOk clock (Cs.drop k) (vs.drop k) ∧ Ext w3 wr) (fun i _ => m - (intOf i).toNat)
  case atStart => exact ⟨0, Nat.zero_le _, rfl, rfl, Ext.refl _⟩
  case round =>
    obtain ⟨k, hk, rfl, hok, hE⟩ := hrel
    have hcl : wr.cell? ⟨w.heap.size, 7, none⟩ = some (.int .i64 clock) := (hE.cells.1 _ _ hz3).trans e3_7
    have hcv : wr.cell? ⟨w.heap.size, 9, none⟩ = some (.slice q m c2) := (hE.cells.1 _ _ hz3).trans e3_9
    have hzr : w.heap.size < wr.heap.size := Nat.lt_of_lt_of_le hz3 hE.sz
    have HCL2 := HCL.out
    by_cases hlt : k < m
    · obtain ⟨b, off, a0, a1, a2, a3, rfl, hv, hb, g0, g1, g2, g3⟩ := visit_at (HVS.out.ext (hxw.trans hE)) hlt
      obtain ⟨cb, coff, c, rfl, hc, hcb, gc⟩ := (hco.ext hE).int_at (show k < Cs.length by omega)
      have hfin := Lib.hid (hok.trans (visitsOk_at hc hv))
      have i1 : (0 : Int) ≤ (k : Int) := by omega
      have i2 : (k : Int) < (m : Int) := by omega
      have i3 : (k : Int) < (Cs.length : Int) := by omega
      clear hok hc hv HCL2
      have hSv : Hid (∀ w', Calls Try.prog 48 #[stayV a1 a2 a3] w' fun e w'' => e = .returned (.bool (stayOk a1 a2 a3)) ∧ Ext w' w'') := fun w' => specSv a1 a2 a3 w'
      go_wp2_with fail
      by_cases t0 : a0 = c
      · have q0 : (a0 != c) = false := by simp [t0]
        have T0 := Lib.hid t0
        clear t0
        cases hst : stayOk a1 a2 a3 with
        | true =>
          rw [hst] at hSv
          have HST := Lib.hid hst
          clear hst
          by_cases t1 : clock < a3
          · have hf2 : Hid (visitsOk clock Cs vs = false) := by show _ = _; rw [hfin.out]; simp [visitOk, HST.out]; omega
            go_region_held3 (fun w' => w'.cell? ⟨wr.heap.size, 0, none⟩ = some (.int .i64 a0) ∧ w'.cell? ⟨wr.heap.size, 1, none⟩ = some (.int .i64 a1) ∧ w'.cell? ⟨wr.heap.size, 2, none⟩ = some (.int .i64 a2) ∧ w'.cell? ⟨wr.heap.size, 3, none⟩ = some (.int .i64 a3) ∧ w'.cell? ⟨cb, coff + k, none⟩ = some (.int .i64 c) ∧ w'.cell? ⟨w.heap.size, 7, none⟩ = some (.int .i64 clock)) (go_keep) ((go_at_call 48; refine (hSv.out _).mono ?_; rintro e w9 ⟨rfl, h9⟩; (try replace h9 := h9.of_drew); have x9 : Ext wr w9 := (by first | exact ((Ext.refl wr).alloc _).trans h9 | exact (((Ext.refl wr).alloc _).drew).trans h9); have g9a := (x9.cells.1 cb (coff + k) hcb).trans gc; have g9b := (x9.cells.1 w.heap.size 7 hzr).trans hcl; have hc9 := h9.cells.1; have hz9 : wr.heap.size < w9.heap.size := Nat.lt_of_lt_of_le (by simp) h9.sz; have hz10 : w.heap.size < w9.heap.size := Nat.lt_trans hzr hz9; have hz11 : cb < w9.heap.size := Nat.lt_trans hcb hz9))
            all_goals go_wp2
            all_goals go_ret
            all_goals exact ⟨ret_bool hf2.out.symm, by (repeat' (first | exact Ext.refl _ | (with_reducible assumption) | (with_reducible refine Ext.alloc ?_ _) | (with_reducible refine Ext.setCell ?_ (by first | exact Nat.le_refl _ | (dsimp only; omega) | (simp; done) | (simp; omega)) _) | (with_reducible refine Ext.drew ?_) | (with_reducible refine Ext.drewN ?_ _) | (refine Ext.trans ?_ (by with_reducible assumption))))⟩
          · have hf2 : Hid (visitsOk clock Cs vs = visitsOk clock (Cs.drop (k + 1)) (vs.drop (k + 1))) := by show _ = _; rw [hfin.out]; simp [visitOk, HST.out, T0.out]; intro h; omega
            go_region_held3 (fun w' => w'.cell? ⟨wr.heap.size, 0, none⟩ = some (.int .i64 a0) ∧ w'.cell? ⟨wr.heap.size, 1, none⟩ = some (.int .i64 a1) ∧ w'.cell? ⟨wr.heap.size, 2, none⟩ = some (.int .i64 a2) ∧ w'.cell? ⟨wr.heap.size, 3, none⟩ = some (.int .i64 a3) ∧ w'.cell? ⟨cb, coff + k, none⟩ = some (.int .i64 c) ∧ w'.cell? ⟨w.heap.size, 7, none⟩ = some (.int .i64 clock)) (go_keep) ((go_at_call 48; refine (hSv.out _).mono ?_; rintro e w9 ⟨rfl, h9⟩; (try replace h9 := h9.of_drew); have x9 : Ext wr w9 := (by first | exact ((Ext.refl wr).alloc _).trans h9 | exact (((Ext.refl wr).alloc _).drew).trans h9); have g9a := (x9.cells.1 cb (coff + k) hcb).trans gc; have g9b := (x9.cells.1 w.heap.size 7 hzr).trans hcl; have hc9 := h9.cells.1; have hz9 : wr.heap.size < w9.heap.size := Nat.lt_of_lt_of_le (by simp) h9.sz; have hz10 : w.heap.size < w9.heap.size := Nat.lt_trans hzr hz9; have hz11 : cb < w9.heap.size := Nat.lt_trans hcb hz9))
            all_goals go_wp2
            all_goals go_roundw
            all_goals first
              | (case rel => first | exact ⟨k + 1, by omega, by go_num, hf2.out, by (repeat' (first | exact Ext.refl _ | (with_reducible assumption) | (with_reducible refine Ext.alloc ?_ _) | (with_reducible refine Ext.setCell ?_ (by first | exact Nat.le_refl _ | (dsimp only; omega) | (simp; done) | (simp; omega)) _) | (with_reducible refine Ext.drew ?_) | (with_reducible refine Ext.drewN ?_ _) | (refine Ext.trans ?_ (by with_reducible assumption))))⟩ | ((repeat apply Exists.intro); exact ⟨⟨k + 1, by omega, by go_num, hf2.out, by (repeat' (first | exact Ext.refl _ | (with_reducible assumption) | (with_reducible refine Ext.alloc ?_ _) | (with_reducible refine Ext.setCell ?_ (by first | exact Nat.le_refl _ | (dsimp only; omega) | (simp; done) | (simp; omega)) _) | (with_reducible refine Ext.drew ?_) | (with_reducible refine Ext.drewN ?_ _) | (refine Ext.trans ?_ (by with_reducible assumption))))⟩, rfl⟩))
              | (case measure => simp [intOf]; omega)
        | false =>
          rw [hst] at hSv
          have hf2 : Hid (visitsOk clock Cs vs = false) := by show _ = _; rw [hfin.out]; simp [visitOk, hst]
          clear hst
          refine wp_region_held_drew (S := fun w' => w'.cell? ⟨wr.heap.size, 0, none⟩ = some (.int .i64 a0) ∧ w'.cell? ⟨wr.heap.size, 1, none⟩ = some (.int .i64 a1) ∧ w'.cell? ⟨wr.heap.size, 2, none⟩ = some (.int .i64 a2) ∧ w'.cell? ⟨wr.heap.size, 3, none⟩ = some (.int .i64 a3) ∧ w'.cell? ⟨cb, coff + k, none⟩ = some (.int .i64 c)) (by kernel_rfl) (by go_keep) (fun hHeld => ?_)
          refine take_l (i := 0) (v := ?_) rfl (by kernel_rfl) (by kernel_rfl) (by kernel_rfl) (fun _ _ _ h => h) (by rfl) ?_ (by assumption) ?_
          rotate_left
          · (intro w hSw; (try dsimp only at hSw); go_simp; (try with_reducible rfl))
          (try simp only [Act.put, List.setIfInBounds_toArray, List.set_cons_zero, List.set_cons_succ])
          refine take_l (i := 1) (v := ?_) rfl (by kernel_rfl) (by kernel_rfl) (by kernel_rfl) (fun _ _ _ h => h) (by rfl) ?_ (by assumption) ?_
          rotate_left
          · (intro w hSw; (try dsimp only at hSw); go_simp; (try with_reducible rfl))
          (try simp only [Act.put, List.setIfInBounds_toArray, List.set_cons_zero, List.set_cons_succ])
          refine take_l (i := 2) (v := ?_) rfl (by kernel_rfl) (by kernel_rfl) (by kernel_rfl) (fun _ _ _ h => h) (by rfl) ?_ (by assumption) ?_
          rotate_left
          · (intro w hSw; (try dsimp only at hSw); go_simp; (try with_reducible rfl))
          (try simp only [Act.put, List.setIfInBounds_toArray, List.set_cons_zero, List.set_cons_succ])
          refine take_l (i := 3) (v := ?_) rfl (by kernel_rfl) (by kernel_rfl) (by kernel_rfl) (fun _ _ _ h => h) (by rfl) ?_ (by assumption) ?_
          rotate_left
          · (intro w hSw; (try dsimp only at hSw); go_simp; (try with_reducible rfl))
          (try simp only [Act.put, List.setIfInBounds_toArray, List.set_cons_zero, List.set_cons_succ])
          refine take_l (i := 4) (v := ?_) rfl (by kernel_rfl) (by kernel_rfl) (by kernel_rfl) (fun _ _ _ h => h) (by rfl) ?_ (by assumption) ?_
          rotate_left
          · (intro w hSw; (try dsimp only at hSw); go_simp; (try with_reducible rfl))
          (try simp only [Act.put, List.setIfInBounds_toArray, List.set_cons_zero, List.set_cons_succ])
          refine take_l (i := 5) (v := ?_) rfl (by kernel_rfl) (by kernel_rfl) (by kernel_rfl) (fun _ _ _ h => h) (by rfl) ?_ (by assumption) ?_
          rotate_left
          · (intro w hSw; (try dsimp only at hSw); go_simp; (try with_reducible rfl))
          (try simp only [Act.put, List.setIfInBounds_toArray, List.set_cons_zero, List.set_cons_succ])
          refine take_l (i := 6) (v := ?_) rfl (by kernel_rfl) (by kernel_rfl) (by kernel_rfl) (fun _ _ _ h => h) (by rfl) ?_ (by assumption) ?_
          rotate_left
          · (intro w hSw; (try dsimp only at hSw); go_simp; (try with_reducible rfl))
          (try simp only [Act.put, List.setIfInBounds_toArray, List.set_cons_zero, List.set_cons_succ])
          refine take_l (i := 7) (v := ?_) rfl (by kernel_rfl) (by kernel_rfl) (by kernel_rfl) (fun _ _ _ h => h) (by rfl) ?_ (by assumption) ?_
          rotate_left
          · (intro w hSw; (try dsimp only at hSw); go_simp; (try with_reducible rfl))
          (try simp only [Act.put, List.setIfInBounds_toArray, List.set_cons_zero, List.set_cons_succ])
          refine take_l (i := 8) (v := ?_) rfl (by kernel_rfl) (by kernel_rfl) (by kernel_rfl) (fun _ _ _ h => h) (by rfl) ?_ (by assumption) ?_
          rotate_left
          · (intro w hSw; (try dsimp only at hSw); go_simp; (try with_reducible rfl))
          (try simp only [Act.put, List.setIfInBounds_toArray, List.set_cons_zero, List.set_cons_succ])
          refine take_l (i := 9) (v := ?_) rfl (by kernel_rfl) (by kernel_rfl) (by kernel_rfl) (fun _ _ _ h => h) (by rfl) ?_ (by assumption) ?_
          rotate_left
          · (intro w hSw; (try dsimp only at hSw); go_simp; (try with_reducible rfl))
          (try simp only [Act.put, List.setIfInBounds_toArray, List.set_cons_zero, List.set_cons_succ])
          refine wpAnyH_ready (rs := [10]) (by kernel_rfl) (by simp) ?_
          refine cons_l rfl (fun K hK => ?_)
          go_simp
          go_at_call 48
          refine (hSv.out _).mono ?_
          rintro e w9 ⟨rfl, h9⟩
          (try replace h9 := h9.of_drew)
          have x9 : Ext wr w9 := (by first | exact ((Ext.refl wr).alloc _).trans h9 | exact (((Ext.refl wr).alloc _).drew).trans h9)
          have g9a := (x9.cells.1 cb (coff + k) hcb).trans gc
          have hc9 := h9.cells.1
          have hz9 : wr.heap.size < w9.heap.size := Nat.lt_of_lt_of_le (by simp) h9.sz
          go_wp2_with fail
          refine hK.out _ _ (by (try dsimp only); go_keep) (fun hHeld => ?_)
          clear hK K
          (try simp only [Act.put, List.setIfInBounds_toArray, List.set_cons_zero, List.set_cons_succ])
          refine take_l (i := 11) (v := ?_) rfl (by kernel_rfl) (by kernel_rfl) (by kernel_rfl) (fun _ _ _ h => h) (by rfl) ?_ (by assumption) ?_
          rotate_left
          · (intro w hSw; (try dsimp only at hSw); go_simp; (try with_reducible rfl))
          (try simp only [Act.put, List.setIfInBounds_toArray, List.set_cons_zero, List.set_cons_succ])
          refine take_l (i := 12) (v := ?_) rfl (by kernel_rfl) (by kernel_rfl) (by kernel_rfl) (fun _ _ _ h => h) (by rfl) ?_ (by assumption) ?_
          rotate_left
          · (intro w hSw; (try dsimp only at hSw); go_simp; (try with_reducible rfl))
          (try simp only [Act.put, List.setIfInBounds_toArray, List.set_cons_zero, List.set_cons_succ])
          refine take_l (i := 13) (v := ?_) rfl (by kernel_rfl) (by kernel_rfl) (by kernel_rfl) (fun _ _ _ h => h) (by rfl) ?_ (by assumption) ?_
          rotate_left
          · (intro w hSw; (try dsimp only at hSw); go_simp; (try with_reducible rfl))
          (try simp only [Act.put, List.setIfInBounds_toArray, List.set_cons_zero, List.set_cons_succ])
          refine skip_l (i := 14) rfl (by kernel_rfl) (by kernel_rfl) (by kernel_rfl) (fun _ _ _ h => h) (by rfl) (by assumption) ?_
          (try simp only [Act.put, List.setIfInBounds_toArray, List.set_cons_zero, List.set_cons_succ])
          refine skip_l (i := 15) rfl (by kernel_rfl) (by kernel_rfl) (by kernel_rfl) (fun _ _ _ h => h) (by rfl) (by assumption) ?_
          (try simp only [Act.put, List.setIfInBounds_toArray, List.set_cons_zero, List.set_cons_succ])
          refine skip_l (i := 16) rfl (by kernel_rfl) (by kernel_rfl) (by kernel_rfl) (fun _ _ _ h => h) (by rfl) (by assumption) ?_
          (try simp only [Act.put, List.setIfInBounds_toArray, List.set_cons_zero, List.set_cons_succ])
          refine skip_l (i := 17) rfl (by kernel_rfl) (by kernel_rfl) (by kernel_rfl) (fun _ _ _ h => h) (by rfl) (by assumption) ?_
          (try simp only [Act.put, List.setIfInBounds_toArray, List.set_cons_zero, List.set_cons_succ])
          refine skip_l (i := 18) rfl (by kernel_rfl) (by kernel_rfl) (by kernel_rfl) (fun _ _ _ h => h) (by rfl) (by assumption) ?_
          (try simp only [Act.put, List.setIfInBounds_toArray, List.set_cons_zero, List.set_cons_succ])
          refine skip_l (i := 19) rfl (by kernel_rfl) (by kernel_rfl) (by kernel_rfl) (fun _ _ _ h => h) (by rfl) (by assumption) ?_
          (try simp only [Act.put, List.setIfInBounds_toArray, List.set_cons_zero, List.set_cons_succ])
          refine take_l (i := 20) (v := ?_) rfl (by kernel_rfl) (by kernel_rfl) (by kernel_rfl) (fun _ _ _ h => h) (by rfl) ?_ (by assumption) ?_
          rotate_left
          · (intro w hSw; (try dsimp only at hSw); go_simp; (try with_reducible rfl))
          (try simp only [Act.put, List.setIfInBounds_toArray, List.set_cons_zero, List.set_cons_succ])
          refine wpAnyH_done (by kernel_rfl) ?_ _
          all_goals go_wp2
          all_goals go_ret
          all_goals exact ⟨ret_bool hf2.out.symm, by (repeat' (first | exact Ext.refl _ | (with_reducible assumption) | (with_reducible refine Ext.alloc ?_ _) | (with_reducible refine Ext.setCell ?_ (by first | exact Nat.le_refl _ | (dsimp only; omega) | (simp; done) | (simp; omega)) _) | (with_reducible refine Ext.drew ?_) | (with_reducible refine Ext.drewN ?_ _) | (refine Ext.trans ?_ (by with_reducible assumption))))⟩
      · have q0 : (a0 != c) = true := by simp [t0]
        have hf2 : Hid (visitsOk clock Cs vs = false) := by show _ = _; rw [hfin.out]; simp [t0]
        clear t0
        go_quiet (fail)
        all_goals go_wp2
        all_goals go_ret
        all_goals exact ⟨ret_bool hf2.out.symm, by (repeat' (first | exact Ext.refl _ | (with_reducible assumption) | (with_reducible refine Ext.alloc ?_ _) | (with_reducible refine Ext.setCell ?_ (by first | exact Nat.le_refl _ | (dsimp only; omega) | (simp; done) | (simp; omega)) _) | (with_reducible refine Ext.drew ?_) | (with_reducible refine Ext.drewN ?_ _) | (refine Ext.trans ?_ (by with_reducible assumption))))⟩
    · have hfin : Hid (visitsOk clock Cs vs = true) := by
        show _ = _
        rw [hok, List.drop_eq_nil_of_le (by rw [HCL.out]; omega), List.drop_eq_nil_of_le (by rw [HVL.out]; omega)]; rfl
      clear hok
      go_wp2
      go_ret
      exact ⟨ret_bool hfin.out.symm, by (repeat' (first | exact Ext.refl _ | (with_reducible assumption) | (with_reducible refine Ext.alloc ?_ _) | (with_reducible refine Ext.setCell ?_ (by first | exact Nat.le_refl _ | (dsimp only; omega) | (simp; done) | (simp; omega)) _) | (with_reducible refine Ext.drew ?_) | (with_reducible refine Ext.drewN ?_ _) | (refine Ext.trans ?_ (by with_reducible assumption))))⟩

theorem specHouse (h : HouseD) (p : Option Addr) (n cap : Nat) (q : Option Addr) (m c2 : Nat) (w : World) (hi : IsHouse w h p n cap q m c2) :
    Calls Try.prog 30 #[houseV h p n cap q m c2] w fun e w' => e = .returned (.bool (houseOk h)) ∧ Ext w w' := by
  obtain ⟨wide, deep, cells, free, step, price, capp, clock, bank, vs⟩ := h
  have hm := hi.vs.bd
  have hvl := hi.vlen
  have hcl := hi.clen
  have HV := fun (w' : World) (hx : Ext w w') => specHv wide deep p n cap cells w' (hi.cells.ext hx)
  have HC := fun (w' : World) (hx : Ext w w') => specHc wide deep p n cap cells w' (hi.cells.ext hx)
  have TV := fun (w' : World) => specTv free step price capp w'
  unfold houseOk
  simp only at hvl hcl HV HC TV ⊢
  cases h1 : hallOk wide deep cells with
  | false =>
    rw [h1] at HV HC
    simpa using specHo_bad1 wide deep free step price capp clock bank p n cap q m c2 w hm _ HC HV
  | true =>
    rw [h1] at HV HC
    rw [if_pos rfl] at HC
    cases h2 : tariffOk free step price capp with
    | false =>
      rw [h2] at TV
      simpa using specHo_bad2 wide deep free step price capp clock bank p n cap q m c2 w hm _ HC HV TV
    | true =>
      rw [h2] at TV
      by_cases h3 : 0 ≤ clock ∧ clock ≤ 9999 ∧ 0 ≤ bank ∧ bank ≤ 99999
      · obtain ⟨a1, a2, a3, a4⟩ := h3
        have hn : numsOk ⟨wide, deep, cells, free, step, price, capp, clock, bank, vs⟩ = true := by simp [numsOk, a1, a2, a3, a4]
        rw [hn]
        by_cases hL : (carsOf cells).length = m
        · simpa using specHo_main wide deep free step price capp clock bank p n cap q m c2 w hm (carsOf cells) HC HV TV a1 a2 a3 a4 (by simp [hL]) hL (by
            have e1 := carsOf_len cells; have e2 := posOfL_le cells
            have e3 : cells.length ≤ 12 := by simp only [hallOk, Bool.and_eq_true] at h1; exact (shape_bd h1.1).2.2.2.2.2.1
            omega) vs hi.vs
        · rw [visitsOk_ne (by omega)]
          simpa using specHo_bad4 wide deep free step price capp clock bank p n cap q m c2 w hm (carsOf cells) HC HV TV a1 a2 a3 a4 (by simp; omega)
      · have hn : numsOk ⟨wide, deep, cells, free, step, price, capp, clock, bank, vs⟩ = false := by simp [numsOk]; omega
        rw [hn]
        simpa using specHo_bad3 wide deep free step price capp clock bank p n cap q m c2 w hm _ HC HV TV (by omega)

end Go.Proofs.Ythhcpcjmolbkdaa
