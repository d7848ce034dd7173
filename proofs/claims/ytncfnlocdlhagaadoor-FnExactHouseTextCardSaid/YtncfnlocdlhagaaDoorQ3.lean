/-
  Steps of a region that draws its order, one by one, for regions with a guard that says no behind a call that makes memory. Nothing of the program.
-/
import Derived.Test.YtncfnlocdlhagaaDoorQ1
import Derived.Deep.RegionHeld3
import Derived.Test.YtncfnlocdlhagaaDoorQ2
import Derived.Test.YtncfnlocdlhagaaDoorShelf
import Derived.Lib.ItoaMem
import Derived.Lib.SmallJoins
import Derived.Lib.ItoaLen
import Derived.Lib.Hide
import Derived.Deep.DeepFit
import Derived.Handy
import Derived.Deep.DeepCutAuto
import Derived.Shelf.Strings.OnBuilder
import Derived.KernelRfl
namespace Go.Proofs.YtncfnlocdlhagaaDoor
open Go.RowKit
set_option linter.unusedVariables false

section
variable {P : Program} {l : List Oper} {Q : Exit → Act → World → Prop} {md : Region.Mode} {S : World → Prop}
theorem take_l {i : Nat} {oi : Oper} {v : Value} {fuel : Nat} {listed : Array Bool} {a : Act} {w : World} (hi : l[i]? = some oi)
    (hs : Region.noSelect l.toArray = true) (hf : Region.free md l.toArray listed i = true) (hr : (Region.ready md l.toArray listed).contains i = true)
    (hQ : ∀ c a w, Q (.panic c) (a.put oi.dst v) w → Q (.panic c) a w) (hw : Region.wanted oi (yielded l.toArray a.tmps) = true) (hy : ∀ w, S w → (execOp a.eval oi).run P w = .ok (.value v) w) (hS : S w)
    (h : wpAnyH P md l.toArray Q S fuel (listed.setIfInBounds i true) (a.put oi.dst v) w) : wpAnyH P md l.toArray Q S (fuel + 1) listed a w :=
  wpAnyH_take (by simpa using hi) hs hf hr hQ (.inl ⟨hw, hy⟩) hS h
theorem skip_l {i : Nat} {oi : Oper} {fuel : Nat} {listed : Array Bool} {a : Act} {w : World} (hi : l[i]? = some oi)
    (hs : Region.noSelect l.toArray = true) (hf : Region.free md l.toArray listed i = true) (hr : (Region.ready md l.toArray listed).contains i = true)
    (hQ : ∀ c a w, Q (.panic c) (a.put oi.dst undef) w → Q (.panic c) a w) (hw : Region.wanted oi (yielded l.toArray a.tmps) = false) (hS : S w)
    (h : wpAnyH P md l.toArray Q S fuel (listed.setIfInBounds i true) (a.put oi.dst undef) w) : wpAnyH P md l.toArray Q S (fuel + 1) listed a w :=
  wpAnyH_take (by simpa using hi) hs hf hr hQ (.inr ⟨hw, rfl⟩) hS h
theorem cons_l {fuel : Nat} {listed : Array Bool} {a : Act} {w : World} {i : Nat} {o : Oper} (ho : l[i]? = some o)
    (h : ∀ K' : Act → World → Prop, Shut (∀ a w, S w → (S w → wpAnyH P md l.toArray Q S fuel (listed.setIfInBounds i true) a w) → K' a w) → if Region.wanted o (yielded l.toArray a.tmps) = true then Oper.wp P o a w K' Q else K' (a.put o.dst undef) w) :
    AllReadyH P md l.toArray Q S fuel listed a w [i] := AllReadyH.cons (by simpa using ho) h AllReadyH.nil
end
end Go.Proofs.YtncfnlocdlhagaaDoor

/-
  Both packages' HouseValid tell whether a house is valid ('houseOk'). Conditions: its slices read as lists.
-/
namespace Go.Proofs.YtncfnlocdlhagaaDoor
open Go.RowKit
set_option linter.unusedVariables false

abbrev houseV (h : HouseD) (p : Option Addr) (n cap : Nat) (q : Option Addr) (m c2 : Nat) : Value :=
  .agg #[.int .i64 h.wide, .int .i64 h.deep, .slice p n cap, .int .i64 h.free, .int .i64 h.step, .int .i64 h.price, .int .i64 h.capp, .int .i64 h.clock, .int .i64 h.bank, .slice q m c2]
/-- a house's slices read as its lists -/
structure IsHouse (w : World) (h : HouseD) (p : Option Addr) (n cap : Nat) (q : Option Addr) (m c2 : Nat) : Prop where
  cells : Sl w p n cap 1 (ivs h.cells)
  vs : Sl w q m c2 4 (h.vs.flatMap visitCells)
theorem IsHouse.ext {w w' : World} {h : HouseD} {p q : Option Addr} {n cap m c2 : Nat} (i : IsHouse w h p n cap q m c2) (hx : Ext w w') : IsHouse w' h p n cap q m c2 := ⟨i.cells.ext hx, i.vs.ext hx⟩
theorem IsHouse.vlen {w : World} {h : HouseD} {p q : Option Addr} {n cap m c2 : Nat} (i : IsHouse w h p n cap q m c2) : h.vs.length = m := by
  have := i.vs.len; rw [flat_len visitCells 4 (fun _ => rfl)] at this; omega
theorem IsHouse.clen {w : World} {h : HouseD} {p q : Option Addr} {n cap m c2 : Nat} (i : IsHouse w h p n cap q m c2) : h.cells.length = n := i.cells.ilen
theorem visit_at {w : World} {q : Option Addr} {m c2 : Nat} {vs : List Visit4} (h : Sl w q m c2 4 (vs.flatMap visitCells)) {k : Nat} (hk : k < m) :
    ∃ b off a0 a1 a2 a3, q = some ⟨b, off, none⟩ ∧ vs[k]? = some (a0, a1, a2, a3) ∧ b < w.heap.size ∧ w.cell? ⟨b, off + k * 4, none⟩ = some (.int .i64 a0) ∧ w.cell? ⟨b, off + k * 4 + 1, none⟩ = some (.int .i64 a1) ∧ w.cell? ⟨b, off + k * 4 + 2, none⟩ = some (.int .i64 a2) ∧ w.cell? ⟨b, off + k * 4 + 3, none⟩ = some (.int .i64 a3) := by
  obtain ⟨b, off, x, hp, hx, hb, hc⟩ := Sl.at_ (sz := 4) (f := visitCells) (fun _ => rfl) h hk (by omega)
  obtain ⟨a0, a1, a2, a3⟩ := x
  exact ⟨b, off, a0, a1, a2, a3, hp, hx, hb, hc 0 (by omega), hc 1 (by omega), hc 2 (by omega), hc 3 (by omega)⟩

def OwnZ (w : World) (p : Option Addr) (n c : Nat) (xs : List Int) : Prop := Sl w p n c 1 (ivs xs)
theorem OwnZ.ext {w w' : World} {p : Option Addr} {n c : Nat} {xs : List Int} (h : OwnZ w p n c xs) (hx : Ext w w') : Sl w' p n c 1 (ivs xs) := Sl.ext h hx
theorem own_z {w : World} {B n c : Nat} {p : Option Addr} {xs : List Int} (h : w.ownsRow B TI 1 (.slice p n c) n (ivs xs)) : OwnZ w p n c xs := Sl.own h

set_option maxRecDepth 100000 in
set_option maxHeartbeats 1000000 in
theorem implHo_bad1 (wide deep free step price capp clock bank : Int) (p : Option Addr) (n cap : Nat) (q : Option Addr) (m c2 : Nat) (w : World) (hm : m ≤ 9223372036854775807)
    (HV : Hid (∀ w', Ext w w' → Calls Tryd.prog 75 #[hallV wide deep p n cap] w' fun e w'' => e = .returned (.bool false) ∧ Ext w' w'')) :
    Calls Tryd.prog 30 #[.agg #[.int .i64 wide, .int .i64 deep, .slice p n cap, .int .i64 free, .int .i64 step, .int .i64 price, .int .i64 capp, .int .i64 clock, .int .i64 bank, .slice q m c2]] w fun e w' => e = .returned (.bool false) ∧ Ext w w' := by
  go_enter Tryd.func30, Tryd.ntmps30
  go_wp2_with fail
  refine (HV.out _ (by (repeat' (first | exact Ext.refl _ | (with_reducible assumption) | (with_reducible refine Ext.alloc ?_ _) | (with_reducible refine Ext.setCell ?_ (by first | exact Nat.le_refl _ | (dsimp only; omega) | (simp; done) | (simp; omega)) _) | (with_reducible refine Ext.drew ?_) | (with_reducible refine Ext.drewN ?_ _) | (refine Ext.trans ?_ (by with_reducible assumption)))))).mono ?_
  rintro e w1 ⟨rfl, hh1⟩
  have hx1 : Ext (w.alloc (.cells #[.int .i64 wide, .int .i64 deep, .slice p n cap, .int .i64 free, .int .i64 step, .int .i64 price, .int .i64 capp, .int .i64 clock, .int .i64 bank, .slice q m c2] 52)) w1 := hh1
  have hz1 : w.heap.size < w1.heap.size := Nat.lt_of_lt_of_le (by simp) hx1.sz
  have e1_0 : w1.cell? ⟨w.heap.size, 0, none⟩ = some (.int .i64 wide) := by rw [hx1.cells.1 _ _ (by simp)]; simp
  have e1_1 : w1.cell? ⟨w.heap.size, 1, none⟩ = some (.int .i64 deep) := by rw [hx1.cells.1 _ _ (by simp)]; simp
  have e1_2 : w1.cell? ⟨w.heap.size, 2, none⟩ = some (.slice p n cap) := by rw [hx1.cells.1 _ _ (by simp)]; simp
  have e1_3 : w1.cell? ⟨w.heap.size, 3, none⟩ = some (.int .i64 free) := by rw [hx1.cells.1 _ _ (by simp)]; simp
  have e1_4 : w1.cell? ⟨w.heap.size, 4, none⟩ = some (.int .i64 step) := by rw [hx1.cells.1 _ _ (by simp)]; simp
  have e1_5 : w1.cell? ⟨w.heap.size, 5, none⟩ = some (.int .i64 price) := by rw [hx1.cells.1 _ _ (by simp)]; simp
  have e1_6 : w1.cell? ⟨w.heap.size, 6, none⟩ = some (.int .i64 capp) := by rw [hx1.cells.1 _ _ (by simp)]; simp
  have e1_7 : w1.cell? ⟨w.heap.size, 7, none⟩ = some (.int .i64 clock) := by rw [hx1.cells.1 _ _ (by simp)]; simp
  have e1_8 : w1.cell? ⟨w.heap.size, 8, none⟩ = some (.int .i64 bank) := by rw [hx1.cells.1 _ _ (by simp)]; simp
  have e1_9 : w1.cell? ⟨w.heap.size, 9, none⟩ = some (.slice q m c2) := by rw [hx1.cells.1 _ _ (by simp)]; simp
  go_wp2
  go_ret
  exact ⟨rfl, by (repeat' (first | exact Ext.refl _ | (with_reducible assumption) | (with_reducible refine Ext.alloc ?_ _) | (with_reducible refine Ext.setCell ?_ (by first | exact Nat.le_refl _ | (dsimp only; omega) | (simp; done) | (simp; omega)) _) | (with_reducible refine Ext.drew ?_) | (with_reducible refine Ext.drewN ?_ _) | (refine Ext.trans ?_ (by with_reducible assumption))))⟩

set_option maxRecDepth 100000 in
set_option maxHeartbeats 1000000 in
theorem implHo_bad2 (wide deep free step price capp clock bank : Int) (p : Option Addr) (n cap : Nat) (q : Option Addr) (m c2 : Nat) (w : World) (hm : m ≤ 9223372036854775807)
    (HV : Hid (∀ w', Ext w w' → Calls Tryd.prog 75 #[hallV wide deep p n cap] w' fun e w'' => e = .returned (.bool true) ∧ Ext w' w''))
    (TV : Hid (∀ w', Calls Tryd.prog 76 #[tariffV free step price capp] w' fun e w'' => e = .returned (.bool false) ∧ Ext w' w'')) :
    Calls Tryd.prog 30 #[.agg #[.int .i64 wide, .int .i64 deep, .slice p n cap, .int .i64 free, .int .i64 step, .int .i64 price, .int .i64 capp, .int .i64 clock, .int .i64 bank, .slice q m c2]] w fun e w' => e = .returned (.bool false) ∧ Ext w w' := by
  go_enter Tryd.func30, Tryd.ntmps30
  go_wp2_with fail
  refine (HV.out _ (by (repeat' (first | exact Ext.refl _ | (with_reducible assumption) | (with_reducible refine Ext.alloc ?_ _) | (with_reducible refine Ext.setCell ?_ (by first | exact Nat.le_refl _ | (dsimp only; omega) | (simp; done) | (simp; omega)) _) | (with_reducible refine Ext.drew ?_) | (with_reducible refine Ext.drewN ?_ _) | (refine Ext.trans ?_ (by with_reducible assumption)))))).mono ?_
  rintro e w1 ⟨rfl, hh1⟩
  have hx1 : Ext (w.alloc (.cells #[.int .i64 wide, .int .i64 deep, .slice p n cap, .int .i64 free, .int .i64 step, .int .i64 price, .int .i64 capp, .int .i64 clock, .int .i64 bank, .slice q m c2] 52)) w1 := hh1
  have hz1 : w.heap.size < w1.heap.size := Nat.lt_of_lt_of_le (by simp) hx1.sz
  have e1_0 : w1.cell? ⟨w.heap.size, 0, none⟩ = some (.int .i64 wide) := by rw [hx1.cells.1 _ _ (by simp)]; simp
  have e1_1 : w1.cell? ⟨w.heap.size, 1, none⟩ = some (.int .i64 deep) := by rw [hx1.cells.1 _ _ (by simp)]; simp
  have e1_2 : w1.cell? ⟨w.heap.size, 2, none⟩ = some (.slice p n cap) := by rw [hx1.cells.1 _ _ (by simp)]; simp
  have e1_3 : w1.cell? ⟨w.heap.size, 3, none⟩ = some (.int .i64 free) := by rw [hx1.cells.1 _ _ (by simp)]; simp
  have e1_4 : w1.cell? ⟨w.heap.size, 4, none⟩ = some (.int .i64 step) := by rw [hx1.cells.1 _ _ (by simp)]; simp
  have e1_5 : w1.cell? ⟨w.heap.size, 5, none⟩ = some (.int .i64 price) := by rw [hx1.cells.1 _ _ (by simp)]; simp
  have e1_6 : w1.cell? ⟨w.heap.size, 6, none⟩ = some (.int .i64 capp) := by rw [hx1.cells.1 _ _ (by simp)]; simp
  have e1_7 : w1.cell? ⟨w.heap.size, 7, none⟩ = some (.int .i64 clock) := by rw [hx1.cells.1 _ _ (by simp)]; simp
  have e1_8 : w1.cell? ⟨w.heap.size, 8, none⟩ = some (.int .i64 bank) := by rw [hx1.cells.1 _ _ (by simp)]; simp
  have e1_9 : w1.cell? ⟨w.heap.size, 9, none⟩ = some (.slice q m c2) := by rw [hx1.cells.1 _ _ (by simp)]; simp
  go_wp2_with fail
  refine (TV.out _).mono ?_
  rintro e w2 ⟨rfl, ht2⟩
  have hx2 : Ext (w.alloc (.cells #[.int .i64 wide, .int .i64 deep, .slice p n cap, .int .i64 free, .int .i64 step, .int .i64 price, .int .i64 capp, .int .i64 clock, .int .i64 bank, .slice q m c2] 52)) w2 := hx1.trans ht2
  have hz2 : w.heap.size < w2.heap.size := Nat.lt_of_lt_of_le (by simp) hx2.sz
  have e2_0 : w2.cell? ⟨w.heap.size, 0, none⟩ = some (.int .i64 wide) := by rw [hx2.cells.1 _ _ (by simp)]; simp
  have e2_1 : w2.cell? ⟨w.heap.size, 1, none⟩ = some (.int .i64 deep) := by rw [hx2.cells.1 _ _ (by simp)]; simp
  have e2_2 : w2.cell? ⟨w.heap.size, 2, none⟩ = some (.slice p n cap) := by rw [hx2.cells.1 _ _ (by simp)]; simp
  have e2_3 : w2.cell? ⟨w.heap.size, 3, none⟩ = some (.int .i64 free) := by rw [hx2.cells.1 _ _ (by simp)]; simp
  have e2_4 : w2.cell? ⟨w.heap.size, 4, none⟩ = some (.int .i64 step) := by rw [hx2.cells.1 _ _ (by simp)]; simp
  have e2_5 : w2.cell? ⟨w.heap.size, 5, none⟩ = some (.int .i64 price) := by rw [hx2.cells.1 _ _ (by simp)]; simp
  have e2_6 : w2.cell? ⟨w.heap.size, 6, none⟩ = some (.int .i64 capp) := by rw [hx2.cells.1 _ _ (by simp)]; simp
  have e2_7 : w2.cell? ⟨w.heap.size, 7, none⟩ = some (.int .i64 clock) := by rw [hx2.cells.1 _ _ (by simp)]; simp
  have e2_8 : w2.cell? ⟨w.heap.size, 8, none⟩ = some (.int .i64 bank) := by rw [hx2.cells.1 _ _ (by simp)]; simp
  have e2_9 : w2.cell? ⟨w.heap.size, 9, none⟩ = some (.slice q m c2) := by rw [hx2.cells.1 _ _ (by simp)]; simp
  clear hz1 e1_0 e1_1 e1_2 e1_3 e1_4 e1_5 e1_6 e1_7 e1_8 e1_9
  go_wp2
  go_ret
  exact ⟨rfl, by (repeat' (first | exact Ext.refl _ | (with_reducible assumption) | (with_reducible refine Ext.alloc ?_ _) | (with_reducible refine Ext.setCell ?_ (by first | exact Nat.le_refl _ | (dsimp only; omega) | (simp; done) | (simp; omega)) _) | (with_reducible refine Ext.drew ?_) | (with_reducible refine Ext.drewN ?_ _) | (refine Ext.trans ?_ (by with_reducible assumption))))⟩

set_option maxRecDepth 100000 in
set_option maxHeartbeats 1000000 in
theorem implHo_bad3 (wide deep free step price capp clock bank : Int) (p : Option Addr) (n cap : Nat) (q : Option Addr) (m c2 : Nat) (w : World) (hm : m ≤ 9223372036854775807)
    (HV : Hid (∀ w', Ext w w' → Calls Tryd.prog 75 #[hallV wide deep p n cap] w' fun e w'' => e = .returned (.bool true) ∧ Ext w' w''))
    (TV : Hid (∀ w', Calls Tryd.prog 76 #[tariffV free step price capp] w' fun e w'' => e = .returned (.bool true) ∧ Ext w' w''))
    (h : clock < 0 ∨ 0 ≤ clock ∧ 9999 < clock ∨ 0 ≤ clock ∧ clock ≤ 9999 ∧ bank < 0 ∨ 0 ≤ clock ∧ clock ≤ 9999 ∧ 0 ≤ bank ∧ 99999 < bank) :
    Calls Tryd.prog 30 #[.agg #[.int .i64 wide, .int .i64 deep, .slice p n cap, .int .i64 free, .int .i64 step, .int .i64 price, .int .i64 capp, .int .i64 clock, .int .i64 bank, .slice q m c2]] w fun e w' => e = .returned (.bool false) ∧ Ext w w' := by
  rcases h with h | ⟨h0, h⟩ | ⟨h0, h1, h⟩ | ⟨h0, h1, h2, h⟩
  all_goals
    (try (have hdd : decide (clock ≤ 9999) = false := by simp; omega))
    (try (have hdd : decide (bank ≤ 99999) = false := by simp; omega))
    go_enter Tryd.func30, Tryd.ntmps30
    go_wp2_with fail
    refine (HV.out _ (by (repeat' (first | exact Ext.refl _ | (with_reducible assumption) | (with_reducible refine Ext.alloc ?_ _) | (with_reducible refine Ext.setCell ?_ (by first | exact Nat.le_refl _ | (dsimp only; omega) | (simp; done) | (simp; omega)) _) | (with_reducible refine Ext.drew ?_) | (with_reducible refine Ext.drewN ?_ _) | (refine Ext.trans ?_ (by with_reducible assumption)))))).mono ?_
    rintro e w1 ⟨rfl, hh1⟩
    have hx1 : Ext (w.alloc (.cells #[.int .i64 wide, .int .i64 deep, .slice p n cap, .int .i64 free, .int .i64 step, .int .i64 price, .int .i64 capp, .int .i64 clock, .int .i64 bank, .slice q m c2] 52)) w1 := hh1
    have hz1 : w.heap.size < w1.heap.size := Nat.lt_of_lt_of_le (by simp) hx1.sz
    have e1_0 : w1.cell? ⟨w.heap.size, 0, none⟩ = some (.int .i64 wide) := by rw [hx1.cells.1 _ _ (by simp)]; simp
    have e1_1 : w1.cell? ⟨w.heap.size, 1, none⟩ = some (.int .i64 deep) := by rw [hx1.cells.1 _ _ (by simp)]; simp
    have e1_2 : w1.cell? ⟨w.heap.size, 2, none⟩ = some (.slice p n cap) := by rw [hx1.cells.1 _ _ (by simp)]; simp
    have e1_3 : w1.cell? ⟨w.heap.size, 3, none⟩ = some (.int .i64 free) := by rw [hx1.cells.1 _ _ (by simp)]; simp
    have e1_4 : w1.cell? ⟨w.heap.size, 4, none⟩ = some (.int .i64 step) := by rw [hx1.cells.1 _ _ (by simp)]; simp
    have e1_5 : w1.cell? ⟨w.heap.size, 5, none⟩ = some (.int .i64 price) := by rw [hx1.cells.1 _ _ (by simp)]; simp
    have e1_6 : w1.cell? ⟨w.heap.size, 6, none⟩ = some (.int .i64 capp) := by rw [hx1.cells.1 _ _ (by simp)]; simp
    have e1_7 : w1.cell? ⟨w.heap.size, 7, none⟩ = some (.int .i64 clock) := by rw [hx1.cells.1 _ _ (by simp)]; simp
    have e1_8 : w1.cell? ⟨w.heap.size, 8, none⟩ = some (.int .i64 bank) := by rw [hx1.cells.1 _ _ (by simp)]; simp
    have e1_9 : w1.cell? ⟨w.heap.size, 9, none⟩ = some (.slice q m c2) := by rw [hx1.cells.1 _ _ (by simp)]; simp
    go_wp2_with fail
    refine (TV.out _).mono ?_
    rintro e w2 ⟨rfl, ht2⟩
    have hx2 : Ext (w.alloc (.cells #[.int .i64 wide, .int .i64 deep, .slice p n cap, .int .i64 free, .int .i64 step, .int .i64 price, .int .i64 capp, .int .i64 clock, .int .i64 bank, .slice q m c2] 52)) w2 := hx1.trans ht2
    have hz2 : w.heap.size < w2.heap.size := Nat.lt_of_lt_of_le (by simp) hx2.sz
    have e2_0 : w2.cell? ⟨w.heap.size, 0, none⟩ = some (.int .i64 wide) := by rw [hx2.cells.1 _ _ (by simp)]; simp
    have e2_1 : w2.cell? ⟨w.heap.size, 1, none⟩ = some (.int .i64 deep) := by rw [hx2.cells.1 _ _ (by simp)]; simp
    have e2_2 : w2.cell? ⟨w.heap.size, 2, none⟩ = some (.slice p n cap) := by rw [hx2.cells.1 _ _ (by simp)]; simp
    have e2_3 : w2.cell? ⟨w.heap.size, 3, none⟩ = some (.int .i64 free) := by rw [hx2.cells.1 _ _ (by simp)]; simp
    have e2_4 : w2.cell? ⟨w.heap.size, 4, none⟩ = some (.int .i64 step) := by rw [hx2.cells.1 _ _ (by simp)]; simp
    have e2_5 : w2.cell? ⟨w.heap.size, 5, none⟩ = some (.int .i64 price) := by rw [hx2.cells.1 _ _ (by simp)]; simp
    have e2_6 : w2.cell? ⟨w.heap.size, 6, none⟩ = some (.int .i64 capp) := by rw [hx2.cells.1 _ _ (by simp)]; simp
    have e2_7 : w2.cell? ⟨w.heap.size, 7, none⟩ = some (.int .i64 clock) := by rw [hx2.cells.1 _ _ (by simp)]; simp
    have e2_8 : w2.cell? ⟨w.heap.size, 8, none⟩ = some (.int .i64 bank) := by rw [hx2.cells.1 _ _ (by simp)]; simp
    have e2_9 : w2.cell? ⟨w.heap.size, 9, none⟩ = some (.slice q m c2) := by rw [hx2.cells.1 _ _ (by simp)]; simp
    clear hz1 e1_0 e1_1 e1_2 e1_3 e1_4 e1_5 e1_6 e1_7 e1_8 e1_9
    go_wp2
    go_ret
    exact ⟨rfl, by (repeat' (first | exact Ext.refl _ | (with_reducible assumption) | (with_reducible refine Ext.alloc ?_ _) | (with_reducible refine Ext.setCell ?_ (by first | exact Nat.le_refl _ | (dsimp only; omega) | (simp; done) | (simp; omega)) _) | (with_reducible refine Ext.drew ?_) | (with_reducible refine Ext.drewN ?_ _) | (refine Ext.trans ?_ (by with_reducible assumption))))⟩

set_option maxRecDepth 100000 in
set_option maxHeartbeats 1000000 in
theorem implHo_bad4 (wide deep free step price capp clock bank : Int) (p : Option Addr) (n cap : Nat) (q : Option Addr) (m c2 : Nat) (w : World) (hm : m ≤ 9223372036854775807)
    (Cs : List Int) (HC : Hid (∀ w', Ext w w' → Calls Tryd.prog 31 #[hallV wide deep p n cap] w' (RetInts Cs w')))
    (HV : Hid (∀ w', Ext w w' → Calls Tryd.prog 75 #[hallV wide deep p n cap] w' fun e w'' => e = .returned (.bool true) ∧ Ext w' w''))
    (TV : Hid (∀ w', Calls Tryd.prog 76 #[tariffV free step price capp] w' fun e w'' => e = .returned (.bool true) ∧ Ext w' w''))
    (h0 : 0 ≤ clock) (h1 : clock ≤ 9999) (h2 : 0 ≤ bank) (h3 : bank ≤ 99999) (hL : ((Cs.length : Int) != m) = true) :
    Calls Tryd.prog 30 #[.agg #[.int .i64 wide, .int .i64 deep, .slice p n cap, .int .i64 free, .int .i64 step, .int .i64 price, .int .i64 capp, .int .i64 clock, .int .i64 bank, .slice q m c2]] w fun e w' => e = .returned (.bool false) ∧ Ext w w' := by
  go_enter Tryd.func30, Tryd.ntmps30
  go_wp2_with fail
  refine (HV.out _ (by (repeat' (first | exact Ext.refl _ | (with_reducible assumption) | (with_reducible refine Ext.alloc ?_ _) | (with_reducible refine Ext.setCell ?_ (by first | exact Nat.le_refl _ | (dsimp only; omega) | (simp; done) | (simp; omega)) _) | (with_reducible refine Ext.drew ?_) | (with_reducible refine Ext.drewN ?_ _) | (refine Ext.trans ?_ (by with_reducible assumption)))))).mono ?_
  rintro e w1 ⟨rfl, hh1⟩
  have hx1 : Ext (w.alloc (.cells #[.int .i64 wide, .int .i64 deep, .slice p n cap, .int .i64 free, .int .i64 step, .int .i64 price, .int .i64 capp, .int .i64 clock, .int .i64 bank, .slice q m c2] 52)) w1 := hh1
  have hz1 : w.heap.size < w1.heap.size := Nat.lt_of_lt_of_le (by simp) hx1.sz
  have e1_0 : w1.cell? ⟨w.heap.size, 0, none⟩ = some (.int .i64 wide) := by rw [hx1.cells.1 _ _ (by simp)]; simp
  have e1_1 : w1.cell? ⟨w.heap.size, 1, none⟩ = some (.int .i64 deep) := by rw [hx1.cells.1 _ _ (by simp)]; simp
  have e1_2 : w1.cell? ⟨w.heap.size, 2, none⟩ = some (.slice p n cap) := by rw [hx1.cells.1 _ _ (by simp)]; simp
  have e1_3 : w1.cell? ⟨w.heap.size, 3, none⟩ = some (.int .i64 free) := by rw [hx1.cells.1 _ _ (by simp)]; simp
  have e1_4 : w1.cell? ⟨w.heap.size, 4, none⟩ = some (.int .i64 step) := by rw [hx1.cells.1 _ _ (by simp)]; simp
  have e1_5 : w1.cell? ⟨w.heap.size, 5, none⟩ = some (.int .i64 price) := by rw [hx1.cells.1 _ _ (by simp)]; simp
  have e1_6 : w1.cell? ⟨w.heap.size, 6, none⟩ = some (.int .i64 capp) := by rw [hx1.cells.1 _ _ (by simp)]; simp
  have e1_7 : w1.cell? ⟨w.heap.size, 7, none⟩ = some (.int .i64 clock) := by rw [hx1.cells.1 _ _ (by simp)]; simp
  have e1_8 : w1.cell? ⟨w.heap.size, 8, none⟩ = some (.int .i64 bank) := by rw [hx1.cells.1 _ _ (by simp)]; simp
  have e1_9 : w1.cell? ⟨w.heap.size, 9, none⟩ = some (.slice q m c2) := by rw [hx1.cells.1 _ _ (by simp)]; simp
  go_wp2_with fail
  refine (TV.out _).mono ?_
  rintro e w2 ⟨rfl, ht2⟩
  have hx2 : Ext (w.alloc (.cells #[.int .i64 wide, .int .i64 deep, .slice p n cap, .int .i64 free, .int .i64 step, .int .i64 price, .int .i64 capp, .int .i64 clock, .int .i64 bank, .slice q m c2] 52)) w2 := hx1.trans ht2
  have hz2 : w.heap.size < w2.heap.size := Nat.lt_of_lt_of_le (by simp) hx2.sz
  have e2_0 : w2.cell? ⟨w.heap.size, 0, none⟩ = some (.int .i64 wide) := by rw [hx2.cells.1 _ _ (by simp)]; simp
  have e2_1 : w2.cell? ⟨w.heap.size, 1, none⟩ = some (.int .i64 deep) := by rw [hx2.cells.1 _ _ (by simp)]; simp
  have e2_2 : w2.cell? ⟨w.heap.size, 2, none⟩ = some (.slice p n cap) := by rw [hx2.cells.1 _ _ (by simp)]; simp
  have e2_3 : w2.cell? ⟨w.heap.size, 3, none⟩ = some (.int .i64 free) := by rw [hx2.cells.1 _ _ (by simp)]; simp
  have e2_4 : w2.cell? ⟨w.heap.size, 4, none⟩ = some (.int .i64 step) := by rw [hx2.cells.1 _ _ (by simp)]; simp
  have e2_5 : w2.cell? ⟨w.heap.size, 5, none⟩ = some (.int .i64 price) := by rw [hx2.cells.1 _ _ (by simp)]; simp
  have e2_6 : w2.cell? ⟨w.heap.size, 6, none⟩ = some (.int .i64 capp) := by rw [hx2.cells.1 _ _ (by simp)]; simp
  have e2_7 : w2.cell? ⟨w.heap.size, 7, none⟩ = some (.int .i64 clock) := by rw [hx2.cells.1 _ _ (by simp)]; simp
  have e2_8 : w2.cell? ⟨w.heap.size, 8, none⟩ = some (.int .i64 bank) := by rw [hx2.cells.1 _ _ (by simp)]; simp
  have e2_9 : w2.cell? ⟨w.heap.size, 9, none⟩ = some (.slice q m c2) := by rw [hx2.cells.1 _ _ (by simp)]; simp
  clear hz1 e1_0 e1_1 e1_2 e1_3 e1_4 e1_5 e1_6 e1_7 e1_8 e1_9
  go_wp2_with fail
  refine (HC.out _ (by (repeat' (first | exact Ext.refl _ | (with_reducible assumption) | (with_reducible refine Ext.alloc ?_ _) | (with_reducible refine Ext.setCell ?_ (by first | exact Nat.le_refl _ | (dsimp only; omega) | (simp; done) | (simp; omega)) _) | (with_reducible refine Ext.drew ?_) | (with_reducible refine Ext.drewN ?_ _) | (refine Ext.trans ?_ (by with_reducible assumption)))))).mono ?_
  rintro e w3 ⟨cp, cc, rfl, hco, hc3⟩
  have HCO := Lib.hid hco
  clear hco
  have hx3 : Ext (w.alloc (.cells #[.int .i64 wide, .int .i64 deep, .slice p n cap, .int .i64 free, .int .i64 step, .int .i64 price, .int .i64 capp, .int .i64 clock, .int .i64 bank, .slice q m c2] 52)) w3 := hx2.trans hc3
  have hz3 : w.heap.size < w3.heap.size := Nat.lt_of_lt_of_le (by simp) hx3.sz
  have e3_0 : w3.cell? ⟨w.heap.size, 0, none⟩ = some (.int .i64 wide) := by rw [hx3.cells.1 _ _ (by simp)]; simp
  have e3_1 : w3.cell? ⟨w.heap.size, 1, none⟩ = some (.int .i64 deep) := by rw [hx3.cells.1 _ _ (by simp)]; simp
  have e3_2 : w3.cell? ⟨w.heap.size, 2, none⟩ = some (.slice p n cap) := by rw [hx3.cells.1 _ _ (by simp)]; simp
  have e3_3 : w3.cell? ⟨w.heap.size, 3, none⟩ = some (.int .i64 free) := by rw [hx3.cells.1 _ _ (by simp)]; simp
  have e3_4 : w3.cell? ⟨w.heap.size, 4, none⟩ = some (.int .i64 step) := by rw [hx3.cells.1 _ _ (by simp)]; simp
  have e3_5 : w3.cell? ⟨w.heap.size, 5, none⟩ = some (.int .i64 price) := by rw [hx3.cells.1 _ _ (by simp)]; simp
  have e3_6 : w3.cell? ⟨w.heap.size, 6, none⟩ = some (.int .i64 capp) := by rw [hx3.cells.1 _ _ (by simp)]; simp
  have e3_7 : w3.cell? ⟨w.heap.size, 7, none⟩ = some (.int .i64 clock) := by rw [hx3.cells.1 _ _ (by simp)]; simp
  have e3_8 : w3.cell? ⟨w.heap.size, 8, none⟩ = some (.int .i64 bank) := by rw [hx3.cells.1 _ _ (by simp)]; simp
  have e3_9 : w3.cell? ⟨w.heap.size, 9, none⟩ = some (.slice q m c2) := by rw [hx3.cells.1 _ _ (by simp)]; simp
  clear hz2 e2_0 e2_1 e2_2 e2_3 e2_4 e2_5 e2_6 e2_7 e2_8 e2_9
  go_wp2
  go_ret
  exact ⟨rfl, by (repeat' (first | exact Ext.refl _ | (with_reducible assumption) | (with_reducible refine Ext.alloc ?_ _) | (with_reducible refine Ext.setCell ?_ (by first | exact Nat.le_refl _ | (dsimp only; omega) | (simp; done) | (simp; omega)) _) | (with_reducible refine Ext.drew ?_) | (with_reducible refine Ext.drewN ?_ _) | (refine Ext.trans ?_ (by with_reducible assumption))))⟩

set_option maxRecDepth 100000 in
set_option maxHeartbeats 1000000 in
theorem implHo_main (wide deep free step price capp clock bank : Int) (p : Option Addr) (n cap : Nat) (q : Option Addr) (m c2 : Nat) (w : World) (hm : m ≤ 9223372036854775807)
    (Cs : List Int) (HC : Hid (∀ w', Ext w w' → Calls Tryd.prog 31 #[hallV wide deep p n cap] w' (RetInts Cs w')))
    (HV : Hid (∀ w', Ext w w' → Calls Tryd.prog 75 #[hallV wide deep p n cap] w' fun e w'' => e = .returned (.bool true) ∧ Ext w' w''))
    (TV : Hid (∀ w', Calls Tryd.prog 76 #[tariffV free step price capp] w' fun e w'' => e = .returned (.bool true) ∧ Ext w' w''))
    (h0 : 0 ≤ clock) (h1 : clock ≤ 9999) (h2 : 0 ≤ bank) (h3 : bank ≤ 99999) (hL : ((Cs.length : Int) != m) = false) (hL2 : Cs.length = m) (hm2 : m ≤ 100) (vs : List Visit4) (HVS : Hid (Sl w q m c2 4 (vs.flatMap visitCells))) :
    Calls Tryd.prog 30 #[.agg #[.int .i64 wide, .int .i64 deep, .slice p n cap, .int .i64 free, .int .i64 step, .int .i64 price, .int .i64 capp, .int .i64 clock, .int .i64 bank, .slice q m c2]] w fun e w' => e = .returned (.bool (visitsOk clock Cs vs)) ∧ Ext w w' := by
  have hvl : vs.length = m := by have := HVS.out.len; rw [flat_len visitCells 4 (fun _ => rfl)] at this; omega
  have HVL := Lib.hid hvl
  have HCL := Lib.hid hL2
  clear hvl hL2
  go_enter Tryd.func30, Tryd.ntmps30
  go_wp2_with fail
  refine (HV.out _ (by (repeat' (first | exact Ext.refl _ | (with_reducible assumption) | (with_reducible refine Ext.alloc ?_ _) | (with_reducible refine Ext.setCell ?_ (by first | exact Nat.le_refl _ | (dsimp only; omega) | (simp; done) | (simp; omega)) _) | (with_reducible refine Ext.drew ?_) | (with_reducible refine Ext.drewN ?_ _) | (refine Ext.trans ?_ (by with_reducible assumption)))))).mono ?_
  rintro e w1 ⟨rfl, hh1⟩
  have hx1 : Ext (w.alloc (.cells #[.int .i64 wide, .int .i64 deep, .slice p n cap, .int .i64 free, .int .i64 step, .int .i64 price, .int .i64 capp, .int .i64 clock, .int .i64 bank, .slice q m c2] 52)) w1 := hh1
  have hz1 : w.heap.size < w1.heap.size := Nat.lt_of_lt_of_le (by simp) hx1.sz
  have e1_0 : w1.cell? ⟨w.heap.size, 0, none⟩ = some (.int .i64 wide) := by rw [hx1.cells.1 _ _ (by simp)]; simp
  have e1_1 : w1.cell? ⟨w.heap.size, 1, none⟩ = some (.int .i64 deep) := by rw [hx1.cells.1 _ _ (by simp)]; simp
  have e1_2 : w1.cell? ⟨w.heap.size, 2, none⟩ = some (.slice p n cap) := by rw [hx1.cells.1 _ _ (by simp)]; simp
  have e1_3 : w1.cell? ⟨w.heap.size, 3, none⟩ = some (.int .i64 free) := by rw [hx1.cells.1 _ _ (by simp)]; simp
  have e1_4 : w1.cell? ⟨w.heap.size, 4, none⟩ = some (.int .i64 step) := by rw [hx1.cells.1 _ _ (by simp)]; simp
  have e1_5 : w1.cell? ⟨w.heap.size, 5, none⟩ = some (.int .i64 price) := by rw [hx1.cells.1 _ _ (by simp)]; simp
  have e1_6 : w1.cell? ⟨w.heap.size, 6, none⟩ = some (.int .i64 capp) := by rw [hx1.cells.1 _ _ (by simp)]; simp
  have e1_7 : w1.cell? ⟨w.heap.size, 7, none⟩ = some (.int .i64 clock) := by rw [hx1.cells.1 _ _ (by simp)]; simp
  have e1_8 : w1.cell? ⟨w.heap.size, 8, none⟩ = some (.int .i64 bank) := by rw [hx1.cells.1 _ _ (by simp)]; simp
  have e1_9 : w1.cell? ⟨w.heap.size, 9, none⟩ = some (.slice q m c2) := by rw [hx1.cells.1 _ _ (by simp)]; simp
  go_wp2_with fail
  refine (TV.out _).mono ?_
  rintro e w2 ⟨rfl, ht2⟩
  have hx2 : Ext (w.alloc (.cells #[.int .i64 wide, .int .i64 deep, .slice p n cap, .int .i64 free, .int .i64 step, .int .i64 price, .int .i64 capp, .int .i64 clock, .int .i64 bank, .slice q m c2] 52)) w2 := hx1.trans ht2
  have hz2 : w.heap.size < w2.heap.size := Nat.lt_of_lt_of_le (by simp) hx2.sz
  have e2_0 : w2.cell? ⟨w.heap.size, 0, none⟩ = some (.int .i64 wide) := by rw [hx2.cells.1 _ _ (by simp)]; simp
  have e2_1 : w2.cell? ⟨w.heap.size, 1, none⟩ = some (.int .i64 deep) := by rw [hx2.cells.1 _ _ (by simp)]; simp
  have e2_2 : w2.cell? ⟨w.heap.size, 2, none⟩ = some (.slice p n cap) := by rw [hx2.cells.1 _ _ (by simp)]; simp
  have e2_3 : w2.cell? ⟨w.heap.size, 3, none⟩ = some (.int .i64 free) := by rw [hx2.cells.1 _ _ (by simp)]; simp
  have e2_4 : w2.cell? ⟨w.heap.size, 4, none⟩ = some (.int .i64 step) := by rw [hx2.cells.1 _ _ (by simp)]; simp
  have e2_5 : w2.cell? ⟨w.heap.size, 5, none⟩ = some (.int .i64 price) := by rw [hx2.cells.1 _ _ (by simp)]; simp
  have e2_6 : w2.cell? ⟨w.heap.size, 6, none⟩ = some (.int .i64 capp) := by rw [hx2.cells.1 _ _ (by simp)]; simp
  have e2_7 : w2.cell? ⟨w.heap.size, 7, none⟩ = some (.int .i64 clock) := by rw [hx2.cells.1 _ _ (by simp)]; simp
  have e2_8 : w2.cell? ⟨w.heap.size, 8, none⟩ = some (.int .i64 bank) := by rw [hx2.cells.1 _ _ (by simp)]; simp
  have e2_9 : w2.cell? ⟨w.heap.size, 9, none⟩ = some (.slice q m c2) := by rw [hx2.cells.1 _ _ (by simp)]; simp
  clear hz1 e1_0 e1_1 e1_2 e1_3 e1_4 e1_5 e1_6 e1_7 e1_8 e1_9
  go_wp2_with fail
  refine (HC.out _ (by (repeat' (first | exact Ext.refl _ | (with_reducible assumption) | (with_reducible refine Ext.alloc ?_ _) | (with_reducible refine Ext.setCell ?_ (by first | exact Nat.le_refl _ | (dsimp only; omega) | (simp; done) | (simp; omega)) _) | (with_reducible refine Ext.drew ?_) | (with_reducible refine Ext.drewN ?_ _) | (refine Ext.trans ?_ (by with_reducible assumption)))))).mono ?_
  rintro e w3 ⟨cp, cc, rfl, hco, hc3⟩
  have HCO := Lib.hid hco
  clear hco
  have hx3 : Ext (w.alloc (.cells #[.int .i64 wide, .int .i64 deep, .slice p n cap, .int .i64 free, .int .i64 step, .int .i64 price, .int .i64 capp, .int .i64 clock, .int .i64 bank, .slice q m c2] 52)) w3 := hx2.trans hc3
  have hz3 : w.heap.size < w3.heap.size := Nat.lt_of_lt_of_le (by simp) hx3.sz
  have e3_0 : w3.cell? ⟨w.heap.size, 0, none⟩ = some (.int .i64 wide) := by rw [hx3.cells.1 _ _ (by simp)]; simp
  have e3_1 : w3.cell? ⟨w.heap.size, 1, none⟩ = some (.int .i64 deep) := by rw [hx3.cells.1 _ _ (by simp)]; simp
  have e3_2 : w3.cell? ⟨w.heap.size, 2, none⟩ = some (.slice p n cap) := by rw [hx3.cells.1 _ _ (by simp)]; simp
  have e3_3 : w3.cell? ⟨w.heap.size, 3, none⟩ = some (.int .i64 free) := by rw [hx3.cells.1 _ _ (by simp)]; simp
  have e3_4 : w3.cell? ⟨w.heap.size, 4, none⟩ = some (.int .i64 step) := by rw [hx3.cells.1 _ _ (by simp)]; simp
  have e3_5 : w3.cell? ⟨w.heap.size, 5, none⟩ = some (.int .i64 price) := by rw [hx3.cells.1 _ _ (by simp)]; simp
  have e3_6 : w3.cell? ⟨w.heap.size, 6, none⟩ = some (.int .i64 capp) := by rw [hx3.cells.1 _ _ (by simp)]; simp
  have e3_7 : w3.cell? ⟨w.heap.size, 7, none⟩ = some (.int .i64 clock) := by rw [hx3.cells.1 _ _ (by simp)]; simp
  have e3_8 : w3.cell? ⟨w.heap.size, 8, none⟩ = some (.int .i64 bank) := by rw [hx3.cells.1 _ _ (by simp)]; simp
  have e3_9 : w3.cell? ⟨w.heap.size, 9, none⟩ = some (.slice q m c2) := by rw [hx3.cells.1 _ _ (by simp)]; simp
  clear hz2 e2_0 e2_1 e2_2 e2_3 e2_4 e2_5 e2_6 e2_7 e2_8 e2_9
  have hco : OwnZ w3 cp Cs.length cc Cs := (own_z HCO.out)
  have hxw : Ext w w3 := (Ext.alloc (Ext.refl w) _).trans hx3
  go_wp2
  clear hL
  go_loopw [48] (fun i wr => ∃ k : Nat, k ≤ m ∧ i = .int .i64 k ∧ visitsOk clock Cs vs = visitsOk clock (Cs.drop k) (vs.drop k) ∧ Ext w3 wr) (fun i _ => m - (intOf i).toNat)
  case atStart => exact ⟨0, Nat.zero_le _, rfl, rfl, Ext.refl _⟩
  case round =>
    obtain ⟨k, hk, rfl, hok, hE⟩ := hrel
    have hcl : wr.cell? ⟨w.heap.size, 7, none⟩ = some (.int .i64 clock) := (hE.cells.1 _ _ hz3).trans e3_7
    have hcv : wr.cell? ⟨w.heap.size, 9, none⟩ = some (.slice q m c2) := (hE.cells.1 _ _ hz3).trans e3_9
    have hzr : w.heap.size < wr.heap.size := Nat.lt_of_lt_of_le hz3 hE.sz
    have HCL2 := HCL.out
    by_cases hlt : k < m
    · obtain ⟨b, off, a0, a1, a2, a3, rfl, hv, hb, g0, g1, g2, g3⟩ := visit_at (HVS.out.ext (hxw.trans hE)) hlt
      obtain ⟨cb, coff, c, rfl, hc, hcb, gc⟩ := (hco.ext hE).int_at (show k < Cs.length by omega)
      have hfin := Lib.hid (hok.trans (visitsOk_at hc hv))
      have i1 : (0 : Int) ≤ (k : Int) := by omega
      have i2 : (k : Int) < (m : Int) := by omega
      have i3 : (k : Int) < (Cs.length : Int) := by omega
      clear hok hc hv HCL2
      have hSv : Hid (∀ w', Calls Tryd.prog 77 #[stayV a1 a2 a3] w' fun e w'' => e = .returned (.bool (stayOk a1 a2 a3)) ∧ Ext w' w'') := fun w' => implSv a1 a2 a3 w'
      go_wp2_with fail
      by_cases t0 : a0 = c
      · have q0 : (a0 != c) = false := by simp [t0]
        have T0 := Lib.hid t0
        clear t0
        cases hst : stayOk a1 a2 a3 with
        | true =>
          rw [hst] at hSv
          have HST := Lib.hid hst
          clear hst
          by_cases t1 : clock < a3
          · have hf2 : Hid (visitsOk clock Cs vs = false) := by show _ = _; rw [hfin.out]; simp [visitOk, HST.out]; omega
            go_region_held3 (fun w' => w'.cell? ⟨wr.heap.size, 0, none⟩ = some (.int .i64 a0) ∧ w'.cell? ⟨wr.heap.size, 1, none⟩ = some (.int .i64 a1) ∧ w'.cell? ⟨wr.heap.size, 2, none⟩ = some (.int .i64 a2) ∧ w'.cell? ⟨wr.heap.size, 3, none⟩ = some (.int .i64 a3) ∧ w'.cell? ⟨cb, coff + k, none⟩ = some (.int .i64 c) ∧ w'.cell? ⟨w.heap.size, 7, none⟩ = some (.int .i64 clock)) (go_keep) ((go_at_call 77; refine (hSv.out _).mono ?_; rintro e w9 ⟨rfl, h9⟩; (try replace h9 := h9.of_drew); have x9 : Ext wr w9 := (by first | exact ((Ext.refl wr).alloc _).trans h9 | exact (((Ext.refl wr).alloc _).drew).trans h9); have g9a := (x9.cells.1 cb (coff + k) hcb).trans gc; have g9b := (x9.cells.1 w.heap.size 7 hzr).trans hcl; have hc9 := h9.cells.1; have hz9 : wr.heap.size < w9.heap.size := Nat.lt_of_lt_of_le (by simp) h9.sz; have hz10 : w.heap.size < w9.heap.size := Nat.lt_trans hzr hz9; have hz11 : cb < w9.heap.size := Nat.lt_trans hcb hz9))
            all_goals go_wp2
            all_goals go_ret
            all_goals exact ⟨ret_bool hf2.out.symm, by (repeat' (first | exact Ext.refl _ | (with_reducible assumption) | (with_reducible refine Ext.alloc ?_ _) | (with_reducible refine Ext.setCell ?_ (by first | exact Nat.le_refl _ | (dsimp only; omega) | (simp; done) | (simp; omega)) _) | (with_reducible refine Ext.drew ?_) | (with_reducible refine Ext.drewN ?_ _) | (refine Ext.trans ?_ (by with_reducible assumption))))⟩
          · have hf2 : Hid (visitsOk clock Cs vs = visitsOk clock (Cs.drop (k + 1)) (vs.drop (k + 1))) := by show _ = _; rw [hfin.out]; simp [visitOk, HST.out, T0.out]; intro h; omega
            go_region_held3 (fun w' => w'.cell? ⟨wr.heap.size, 0, none⟩ = some (.int .i64 a0) ∧ w'.cell? ⟨wr.heap.size, 1, none⟩ = some (.int .i64 a1) ∧ w'.cell? ⟨wr.heap.size, 2, none⟩ = some (.int .i64 a2) ∧ w'.cell? ⟨wr.heap.size, 3, none⟩ = some (.int .i64 a3) ∧ w'.cell? ⟨cb, coff + k, none⟩ = some (.int .i64 c) ∧ w'.cell? ⟨w.heap.size, 7, none⟩ = some (.int .i64 clock)) (go_keep) ((go_at_call 77; refine (hSv.out _).mono ?_; rintro e w9 ⟨rfl, h9⟩; (try replace h9 := h9.of_drew); have x9 : Ext wr w9 := (by first | exact ((Ext.refl wr).alloc _).trans h9 | exact (((Ext.refl wr).alloc _).drew).trans h9); have g9a := (x9.cells.1 cb (coff + k) hcb).trans gc; have g9b := (x9.cells.1 w.heap.size 7 hzr).trans hcl; have hc9 := h9.cells.1; have hz9 : wr.heap.size < w9.heap.size := Nat.lt_of_lt_of_le (by simp) h9.sz; have hz10 : w.heap.size < w9.heap.size := Nat.lt_trans hzr hz9; have hz11 : cb < w9.heap.size := Nat.lt_trans hcb hz9))
            all_goals go_wp2
            all_goals go_roundw
            all_goals first
              | (case rel => first | exact ⟨k + 1, by omega, by go_num, hf2.out, by (repeat' (first | exact Ext.refl _ | (with_reducible assumption) | (with_reducible refine Ext.alloc ?_ _) | (with_reducible refine Ext.setCell ?_ (by first | exact Nat.le_refl _ | (dsimp only; omega) | (simp; done) | (simp; omega)) _) | (with_reducible refine Ext.drew ?_) | (with_reducible refine Ext.drewN ?_ _) | (refine Ext.trans ?_ (by with_reducible assumption))))⟩ | ((repeat apply Exists.intro); exact ⟨⟨k + 1, by omega, by go_num, hf2.out, by (repeat' (first | exact Ext.refl _ | (with_reducible assumption) | (with_reducible refine Ext.alloc ?_ _) | (with_reducible refine Ext.setCell ?_ (by first | exact Nat.le_refl _ | (dsimp only; omega) | (simp; done) | (simp; omega)) _) | (with_reducible refine Ext.drew ?_) | (with_reducible refine Ext.drewN ?_ _) | (refine Ext.trans ?_ (by with_reducible assumption))))⟩, rfl⟩))
              | (case measure => simp [intOf]; omega)
        | false =>
          rw [hst] at hSv
          have hf2 : Hid (visitsOk clock Cs vs = false) := by show _ = _; rw [hfin.out]; simp [visitOk, hst]
          clear hst
          refine wp_region_held_drew (S := fun w' => w'.cell? ⟨wr.heap.size, 0, none⟩ = some (.int .i64 a0) ∧ w'.cell? ⟨wr.heap.size, 1, none⟩ = some (.int .i64 a1) ∧ w'.cell? ⟨wr.heap.size, 2, none⟩ = some (.int .i64 a2) ∧ w'.cell? ⟨wr.heap.size, 3, none⟩ = some (.int .i64 a3) ∧ w'.cell? ⟨cb, coff + k, none⟩ = some (.int .i64 c)) (by kernel_rfl) (by go_keep) (fun hHeld => ?_)
          refine take_l (i := 0) (v := ?_) rfl (by kernel_rfl) (by kernel_rfl) (by kernel_rfl) (fun _ _ _ h => h) (by rfl) ?_ (by assumption) ?_
          rotate_left
          · (intro w hSw; (try dsimp only at hSw); go_simp; (try with_reducible rfl))
          (try simp only [Act.put, List.setIfInBounds_toArray, List.set_cons_zero, List.set_cons_succ])
          refine take_l (i := 1) (v := ?_) rfl (by kernel_rfl) (by kernel_rfl) (by kernel_rfl) (fun _ _ _ h => h) (by rfl) ?_ (by assumption) ?_
          rotate_left
          · (intro w hSw; (try dsimp only at hSw); go_simp; (try with_reducible rfl))
          (try simp only [Act.put, List.setIfInBounds_toArray, List.set_cons_zero, List.set_cons_succ])
          refine take_l (i := 2) (v := ?_) rfl (by kernel_rfl) (by kernel_rfl) (by kernel_rfl) (fun _ _ _ h => h) (by rfl) ?_ (by assumption) ?_
          rotate_left
          · (intro w hSw; (try dsimp only at hSw); go_simp; (try with_reducible rfl))
          (try simp only [Act.put, List.setIfInBounds_toArray, List.set_cons_zero, List.set_cons_succ])
          refine take_l (i := 3) (v := ?_) rfl (by kernel_rfl) (by kernel_rfl) (by kernel_rfl) (fun _ _ _ h => h) (by rfl) ?_ (by assumption) ?_
          rotate_left
          · (intro w hSw; (try dsimp only at hSw); go_simp; (try with_reducible rfl))
          (try simp only [Act.put, List.setIfInBounds_toArray, List.set_cons_zero, List.set_cons_succ])
          refine take_l (i := 4) (v := ?_) rfl (by kernel_rfl) (by kernel_rfl) (by kernel_rfl) (fun _ _ _ h => h) (by rfl) ?_ (by assumption) ?_
          rotate_left
          · (intro w hSw; (try dsimp only at hSw); go_simp; (try with_reducible rfl))
          (try simp only [Act.put, List.setIfInBounds_toArray, List.set_cons_zero, List.set_cons_succ])
          refine take_l (i := 5) (v := ?_) rfl (by kernel_rfl) (by kernel_rfl) (by kernel_rfl) (fun _ _ _ h => h) (by rfl) ?_ (by assumption) ?_
          rotate_left
          · (intro w hSw; (try dsimp only at hSw); go_simp; (try with_reducible rfl))
          (try simp only [Act.put, List.setIfInBounds_toArray, List.set_cons_zero, List.set_cons_succ])
          refine take_l (i := 6) (v := ?_) rfl (by kernel_rfl) (by kernel_rfl) (by kernel_rfl) (fun _ _ _ h => h) (by rfl) ?_ (by assumption) ?_
          rotate_left
          · (intro w hSw; (try dsimp only at hSw); go_simp; (try with_reducible rfl))
          (try simp only [Act.put, List.setIfInBounds_toArray, List.set_cons_zero, List.set_cons_succ])
          refine take_l (i := 7) (v := ?_) rfl (by kernel_rfl) (by kernel_rfl) (by kernel_rfl) (fun _ _ _ h => h) (by rfl) ?_ (by assumption) ?_
          rotate_left
          · (intro w hSw; (try dsimp only at hSw); go_simp; (try with_reducible rfl))
          (try simp only [Act.put, List.setIfInBounds_toArray, List.set_cons_zero, List.set_cons_succ])
          refine take_l (i := 8) (v := ?_) rfl (by kernel_rfl) (by kernel_rfl) (by kernel_rfl) (fun _ _ _ h => h) (by rfl) ?_ (by assumption) ?_
          rotate_left
          · (intro w hSw; (try dsimp only at hSw); go_simp; (try with_reducible rfl))
          (try simp only [Act.put, List.setIfInBounds_toArray, List.set_cons_zero, List.set_cons_succ])
          refine take_l (i := 9) (v := ?_) rfl (by kernel_rfl) (by kernel_rfl) (by kernel_rfl) (fun _ _ _ h => h) (by rfl) ?_ (by assumption) ?_
          rotate_left
          · (intro w hSw; (try dsimp only at hSw); go_simp; (try with_reducible rfl))
          (try simp only [Act.put, List.setIfInBounds_toArray, List.set_cons_zero, List.set_cons_succ])
          refine wpAnyH_ready (rs := [10]) (by kernel_rfl) (by simp) ?_
          refine cons_l rfl (fun K hK => ?_)
          go_simp
          go_at_call 77
          refine (hSv.out _).mono ?_
          rintro e w9 ⟨rfl, h9⟩
          (try replace h9 := h9.of_drew)
          have x9 : Ext wr w9 := (by first | exact ((Ext.refl wr).alloc _).trans h9 | exact (((Ext.refl wr).alloc _).drew).trans h9)
          have g9a := (x9.cells.1 cb (coff + k) hcb).trans gc
          have hc9 := h9.cells.1
          have hz9 : wr.heap.size < w9.heap.size := Nat.lt_of_lt_of_le (by simp) h9.sz
          go_wp2_with fail
          refine hK.out _ _ (by (try dsimp only); go_keep) (fun hHeld => ?_)
          clear hK K
          (try simp only [Act.put, List.setIfInBounds_toArray, List.set_cons_zero, List.set_cons_succ])
          refine take_l (i := 11) (v := ?_) rfl (by kernel_rfl) (by kernel_rfl) (by kernel_rfl) (fun _ _ _ h => h) (by rfl) ?_ (by assumption) ?_
          rotate_left
          · (intro w hSw; (try dsimp only at hSw); go_simp; (try with_reducible rfl))
          (try simp only [Act.put, List.setIfInBounds_toArray, List.set_cons_zero, List.set_cons_succ])
          refine take_l (i := 12) (v := ?_) rfl (by kernel_rfl) (by kernel_rfl) (by kernel_rfl) (fun _ _ _ h => h) (by rfl) ?_ (by assumption) ?_
          rotate_left
          · (intro w hSw; (try dsimp only at hSw); go_simp; (try with_reducible rfl))
          (try simp only [Act.put, List.setIfInBounds_toArray, List.set_cons_zero, List.set_cons_succ])
          refine take_l (i := 13) (v := ?_) rfl (by kernel_rfl) (by kernel_rfl) (by kernel_rfl) (fun _ _ _ h => h) (by rfl) ?_ (by assumption) ?_
          rotate_left
          · (intro w hSw; (try dsimp only at hSw); go_simp; (try with_reducible rfl))
          (try simp only [Act.put, List.setIfInBounds_toArray, List.set_cons_zero, List.set_cons_succ])
          refine skip_l (i := 14) rfl (by kernel_rfl) (by kernel_rfl) (by kernel_rfl) (fun _ _ _ h => h) (by rfl) (by assumption) ?_
          (try simp only [Act.put, List.setIfInBounds_toArray, List.set_cons_zero, List.set_cons_succ])
          refine skip_l (i := 15) rfl (by kernel_rfl) (by kernel_rfl) (by kernel_rfl) (fun _ _ _ h => h) (by rfl) (by assumption) ?_
          (try simp only [Act.put, List.setIfInBounds_toArray, List.set_cons_zero, List.set_cons_succ])
          refine skip_l (i := 16) rfl (by kernel_rfl) (by kernel_rfl) (by kernel_rfl) (fun _ _ _ h => h) (by rfl) (by assumption) ?_
          (try simp only [Act.put, List.setIfInBounds_toArray, List.set_cons_zero, List.set_cons_succ])
          refine skip_l (i := 17) rfl (by kernel_rfl) (by kernel_rfl) (by kernel_rfl) (fun _ _ _ h => h) (by rfl) (by assumption) ?_
          (try simp only [Act.put, List.setIfInBounds_toArray, List.set_cons_zero, List.set_cons_succ])
          refine skip_l (i := 18) rfl (by kernel_rfl) (by kernel_rfl) (by kernel_rfl) (fun _ _ _ h => h) (by rfl) (by assumption) ?_
          (try simp only [Act.put, List.setIfInBounds_toArray, List.set_cons_zero, List.set_cons_succ])
          refine skip_l (i := 19) rfl (by kernel_rfl) (by kernel_rfl) (by kernel_rfl) (fun _ _ _ h => h) (by rfl) (by assumption) ?_
          (try simp only [Act.put, List.setIfInBounds_toArray, List.set_cons_zero, List.set_cons_succ])
          refine take_l (i := 20) (v := ?_) rfl (by kernel_rfl) (by kernel_rfl) (by kernel_rfl) (fun _ _ _ h => h) (by rfl) ?_ (by assumption) ?_
          rotate_left
          · (intro w hSw; (try dsimp only at hSw); go_simp; (try with_reducible rfl))
          (try simp only [Act.put, List.setIfInBounds_toArray, List.set_cons_zero, List.set_cons_succ])
          refine wpAnyH_done (by kernel_rfl) ?_ _
          all_goals go_wp2
          all_goals go_ret
          all_goals exact ⟨ret_bool hf2.out.symm, by (repeat' (first | exact Ext.refl _ | (with_reducible assumption) | (with_reducible refine Ext.alloc ?_ _) | (with_reducible refine Ext.setCell ?_ (by first | exact Nat.le_refl _ | (dsimp only; omega) | (simp; done) | (simp; omega)) _) | (with_reducible refine Ext.drew ?_) | (with_reducible refine Ext.drewN ?_ _) | (refine Ext.trans ?_ (by with_reducible assumption))))⟩
      · have q0 : (a0 != c) = true := by simp [t0]
        have hf2 : Hid (visitsOk clock Cs vs = false) := by show _ = _; rw [hfin.out]; simp [t0]
        clear t0
        go_quiet (fail)
        all_goals go_wp2
        all_goals go_ret
        all_goals exact ⟨ret_bool hf2.out.symm, by (repeat' (first | exact Ext.refl _ | (with_reducible assumption) | (with_reducible refine Ext.alloc ?_ _) | (with_reducible refine Ext.setCell ?_ (by first | exact Nat.le_refl _ | (dsimp only; omega) | (simp; done) | (simp; omega)) _) | (with_reducible refine Ext.drew ?_) | (with_reducible refine Ext.drewN ?_ _) | (refine Ext.trans ?_ (by with_reducible assumption))))⟩
    · have hfin : Hid (visitsOk clock Cs vs = true) := by
        show _ = _
        rw [hok, List.drop_eq_nil_of_le (by rw [HCL.out]; omega), List.drop_eq_nil_of_le (by rw [HVL.out]; omega)]; rfl
      clear hok
      go_wp2
      go_ret
      exact ⟨ret_bool hfin.out.symm, by (repeat' (first | exact Ext.refl _ | (with_reducible assumption) | (with_reducible refine Ext.alloc ?_ _) | (with_reducible refine Ext.setCell ?_ (by first | exact Nat.le_refl _ | (dsimp only; omega) | (simp; done) | (simp; omega)) _) | (with_reducible refine Ext.drew ?_) | (with_reducible refine Ext.drewN ?_ _) | (refine Ext.trans ?_ (by with_reducible assumption))))⟩

theorem implHouse (h : HouseD) (p : Option Addr) (n cap : Nat) (q : Option Addr) (m c2 : Nat) (w : World) (hi : IsHouse w h p n cap q m c2) :
    Calls Tryd.prog 30 #[houseV h p n cap q m c2] w fun e w' => e = .returned (.bool (houseOk h)) ∧ Ext w w' := by
  obtain ⟨wide, deep, cells, free, step, price, capp, clock, bank, vs⟩ := h
  have hm := hi.vs.bd
  have hvl := hi.vlen
  have hcl := hi.clen
  have HV := fun (w' : World) (hx : Ext w w') => implHv wide deep p n cap cells w' (hi.cells.ext hx)
  have HC := fun (w' : World) (hx : Ext w w') => implHc wide deep p n cap cells w' (hi.cells.ext hx)
  have TV := fun (w' : World) => implTv free step price capp w'
  unfold houseOk
  simp only at hvl hcl HV HC TV ⊢
  cases h1 : hallOk wide deep cells with
  | false =>
    rw [h1] at HV HC
    simpa using implHo_bad1 wide deep free step price capp clock bank p n cap q m c2 w hm  HV
  | true =>
    rw [h1] at HV HC
    rw [if_pos rfl] at HC
    cases h2 : tariffOk free step price capp with
    | false =>
      rw [h2] at TV
      simpa using implHo_bad2 wide deep free step price capp clock bank p n cap q m c2 w hm  HV TV
    | true =>
      rw [h2] at TV
      by_cases h3 : 0 ≤ clock ∧ clock ≤ 9999 ∧ 0 ≤ bank ∧ bank ≤ 99999
      · obtain ⟨a1, a2, a3, a4⟩ := h3
        have hn : numsOk ⟨wide, deep, cells, free, step, price, capp, clock, bank, vs⟩ = true := by simp [numsOk, a1, a2, a3, a4]
        rw [hn]
        by_cases hL : (carsOf cells).length = m
        · simpa using implHo_main wide deep free step price capp clock bank p n cap q m c2 w hm (carsOf cells) HC HV TV a1 a2 a3 a4 (by simp [hL]) hL (by
            have e1 := carsOf_len cells; have e2 := posOfL_le cells
            have e3 : cells.length ≤ 12 := by simp only [hallOk, Bool.and_eq_true] at h1; exact (shape_bd h1.1).2.2.2.2.2.1
            omega) vs hi.vs
        · rw [visitsOk_ne (by omega)]
          simpa using implHo_bad4 wide deep free step price capp clock bank p n cap q m c2 w hm (carsOf cells) HC HV TV a1 a2 a3 a4 (by simp; omega)
      · have hn : numsOk ⟨wide, deep, cells, free, step, price, capp, clock, bank, vs⟩ = false := by simp [numsOk]; omega
        rw [hn]
        simpa using implHo_bad3 wide deep free step price capp clock bank p n cap q m c2 w hm  HV TV (by omega)

set_option maxRecDepth 100000 in
set_option maxHeartbeats 1000000 in
theorem specHo_bad1 (wide deep free step price capp clock bank : Int) (p : Option Addr) (n cap : Nat) (q : Option Addr) (m c2 : Nat) (w : World) (hm : m ≤ 9223372036854775807)
    (Cs : List Int) (HC : Hid (∀ w', Ext w w' → Calls Tryd.prog 90 #[hallV wide deep p n cap] w' (RetInts Cs w')))
    (HV : Hid (∀ w', Ext w w' → Calls Tryd.prog 73 #[hallV wide deep p n cap] w' fun e w'' => e = .returned (.bool false) ∧ Ext w' w'')) :
    Calls Tryd.prog 55 #[.agg #[.int .i64 wide, .int .i64 deep, .slice p n cap, .int .i64 free, .int .i64 step, .int .i64 price, .int .i64 capp, .int .i64 clock, .int .i64 bank, .slice q m c2]] w fun e w' => e = .returned (.bool false) ∧ Ext w w' := by
  go_enter Tryd.func55, Tryd.ntmps55
  go_wp2_with fail
  refine (HC.out _ (by (repeat' (first | exact Ext.refl _ | (with_reducible assumption) | (with_reducible refine Ext.alloc ?_ _) | (with_reducible refine Ext.setCell ?_ (by first | exact Nat.le_refl _ | (dsimp only; omega) | (simp; done) | (simp; omega)) _) | (with_reducible refine Ext.drew ?_) | (with_reducible refine Ext.drewN ?_ _) | (refine Ext.trans ?_ (by with_reducible assumption)))))).mono ?_
  rintro e w1 ⟨cp, cc, rfl, hco, hc1⟩
  have HCO := Lib.hid hco
  clear hco
  have hx1 : Ext (w.alloc (.cells #[.int .i64 wide, .int .i64 deep, .slice p n cap, .int .i64 free, .int .i64 step, .int .i64 price, .int .i64 capp, .int .i64 clock, .int .i64 bank, .slice q m c2] 52)) w1 := hc1
  have hz1 : w.heap.size < w1.heap.size := Nat.lt_of_lt_of_le (by simp) hx1.sz
  have e1_0 : w1.cell? ⟨w.heap.size, 0, none⟩ = some (.int .i64 wide) := by rw [hx1.cells.1 _ _ (by simp)]; simp
  have e1_1 : w1.cell? ⟨w.heap.size, 1, none⟩ = some (.int .i64 deep) := by rw [hx1.cells.1 _ _ (by simp)]; simp
  have e1_2 : w1.cell? ⟨w.heap.size, 2, none⟩ = some (.slice p n cap) := by rw [hx1.cells.1 _ _ (by simp)]; simp
  have e1_3 : w1.cell? ⟨w.heap.size, 3, none⟩ = some (.int .i64 free) := by rw [hx1.cells.1 _ _ (by simp)]; simp
  have e1_4 : w1.cell? ⟨w.heap.size, 4, none⟩ = some (.int .i64 step) := by rw [hx1.cells.1 _ _ (by simp)]; simp
  have e1_5 : w1.cell? ⟨w.heap.size, 5, none⟩ = some (.int .i64 price) := by rw [hx1.cells.1 _ _ (by simp)]; simp
  have e1_6 : w1.cell? ⟨w.heap.size, 6, none⟩ = some (.int .i64 capp) := by rw [hx1.cells.1 _ _ (by simp)]; simp
  have e1_7 : w1.cell? ⟨w.heap.size, 7, none⟩ = some (.int .i64 clock) := by rw [hx1.cells.1 _ _ (by simp)]; simp
  have e1_8 : w1.cell? ⟨w.heap.size, 8, none⟩ = some (.int .i64 bank) := by rw [hx1.cells.1 _ _ (by simp)]; simp
  have e1_9 : w1.cell? ⟨w.heap.size, 9, none⟩ = some (.slice q m c2) := by rw [hx1.cells.1 _ _ (by simp)]; simp
  go_wp2_with fail
  refine (HV.out _ (by (repeat' (first | exact Ext.refl _ | (with_reducible assumption) | (with_reducible refine Ext.alloc ?_ _) | (with_reducible refine Ext.setCell ?_ (by first | exact Nat.le_refl _ | (dsimp only; omega) | (simp; done) | (simp; omega)) _) | (with_reducible refine Ext.drew ?_) | (with_reducible refine Ext.drewN ?_ _) | (refine Ext.trans ?_ (by with_reducible assumption)))))).mono ?_
  rintro e w2 ⟨rfl, hh2⟩
  have hx2 : Ext (w.alloc (.cells #[.int .i64 wide, .int .i64 deep, .slice p n cap, .int .i64 free, .int .i64 step, .int .i64 price, .int .i64 capp, .int .i64 clock, .int .i64 bank, .slice q m c2] 52)) w2 := hx1.trans hh2
  have hz2 : w.heap.size < w2.heap.size := Nat.lt_of_lt_of_le (by simp) hx2.sz
  have e2_0 : w2.cell? ⟨w.heap.size, 0, none⟩ = some (.int .i64 wide) := by rw [hx2.cells.1 _ _ (by simp)]; simp
  have e2_1 : w2.cell? ⟨w.heap.size, 1, none⟩ = some (.int .i64 deep) := by rw [hx2.cells.1 _ _ (by simp)]; simp
  have e2_2 : w2.cell? ⟨w.heap.size, 2, none⟩ = some (.slice p n cap) := by rw [hx2.cells.1 _ _ (by simp)]; simp
  have e2_3 : w2.cell? ⟨w.heap.size, 3, none⟩ = some (.int .i64 free) := by rw [hx2.cells.1 _ _ (by simp)]; simp
  have e2_4 : w2.cell? ⟨w.heap.size, 4, none⟩ = some (.int .i64 step) := by rw [hx2.cells.1 _ _ (by simp)]; simp
  have e2_5 : w2.cell? ⟨w.heap.size, 5, none⟩ = some (.int .i64 price) := by rw [hx2.cells.1 _ _ (by simp)]; simp
  have e2_6 : w2.cell? ⟨w.heap.size, 6, none⟩ = some (.int .i64 capp) := by rw [hx2.cells.1 _ _ (by simp)]; simp
  have e2_7 : w2.cell? ⟨w.heap.size, 7, none⟩ = some (.int .i64 clock) := by rw [hx2.cells.1 _ _ (by simp)]; simp
  have e2_8 : w2.cell? ⟨w.heap.size, 8, none⟩ = some (.int .i64 bank) := by rw [hx2.cells.1 _ _ (by simp)]; simp
  have e2_9 : w2.cell? ⟨w.heap.size, 9, none⟩ = some (.slice q m c2) := by rw [hx2.cells.1 _ _ (by simp)]; simp
  clear hz1 e1_0 e1_1 e1_2 e1_3 e1_4 e1_5 e1_6 e1_7 e1_8 e1_9
  go_wp2_with go_in
  go_ret
  exact ⟨rfl, by (repeat' (first | exact Ext.refl _ | (with_reducible assumption) | (with_reducible refine Ext.alloc ?_ _) | (with_reducible refine Ext.setCell ?_ (by first | exact Nat.le_refl _ | (dsimp only; omega) | (simp; done) | (simp; omega)) _) | (with_reducible refine Ext.drew ?_) | (with_reducible refine Ext.drewN ?_ _) | (refine Ext.trans ?_ (by with_reducible assumption))))⟩

set_option maxRecDepth 100000 in
set_option maxHeartbeats 1000000 in
theorem specHo_bad2 (wide deep free step price capp clock bank : Int) (p : Option Addr) (n cap : Nat) (q : Option Addr) (m c2 : Nat) (w : World) (hm : m ≤ 9223372036854775807)
    (Cs : List Int) (HC : Hid (∀ w', Ext w w' → Calls Tryd.prog 90 #[hallV wide deep p n cap] w' (RetInts Cs w')))
    (HV : Hid (∀ w', Ext w w' → Calls Tryd.prog 73 #[hallV wide deep p n cap] w' fun e w'' => e = .returned (.bool true) ∧ Ext w' w''))
    (TV : Hid (∀ w', Calls Tryd.prog 74 #[tariffV free step price capp] w' fun e w'' => e = .returned (.bool false) ∧ Ext w' w'')) :
    Calls Tryd.prog 55 #[.agg #[.int .i64 wide, .int .i64 deep, .slice p n cap, .int .i64 free, .int .i64 step, .int .i64 price, .int .i64 capp, .int .i64 clock, .int .i64 bank, .slice q m c2]] w fun e w' => e = .returned (.bool false) ∧ Ext w w' := by
  go_enter Tryd.func55, Tryd.ntmps55
  go_wp2_with fail
  refine (HC.out _ (by (repeat' (first | exact Ext.refl _ | (with_reducible assumption) | (with_reducible refine Ext.alloc ?_ _) | (with_reducible refine Ext.setCell ?_ (by first | exact Nat.le_refl _ | (dsimp only; omega) | (simp; done) | (simp; omega)) _) | (with_reducible refine Ext.drew ?_) | (with_reducible refine Ext.drewN ?_ _) | (refine Ext.trans ?_ (by with_reducible assumption)))))).mono ?_
  rintro e w1 ⟨cp, cc, rfl, hco, hc1⟩
  have HCO := Lib.hid hco
  clear hco
  have hx1 : Ext (w.alloc (.cells #[.int .i64 wide, .int .i64 deep, .slice p n cap, .int .i64 free, .int .i64 step, .int .i64 price, .int .i64 capp, .int .i64 clock, .int .i64 bank, .slice q m c2] 52)) w1 := hc1
  have hz1 : w.heap.size < w1.heap.size := Nat.lt_of_lt_of_le (by simp) hx1.sz
  have e1_0 : w1.cell? ⟨w.heap.size, 0, none⟩ = some (.int .i64 wide) := by rw [hx1.cells.1 _ _ (by simp)]; simp
  have e1_1 : w1.cell? ⟨w.heap.size, 1, none⟩ = some (.int .i64 deep) := by rw [hx1.cells.1 _ _ (by simp)]; simp
  have e1_2 : w1.cell? ⟨w.heap.size, 2, none⟩ = some (.slice p n cap) := by rw [hx1.cells.1 _ _ (by simp)]; simp
  have e1_3 : w1.cell? ⟨w.heap.size, 3, none⟩ = some (.int .i64 free) := by rw [hx1.cells.1 _ _ (by simp)]; simp
  have e1_4 : w1.cell? ⟨w.heap.size, 4, none⟩ = some (.int .i64 step) := by rw [hx1.cells.1 _ _ (by simp)]; simp
  have e1_5 : w1.cell? ⟨w.heap.size, 5, none⟩ = some (.int .i64 price) := by rw [hx1.cells.1 _ _ (by simp)]; simp
  have e1_6 : w1.cell? ⟨w.heap.size, 6, none⟩ = some (.int .i64 capp) := by rw [hx1.cells.1 _ _ (by simp)]; simp
  have e1_7 : w1.cell? ⟨w.heap.size, 7, none⟩ = some (.int .i64 clock) := by rw [hx1.cells.1 _ _ (by simp)]; simp
  have e1_8 : w1.cell? ⟨w.heap.size, 8, none⟩ = some (.int .i64 bank) := by rw [hx1.cells.1 _ _ (by simp)]; simp
  have e1_9 : w1.cell? ⟨w.heap.size, 9, none⟩ = some (.slice q m c2) := by rw [hx1.cells.1 _ _ (by simp)]; simp
  go_wp2_with fail
  refine (HV.out _ (by (repeat' (first | exact Ext.refl _ | (with_reducible assumption) | (with_reducible refine Ext.alloc ?_ _) | (with_reducible refine Ext.setCell ?_ (by first | exact Nat.le_refl _ | (dsimp only; omega) | (simp; done) | (simp; omega)) _) | (with_reducible refine Ext.drew ?_) | (with_reducible refine Ext.drewN ?_ _) | (refine Ext.trans ?_ (by with_reducible assumption)))))).mono ?_
  rintro e w2 ⟨rfl, hh2⟩
  have hx2 : Ext (w.alloc (.cells #[.int .i64 wide, .int .i64 deep, .slice p n cap, .int .i64 free, .int .i64 step, .int .i64 price, .int .i64 capp, .int .i64 clock, .int .i64 bank, .slice q m c2] 52)) w2 := hx1.trans hh2
  have hz2 : w.heap.size < w2.heap.size := Nat.lt_of_lt_of_le (by simp) hx2.sz
  have e2_0 : w2.cell? ⟨w.heap.size, 0, none⟩ = some (.int .i64 wide) := by rw [hx2.cells.1 _ _ (by simp)]; simp
  have e2_1 : w2.cell? ⟨w.heap.size, 1, none⟩ = some (.int .i64 deep) := by rw [hx2.cells.1 _ _ (by simp)]; simp
  have e2_2 : w2.cell? ⟨w.heap.size, 2, none⟩ = some (.slice p n cap) := by rw [hx2.cells.1 _ _ (by simp)]; simp
  have e2_3 : w2.cell? ⟨w.heap.size, 3, none⟩ = some (.int .i64 free) := by rw [hx2.cells.1 _ _ (by simp)]; simp
  have e2_4 : w2.cell? ⟨w.heap.size, 4, none⟩ = some (.int .i64 step) := by rw [hx2.cells.1 _ _ (by simp)]; simp
  have e2_5 : w2.cell? ⟨w.heap.size, 5, none⟩ = some (.int .i64 price) := by rw [hx2.cells.1 _ _ (by simp)]; simp
  have e2_6 : w2.cell? ⟨w.heap.size, 6, none⟩ = some (.int .i64 capp) := by rw [hx2.cells.1 _ _ (by simp)]; simp
  have e2_7 : w2.cell? ⟨w.heap.size, 7, none⟩ = some (.int .i64 clock) := by rw [hx2.cells.1 _ _ (by simp)]; simp
  have e2_8 : w2.cell? ⟨w.heap.size, 8, none⟩ = some (.int .i64 bank) := by rw [hx2.cells.1 _ _ (by simp)]; simp
  have e2_9 : w2.cell? ⟨w.heap.size, 9, none⟩ = some (.slice q m c2) := by rw [hx2.cells.1 _ _ (by simp)]; simp
  clear hz1 e1_0 e1_1 e1_2 e1_3 e1_4 e1_5 e1_6 e1_7 e1_8 e1_9
  go_wp2_with fail
  refine (TV.out _).mono ?_
  rintro e w3 ⟨rfl, ht3⟩
  have hx3 : Ext (w.alloc (.cells #[.int .i64 wide, .int .i64 deep, .slice p n cap, .int .i64 free, .int .i64 step, .int .i64 price, .int .i64 capp, .int .i64 clock, .int .i64 bank, .slice q m c2] 52)) w3 := hx2.trans ht3
  have hz3 : w.heap.size < w3.heap.size := Nat.lt_of_lt_of_le (by simp) hx3.sz
  have e3_0 : w3.cell? ⟨w.heap.size, 0, none⟩ = some (.int .i64 wide) := by rw [hx3.cells.1 _ _ (by simp)]; simp
  have e3_1 : w3.cell? ⟨w.heap.size, 1, none⟩ = some (.int .i64 deep) := by rw [hx3.cells.1 _ _ (by simp)]; simp
  have e3_2 : w3.cell? ⟨w.heap.size, 2, none⟩ = some (.slice p n cap) := by rw [hx3.cells.1 _ _ (by simp)]; simp
  have e3_3 : w3.cell? ⟨w.heap.size, 3, none⟩ = some (.int .i64 free) := by rw [hx3.cells.1 _ _ (by simp)]; simp
  have e3_4 : w3.cell? ⟨w.heap.size, 4, none⟩ = some (.int .i64 step) := by rw [hx3.cells.1 _ _ (by simp)]; simp
  have e3_5 : w3.cell? ⟨w.heap.size, 5, none⟩ = some (.int .i64 price) := by rw [hx3.cells.1 _ _ (by simp)]; simp
  have e3_6 : w3.cell? ⟨w.heap.size, 6, none⟩ = some (.int .i64 capp) := by rw [hx3.cells.1 _ _ (by simp)]; simp
  have e3_7 : w3.cell? ⟨w.heap.size, 7, none⟩ = some (.int .i64 clock) := by rw [hx3.cells.1 _ _ (by simp)]; simp
  have e3_8 : w3.cell? ⟨w.heap.size, 8, none⟩ = some (.int .i64 bank) := by rw [hx3.cells.1 _ _ (by simp)]; simp
  have e3_9 : w3.cell? ⟨w.heap.size, 9, none⟩ = some (.slice q m c2) := by rw [hx3.cells.1 _ _ (by simp)]; simp
  clear hz2 e2_0 e2_1 e2_2 e2_3 e2_4 e2_5 e2_6 e2_7 e2_8 e2_9
  go_wp2_with go_in
  go_ret
  exact ⟨rfl, by (repeat' (first | exact Ext.refl _ | (with_reducible assumption) | (with_reducible refine Ext.alloc ?_ _) | (with_reducible refine Ext.setCell ?_ (by first | exact Nat.le_refl _ | (dsimp only; omega) | (simp; done) | (simp; omega)) _) | (with_reducible refine Ext.drew ?_) | (with_reducible refine Ext.drewN ?_ _) | (refine Ext.trans ?_ (by with_reducible assumption))))⟩

set_option maxRecDepth 100000 in
set_option maxHeartbeats 1000000 in
theorem specHo_bad3 (wide deep free step price capp clock bank : Int) (p : Option Addr) (n cap : Nat) (q : Option Addr) (m c2 : Nat) (w : World) (hm : m ≤ 9223372036854775807)
    (Cs : List Int) (HC : Hid (∀ w', Ext w w' → Calls Tryd.prog 90 #[hallV wide deep p n cap] w' (RetInts Cs w')))
    (HV : Hid (∀ w', Ext w w' → Calls Tryd.prog 73 #[hallV wide deep p n cap] w' fun e w'' => e = .returned (.bool true) ∧ Ext w' w''))
    (TV : Hid (∀ w', Calls Tryd.prog 74 #[tariffV free step price capp] w' fun e w'' => e = .returned (.bool true) ∧ Ext w' w''))
    (h : clock < 0 ∨ 0 ≤ clock ∧ 9999 < clock ∨ 0 ≤ clock ∧ clock ≤ 9999 ∧ bank < 0 ∨ 0 ≤ clock ∧ clock ≤ 9999 ∧ 0 ≤ bank ∧ 99999 < bank) :
    Calls Tryd.prog 55 #[.agg #[.int .i64 wide, .int .i64 deep, .slice p n cap, .int .i64 free, .int .i64 step, .int .i64 price, .int .i64 capp, .int .i64 clock, .int .i64 bank, .slice q m c2]] w fun e w' => e = .returned (.bool false) ∧ Ext w w' := by
  rcases h with h | ⟨h0, h⟩ | ⟨h0, h1, h⟩ | ⟨h0, h1, h2, h⟩
  all_goals
    (try (have hdd : decide (clock ≤ 9999) = false := by simp; omega))
    (try (have hdd : decide (bank ≤ 99999) = false := by simp; omega))
    go_enter Tryd.func55, Tryd.ntmps55
    go_wp2_with fail
    refine (HC.out _ (by (repeat' (first | exact Ext.refl _ | (with_reducible assumption) | (with_reducible refine Ext.alloc ?_ _) | (with_reducible refine Ext.setCell ?_ (by first | exact Nat.le_refl _ | (dsimp only; omega) | (simp; done) | (simp; omega)) _) | (with_reducible refine Ext.drew ?_) | (with_reducible refine Ext.drewN ?_ _) | (refine Ext.trans ?_ (by with_reducible assumption)))))).mono ?_
    rintro e w1 ⟨cp, cc, rfl, hco, hc1⟩
    have HCO := Lib.hid hco
    clear hco
    have hx1 : Ext (w.alloc (.cells #[.int .i64 wide, .int .i64 deep, .slice p n cap, .int .i64 free, .int .i64 step, .int .i64 price, .int .i64 capp, .int .i64 clock, .int .i64 bank, .slice q m c2] 52)) w1 := hc1
    have hz1 : w.heap.size < w1.heap.size := Nat.lt_of_lt_of_le (by simp) hx1.sz
    have e1_0 : w1.cell? ⟨w.heap.size, 0, none⟩ = some (.int .i64 wide) := by rw [hx1.cells.1 _ _ (by simp)]; simp
    have e1_1 : w1.cell? ⟨w.heap.size, 1, none⟩ = some (.int .i64 deep) := by rw [hx1.cells.1 _ _ (by simp)]; simp
    have e1_2 : w1.cell? ⟨w.heap.size, 2, none⟩ = some (.slice p n cap) := by rw [hx1.cells.1 _ _ (by simp)]; simp
    have e1_3 : w1.cell? ⟨w.heap.size, 3, none⟩ = some (.int .i64 free) := by rw [hx1.cells.1 _ _ (by simp)]; simp
    have e1_4 : w1.cell? ⟨w.heap.size, 4, none⟩ = some (.int .i64 step) := by rw [hx1.cells.1 _ _ (by simp)]; simp
    have e1_5 : w1.cell? ⟨w.heap.size, 5, none⟩ = some (.int .i64 price) := by rw [hx1.cells.1 _ _ (by simp)]; simp
    have e1_6 : w1.cell? ⟨w.heap.size, 6, none⟩ = some (.int .i64 capp) := by rw [hx1.cells.1 _ _ (by simp)]; simp
    have e1_7 : w1.cell? ⟨w.heap.size, 7, none⟩ = some (.int .i64 clock) := by rw [hx1.cells.1 _ _ (by simp)]; simp
    have e1_8 : w1.cell? ⟨w.heap.size, 8, none⟩ = some (.int .i64 bank) := by rw [hx1.cells.1 _ _ (by simp)]; simp
    have e1_9 : w1.cell? ⟨w.heap.size, 9, none⟩ = some (.slice q m c2) := by rw [hx1.cells.1 _ _ (by simp)]; simp
    go_wp2_with fail
    refine (HV.out _ (by (repeat' (first | exact Ext.refl _ | (with_reducible assumption) | (with_reducible refine Ext.alloc ?_ _) | (with_reducible refine Ext.setCell ?_ (by first | exact Nat.le_refl _ | (dsimp only; omega) | (simp; done) | (simp; omega)) _) | (with_reducible refine Ext.drew ?_) | (with_reducible refine Ext.drewN ?_ _) | (refine Ext.trans ?_ (by with_reducible assumption)))))).mono ?_
    rintro e w2 ⟨rfl, hh2⟩
    have hx2 : Ext (w.alloc (.cells #[.int .i64 wide, .int .i64 deep, .slice p n cap, .int .i64 free, .int .i64 step, .int .i64 price, .int .i64 capp, .int .i64 clock, .int .i64 bank, .slice q m c2] 52)) w2 := hx1.trans hh2
    have hz2 : w.heap.size < w2.heap.size := Nat.lt_of_lt_of_le (by simp) hx2.sz
    have e2_0 : w2.cell? ⟨w.heap.size, 0, none⟩ = some (.int .i64 wide) := by rw [hx2.cells.1 _ _ (by simp)]; simp
    have e2_1 : w2.cell? ⟨w.heap.size, 1, none⟩ = some (.int .i64 deep) := by rw [hx2.cells.1 _ _ (by simp)]; simp
    have e2_2 : w2.cell? ⟨w.heap.size, 2, none⟩ = some (.slice p n cap) := by rw [hx2.cells.1 _ _ (by simp)]; simp
    have e2_3 : w2.cell? ⟨w.heap.size, 3, none⟩ = some (.int .i64 free) := by rw [hx2.cells.1 _ _ (by simp)]; simp
    have e2_4 : w2.cell? ⟨w.heap.size, 4, none⟩ = some (.int .i64 step) := by rw [hx2.cells.1 _ _ (by simp)]; simp
    have e2_5 : w2.cell? ⟨w.heap.size, 5, none⟩ = some (.int .i64 price) := by rw [hx2.cells.1 _ _ (by simp)]; simp
    have e2_6 : w2.cell? ⟨w.heap.size, 6, none⟩ = some (.int .i64 capp) := by rw [hx2.cells.1 _ _ (by simp)]; simp
    have e2_7 : w2.cell? ⟨w.heap.size, 7, none⟩ = some (.int .i64 clock) := by rw [hx2.cells.1 _ _ (by simp)]; simp
    have e2_8 : w2.cell? ⟨w.heap.size, 8, none⟩ = some (.int .i64 bank) := by rw [hx2.cells.1 _ _ (by simp)]; simp
    have e2_9 : w2.cell? ⟨w.heap.size, 9, none⟩ = some (.slice q m c2) := by rw [hx2.cells.1 _ _ (by simp)]; simp
    clear hz1 e1_0 e1_1 e1_2 e1_3 e1_4 e1_5 e1_6 e1_7 e1_8 e1_9
    go_wp2_with fail
    refine (TV.out _).mono ?_
    rintro e w3 ⟨rfl, ht3⟩
    have hx3 : Ext (w.alloc (.cells #[.int .i64 wide, .int .i64 deep, .slice p n cap, .int .i64 free, .int .i64 step, .int .i64 price, .int .i64 capp, .int .i64 clock, .int .i64 bank, .slice q m c2] 52)) w3 := hx2.trans ht3
    have hz3 : w.heap.size < w3.heap.size := Nat.lt_of_lt_of_le (by simp) hx3.sz
    have e3_0 : w3.cell? ⟨w.heap.size, 0, none⟩ = some (.int .i64 wide) := by rw [hx3.cells.1 _ _ (by simp)]; simp
    have e3_1 : w3.cell? ⟨w.heap.size, 1, none⟩ = some (.int .i64 deep) := by rw [hx3.cells.1 _ _ (by simp)]; simp
    have e3_2 : w3.cell? ⟨w.heap.size, 2, none⟩ = some (.slice p n cap) := by rw [hx3.cells.1 _ _ (by simp)]; simp
    have e3_3 : w3.cell? ⟨w.heap.size, 3, none⟩ = some (.int .i64 free) := by rw [hx3.cells.1 _ _ (by simp)]; simp
    have e3_4 : w3.cell? ⟨w.heap.size, 4, none⟩ = some (.int .i64 step) := by rw [hx3.cells.1 _ _ (by simp)]; simp
    have e3_5 : w3.cell? ⟨w.heap.size, 5, none⟩ = some (.int .i64 price) := by rw [hx3.cells.1 _ _ (by simp)]; simp
    have e3_6 : w3.cell? ⟨w.heap.size, 6, none⟩ = some (.int .i64 capp) := by rw [hx3.cells.1 _ _ (by simp)]; simp
    have e3_7 : w3.cell? ⟨w.heap.size, 7, none⟩ = some (.int .i64 clock) := by rw [hx3.cells.1 _ _ (by simp)]; simp
    have e3_8 : w3.cell? ⟨w.heap.size, 8, none⟩ = some (.int .i64 bank) := by rw [hx3.cells.1 _ _ (by simp)]; simp
    have e3_9 : w3.cell? ⟨w.heap.size, 9, none⟩ = some (.slice q m c2) := by rw [hx3.cells.1 _ _ (by simp)]; simp
    clear hz2 e2_0 e2_1 e2_2 e2_3 e2_4 e2_5 e2_6 e2_7 e2_8 e2_9
    go_wp2_with go_in
    go_ret
    exact ⟨rfl, by (repeat' (first | exact Ext.refl _ | (with_reducible assumption) | (with_reducible refine Ext.alloc ?_ _) | (with_reducible refine Ext.setCell ?_ (by first | exact Nat.le_refl _ | (dsimp only; omega) | (simp; done) | (simp; omega)) _) | (with_reducible refine Ext.drew ?_) | (with_reducible refine Ext.drewN ?_ _) | (refine Ext.trans ?_ (by with_reducible assumption))))⟩

set_option maxRecDepth 100000 in
set_option maxHeartbeats 1000000 in
theorem specHo_bad4 (wide deep free step price capp clock bank : Int) (p : Option Addr) (n cap : Nat) (q : Option Addr) (m c2 : Nat) (w : World) (hm : m ≤ 9223372036854775807)
    (Cs : List Int) (HC : Hid (∀ w', Ext w w' → Calls Tryd.prog 90 #[hallV wide deep p n cap] w' (RetInts Cs w')))
    (HV : Hid (∀ w', Ext w w' → Calls Tryd.prog 73 #[hallV wide deep p n cap] w' fun e w'' => e = .returned (.bool true) ∧ Ext w' w''))
    (TV : Hid (∀ w', Calls Tryd.prog 74 #[tariffV free step price capp] w' fun e w'' => e = .returned (.bool true) ∧ Ext w' w''))
    (h0 : 0 ≤ clock) (h1 : clock ≤ 9999) (h2 : 0 ≤ bank) (h3 : bank ≤ 99999) (hL : ((Cs.length : Int) != m) = true) :
    Calls Tryd.prog 55 #[.agg #[.int .i64 wide, .int .i64 deep, .slice p n cap, .int .i64 free, .int .i64 step, .int .i64 price, .int .i64 capp, .int .i64 clock, .int .i64 bank, .slice q m c2]] w fun e w' => e = .returned (.bool false) ∧ Ext w w' := by
  go_enter Tryd.func55, Tryd.ntmps55
  go_wp2_with fail
  refine (HC.out _ (by (repeat' (first | exact Ext.refl _ | (with_reducible assumption) | (with_reducible refine Ext.alloc ?_ _) | (with_reducible refine Ext.setCell ?_ (by first | exact Nat.le_refl _ | (dsimp only; omega) | (simp; done) | (simp; omega)) _) | (with_reducible refine Ext.drew ?_) | (with_reducible refine Ext.drewN ?_ _) | (refine Ext.trans ?_ (by with_reducible assumption)))))).mono ?_
  rintro e w1 ⟨cp, cc, rfl, hco, hc1⟩
  have HCO := Lib.hid hco
  clear hco
  have hx1 : Ext (w.alloc (.cells #[.int .i64 wide, .int .i64 deep, .slice p n cap, .int .i64 free, .int .i64 step, .int .i64 price, .int .i64 capp, .int .i64 clock, .int .i64 bank, .slice q m c2] 52)) w1 := hc1
  have hz1 : w.heap.size < w1.heap.size := Nat.lt_of_lt_of_le (by simp) hx1.sz
  have e1_0 : w1.cell? ⟨w.heap.size, 0, none⟩ = some (.int .i64 wide) := by rw [hx1.cells.1 _ _ (by simp)]; simp
  have e1_1 : w1.cell? ⟨w.heap.size, 1, none⟩ = some (.int .i64 deep) := by rw [hx1.cells.1 _ _ (by simp)]; simp
  have e1_2 : w1.cell? ⟨w.heap.size, 2, none⟩ = some (.slice p n cap) := by rw [hx1.cells.1 _ _ (by simp)]; simp
  have e1_3 : w1.cell? ⟨w.heap.size, 3, none⟩ = some (.int .i64 free) := by rw [hx1.cells.1 _ _ (by simp)]; simp
  have e1_4 : w1.cell? ⟨w.heap.size, 4, none⟩ = some (.int .i64 step) := by rw [hx1.cells.1 _ _ (by simp)]; simp
  have e1_5 : w1.cell? ⟨w.heap.size, 5, none⟩ = some (.int .i64 price) := by rw [hx1.cells.1 _ _ (by simp)]; simp
  have e1_6 : w1.cell? ⟨w.heap.size, 6, none⟩ = some (.int .i64 capp) := by rw [hx1.cells.1 _ _ (by simp)]; simp
  have e1_7 : w1.cell? ⟨w.heap.size, 7, none⟩ = some (.int .i64 clock) := by rw [hx1.cells.1 _ _ (by simp)]; simp
  have e1_8 : w1.cell? ⟨w.heap.size, 8, none⟩ = some (.int .i64 bank) := by rw [hx1.cells.1 _ _ (by simp)]; simp
  have e1_9 : w1.cell? ⟨w.heap.size, 9, none⟩ = some (.slice q m c2) := by rw [hx1.cells.1 _ _ (by simp)]; simp
  go_wp2_with fail
  refine (HV.out _ (by (repeat' (first | exact Ext.refl _ | (with_reducible assumption) | (with_reducible refine Ext.alloc ?_ _) | (with_reducible refine Ext.setCell ?_ (by first | exact Nat.le_refl _ | (dsimp only; omega) | (simp; done) | (simp; omega)) _) | (with_reducible refine Ext.drew ?_) | (with_reducible refine Ext.drewN ?_ _) | (refine Ext.trans ?_ (by with_reducible assumption)))))).mono ?_
  rintro e w2 ⟨rfl, hh2⟩
  have hx2 : Ext (w.alloc (.cells #[.int .i64 wide, .int .i64 deep, .slice p n cap, .int .i64 free, .int .i64 step, .int .i64 price, .int .i64 capp, .int .i64 clock, .int .i64 bank, .slice q m c2] 52)) w2 := hx1.trans hh2
  have hz2 : w.heap.size < w2.heap.size := Nat.lt_of_lt_of_le (by simp) hx2.sz
  have e2_0 : w2.cell? ⟨w.heap.size, 0, none⟩ = some (.int .i64 wide) := by rw [hx2.cells.1 _ _ (by simp)]; simp
  have e2_1 : w2.cell? ⟨w.heap.size, 1, none⟩ = some (.int .i64 deep) := by rw [hx2.cells.1 _ _ (by simp)]; simp
  have e2_2 : w2.cell? ⟨w.heap.size, 2, none⟩ = some (.slice p n cap) := by rw [hx2.cells.1 _ _ (by simp)]; simp
  have e2_3 : w2.cell? ⟨w.heap.size, 3, none⟩ = some (.int .i64 free) := by rw [hx2.cells.1 _ _ (by simp)]; simp
  have e2_4 : w2.cell? ⟨w.heap.size, 4, none⟩ = some (.int .i64 step) := by rw [hx2.cells.1 _ _ (by simp)]; simp
  have e2_5 : w2.cell? ⟨w.heap.size, 5, none⟩ = some (.int .i64 price) := by rw [hx2.cells.1 _ _ (by simp)]; simp
  have e2_6 : w2.cell? ⟨w.heap.size, 6, none⟩ = some (.int .i64 capp) := by rw [hx2.cells.1 _ _ (by simp)]; simp
  have e2_7 : w2.cell? ⟨w.heap.size, 7, none⟩ = some (.int .i64 clock) := by rw [hx2.cells.1 _ _ (by simp)]; simp
  have e2_8 : w2.cell? ⟨w.heap.size, 8, none⟩ = some (.int .i64 bank) := by rw [hx2.cells.1 _ _ (by simp)]; simp
  have e2_9 : w2.cell? ⟨w.heap.size, 9, none⟩ = some (.slice q m c2) := by rw [hx2.cells.1 _ _ (by simp)]; simp
  clear hz1 e1_0 e1_1 e1_2 e1_3 e1_4 e1_5 e1_6 e1_7 e1_8 e1_9
  go_wp2_with fail
  refine (TV.out _).mono ?_
  rintro e w3 ⟨rfl, ht3⟩
  have hx3 : Ext (w.alloc (.cells #[.int .i64 wide, .int .i64 deep, .slice p n cap, .int .i64 free, .int .i64 step, .int .i64 price, .int .i64 capp, .int .i64 clock, .int .i64 bank, .slice q m c2] 52)) w3 := hx2.trans ht3
  have hz3 : w.heap.size < w3.heap.size := Nat.lt_of_lt_of_le (by simp) hx3.sz
  have e3_0 : w3.cell? ⟨w.heap.size, 0, none⟩ = some (.int .i64 wide) := by rw [hx3.cells.1 _ _ (by simp)]; simp
  have e3_1 : w3.cell? ⟨w.heap.size, 1, none⟩ = some (.int .i64 deep) := by rw [hx3.cells.1 _ _ (by simp)]; simp
  have e3_2 : w3.cell? ⟨w.heap.size, 2, none⟩ = some (.slice p n cap) := by rw [hx3.cells.1 _ _ (by simp)]; simp
  have e3_3 : w3.cell? ⟨w.heap.size, 3, none⟩ = some (.int .i64 free) := by rw [hx3.cells.1 _ _ (by simp)]; simp
  have e3_4 : w3.cell? ⟨w.heap.size, 4, none⟩ = some (.int .i64 step) := by rw [hx3.cells.1 _ _ (by simp)]; simp
  have e3_5 : w3.cell? ⟨w.heap.size, 5, none⟩ = some (.int .i64 price) := by rw [hx3.cells.1 _ _ (by simp)]; simp
  have e3_6 : w3.cell? ⟨w.heap.size, 6, none⟩ = some (.int .i64 capp) := by rw [hx3.cells.1 _ _ (by simp)]; simp
  have e3_7 : w3.cell? ⟨w.heap.size, 7, none⟩ = some (.int .i64 clock) := by rw [hx3.cells.1 _ _ (by simp)]; simp
  have e3_8 : w3.cell? ⟨w.heap.size, 8, none⟩ = some (.int .i64 bank) := by rw [hx3.cells.1 _ _ (by simp)]; simp
  have e3_9 : w3.cell? ⟨w.heap.size, 9, none⟩ = some (.slice q m c2) := by rw [hx3.cells.1 _ _ (by simp)]; simp
  clear hz2 e2_0 e2_1 e2_2 e2_3 e2_4 e2_5 e2_6 e2_7 e2_8 e2_9
  go_wp2_with go_in
  go_ret
  exact ⟨rfl, by (repeat' (first | exact Ext.refl _ | (with_reducible assumption) | (with_reducible refine Ext.alloc ?_ _) | (with_reducible refine Ext.setCell ?_ (by first | exact Nat.le_refl _ | (dsimp only; omega) | (simp; done) | (simp; omega)) _) | (with_reducible refine Ext.drew ?_) | (with_reducible refine Ext.drewN ?_ _) | (refine Ext.trans ?_ (by with_reducible assumption))))⟩

set_option maxRecDepth 100000 in
set_option maxHeartbeats 1000000 in
theorem specHo_main (wide deep free step price capp clock bank : Int) (p : Option Addr) (n cap : Nat) (q : Option Addr) (m c2 : Nat) (w : World) (hm : m ≤ 9223372036854775807)
    (Cs : List Int) (HC : Hid (∀ w', Ext w w' → Calls Tryd.prog 90 #[hallV wide deep p n cap] w' (RetInts Cs w')))
    (HV : Hid (∀ w', Ext w w' → Calls Tryd.prog 73 #[hallV wide deep p n cap] w' fun e w'' => e = .returned (.bool true) ∧ Ext w' w''))
    (TV : Hid (∀ w', Calls Tryd.prog 74 #[tariffV free step price capp] w' fun e w'' => e = .returned (.bool true) ∧ Ext w' w''))
    (h0 : 0 ≤ clock) (h1 : clock ≤ 9999) (h2 : 0 ≤ bank) (h3 : bank ≤ 99999) (hL : ((Cs.length : Int) != m) = false) (hL2 : Cs.length = m) (hm2 : m ≤ 100) (vs : List Visit4) (HVS : Hid (Sl w q m c2 4 (vs.flatMap visitCells))) :
    Calls Tryd.prog 55 #[.agg #[.int .i64 wide, .int .i64 deep, .slice p n cap, .int .i64 free, .int .i64 step, .int .i64 price, .int .i64 capp, .int .i64 clock, .int .i64 bank, .slice q m c2]] w fun e w' => e = .returned (.bool (visitsOk clock Cs vs)) ∧ Ext w w' := by
  have hvl : vs.length = m := by have := HVS.out.len; rw [flat_len visitCells 4 (fun _ => rfl)] at this; omega
  have HVL := Lib.hid hvl
  have HCL := Lib.hid hL2
  clear hvl hL2
  go_enter Tryd.func55, Tryd.ntmps55
  go_wp2_with fail
  refine (HC.out _ (by (repeat' (first | exact Ext.refl _ | (with_reducible assumption) | (with_reducible refine Ext.alloc ?_ _) | (with_reducible refine Ext.setCell ?_ (by first | exact Nat.le_refl _ | (dsimp only; omega) | (simp; done) | (simp; omega)) _) | (with_reducible refine Ext.drew ?_) | (with_reducible refine Ext.drewN ?_ _) | (refine Ext.trans ?_ (by with_reducible assumption)))))).mono ?_
  rintro e w1 ⟨cp, cc, rfl, hco, hc1⟩
  have HCO := Lib.hid hco
  clear hco
  have hx1 : Ext (w.alloc (.cells #[.int .i64 wide, .int .i64 deep, .slice p n cap, .int .i64 free, .int .i64 step, .int .i64 price, .int .i64 capp, .int .i64 clock, .int .i64 bank, .slice q m c2] 52)) w1 := hc1
  have hz1 : w.heap.size < w1.heap.size := Nat.lt_of_lt_of_le (by simp) hx1.sz
  have e1_0 : w1.cell? ⟨w.heap.size, 0, none⟩ = some (.int .i64 wide) := by rw [hx1.cells.1 _ _ (by simp)]; simp
  have e1_1 : w1.cell? ⟨w.heap.size, 1, none⟩ = some (.int .i64 deep) := by rw [hx1.cells.1 _ _ (by simp)]; simp
  have e1_2 : w1.cell? ⟨w.heap.size, 2, none⟩ = some (.slice p n cap) := by rw [hx1.cells.1 _ _ (by simp)]; simp
  have e1_3 : w1.cell? ⟨w.heap.size, 3, none⟩ = some (.int .i64 free) := by rw [hx1.cells.1 _ _ (by simp)]; simp
  have e1_4 : w1.cell? ⟨w.heap.size, 4, none⟩ = some (.int .i64 step) := by rw [hx1.cells.1 _ _ (by simp)]; simp
  have e1_5 : w1.cell? ⟨w.heap.size, 5, none⟩ = some (.int .i64 price) := by rw [hx1.cells.1 _ _ (by simp)]; simp
  have e1_6 : w1.cell? ⟨w.heap.size, 6, none⟩ = some (.int .i64 capp) := by rw [hx1.cells.1 _ _ (by simp)]; simp
  have e1_7 : w1.cell? ⟨w.heap.size, 7, none⟩ = some (.int .i64 clock) := by rw [hx1.cells.1 _ _ (by simp)]; simp
  have e1_8 : w1.cell? ⟨w.heap.size, 8, none⟩ = some (.int .i64 bank) := by rw [hx1.cells.1 _ _ (by simp)]; simp
  have e1_9 : w1.cell? ⟨w.heap.size, 9, none⟩ = some (.slice q m c2) := by rw [hx1.cells.1 _ _ (by simp)]; simp
  go_wp2_with fail
  refine (HV.out _ (by (repeat' (first | exact Ext.refl _ | (with_reducible assumption) | (with_reducible refine Ext.alloc ?_ _) | (with_reducible refine Ext.setCell ?_ (by first | exact Nat.le_refl _ | (dsimp only; omega) | (simp; done) | (simp; omega)) _) | (with_reducible refine Ext.drew ?_) | (with_reducible refine Ext.drewN ?_ _) | (refine Ext.trans ?_ (by with_reducible assumption)))))).mono ?_
  rintro e w2 ⟨rfl, hh2⟩
  have hx2 : Ext (w.alloc (.cells #[.int .i64 wide, .int .i64 deep, .slice p n cap, .int .i64 free, .int .i64 step, .int .i64 price, .int .i64 capp, .int .i64 clock, .int .i64 bank, .slice q m c2] 52)) w2 := hx1.trans hh2
  have hz2 : w.heap.size < w2.heap.size := Nat.lt_of_lt_of_le (by simp) hx2.sz
  have e2_0 : w2.cell? ⟨w.heap.size, 0, none⟩ = some (.int .i64 wide) := by rw [hx2.cells.1 _ _ (by simp)]; simp
  have e2_1 : w2.cell? ⟨w.heap.size, 1, none⟩ = some (.int .i64 deep) := by rw [hx2.cells.1 _ _ (by simp)]; simp
  have e2_2 : w2.cell? ⟨w.heap.size, 2, none⟩ = some (.slice p n cap) := by rw [hx2.cells.1 _ _ (by simp)]; simp
  have e2_3 : w2.cell? ⟨w.heap.size, 3, none⟩ = some (.int .i64 free) := by rw [hx2.cells.1 _ _ (by simp)]; simp
  have e2_4 : w2.cell? ⟨w.heap.size, 4, none⟩ = some (.int .i64 step) := by rw [hx2.cells.1 _ _ (by simp)]; simp
  have e2_5 : w2.cell? ⟨w.heap.size, 5, none⟩ = some (.int .i64 price) := by rw [hx2.cells.1 _ _ (by simp)]; simp
  have e2_6 : w2.cell? ⟨w.heap.size, 6, none⟩ = some (.int .i64 capp) := by rw [hx2.cells.1 _ _ (by simp)]; simp
  have e2_7 : w2.cell? ⟨w.heap.size, 7, none⟩ = some (.int .i64 clock) := by rw [hx2.cells.1 _ _ (by simp)]; simp
  have e2_8 : w2.cell? ⟨w.heap.size, 8, none⟩ = some (.int .i64 bank) := by rw [hx2.cells.1 _ _ (by simp)]; simp
  have e2_9 : w2.cell? ⟨w.heap.size, 9, none⟩ = some (.slice q m c2) := by rw [hx2.cells.1 _ _ (by simp)]; simp
  clear hz1 e1_0 e1_1 e1_2 e1_3 e1_4 e1_5 e1_6 e1_7 e1_8 e1_9
  go_wp2_with fail
  refine (TV.out _).mono ?_
  rintro e w3 ⟨rfl, ht3⟩
  have hx3 : Ext (w.alloc (.cells #[.int .i64 wide, .int .i64 deep, .slice p n cap, .int .i64 free, .int .i64 step, .int .i64 price, .int .i64 capp, .int .i64 clock, .int .i64 bank, .slice q m c2] 52)) w3 := hx2.trans ht3
  have hz3 : w.heap.size < w3.heap.size := Nat.lt_of_lt_of_le (by simp) hx3.sz
  have e3_0 : w3.cell? ⟨w.heap.size, 0, none⟩ = some (.int .i64 wide) := by rw [hx3.cells.1 _ _ (by simp)]; simp
  have e3_1 : w3.cell? ⟨w.heap.size, 1, none⟩ = some (.int .i64 deep) := by rw [hx3.cells.1 _ _ (by simp)]; simp
  have e3_2 : w3.cell? ⟨w.heap.size, 2, none⟩ = some (.slice p n cap) := by rw [hx3.cells.1 _ _ (by simp)]; simp
  have e3_3 : w3.cell? ⟨w.heap.size, 3, none⟩ = some (.int .i64 free) := by rw [hx3.cells.1 _ _ (by simp)]; simp
  have e3_4 : w3.cell? ⟨w.heap.size, 4, none⟩ = some (.int .i64 step) := by rw [hx3.cells.1 _ _ (by simp)]; simp
  have e3_5 : w3.cell? ⟨w.heap.size, 5, none⟩ = some (.int .i64 price) := by rw [hx3.cells.1 _ _ (by simp)]; simp
  have e3_6 : w3.cell? ⟨w.heap.size, 6, none⟩ = some (.int .i64 capp) := by rw [hx3.cells.1 _ _ (by simp)]; simp
  have e3_7 : w3.cell? ⟨w.heap.size, 7, none⟩ = some (.int .i64 clock) := by rw [hx3.cells.1 _ _ (by simp)]; simp
  have e3_8 : w3.cell? ⟨w.heap.size, 8, none⟩ = some (.int .i64 bank) := by rw [hx3.cells.1 _ _ (by simp)]; simp
  have e3_9 : w3.cell? ⟨w.heap.size, 9, none⟩ = some (.slice q m c2) := by rw [hx3.cells.1 _ _ (by simp)]; simp
  clear hz2 e2_0 e2_1 e2_2 e2_3 e2_4 e2_5 e2_6 e2_7 e2_8 e2_9
  have hco : OwnZ w3 cp Cs.length cc Cs := (own_z (own_ext HCO.out (Ext.trans hh2 ht3)))
  have hxw : Ext w w3 := (Ext.alloc (Ext.refl w) _).trans hx3
  go_wp2_with go_in
  clear hL
  go_loopw [4] (fun i wr => ∃ k : Nat, k ≤ m ∧ i = .int .i64 k ∧ visitsOk clock Cs vs = visitsOk clock (Cs.drop k) (vs.drop k) ∧ Ext w3 wr) (fun i _ => m - (intOf i).toNat)
  case atStart => exact ⟨0, Nat.zero_le _, rfl, rfl, Ext.refl _⟩
  case round =>
    obtain ⟨k, hk, rfl, hok, hE⟩ := hrel
    have hcl : wr.cell? ⟨w.heap.size, 7, none⟩ = some (.int .i64 clock) := (hE.cells.1 _ _ hz3).trans e3_7
    have hcv : wr.cell? ⟨w.heap.size, 9, none⟩ = some (.slice q m c2) := (hE.cells.1 _ _ hz3).trans e3_9
    have hzr : w.heap.size < wr.heap.size := Nat.lt_of_lt_of_le hz3 hE.sz
    have HCL2 := HCL.out
    by_cases hlt : k < m
    · obtain ⟨b, off, a0, a1, a2, a3, rfl, hv, hb, g0, g1, g2, g3⟩ := visit_at (HVS.out.ext (hxw.trans hE)) hlt
      obtain ⟨cb, coff, c, rfl, hc, hcb, gc⟩ := (hco.ext hE).int_at (show k < Cs.length by omega)
      have hfin := Lib.hid (hok.trans (visitsOk_at hc hv))
      have i1 : (0 : Int) ≤ (k : Int) := by omega
      have i2 : (k : Int) < (m : Int) := by omega
      have i3 : (k : Int) < (Cs.length : Int) := by omega
      clear hok hc hv HCL2
      have hSv : Hid (∀ w', Calls Tryd.prog 91 #[stayV a1 a2 a3] w' fun e w'' => e = .returned (.bool (stayOk a1 a2 a3)) ∧ Ext w' w'') := fun w' => specSv a1 a2 a3 w'
      go_wp2_with fail
      by_cases t0 : a0 = c
      · have q0 : (a0 != c) = false := by simp [t0]
        have T0 := Lib.hid t0
        clear t0
        cases hst : stayOk a1 a2 a3 with
        | true =>
          rw [hst] at hSv
          have HST := Lib.hid hst
          clear hst
          by_cases t1 : clock < a3
          · have hf2 : Hid (visitsOk clock Cs vs = false) := by show _ = _; rw [hfin.out]; simp [visitOk, HST.out]; omega
            go_region_held3 (fun w' => w'.cell? ⟨wr.heap.size, 0, none⟩ = some (.int .i64 a0) ∧ w'.cell? ⟨wr.heap.size, 1, none⟩ = some (.int .i64 a1) ∧ w'.cell? ⟨wr.heap.size, 2, none⟩ = some (.int .i64 a2) ∧ w'.cell? ⟨wr.heap.size, 3, none⟩ = some (.int .i64 a3) ∧ w'.cell? ⟨cb, coff + k, none⟩ = some (.int .i64 c) ∧ w'.cell? ⟨w.heap.size, 7, none⟩ = some (.int .i64 clock)) (go_keep) ((go_at_call 91; refine (hSv.out _).mono ?_; rintro e w9 ⟨rfl, h9⟩; (try replace h9 := h9.of_drew); have x9 : Ext wr w9 := (by first | exact ((Ext.refl wr).alloc _).trans h9 | exact (((Ext.refl wr).alloc _).drew).trans h9); have g9a := (x9.cells.1 cb (coff + k) hcb).trans gc; have g9b := (x9.cells.1 w.heap.size 7 hzr).trans hcl; have hc9 := h9.cells.1; have hz9 : wr.heap.size < w9.heap.size := Nat.lt_of_lt_of_le (by simp) h9.sz; have hz10 : w.heap.size < w9.heap.size := Nat.lt_trans hzr hz9; have hz11 : cb < w9.heap.size := Nat.lt_trans hcb hz9))
            all_goals go_wp2
            all_goals go_ret
            all_goals exact ⟨ret_bool hf2.out.symm, by (repeat' (first | exact Ext.refl _ | (with_reducible assumption) | (with_reducible refine Ext.alloc ?_ _) | (with_reducible refine Ext.setCell ?_ (by first | exact Nat.le_refl _ | (dsimp only; omega) | (simp; done) | (simp; omega)) _) | (with_reducible refine Ext.drew ?_) | (with_reducible refine Ext.drewN ?_ _) | (refine Ext.trans ?_ (by with_reducible assumption))))⟩
          · have hf2 : Hid (visitsOk clock Cs vs = visitsOk clock (Cs.drop (k + 1)) (vs.drop (k + 1))) := by show _ = _; rw [hfin.out]; simp [visitOk, HST.out, T0.out]; intro h; omega
            go_region_held3 (fun w' => w'.cell? ⟨wr.heap.size, 0, none⟩ = some (.int .i64 a0) ∧ w'.cell? ⟨wr.heap.size, 1, none⟩ = some (.int .i64 a1) ∧ w'.cell? ⟨wr.heap.size, 2, none⟩ = some (.int .i64 a2) ∧ w'.cell? ⟨wr.heap.size, 3, none⟩ = some (.int .i64 a3) ∧ w'.cell? ⟨cb, coff + k, none⟩ = some (.int .i64 c) ∧ w'.cell? ⟨w.heap.size, 7, none⟩ = some (.int .i64 clock)) (go_keep) ((go_at_call 91; refine (hSv.out _).mono ?_; rintro e w9 ⟨rfl, h9⟩; (try replace h9 := h9.of_drew); have x9 : Ext wr w9 := (by first | exact ((Ext.refl wr).alloc _).trans h9 | exact (((Ext.refl wr).alloc _).drew).trans h9); have g9a := (x9.cells.1 cb (coff + k) hcb).trans gc; have g9b := (x9.cells.1 w.heap.size 7 hzr).trans hcl; have hc9 := h9.cells.1; have hz9 : wr.heap.size < w9.heap.size := Nat.lt_of_lt_of_le (by simp) h9.sz; have hz10 : w.heap.size < w9.heap.size := Nat.lt_trans hzr hz9; have hz11 : cb < w9.heap.size := Nat.lt_trans hcb hz9))
            all_goals go_wp2
            all_goals go_roundw
            all_goals first
              | (case rel => first | exact ⟨k + 1, by omega, by go_num, hf2.out, by (repeat' (first | exact Ext.refl _ | (with_reducible assumption) | (with_reducible refine Ext.alloc ?_ _) | (with_reducible refine Ext.setCell ?_ (by first | exact Nat.le_refl _ | (dsimp only; omega) | (simp; done) | (simp; omega)) _) | (with_reducible refine Ext.drew ?_) | (with_reducible refine Ext.drewN ?_ _) | (refine Ext.trans ?_ (by with_reducible assumption))))⟩ | ((repeat apply Exists.intro); exact ⟨⟨k + 1, by omega, by go_num, hf2.out, by (repeat' (first | exact Ext.refl _ | (with_reducible assumption) | (with_reducible refine Ext.alloc ?_ _) | (with_reducible refine Ext.setCell ?_ (by first | exact Nat.le_refl _ | (dsimp only; omega) | (simp; done) | (simp; omega)) _) | (with_reducible refine Ext.drew ?_) | (with_reducible refine Ext.drewN ?_ _) | (refine Ext.trans ?_ (by with_reducible assumption))))⟩, rfl⟩))
              | (case measure => simp [intOf]; omega)
        | false =>
          rw [hst] at hSv
          have hf2 : Hid (visitsOk clock Cs vs = false) := by show _ = _; rw [hfin.out]; simp [visitOk, hst]
          clear hst
          refine wp_region_held_drew (S := fun w' => w'.cell? ⟨wr.heap.size, 0, none⟩ = some (.int .i64 a0) ∧ w'.cell? ⟨wr.heap.size, 1, none⟩ = some (.int .i64 a1) ∧ w'.cell? ⟨wr.heap.size, 2, none⟩ = some (.int .i64 a2) ∧ w'.cell? ⟨wr.heap.size, 3, none⟩ = some (.int .i64 a3) ∧ w'.cell? ⟨cb, coff + k, none⟩ = some (.int .i64 c)) (by kernel_rfl) (by go_keep) (fun hHeld => ?_)
          refine take_l (i := 0) (v := ?_) rfl (by kernel_rfl) (by kernel_rfl) (by kernel_rfl) (fun _ _ _ h => h) (by rfl) ?_ (by assumption) ?_
          rotate_left
          · (intro w hSw; (try dsimp only at hSw); go_simp; (try with_reducible rfl))
          (try simp only [Act.put, List.setIfInBounds_toArray, List.set_cons_zero, List.set_cons_succ])
          refine take_l (i := 1) (v := ?_) rfl (by kernel_rfl) (by kernel_rfl) (by kernel_rfl) (fun _ _ _ h => h) (by rfl) ?_ (by assumption) ?_
          rotate_left
          · (intro w hSw; (try dsimp only at hSw); go_simp; (try with_reducible rfl))
          (try simp only [Act.put, List.setIfInBounds_toArray, List.set_cons_zero, List.set_cons_succ])
          refine take_l (i := 2) (v := ?_) rfl (by kernel_rfl) (by kernel_rfl) (by kernel_rfl) (fun _ _ _ h => h) (by rfl) ?_ (by assumption) ?_
          rotate_left
          · (intro w hSw; (try dsimp only at hSw); go_simp; (try with_reducible rfl))
          (try simp only [Act.put, List.setIfInBounds_toArray, List.set_cons_zero, List.set_cons_succ])
          refine take_l (i := 3) (v := ?_) rfl (by kernel_rfl) (by kernel_rfl) (by kernel_rfl) (fun _ _ _ h => h) (by rfl) ?_ (by assumption) ?_
          rotate_left
          · (intro w hSw; (try dsimp only at hSw); go_simp; (try with_reducible rfl))
          (try simp only [Act.put, List.setIfInBounds_toArray, List.set_cons_zero, List.set_cons_succ])
          refine take_l (i := 4) (v := ?_) rfl (by kernel_rfl) (by kernel_rfl) (by kernel_rfl) (fun _ _ _ h => h) (by rfl) ?_ (by assumption) ?_
          rotate_left
          · (intro w hSw; (try dsimp only at hSw); go_simp; (try with_reducible rfl))
          (try simp only [Act.put, List.setIfInBounds_toArray, List.set_cons_zero, List.set_cons_succ])
          refine take_l (i := 5) (v := ?_) rfl (by kernel_rfl) (by kernel_rfl) (by kernel_rfl) (fun _ _ _ h => h) (by rfl) ?_ (by assumption) ?_
          rotate_left
          · (intro w hSw; (try dsimp only at hSw); go_simp; (try with_reducible rfl))
          (try simp only [Act.put, List.setIfInBounds_toArray, List.set_cons_zero, List.set_cons_succ])
          refine take_l (i := 6) (v := ?_) rfl (by kernel_rfl) (by kernel_rfl) (by kernel_rfl) (fun _ _ _ h => h) (by rfl) ?_ (by assumption) ?_
          rotate_left
          · (intro w hSw; (try dsimp only at hSw); go_simp; (try with_reducible rfl))
          (try simp only [Act.put, List.setIfInBounds_toArray, List.set_cons_zero, List.set_cons_succ])
          refine take_l (i := 7) (v := ?_) rfl (by kernel_rfl) (by kernel_rfl) (by kernel_rfl) (fun _ _ _ h => h) (by rfl) ?_ (by assumption) ?_
          rotate_left
          · (intro w hSw; (try dsimp only at hSw); go_simp; (try with_reducible rfl))
          (try simp only [Act.put, List.setIfInBounds_toArray, List.set_cons_zero, List.set_cons_succ])
          refine take_l (i := 8) (v := ?_) rfl (by kernel_rfl) (by kernel_rfl) (by kernel_rfl) (fun _ _ _ h => h) (by rfl) ?_ (by assumption) ?_
          rotate_left
          · (intro w hSw; (try dsimp only at hSw); go_simp; (try with_reducible rfl))
          (try simp only [Act.put, List.setIfInBounds_toArray, List.set_cons_zero, List.set_cons_succ])
          refine take_l (i := 9) (v := ?_) rfl (by kernel_rfl) (by kernel_rfl) (by kernel_rfl) (fun _ _ _ h => h) (by rfl) ?_ (by assumption) ?_
          rotate_left
          · (intro w hSw; (try dsimp only at hSw); go_simp; (try with_reducible rfl))
          (try simp only [Act.put, List.setIfInBounds_toArray, List.set_cons_zero, List.set_cons_succ])
          refine wpAnyH_ready (rs := [10]) (by kernel_rfl) (by simp) ?_
          refine cons_l rfl (fun K hK => ?_)
          go_simp
          go_at_call 91
          refine (hSv.out _).mono ?_
          rintro e w9 ⟨rfl, h9⟩
          (try replace h9 := h9.of_drew)
          have x9 : Ext wr w9 := (by first | exact ((Ext.refl wr).alloc _).trans h9 | exact (((Ext.refl wr).alloc _).drew).trans h9)
          have g9a := (x9.cells.1 cb (coff + k) hcb).trans gc
          have hc9 := h9.cells.1
          have hz9 : wr.heap.size < w9.heap.size := Nat.lt_of_lt_of_le (by simp) h9.sz
          go_wp2_with fail
          refine hK.out _ _ (by (try dsimp only); go_keep) (fun hHeld => ?_)
          clear hK K
          (try simp only [Act.put, List.setIfInBounds_toArray, List.set_cons_zero, List.set_cons_succ])
          refine take_l (i := 11) (v := ?_) rfl (by kernel_rfl) (by kernel_rfl) (by kernel_rfl) (fun _ _ _ h => h) (by rfl) ?_ (by assumption) ?_
          rotate_left
          · (intro w hSw; (try dsimp only at hSw); go_simp; (try with_reducible rfl))
          (try simp only [Act.put, List.setIfInBounds_toArray, List.set_cons_zero, List.set_cons_succ])
          refine take_l (i := 12) (v := ?_) rfl (by kernel_rfl) (by kernel_rfl) (by kernel_rfl) (fun _ _ _ h => h) (by rfl) ?_ (by assumption) ?_
          rotate_left
          · (intro w hSw; (try dsimp only at hSw); go_simp; (try with_reducible rfl))
          (try simp only [Act.put, List.setIfInBounds_toArray, List.set_cons_zero, List.set_cons_succ])
          refine take_l (i := 13) (v := ?_) rfl (by kernel_rfl) (by kernel_rfl) (by kernel_rfl) (fun _ _ _ h => h) (by rfl) ?_ (by assumption) ?_
          rotate_left
          · (intro w hSw; (try dsimp only at hSw); go_simp; (try with_reducible rfl))
          (try simp only [Act.put, List.setIfInBounds_toArray, List.set_cons_zero, List.set_cons_succ])
          refine skip_l (i := 14) rfl (by kernel_rfl) (by kernel_rfl) (by kernel_rfl) (fun _ _ _ h => h) (by rfl) (by assumption) ?_
          (try simp only [Act.put, List.setIfInBounds_toArray, List.set_cons_zero, List.set_cons_succ])
          refine skip_l (i := 15) rfl (by kernel_rfl) (by kernel_rfl) (by kernel_rfl) (fun _ _ _ h => h) (by rfl) (by assumption) ?_
          (try simp only [Act.put, List.setIfInBounds_toArray, List.set_cons_zero, List.set_cons_succ])
          refine skip_l (i := 16) rfl (by kernel_rfl) (by kernel_rfl) (by kernel_rfl) (fun _ _ _ h => h) (by rfl) (by assumption) ?_
          (try simp only [Act.put, List.setIfInBounds_toArray, List.set_cons_zero, List.set_cons_succ])
          refine skip_l (i := 17) rfl (by kernel_rfl) (by kernel_rfl) (by kernel_rfl) (fun _ _ _ h => h) (by rfl) (by assumption) ?_
          (try simp only [Act.put, List.setIfInBounds_toArray, List.set_cons_zero, List.set_cons_succ])
          refine skip_l (i := 18) rfl (by kernel_rfl) (by kernel_rfl) (by kernel_rfl) (fun _ _ _ h => h) (by rfl) (by assumption) ?_
          (try simp only [Act.put, List.setIfInBounds_toArray, List.set_cons_zero, List.set_cons_succ])
          refine skip_l (i := 19) rfl (by kernel_rfl) (by kernel_rfl) (by kernel_rfl) (fun _ _ _ h => h) (by rfl) (by assumption) ?_
          (try simp only [Act.put, List.setIfInBounds_toArray, List.set_cons_zero, List.set_cons_succ])
          refine take_l (i := 20) (v := ?_) rfl (by kernel_rfl) (by kernel_rfl) (by kernel_rfl) (fun _ _ _ h => h) (by rfl) ?_ (by assumption) ?_
          rotate_left
          · (intro w hSw; (try dsimp only at hSw); go_simp; (try with_reducible rfl))
          (try simp only [Act.put, List.setIfInBounds_toArray, List.set_cons_zero, List.set_cons_succ])
          refine wpAnyH_done (by kernel_rfl) ?_ _
          all_goals go_wp2
          all_goals go_ret
          all_goals exact ⟨ret_bool hf2.out.symm, by (repeat' (first | exact Ext.refl _ | (with_reducible assumption) | (with_reducible refine Ext.alloc ?_ _) | (with_reducible refine Ext.setCell ?_ (by first | exact Nat.le_refl _ | (dsimp only; omega) | (simp; done) | (simp; omega)) _) | (with_reducible refine Ext.drew ?_) | (with_reducible refine Ext.drewN ?_ _) | (refine Ext.trans ?_ (by with_reducible assumption))))⟩
      · have q0 : (a0 != c) = true := by simp [t0]
        have hf2 : Hid (visitsOk clock Cs vs = false) := by show _ = _; rw [hfin.out]; simp [t0]
        clear t0
        go_quiet (fail)
        all_goals go_wp2
        all_goals go_ret
        all_goals exact ⟨ret_bool hf2.out.symm, by (repeat' (first | exact Ext.refl _ | (with_reducible assumption) | (with_reducible refine Ext.alloc ?_ _) | (with_reducible refine Ext.setCell ?_ (by first | exact Nat.le_refl _ | (dsimp only; omega) | (simp; done) | (simp; omega)) _) | (with_reducible refine Ext.drew ?_) | (with_reducible refine Ext.drewN ?_ _) | (refine Ext.trans ?_ (by with_reducible assumption))))⟩
    · have hfin : Hid (visitsOk clock Cs vs = true) := by
        show _ = _
        rw [hok, List.drop_eq_nil_of_le (by rw [HCL.out]; omega), List.drop_eq_nil_of_le (by rw [HVL.out]; omega)]; rfl
      clear hok
      go_wp2
      go_ret
      exact ⟨ret_bool hfin.out.symm, by (repeat' (first | exact Ext.refl _ | (with_reducible assumption) | (with_reducible refine Ext.alloc ?_ _) | (with_reducible refine Ext.setCell ?_ (by first | exact Nat.le_refl _ | (dsimp only; omega) | (simp; done) | (simp; omega)) _) | (with_reducible refine Ext.drew ?_) | (with_reducible refine Ext.drewN ?_ _) | (refine Ext.trans ?_ (by with_reducible assumption))))⟩

theorem specHouse (h : HouseD) (p : Option Addr) (n cap : Nat) (q : Option Addr) (m c2 : Nat) (w : World) (hi : IsHouse w h p n cap q m c2) :
    Calls Tryd.prog 55 #[houseV h p n cap q m c2] w fun e w' => e = .returned (.bool (houseOk h)) ∧ Ext w w' := by
  obtain ⟨wide, deep, cells, free, step, price, capp, clock, bank, vs⟩ := h
  have hm := hi.vs.bd
  have hvl := hi.vlen
  have hcl := hi.clen
  have HV := fun (w' : World) (hx : Ext w w') => specHv wide deep p n cap cells w' (hi.cells.ext hx)
  have HC := fun (w' : World) (hx : Ext w w') => specHc wide deep p n cap cells w' (hi.cells.ext hx)
  have TV := fun (w' : World) => specTv free step price capp w'
  unfold houseOk
  simp only at hvl hcl HV HC TV ⊢
  cases h1 : hallOk wide deep cells with
  | false =>
    rw [h1] at HV HC
    simpa using specHo_bad1 wide deep free step price capp clock bank p n cap q m c2 w hm _ HC HV
  | true =>
    rw [h1] at HV HC
    rw [if_pos rfl] at HC
    cases h2 : tariffOk free step price capp with
    | false =>
      rw [h2] at TV
      simpa using specHo_bad2 wide deep free step price capp clock bank p n cap q m c2 w hm _ HC HV TV
    | true =>
      rw [h2] at TV
      by_cases h3 : 0 ≤ clock ∧ clock ≤ 9999 ∧ 0 ≤ bank ∧ bank ≤ 99999
      · obtain ⟨a1, a2, a3, a4⟩ := h3
        have hn : numsOk ⟨wide, deep, cells, free, step, price, capp, clock, bank, vs⟩ = true := by simp [numsOk, a1, a2, a3, a4]
        rw [hn]
        by_cases hL : (carsOf cells).length = m
        · simpa using specHo_main wide deep free step price capp clock bank p n cap q m c2 w hm (carsOf cells) HC HV TV a1 a2 a3 a4 (by simp [hL]) hL (by
            have e1 := carsOf_len cells; have e2 := posOfL_le cells
            have e3 : cells.length ≤ 12 := by simp only [hallOk, Bool.and_eq_true] at h1; exact (shape_bd h1.1).2.2.2.2.2.1
            omega) vs hi.vs
        · rw [visitsOk_ne (by omega)]
          simpa using specHo_bad4 wide deep free step price capp clock bank p n cap q m c2 w hm (carsOf cells) HC HV TV a1 a2 a3 a4 (by simp; omega)
      · have hn : numsOk ⟨wide, deep, cells, free, step, price, capp, clock, bank, vs⟩ = false := by simp [numsOk]; omega
        rw [hn]
        simpa using specHo_bad3 wide deep free step price capp clock bank p n cap q m c2 w hm _ HC HV TV (by omega)

end Go.Proofs.YtncfnlocdlhagaaDoor

/-
  The laws' helpers on lists of numbers, visits, halls, tariffs and houses: to, sz, eq. Conditions: slices read as lists of at most 2^40 elements.
-/
namespace Go.Proofs.YtncfnlocdlhagaaDoor
open Go.RowKit
set_option linter.unusedVariables false

abbrev TV : TypeId := 99
abbrev visitV (a b c d : Int) : Value := .agg #[.int .i64 a, .int .i64 b, .int .i64 c, .int .i64 d]
theorem Blk.four {w : World} {g : Nat} {t : TypeId} {a b c d : Value} (h : Blk w g t #[a, b, c, d]) : w.cell? ⟨g, 0, none⟩ = some a ∧ w.cell? ⟨g, 1, none⟩ = some b ∧ w.cell? ⟨g, 2, none⟩ = some c ∧ w.cell? ⟨g, 3, none⟩ = some d ∧ w.frozen? ⟨g, 0, none⟩ = false ∧ w.frozen? ⟨g, 1, none⟩ = false ∧ w.frozen? ⟨g, 2, none⟩ = false ∧ w.frozen? ⟨g, 3, none⟩ = false :=
  ⟨h.cell 0, h.cell 1, h.cell 2, h.cell 3, h.frozen 0, h.frozen 1, h.frozen 2, h.frozen 3⟩

theorem get_next {xs : List Int} {k n : Nat} (h : k < n) (hl : (xs.take k).length = k) : (ivs (xs.take k ++ List.replicate (n - k) 0))[k]? = some (.int .i64 0) := by
  simp only [ivs, List.map_append]
  rw [List.getElem?_append_right (by rw [List.length_map, hl]; exact Nat.le_refl _), List.length_map, hl, Nat.sub_self]
  rw [show n - k = (n - (k + 1)) + 1 by omega, List.replicate_succ]; rfl

theorem set_next {xs : List Int} {k n : Nat} {x : Int} (h : k < n) (hx : xs[k]? = some x) (hl : (xs.take k).length = k) : (ivs (xs.take k ++ List.replicate (n - k) 0)).set k (.int .i64 x) = ivs (xs.take (k + 1) ++ List.replicate (n - (k + 1)) 0) := by
  rw [take_snocL hx]
  rw [show n - k = (n - (k + 1)) + 1 by omega, List.replicate_succ]
  simp only [ivs, List.map_append, List.map_cons]
  rw [List.set_append_right _ _ (by rw [List.length_map, hl]; exact Nat.le_refl _)]
  simp only [List.length_map, hl, Nat.sub_self, List.set_cons_zero]
  simp [iv]

set_option maxRecDepth 100000 in
set_option maxHeartbeats 1000000 in
theorem toIntS_any (p : Option Addr) (n cap : Nat) (xs : List Int) (w : World) (hn : n ≤ 1099511627776) (hS : Sl w p n cap 1 (ivs xs)) :
    Calls Tryd.prog 92 #[.slice p n cap] w (RetInts xs w) := by
  obtain ⟨i0, hi, hz0, hz1, hz2⟩ := info_parts (show (Tryd.prog.info? 3).map (fun i => (i.zero, i.size, i.bytes)) = some (some (.int .i64 0), 1, 8) by kernel_rfl)
  have hl := Lib.hid hS.ilen
  have HS := Lib.hid hS
  clear hS
  go_enter Tryd.func92, Tryd.ntmps92
  go_wp2_with (at_make; refine wpList_make_full _ rfl _ _ 38 rfl w.heap.size 3 i0 (.int .i64 0) 1 Tryd.underlying38 hi hz0 hz1 .i64 .i64 _ _ n rfl rfl rfl rfl (by rw [hz2]; omega) (by unfold maxLen; omega) (Nat.le_refl _) ?_; intro w0 hown0 hgrow0)
  have hE0 : Ext w w0 := (Ext.refl w).grown hgrow0 (fun q hq => by cases hq)
  have hg0 := (hown0.lt w.heap.size rfl).2
  rw [made_zero] at hown0
  have HO0 := Lib.hid hown0
  clear hown0 hgrow0 hi hz0 hz1 hz2
  go_loopw [4] (fun i wr => ∃ k : Nat, k ≤ n ∧ i = .int .i64 k ∧ wr.ownsRow w.heap.size TI 1 (.slice (some ⟨w.heap.size, 0, none⟩) n n) n (ivs (xs.take k ++ List.replicate (n - k) 0)) ∧ Ext w wr) (fun i _ => n - (intOf i).toNat)
  case atStart => exact ⟨0, Nat.zero_le _, rfl, by simpa using HO0.out, hE0⟩
  case round =>
    obtain ⟨k, hk, rfl, hown, hE⟩ := hrel
    by_cases hlt : k < n
    · obtain ⟨b, off, x, rfl, hx, hb, hcell⟩ := (HS.out.ext hE).int_at hlt
      have HX := Lib.hid hx
      have hlt' : (xs.take k).length = k := by rw [List.length_take, hl.out]; omega
      have o0 : wr.cell? ⟨w.heap.size, k, none⟩ = some (.int .i64 0) := by
        rw [hown.cellAt k (by omega)]
        exact get_next hlt hlt'
      have f0 : wr.frozen? ⟨w.heap.size, k, none⟩ = false := hown.frozenAt k
      have HN : Hid ((wr.setCell ⟨w.heap.size, k, none⟩ (.int .i64 x)).ownsRow w.heap.size TI 1 (.slice (some ⟨w.heap.size, 0, none⟩) n n) n (ivs (xs.take (k + 1) ++ List.replicate (n - (k + 1)) 0))) := by
        have := (hown.stored k (.int .i64 x)).1
        rw [set_next hlt HX.out hlt'] at this
        exact this
      have hsz := hE.sz
      clear hown hx
      go_wp2
      go_roundw
      case rel => exact ⟨k + 1, by omega, by go_num, HN.out, by (repeat' (first | exact Ext.refl _ | (with_reducible assumption) | (with_reducible refine Ext.alloc ?_ _) | (with_reducible refine Ext.setCell ?_ (by first | exact Nat.le_refl _ | (dsimp only; omega) | (simp; done) | (simp; omega)) _) | (with_reducible refine Ext.drew ?_) | (with_reducible refine Ext.drewN ?_ _) | (refine Ext.trans ?_ (by with_reducible assumption))))⟩
      case measure => simp [intOf]; omega
    · obtain rfl : k = n := by omega
      have e : xs.take k = xs := List.take_of_length_le (by rw [hl.out]; exact Nat.le_refl _)
      have HO := Lib.hid (show wr.ownsRow w.heap.size TI 1 (.slice (some ⟨w.heap.size, 0, none⟩) k k) k (ivs xs) by rw [e] at hown; simpa using hown)
      clear hown e
      go_wp2
      go_ret
      exact ret_ints hl.out HO.out hE

set_option maxRecDepth 100000 in
set_option maxHeartbeats 1000000 in
theorem eqIntS_any (p q : Option Addr) (n c1 c2 : Nat) (xs : List Int) (w : World) (h1 : Sl w p n c1 1 (ivs xs)) (h2 : Sl w q n c2 1 (ivs xs)) :
    Calls Tryd.prog 95 #[.slice p n c1, .slice q n c2] w fun e w' => e = .returned (.bool true) ∧ Ext w w' := by
  have hn := h1.bd
  have H1 := Lib.hid h1
  have H2 := Lib.hid h2
  clear h1 h2
  go_enter Tryd.func95, Tryd.ntmps95
  go_wp2
  go_loopw [5] (fun i wr => ∃ k : Nat, k ≤ n ∧ i = .int .i64 k ∧ Ext w wr) (fun i _ => n - (intOf i).toNat)
  case atStart => exact ⟨0, Nat.zero_le _, rfl, Ext.refl _⟩
  case round =>
    obtain ⟨k, hk, rfl, hE⟩ := hrel
    by_cases hlt : k < n
    · obtain ⟨b, off, x, rfl, hx, hb, hcell⟩ := (H1.out.ext hE).int_at hlt
      obtain ⟨b2, off2, y, rfl, hy, hb2, hcell2⟩ := (H2.out.ext hE).int_at hlt
      rw [hx] at hy
      injection hy with hy
      subst hy
      clear hx
      have i1 : (0 : Int) ≤ (k : Int) := by omega
      have i2 : (k : Int) < (n : Int) := by omega
      go_wp2
      go_quiet (fail)
      go_wp2
      go_roundw
      case rel => exact ⟨k + 1, by omega, by go_num, by (repeat' (first | exact Ext.refl _ | (with_reducible assumption) | (with_reducible refine Ext.alloc ?_ _) | (with_reducible refine Ext.setCell ?_ (by first | exact Nat.le_refl _ | (dsimp only; omega) | (simp; done) | (simp; omega)) _) | (with_reducible refine Ext.drew ?_) | (with_reducible refine Ext.drewN ?_ _) | (refine Ext.trans ?_ (by with_reducible assumption))))⟩
      case measure => simp [intOf]; omega
    · go_wp2
      go_ret
      exact ⟨rfl, hE⟩

set_option maxRecDepth 100000 in
set_option maxHeartbeats 1000000 in
theorem szIntS_any (p : Option Addr) (n cap : Nat) (left : Int) (w : World) (hn : n ≤ 9223372036854775807) (hl : 0 ≤ left) (hl2 : left ≤ 1048576) :
    Calls Tryd.prog 89 #[.slice p n cap, .int .i64 left] w fun e w' => e = .returned (.int .i64 (if left < n then -1 else left - n)) ∧ w = w' := by
  by_cases h : left < n
  · rw [if_pos h]
    go_enter Tryd.func89, Tryd.ntmps89
    go_wp2
    go_ret
    exact ⟨rfl, rfl⟩
  · rw [if_neg h]
    go_enter Tryd.func89, Tryd.ntmps89
    go_wp2
    go_ret
    exact ⟨rfl, rfl⟩
set_option maxRecDepth 100000 in
set_option maxHeartbeats 1000000 in
theorem szVisitS_any (p : Option Addr) (n cap : Nat) (left : Int) (w : World) (hn : n ≤ 9223372036854775807) (hl : 0 ≤ left) (hl2 : left ≤ 1048576) :
    Calls Tryd.prog 54 #[.slice p n cap, .int .i64 left] w fun e w' => e = .returned (.int .i64 (if left < n then -1 else left - n)) ∧ w = w' := by
  by_cases h : left < n
  · rw [if_pos h]
    go_enter Tryd.func54, Tryd.ntmps54
    go_wp2
    go_ret
    exact ⟨rfl, rfl⟩
  · rw [if_neg h]
    go_enter Tryd.func54, Tryd.ntmps54
    go_wp2
    go_ret
    exact ⟨rfl, rfl⟩
set_option maxRecDepth 100000 in
set_option maxHeartbeats 1000000 in
theorem szHouse_any (h : HouseD) (p : Option Addr) (n cap : Nat) (q : Option Addr) (m c2 : Nat) (w : World) (hn : n ≤ 9223372036854775807) (hm : m ≤ 9223372036854775807) :
    Calls Tryd.prog 18 #[houseV h p n cap q m c2, .int .i64 1048576] w fun e w' => e = .returned (.int .i64 (if 1048576 < n + m then -1 else 1048576 - n - m)) ∧ Ext w w' := by
  obtain ⟨wide, deep, cells, free, step, price, capp, clock, bank, vs⟩ := h
  by_cases h1 : (1048576 : Int) < n
  · have HA : Hid (∀ w, Calls Tryd.prog 89 #[.slice p n cap, .int .i64 1048576] w fun e w' => e = .returned (.int .i64 (-1)) ∧ w = w') := fun w => by have := szIntS_any p n cap 1048576 w hn (by omega) (by omega); rwa [if_pos h1] at this
    rw [if_pos (by omega)]
    go_enter Tryd.func18, Tryd.ntmps18
    go_wp2_with (first | (go_at_call 89; refine (HA.out _).mono ?_; rintro e w1 ⟨rfl, rfl⟩) | go_in)
    go_ret
    exact ⟨rfl, by (repeat' (first | exact Ext.refl _ | (with_reducible assumption) | (with_reducible refine Ext.alloc ?_ _) | (with_reducible refine Ext.setCell ?_ (by first | exact Nat.le_refl _ | (dsimp only; omega) | (simp; done) | (simp; omega)) _) | (with_reducible refine Ext.drew ?_) | (with_reducible refine Ext.drewN ?_ _) | (refine Ext.trans ?_ (by with_reducible assumption))))⟩
  · have HA : Hid (∀ w, Calls Tryd.prog 89 #[.slice p n cap, .int .i64 1048576] w fun e w' => e = .returned (.int .i64 (1048576 - n)) ∧ w = w') := fun w => by have := szIntS_any p n cap 1048576 w hn (by omega) (by omega); rwa [if_neg h1] at this
    by_cases h2 : (1048576 - n : Int) < m
    · have HB : Hid (∀ w, Calls Tryd.prog 54 #[.slice q m c2, .int .i64 (1048576 - n)] w fun e w' => e = .returned (.int .i64 (-1)) ∧ w = w') := fun w => by have := szVisitS_any q m c2 (1048576 - n) w hm (by omega) (by omega); rwa [if_pos h2] at this
      rw [if_pos (by omega)]
      go_enter Tryd.func18, Tryd.ntmps18
      go_wp2_with (first | (go_at_call 89; refine (HA.out _).mono ?_; rintro e w1 ⟨rfl, rfl⟩) | (go_at_call 54; refine (HB.out _).mono ?_; rintro e w1 ⟨rfl, rfl⟩) | go_in)
      go_ret
      exact ⟨rfl, by (repeat' (first | exact Ext.refl _ | (with_reducible assumption) | (with_reducible refine Ext.alloc ?_ _) | (with_reducible refine Ext.setCell ?_ (by first | exact Nat.le_refl _ | (dsimp only; omega) | (simp; done) | (simp; omega)) _) | (with_reducible refine Ext.drew ?_) | (with_reducible refine Ext.drewN ?_ _) | (refine Ext.trans ?_ (by with_reducible assumption))))⟩
    · have HB : Hid (∀ w, Calls Tryd.prog 54 #[.slice q m c2, .int .i64 (1048576 - n)] w fun e w' => e = .returned (.int .i64 (1048576 - n - m)) ∧ w = w') := fun w => by have := szVisitS_any q m c2 (1048576 - n) w hm (by omega) (by omega); rwa [if_neg h2] at this
      rw [if_neg (by omega)]
      go_enter Tryd.func18, Tryd.ntmps18
      go_wp2_with (first | (go_at_call 89; refine (HA.out _).mono ?_; rintro e w1 ⟨rfl, rfl⟩) | (go_at_call 54; refine (HB.out _).mono ?_; rintro e w1 ⟨rfl, rfl⟩) | go_in)
      go_ret
      exact ⟨rfl, by (repeat' (first | exact Ext.refl _ | (with_reducible assumption) | (with_reducible refine Ext.alloc ?_ _) | (with_reducible refine Ext.setCell ?_ (by first | exact Nat.le_refl _ | (dsimp only; omega) | (simp; done) | (simp; omega)) _) | (with_reducible refine Ext.drew ?_) | (with_reducible refine Ext.drewN ?_ _) | (refine Ext.trans ?_ (by with_reducible assumption))))⟩

set_option maxRecDepth 100000 in
set_option maxHeartbeats 1000000 in
theorem toTariff_any (f s p c : Int) (w : World) : Calls Tryd.prog 60 #[tariffV f s p c] w fun e w' => e = .returned (tariffV f s p c) ∧ Ext w w' := by
  go_enter Tryd.func60, Tryd.ntmps60
  go_wp2
  exact bodyPost_ret (v := tariffV f s p c) (by simp [results, Tryd.results60, go_sem]) rfl ⟨rfl, by (repeat' (first | exact Ext.refl _ | (with_reducible assumption) | (with_reducible refine Ext.alloc ?_ _) | (with_reducible refine Ext.setCell ?_ (by first | exact Nat.le_refl _ | (dsimp only; omega) | (simp; done) | (simp; omega)) _) | (with_reducible refine Ext.drew ?_) | (with_reducible refine Ext.drewN ?_ _) | (refine Ext.trans ?_ (by with_reducible assumption))))⟩
set_option maxRecDepth 100000 in
set_option maxHeartbeats 1000000 in
theorem toVisit_any (a b c d : Int) (w : World) : Calls Tryd.prog 93 #[visitV a b c d] w fun e w' => e = .returned (visitV a b c d) ∧ Ext w w' := by
  go_enter Tryd.func93, Tryd.ntmps93
  go_wp2_with go_in
  exact bodyPost_ret (v := visitV a b c d) (by simp [results, Tryd.results93, go_sem]) rfl ⟨rfl, by (repeat' (first | exact Ext.refl _ | (with_reducible assumption) | (with_reducible refine Ext.alloc ?_ _) | (with_reducible refine Ext.setCell ?_ (by first | exact Nat.le_refl _ | (dsimp only; omega) | (simp; done) | (simp; omega)) _) | (with_reducible refine Ext.drew ?_) | (with_reducible refine Ext.drewN ?_ _) | (refine Ext.trans ?_ (by with_reducible assumption))))⟩
set_option maxRecDepth 100000 in
set_option maxHeartbeats 1000000 in
theorem eqTariff_any (f s p c : Int) (w : World) : Calls Tryd.prog 65 #[tariffV f s p c, tariffV f s p c] w fun e w' => e = .returned (.bool true) ∧ Ext w w' := by
  go_enter Tryd.func65, Tryd.ntmps65
  go_wp2
  go_ret
  exact ⟨rfl, by (repeat' (first | exact Ext.refl _ | (with_reducible assumption) | (with_reducible refine Ext.alloc ?_ _) | (with_reducible refine Ext.setCell ?_ (by first | exact Nat.le_refl _ | (dsimp only; omega) | (simp; done) | (simp; omega)) _) | (with_reducible refine Ext.drew ?_) | (with_reducible refine Ext.drewN ?_ _) | (refine Ext.trans ?_ (by with_reducible assumption))))⟩
set_option maxRecDepth 100000 in
set_option maxHeartbeats 1000000 in
theorem eqStay_any (a b c : Int) (w : World) : Calls Tryd.prog 112 #[stayV a b c, stayV a b c] w fun e w' => e = .returned (.bool true) ∧ Ext w w' := by
  go_enter Tryd.func112, Tryd.ntmps112
  go_wp2
  go_ret
  exact ⟨rfl, by (repeat' (first | exact Ext.refl _ | (with_reducible assumption) | (with_reducible refine Ext.alloc ?_ _) | (with_reducible refine Ext.setCell ?_ (by first | exact Nat.le_refl _ | (dsimp only; omega) | (simp; done) | (simp; omega)) _) | (with_reducible refine Ext.drew ?_) | (with_reducible refine Ext.drewN ?_ _) | (refine Ext.trans ?_ (by with_reducible assumption))))⟩
set_option maxRecDepth 100000 in
set_option maxHeartbeats 1000000 in
theorem eqVisit_any (a b c d : Int) (w : World) : Calls Tryd.prog 96 #[visitV a b c d, visitV a b c d] w fun e w' => e = .returned (.bool true) ∧ Ext w w' := by
  go_enter Tryd.func96, Tryd.ntmps96
  go_wp2_with fail
  refine (eqStay_any b c d _).mono ?_
  rintro e w1 ⟨rfl, h1⟩
  go_wp2
  go_ret
  exact ⟨rfl, by (repeat' (first | exact Ext.refl _ | (with_reducible assumption) | (with_reducible refine Ext.alloc ?_ _) | (with_reducible refine Ext.setCell ?_ (by first | exact Nat.le_refl _ | (dsimp only; omega) | (simp; done) | (simp; omega)) _) | (with_reducible refine Ext.drew ?_) | (with_reducible refine Ext.drewN ?_ _) | (refine Ext.trans ?_ (by with_reducible assumption))))⟩

/-- visits in a slice of the call's own -/
def RetVisits (vs : List Visit4) (w : World) (e : Ending) (w' : World) : Prop :=
  ∃ p cap, e = .returned (.slice p vs.length cap) ∧ w'.ownsRow w.heap.size TV 4 (.slice p vs.length cap) vs.length (vs.flatMap visitCells) ∧ Ext w w'
theorem ret_visits {p : Option Addr} {n cap : Nat} {vs : List Visit4} {w w' : World} (hn : vs.length = n) (ho : w'.ownsRow w.heap.size TV 4 (.slice p n cap) n (vs.flatMap visitCells)) (hx : Ext w w') : RetVisits vs w (.returned (.slice p n cap)) w' := by
  subst hn; exact ⟨p, cap, rfl, ho, hx⟩
def vz : Visit4 := (0, 0, 0, 0)
theorem made_visits (n : Nat) : (madeCells (visitV 0 0 0 0).cells (n * 4)).toList = (List.replicate n vz).flatMap visitCells := by
  apply List.ext_getElem?
  intro j
  by_cases hj : j < n * 4
  · have h1 : j / 4 < n := by omega
    have hv : (List.replicate n vz)[j / 4]? = some vz := by simp [h1]
    have := flat_get visitCells 4 (fun _ => rfl) _ _ _ hv (j % 4) (by omega)
    rw [show j / 4 * 4 + j % 4 = j by omega] at this
    rw [this]
    simp [madeCells, Value.cells, hj]
    have : j % 4 = 0 ∨ j % 4 = 1 ∨ j % 4 = 2 ∨ j % 4 = 3 := by omega
    rcases this with h | h | h | h <;> simp [h, visitCells, vz]
  · rw [List.getElem?_eq_none (by simp [madeCells]; omega), List.getElem?_eq_none (by rw [flat_len visitCells 4 (fun _ => rfl)]; simp; omega)]
theorem vset_next {vs : List Visit4} {k n : Nat} {a b c d : Int} (h : k < n) (hx : vs[k]? = some (a, b, c, d)) (hl : (vs.take k).length = k) :
    (((((vs.take k ++ List.replicate (n - k) vz).flatMap visitCells).set (k * 4) (.int .i64 a)).set (k * 4 + 1) (.int .i64 b)).set (k * 4 + 2) (.int .i64 c)).set (k * 4 + 3) (.int .i64 d) = (vs.take (k + 1) ++ List.replicate (n - (k + 1)) vz).flatMap visitCells := by
  rw [take_snocL hx, show n - k = (n - (k + 1)) + 1 by omega, List.replicate_succ]
  have hf : ((vs.take k).flatMap visitCells).length = k * 4 := by rw [flat_len visitCells 4 (fun _ => rfl), hl]
  simp only [List.flatMap_append, List.flatMap_cons, List.append_assoc]
  generalize (vs.take k).flatMap visitCells = A at hf
  rw [List.set_append_right _ _ (by omega), List.set_append_right _ _ (by omega), List.set_append_right _ _ (by omega), List.set_append_right _ _ (by omega)]
  simp [hf, visitCells, vz]
theorem vget_next {vs : List Visit4} {k n : Nat} (h : k < n) (hl : (vs.take k).length = k) (j : Nat) (hj : j < 4) : ((vs.take k ++ List.replicate (n - k) vz).flatMap visitCells)[k * 4 + j]? = some (.int .i64 0) := by
  have hv : (vs.take k ++ List.replicate (n - k) vz)[k]? = some vz := by
    rw [List.getElem?_append_right (by omega), hl, Nat.sub_self, List.getElem?_replicate, if_pos (by omega)]
  rw [flat_get visitCells 4 (fun _ => rfl) _ _ _ hv j hj]
  match j, hj with
  | 0, _ => rfl
  | 1, _ => rfl
  | 2, _ => rfl
  | 3, _ => rfl

set_option maxRecDepth 100000 in
set_option maxHeartbeats 1000000 in
theorem toVisitS_any (p : Option Addr) (n cap : Nat) (vs : List Visit4) (w : World) (hn : n ≤ 1099511627776) (hS : Sl w p n cap 4 (vs.flatMap visitCells)) :
    Calls Tryd.prog 61 #[.slice p n cap] w (RetVisits vs w) := by
  obtain ⟨i0, hi, hz0, hz1, hz2⟩ := info_parts (show (Tryd.prog.info? TV).map (fun i => (i.zero, i.size, i.bytes)) = some (some (visitV 0 0 0 0), 4, 32) by kernel_rfl)
  have hl0 : vs.length = n := by have := hS.len; rw [flat_len visitCells 4 (fun _ => rfl)] at this; omega
  have hl := Lib.hid hl0
  have HS := Lib.hid hS
  clear hS hl0
  go_enter Tryd.func61, Tryd.ntmps61
  go_wp2_with (at_make; refine wpList_make_full _ rfl _ _ 50 rfl w.heap.size TV i0 (visitV 0 0 0 0) 4 Tryd.underlying50 hi hz0 hz1 .i64 .i64 _ _ n rfl rfl rfl rfl (by rw [hz2]; omega) (by unfold maxLen; omega) (Nat.le_refl _) ?_; intro w0 hown0 hgrow0)
  have hE0 : Ext w w0 := (Ext.refl w).grown hgrow0 (fun q hq => by cases hq)
  have hg0 := (hown0.lt w.heap.size rfl).2
  rw [made_visits] at hown0
  have HO0 := Lib.hid hown0
  clear hown0 hgrow0 hi hz0 hz1 hz2
  go_loopw [4] (fun i wr => ∃ k : Nat, k ≤ n ∧ i = .int .i64 k ∧ wr.ownsRow w.heap.size TV 4 (.slice (some ⟨w.heap.size, 0, none⟩) n n) n ((vs.take k ++ List.replicate (n - k) vz).flatMap visitCells) ∧ Ext w wr) (fun i _ => n - (intOf i).toNat)
  case atStart => exact ⟨0, Nat.zero_le _, rfl, by rw [List.take_zero, List.nil_append, Nat.sub_zero]; exact HO0.out, hE0⟩
  case round =>
    obtain ⟨k, hk, rfl, hown, hE⟩ := hrel
    by_cases hlt : k < n
    · obtain ⟨b, off, a0, a1, a2, a3, rfl, hx, hb, g0, g1, g2, g3⟩ := visit_at (HS.out.ext hE) hlt
      have HX := Lib.hid hx
      have hlt' : (vs.take k).length = k := by rw [List.length_take, hl.out]; omega
      have HOWN := Lib.hid hown
      have HLT := Lib.hid hlt'
      clear hown hx hlt'
      go_wp2_with fail
      refine (toVisit_any a0 a1 a2 a3 _).mono ?_
      rintro e w1 ⟨rfl, h1⟩
      have how1 := own_ext HOWN.out h1
      have hg1 : w.heap.size < w1.heap.size := (how1.lt w.heap.size rfl).2
      have o0 : w1.cell? ⟨w.heap.size, k * 4, none⟩ = some (.int .i64 0) := (how1.cellAt _ (by omega)).trans (vget_next hlt HLT.out 0 (by omega))
      have o1 : w1.cell? ⟨w.heap.size, k * 4 + 1, none⟩ = some (.int .i64 0) := (how1.cellAt _ (by omega)).trans (vget_next hlt HLT.out 1 (by omega))
      have o2 : w1.cell? ⟨w.heap.size, k * 4 + 2, none⟩ = some (.int .i64 0) := (how1.cellAt _ (by omega)).trans (vget_next hlt HLT.out 2 (by omega))
      have o3 : w1.cell? ⟨w.heap.size, k * 4 + 3, none⟩ = some (.int .i64 0) := (how1.cellAt _ (by omega)).trans (vget_next hlt HLT.out 3 (by omega))
      have f0 : w1.frozen? ⟨w.heap.size, k * 4, none⟩ = false := how1.frozenAt _
      have f1 : w1.frozen? ⟨w.heap.size, k * 4 + 1, none⟩ = false := how1.frozenAt _
      have f2 : w1.frozen? ⟨w.heap.size, k * 4 + 2, none⟩ = false := how1.frozenAt _
      have f3 : w1.frozen? ⟨w.heap.size, k * 4 + 3, none⟩ = false := how1.frozenAt _
      have hst := ((((how1.stored (k * 4) (.int .i64 a0)).1.stored (k * 4 + 1) (.int .i64 a1)).1.stored (k * 4 + 2) (.int .i64 a2)).1.stored (k * 4 + 3) (.int .i64 a3)).1
      rw [vset_next hlt HX.out HLT.out] at hst
      have HST := Lib.hid hst
      clear how1 hst
      go_wp2
      go_roundw
      case rel => exact ⟨k + 1, by omega, by go_num, HST.out, by (repeat' (first | exact Ext.refl _ | (with_reducible assumption) | (with_reducible refine Ext.alloc ?_ _) | (with_reducible refine Ext.setCell ?_ (by first | exact Nat.le_refl _ | (dsimp only; omega) | (simp; done) | (simp; omega)) _) | (with_reducible refine Ext.drew ?_) | (with_reducible refine Ext.drewN ?_ _) | (refine Ext.trans ?_ (by with_reducible assumption))))⟩
      case measure => simp [intOf]; omega
    · obtain rfl : k = n := by omega
      have e : vs.take k = vs := List.take_of_length_le (by rw [hl.out]; exact Nat.le_refl _)
      have HO := Lib.hid (show wr.ownsRow w.heap.size TV 4 (.slice (some ⟨w.heap.size, 0, none⟩) k k) k (vs.flatMap visitCells) by rw [e] at hown; simpa using hown)
      clear hown e
      go_wp2
      go_ret
      exact ret_visits hl.out HO.out hE

set_option maxRecDepth 100000 in
set_option maxHeartbeats 1000000 in
theorem eqVisitS_any (p q : Option Addr) (n c1 c2 : Nat) (vs : List Visit4) (w : World) (h1 : Sl w p n c1 4 (vs.flatMap visitCells)) (h2 : Sl w q n c2 4 (vs.flatMap visitCells)) :
    Calls Tryd.prog 66 #[.slice p n c1, .slice q n c2] w fun e w' => e = .returned (.bool true) ∧ Ext w w' := by
  have hn := h1.bd
  have H1 := Lib.hid h1
  have H2 := Lib.hid h2
  clear h1 h2
  go_enter Tryd.func66, Tryd.ntmps66
  go_wp2
  go_loopw [5] (fun i wr => ∃ k : Nat, k ≤ n ∧ i = .int .i64 k ∧ Ext w wr) (fun i _ => n - (intOf i).toNat)
  case atStart => exact ⟨0, Nat.zero_le _, rfl, Ext.refl _⟩
  case round =>
    obtain ⟨k, hk, rfl, hE⟩ := hrel
    by_cases hlt : k < n
    · obtain ⟨b, off, a0, a1, a2, a3, rfl, hx, hb, g0, g1, g2, g3⟩ := visit_at (H1.out.ext hE) hlt
      obtain ⟨b2, off2, d0, d1, d2, d3, rfl, hy, hb2, k0, k1, k2, k3⟩ := visit_at (H2.out.ext hE) hlt
      rw [hx] at hy
      injection hy with hy
      simp only [Prod.mk.injEq] at hy
      obtain ⟨rfl, rfl, rfl, rfl⟩ := hy
      clear hx
      have i1 : (0 : Int) ≤ (k : Int) := by omega
      have i2 : (k : Int) < (n : Int) := by omega
      have HQ : Hid (∀ w, Calls Tryd.prog 96 #[visitV a0 a1 a2 a3, visitV a0 a1 a2 a3] w fun e w' => e = .returned (.bool true) ∧ Ext w w') := fun w => eqVisit_any a0 a1 a2 a3 w
      go_wp2
      go_region_held3 (fun w' => w'.cell? ⟨b, off + k * 4, none⟩ = some (.int .i64 a0) ∧ w'.cell? ⟨b, off + k * 4 + 1, none⟩ = some (.int .i64 a1) ∧ w'.cell? ⟨b, off + k * 4 + 2, none⟩ = some (.int .i64 a2) ∧ w'.cell? ⟨b, off + k * 4 + 3, none⟩ = some (.int .i64 a3) ∧ w'.cell? ⟨b2, off2 + k * 4, none⟩ = some (.int .i64 a0) ∧ w'.cell? ⟨b2, off2 + k * 4 + 1, none⟩ = some (.int .i64 a1) ∧ w'.cell? ⟨b2, off2 + k * 4 + 2, none⟩ = some (.int .i64 a2) ∧ w'.cell? ⟨b2, off2 + k * 4 + 3, none⟩ = some (.int .i64 a3)) (go_keep) ((go_at_call 96; refine (HQ.out _).mono ?_; rintro e w1 ⟨rfl, h1⟩; (try replace h1 := h1.of_drew); have hce := h1.cells.1))
      all_goals go_wp2
      all_goals go_roundw
      all_goals first
        | (case rel => exact ⟨k + 1, by omega, by go_num, by (repeat' (first | exact Ext.refl _ | (with_reducible assumption) | (with_reducible refine Ext.alloc ?_ _) | (with_reducible refine Ext.setCell ?_ (by first | exact Nat.le_refl _ | (dsimp only; omega) | (simp; done) | (simp; omega)) _) | (with_reducible refine Ext.drew ?_) | (with_reducible refine Ext.drewN ?_ _) | (refine Ext.trans ?_ (by with_reducible assumption))))⟩)
        | (case measure => simp [intOf]; omega)
    · go_wp2
      go_ret
      exact ⟨rfl, hE⟩
end Go.Proofs.YtncfnlocdlhagaaDoor

/-
  The laws' helpers on halls and houses: toHall, toHouse, eqHall, eqHouse. Conditions: slices read as lists of at most 2^40 elements.
-/
namespace Go.Proofs.YtncfnlocdlhagaaDoor
open Go.RowKit
set_option linter.unusedVariables false

theorem own_set {w : World} {B n sz : Nat} {e : TypeId} {v : Value} {xs : List Value} (h : w.ownsRow B e sz v n xs) {p : Addr} (hp : p.block < B) (u : Value) : (w.setCell p u).ownsRow B e sz v n xs := by
  refine h.kept (row := some p.block) ⟨rfl, rfl, rfl, by simp [World.setCell], fun i hi hne => Below.heap_setCell w p u i (fun e => hne (by rw [e]))⟩ (.inr (fun hh => ?_))
  have := h.lt _ hh
  omega
set_option maxRecDepth 100000 in
set_option maxHeartbeats 1000000 in
theorem toHall_any (wide deep : Int) (p : Option Addr) (n cap : Nat) (xs : List Int) (w : World) (hn : n ≤ 1099511627776) (hS : Sl w p n cap 1 (ivs xs)) :
    Calls Tryd.prog 59 #[hallV wide deep p n cap] w (RetHall wide deep xs w) := by
  have hl := hS.ilen
  have HS := Lib.hid hS
  subst hl
  clear hS
  go_enter Tryd.func59, Tryd.ntmps59
  go_wp2_with fail
  refine (toIntS_any p _ cap xs _ hn (HS.out.ext (by (repeat' (first | exact Ext.refl _ | (with_reducible assumption) | (with_reducible refine Ext.alloc ?_ _) | (with_reducible refine Ext.setCell ?_ (by first | exact Nat.le_refl _ | (dsimp only; omega) | (simp; done) | (simp; omega)) _) | (with_reducible refine Ext.drew ?_) | (with_reducible refine Ext.drewN ?_ _) | (refine Ext.trans ?_ (by with_reducible assumption))))))).mono ?_
  rintro e w1 ⟨q, c, rfl, ho, hx⟩
  obtain ⟨hc, hf⟩ := hx.cells
  have hz : w.heap.size + 2 < w1.heap.size := Nat.lt_of_lt_of_le (by simp) hx.sz
  have hz1 : w.heap.size + 1 < w1.heap.size := by omega
  have hz0 : w.heap.size < w1.heap.size := by omega
  have HO := Lib.hid (show w1.ownsRow (w.heap.size + 3) TI 1 (.slice q xs.length c) xs.length (ivs xs) by simpa using ho)
  have hxw : Ext w w1 := ((((Ext.refl w).alloc _).alloc _).alloc _).trans hx
  clear ho hx
  go_wp2
  exact bodyPost_ret (v := hallV wide deep q xs.length c) (by simp [results, Tryd.results59, go_sem, *]) rfl ⟨q, c, rfl, own_base (own_set (own_set (own_set (own_set HO.out (by dsimp only; omega) _) (by dsimp only; omega) _) (by dsimp only; omega) _) (by dsimp only; omega) _) (by omega), by (repeat' (first | exact Ext.refl _ | (with_reducible assumption) | (with_reducible refine Ext.alloc ?_ _) | (with_reducible refine Ext.setCell ?_ (by first | exact Nat.le_refl _ | (dsimp only; omega) | (simp; done) | (simp; omega)) _) | (with_reducible refine Ext.drew ?_) | (with_reducible refine Ext.drewN ?_ _) | (refine Ext.trans ?_ (by with_reducible assumption))))⟩

/-- a house of the call's own -/
def RetHouse (h : HouseD) (w : World) (e : Ending) (w' : World) : Prop :=
  ∃ p cap q c2, e = .returned (houseV h p h.cells.length cap q h.vs.length c2) ∧ w'.ownsRow w.heap.size TI 1 (.slice p h.cells.length cap) h.cells.length (ivs h.cells) ∧ w'.ownsRow w.heap.size TV 4 (.slice q h.vs.length c2) h.vs.length (h.vs.flatMap visitCells) ∧ Ext w w'

set_option maxRecDepth 100000 in
set_option maxHeartbeats 1000000 in
theorem toHouse_any (h : HouseD) (p : Option Addr) (n cap : Nat) (q : Option Addr) (m c2 : Nat) (w : World) (hn : n ≤ 1099511627776) (hm : m ≤ 1099511627776) (hi : IsHouse w h p n cap q m c2) :
    Calls Tryd.prog 20 #[houseV h p n cap q m c2] w (RetHouse h w) := by
  have hl := hi.clen
  have hvl := hi.vlen
  have HI := Lib.hid hi
  subst hl hvl
  clear hi
  obtain ⟨wide, deep, cells, free, step, price, capp, clock, bank, vs⟩ := h
  obtain ⟨HN, HM⟩ : Hid (cells.length ≤ 1099511627776) ∧ Hid (vs.length ≤ 1099511627776) := ⟨hn, hm⟩
  clear hn hm
  go_enter Tryd.func20, Tryd.ntmps20
  go_wp2_with fail
  refine (toHall_any wide deep p _ cap cells _ HN.out (HI.out.cells.ext (by (repeat' (first | exact Ext.refl _ | (with_reducible assumption) | (with_reducible refine Ext.alloc ?_ _) | (with_reducible refine Ext.setCell ?_ (by first | exact Nat.le_refl _ | (dsimp only; omega) | (simp; done) | (simp; omega)) _) | (with_reducible refine Ext.drew ?_) | (with_reducible refine Ext.drewN ?_ _) | (refine Ext.trans ?_ (by with_reducible assumption))))))).mono ?_
  rintro e w1 ⟨p1, c1, rfl, ho1, hx1⟩
  have BA := Lib.hid ((((Blk.new w 45 #[.int .i64 wide, .int .i64 deep, .slice p cells.length cap, .int .i64 free, .int .i64 step, .int .i64 price, .int .i64 capp, .int .i64 clock, .int .i64 bank, .slice q vs.length c2]).alloc (.cells #[.int .i64 0, .int .i64 0, .slice none 0 0, .int .i64 0, .int .i64 0, .int .i64 0, .int .i64 0, .int .i64 0, .int .i64 0, .slice none 0 0] 52)).alloc (.cells #[.int .i64 0, .int .i64 0, .slice none 0 0, .int .i64 0, .int .i64 0, .int .i64 0, .int .i64 0, .int .i64 0, .int .i64 0, .slice none 0 0] 52)).ext hx1)
  have BR := Lib.hid (((Blk.new (w.alloc (.cells #[.int .i64 wide, .int .i64 deep, .slice p cells.length cap, .int .i64 free, .int .i64 step, .int .i64 price, .int .i64 capp, .int .i64 clock, .int .i64 bank, .slice q vs.length c2] 45)) 52 #[.int .i64 0, .int .i64 0, .slice none 0 0, .int .i64 0, .int .i64 0, .int .i64 0, .int .i64 0, .int .i64 0, .int .i64 0, .slice none 0 0]).alloc (.cells #[.int .i64 0, .int .i64 0, .slice none 0 0, .int .i64 0, .int .i64 0, .int .i64 0, .int .i64 0, .int .i64 0, .int .i64 0, .slice none 0 0] 52)).ext hx1)
  have BO := Lib.hid ((Blk.new ((w.alloc (.cells #[.int .i64 wide, .int .i64 deep, .slice p cells.length cap, .int .i64 free, .int .i64 step, .int .i64 price, .int .i64 capp, .int .i64 clock, .int .i64 bank, .slice q vs.length c2] 45)).alloc (.cells #[.int .i64 0, .int .i64 0, .slice none 0 0, .int .i64 0, .int .i64 0, .int .i64 0, .int .i64 0, .int .i64 0, .int .i64 0, .slice none 0 0] 52)) 52 #[.int .i64 0, .int .i64 0, .slice none 0 0, .int .i64 0, .int .i64 0, .int .i64 0, .int .i64 0, .int .i64 0, .int .i64 0, .slice none 0 0]).ext hx1)
  simp only [World.size_alloc] at BR BO
  have ha2 : w.heap.size + 2 < w1.heap.size := Nat.lt_of_lt_of_le (by simp) hx1.sz
  have HO1 := Lib.hid (show w1.ownsRow (w.heap.size + 3) TI 1 (.slice p1 cells.length c1) cells.length (ivs cells) by simpa using ho1)
  have HX1 := Lib.hid (((((Ext.refl w).alloc _).alloc _).alloc _).trans hx1)
  clear ho1 hx1
  have a3 : w1.cell? ⟨w.heap.size, 3, none⟩ = some (.int .i64 free) := BA.out.cell 3
  have a4 : w1.cell? ⟨w.heap.size, 4, none⟩ = some (.int .i64 step) := BA.out.cell 4
  have a5 : w1.cell? ⟨w.heap.size, 5, none⟩ = some (.int .i64 price) := BA.out.cell 5
  have a6 : w1.cell? ⟨w.heap.size, 6, none⟩ = some (.int .i64 capp) := BA.out.cell 6
  have o0 : w1.cell? ⟨w.heap.size + 1 + 1, 0, none⟩ = some (.int .i64 0) := BO.out.cell 0
  have o1 : w1.cell? ⟨w.heap.size + 1 + 1, 1, none⟩ = some (.int .i64 0) := BO.out.cell 1
  have o2 : w1.cell? ⟨w.heap.size + 1 + 1, 2, none⟩ = some (.slice none 0 0) := BO.out.cell 2
  have of0 : w1.frozen? ⟨w.heap.size + 1 + 1, 0, none⟩ = false := BO.out.frozen 0
  have of1 : w1.frozen? ⟨w.heap.size + 1 + 1, 1, none⟩ = false := BO.out.frozen 1
  have of2 : w1.frozen? ⟨w.heap.size + 1 + 1, 2, none⟩ = false := BO.out.frozen 2
  go_wp2_with fail
  clear a3 a4 a5 a6 o0 o1 o2 of0 of1 of2
  refine (toTariff_any free step price capp _).mono ?_
  rintro e w2 ⟨rfl, hx2⟩
  have BO2 := Lib.hid (show Blk w2 (w.heap.size + 1 + 1) 52 #[.int .i64 wide, .int .i64 deep, .slice p1 cells.length c1, .int .i64 0, .int .i64 0, .int .i64 0, .int .i64 0, .int .i64 0, .int .i64 0, .slice none 0 0] by have hb := (((BO.out.set 0 (.int .i64 wide)).set 1 (.int .i64 deep)).set 2 (.slice p1 cells.length c1)).ext hx2; simpa only [List.setIfInBounds_toArray, List.set_cons_zero, List.set_cons_succ] using hb)
  have BA2 := Lib.hid ((((BA.out.far (p := ⟨w.heap.size + 1 + 1, 0, none⟩) (by dsimp only; omega) (.int .i64 wide)).far (p := ⟨w.heap.size + 1 + 1, 1, none⟩) (by dsimp only; omega) (.int .i64 deep)).far (p := ⟨w.heap.size + 1 + 1, 2, none⟩) (by dsimp only; omega) (.slice p1 cells.length c1)).ext hx2)
  have BR2 := Lib.hid ((((BR.out.far (p := ⟨w.heap.size + 1 + 1, 0, none⟩) (by dsimp only; omega) (.int .i64 wide)).far (p := ⟨w.heap.size + 1 + 1, 1, none⟩) (by dsimp only; omega) (.int .i64 deep)).far (p := ⟨w.heap.size + 1 + 1, 2, none⟩) (by dsimp only; omega) (.slice p1 cells.length c1)).ext hx2)
  have hs2 := hx2.sz
  simp only [World.size_setCell] at hs2
  have HO2 := Lib.hid (own_ext (own_set (own_set (own_set HO1.out (by dsimp only; omega) _) (by dsimp only; omega) _) (by dsimp only; omega) _) hx2)
  have HX2 := Lib.hid ((((HX1.out.setCell (p := ⟨w.heap.size + 1 + 1, 0, none⟩) (by dsimp only; omega) (.int .i64 wide)).setCell (p := ⟨w.heap.size + 1 + 1, 1, none⟩) (by dsimp only; omega) (.int .i64 deep)).setCell (p := ⟨w.heap.size + 1 + 1, 2, none⟩) (by dsimp only; omega) (.slice p1 cells.length c1)).trans hx2)
  clear hx2 BO BA BR HO1 HX1
  have a7 : w2.cell? ⟨w.heap.size, 7, none⟩ = some (.int .i64 clock) := BA2.out.cell 7
  have a8 : w2.cell? ⟨w.heap.size, 8, none⟩ = some (.int .i64 bank) := BA2.out.cell 8
  have a9 : w2.cell? ⟨w.heap.size, 9, none⟩ = some (.slice q vs.length c2) := BA2.out.cell 9
  have o3 : w2.cell? ⟨w.heap.size + 1 + 1, 3, none⟩ = some (.int .i64 0) := BO2.out.cell 3
  have o4 : w2.cell? ⟨w.heap.size + 1 + 1, 4, none⟩ = some (.int .i64 0) := BO2.out.cell 4
  have o5 : w2.cell? ⟨w.heap.size + 1 + 1, 5, none⟩ = some (.int .i64 0) := BO2.out.cell 5
  have o6 : w2.cell? ⟨w.heap.size + 1 + 1, 6, none⟩ = some (.int .i64 0) := BO2.out.cell 6
  have o7 : w2.cell? ⟨w.heap.size + 1 + 1, 7, none⟩ = some (.int .i64 0) := BO2.out.cell 7
  have o8 : w2.cell? ⟨w.heap.size + 1 + 1, 8, none⟩ = some (.int .i64 0) := BO2.out.cell 8
  have of3 : w2.frozen? ⟨w.heap.size + 1 + 1, 3, none⟩ = false := BO2.out.frozen 3
  have of4 : w2.frozen? ⟨w.heap.size + 1 + 1, 4, none⟩ = false := BO2.out.frozen 4
  have of5 : w2.frozen? ⟨w.heap.size + 1 + 1, 5, none⟩ = false := BO2.out.frozen 5
  have of6 : w2.frozen? ⟨w.heap.size + 1 + 1, 6, none⟩ = false := BO2.out.frozen 6
  have of7 : w2.frozen? ⟨w.heap.size + 1 + 1, 7, none⟩ = false := BO2.out.frozen 7
  have of8 : w2.frozen? ⟨w.heap.size + 1 + 1, 8, none⟩ = false := BO2.out.frozen 8
  go_wp2_with fail
  clear a7 a8 a9 o3 of3 o4 of4 o5 of5 o6 of6 o7 of7 o8 of8
  refine (toVisitS_any q _ c2 vs _ HM.out (HI.out.vs.ext ((((((HX2.out.setCell (p := ⟨w.heap.size + 1 + 1, 3, none⟩) (by dsimp only; omega) (.int .i64 free)).setCell (p := ⟨w.heap.size + 1 + 1, 4, none⟩) (by dsimp only; omega) (.int .i64 step)).setCell (p := ⟨w.heap.size + 1 + 1, 5, none⟩) (by dsimp only; omega) (.int .i64 price)).setCell (p := ⟨w.heap.size + 1 + 1, 6, none⟩) (by dsimp only; omega) (.int .i64 capp)).setCell (p := ⟨w.heap.size + 1 + 1, 7, none⟩) (by dsimp only; omega) (.int .i64 clock)).setCell (p := ⟨w.heap.size + 1 + 1, 8, none⟩) (by dsimp only; omega) (.int .i64 bank)))).mono ?_
  rintro e w3 ⟨q3, c3, rfl, ho3, hx3⟩
  have BO3 := Lib.hid (show Blk w3 (w.heap.size + 1 + 1) 52 #[.int .i64 wide, .int .i64 deep, .slice p1 cells.length c1, .int .i64 free, .int .i64 step, .int .i64 price, .int .i64 capp, .int .i64 clock, .int .i64 bank, .slice none 0 0] by have hb := ((((((BO2.out.set 3 (.int .i64 free)).set 4 (.int .i64 step)).set 5 (.int .i64 price)).set 6 (.int .i64 capp)).set 7 (.int .i64 clock)).set 8 (.int .i64 bank)).ext hx3; simpa only [List.setIfInBounds_toArray, List.set_cons_zero, List.set_cons_succ] using hb)
  have BR3 := Lib.hid (((((((BR2.out.far (p := ⟨w.heap.size + 1 + 1, 3, none⟩) (by dsimp only; omega) (.int .i64 free)).far (p := ⟨w.heap.size + 1 + 1, 4, none⟩) (by dsimp only; omega) (.int .i64 step)).far (p := ⟨w.heap.size + 1 + 1, 5, none⟩) (by dsimp only; omega) (.int .i64 price)).far (p := ⟨w.heap.size + 1 + 1, 6, none⟩) (by dsimp only; omega) (.int .i64 capp)).far (p := ⟨w.heap.size + 1 + 1, 7, none⟩) (by dsimp only; omega) (.int .i64 clock)).far (p := ⟨w.heap.size + 1 + 1, 8, none⟩) (by dsimp only; omega) (.int .i64 bank)).ext hx3)
  have hs3 := hx3.sz
  simp only [World.size_setCell] at hs3
  have HO3 := Lib.hid (own_ext (own_set (own_set (own_set (own_set (own_set (own_set HO2.out (p := ⟨w.heap.size + 1 + 1, 3, none⟩) (by dsimp only; omega) (.int .i64 free)) (p := ⟨w.heap.size + 1 + 1, 4, none⟩) (by dsimp only; omega) (.int .i64 step)) (p := ⟨w.heap.size + 1 + 1, 5, none⟩) (by dsimp only; omega) (.int .i64 price)) (p := ⟨w.heap.size + 1 + 1, 6, none⟩) (by dsimp only; omega) (.int .i64 capp)) (p := ⟨w.heap.size + 1 + 1, 7, none⟩) (by dsimp only; omega) (.int .i64 clock)) (p := ⟨w.heap.size + 1 + 1, 8, none⟩) (by dsimp only; omega) (.int .i64 bank)) hx3)
  have HX3 := Lib.hid (((((((HX2.out.setCell (p := ⟨w.heap.size + 1 + 1, 3, none⟩) (by dsimp only; omega) (.int .i64 free)).setCell (p := ⟨w.heap.size + 1 + 1, 4, none⟩) (by dsimp only; omega) (.int .i64 step)).setCell (p := ⟨w.heap.size + 1 + 1, 5, none⟩) (by dsimp only; omega) (.int .i64 price)).setCell (p := ⟨w.heap.size + 1 + 1, 6, none⟩) (by dsimp only; omega) (.int .i64 capp)).setCell (p := ⟨w.heap.size + 1 + 1, 7, none⟩) (by dsimp only; omega) (.int .i64 clock)).setCell (p := ⟨w.heap.size + 1 + 1, 8, none⟩) (by dsimp only; omega) (.int .i64 bank)).trans hx3)
  have HV3 := Lib.hid (own_base ho3 (B' := w.heap.size + 3) (by simp only [World.size_setCell]; omega))
  clear hx3 ho3 BO2 BA2 BR2 HO2 HX2
  have o0 : w3.cell? ⟨w.heap.size + 1 + 1, 0, none⟩ = some (.int .i64 wide) := BO3.out.cell 0
  have o1 : w3.cell? ⟨w.heap.size + 1 + 1, 1, none⟩ = some (.int .i64 deep) := BO3.out.cell 1
  have o2 : w3.cell? ⟨w.heap.size + 1 + 1, 2, none⟩ = some (.slice p1 cells.length c1) := BO3.out.cell 2
  have o3 : w3.cell? ⟨w.heap.size + 1 + 1, 3, none⟩ = some (.int .i64 free) := BO3.out.cell 3
  have o4 : w3.cell? ⟨w.heap.size + 1 + 1, 4, none⟩ = some (.int .i64 step) := BO3.out.cell 4
  have o5 : w3.cell? ⟨w.heap.size + 1 + 1, 5, none⟩ = some (.int .i64 price) := BO3.out.cell 5
  have o6 : w3.cell? ⟨w.heap.size + 1 + 1, 6, none⟩ = some (.int .i64 capp) := BO3.out.cell 6
  have o7 : w3.cell? ⟨w.heap.size + 1 + 1, 7, none⟩ = some (.int .i64 clock) := BO3.out.cell 7
  have o8 : w3.cell? ⟨w.heap.size + 1 + 1, 8, none⟩ = some (.int .i64 bank) := BO3.out.cell 8
  have o9 : w3.cell? ⟨w.heap.size + 1 + 1, 9, none⟩ = some (.slice none 0 0) := BO3.out.cell 9
  have of9 : w3.frozen? ⟨w.heap.size + 1 + 1, 9, none⟩ = false := BO3.out.frozen 9
  have r0 : w3.cell? ⟨w.heap.size + 1, 0, none⟩ = some (.int .i64 0) := BR3.out.cell 0
  have r1 : w3.cell? ⟨w.heap.size + 1, 1, none⟩ = some (.int .i64 0) := BR3.out.cell 1
  have r2 : w3.cell? ⟨w.heap.size + 1, 2, none⟩ = some (.slice none 0 0) := BR3.out.cell 2
  have r3 : w3.cell? ⟨w.heap.size + 1, 3, none⟩ = some (.int .i64 0) := BR3.out.cell 3
  have r4 : w3.cell? ⟨w.heap.size + 1, 4, none⟩ = some (.int .i64 0) := BR3.out.cell 4
  have r5 : w3.cell? ⟨w.heap.size + 1, 5, none⟩ = some (.int .i64 0) := BR3.out.cell 5
  have r6 : w3.cell? ⟨w.heap.size + 1, 6, none⟩ = some (.int .i64 0) := BR3.out.cell 6
  have r7 : w3.cell? ⟨w.heap.size + 1, 7, none⟩ = some (.int .i64 0) := BR3.out.cell 7
  have r8 : w3.cell? ⟨w.heap.size + 1, 8, none⟩ = some (.int .i64 0) := BR3.out.cell 8
  have r9 : w3.cell? ⟨w.heap.size + 1, 9, none⟩ = some (.slice none 0 0) := BR3.out.cell 9
  have rf0 : w3.frozen? ⟨w.heap.size + 1, 0, none⟩ = false := BR3.out.frozen 0
  have rf1 : w3.frozen? ⟨w.heap.size + 1, 1, none⟩ = false := BR3.out.frozen 1
  have rf2 : w3.frozen? ⟨w.heap.size + 1, 2, none⟩ = false := BR3.out.frozen 2
  have rf3 : w3.frozen? ⟨w.heap.size + 1, 3, none⟩ = false := BR3.out.frozen 3
  have rf4 : w3.frozen? ⟨w.heap.size + 1, 4, none⟩ = false := BR3.out.frozen 4
  have rf5 : w3.frozen? ⟨w.heap.size + 1, 5, none⟩ = false := BR3.out.frozen 5
  have rf6 : w3.frozen? ⟨w.heap.size + 1, 6, none⟩ = false := BR3.out.frozen 6
  have rf7 : w3.frozen? ⟨w.heap.size + 1, 7, none⟩ = false := BR3.out.frozen 7
  have rf8 : w3.frozen? ⟨w.heap.size + 1, 8, none⟩ = false := BR3.out.frozen 8
  have rf9 : w3.frozen? ⟨w.heap.size + 1, 9, none⟩ = false := BR3.out.frozen 9
  go_wp2
  exact bodyPost_ret (v := .agg #[.int .i64 wide, .int .i64 deep, .slice p1 cells.length c1, .int .i64 free, .int .i64 step, .int .i64 price, .int .i64 capp, .int .i64 clock, .int .i64 bank, .slice q3 vs.length c3]) (by simp [results, Tryd.results20, go_sem, *]) rfl ⟨p1, c1, q3, c3, rfl, own_base (own_set (own_set (own_set (own_set (own_set (own_set (own_set (own_set (own_set (own_set (own_set HO3.out (p := ⟨w.heap.size + 1 + 1, 9, none⟩) (by dsimp only; omega) (.slice q3 vs.length c3)) (p := ⟨w.heap.size + 1, 0, none⟩) (by dsimp only; omega) (.int .i64 wide)) (p := ⟨w.heap.size + 1, 1, none⟩) (by dsimp only; omega) (.int .i64 deep)) (p := ⟨w.heap.size + 1, 2, none⟩) (by dsimp only; omega) (.slice p1 cells.length c1)) (p := ⟨w.heap.size + 1, 3, none⟩) (by dsimp only; omega) (.int .i64 free)) (p := ⟨w.heap.size + 1, 4, none⟩) (by dsimp only; omega) (.int .i64 step)) (p := ⟨w.heap.size + 1, 5, none⟩) (by dsimp only; omega) (.int .i64 price)) (p := ⟨w.heap.size + 1, 6, none⟩) (by dsimp only; omega) (.int .i64 capp)) (p := ⟨w.heap.size + 1, 7, none⟩) (by dsimp only; omega) (.int .i64 clock)) (p := ⟨w.heap.size + 1, 8, none⟩) (by dsimp only; omega) (.int .i64 bank)) (p := ⟨w.heap.size + 1, 9, none⟩) (by dsimp only; omega) (.slice q3 vs.length c3)) (by omega), own_base (own_set (own_set (own_set (own_set (own_set (own_set (own_set (own_set (own_set (own_set (own_set HV3.out (p := ⟨w.heap.size + 1 + 1, 9, none⟩) (by dsimp only; omega) (.slice q3 vs.length c3)) (p := ⟨w.heap.size + 1, 0, none⟩) (by dsimp only; omega) (.int .i64 wide)) (p := ⟨w.heap.size + 1, 1, none⟩) (by dsimp only; omega) (.int .i64 deep)) (p := ⟨w.heap.size + 1, 2, none⟩) (by dsimp only; omega) (.slice p1 cells.length c1)) (p := ⟨w.heap.size + 1, 3, none⟩) (by dsimp only; omega) (.int .i64 free)) (p := ⟨w.heap.size + 1, 4, none⟩) (by dsimp only; omega) (.int .i64 step)) (p := ⟨w.heap.size + 1, 5, none⟩) (by dsimp only; omega) (.int .i64 price)) (p := ⟨w.heap.size + 1, 6, none⟩) (by dsimp only; omega) (.int .i64 capp)) (p := ⟨w.heap.size + 1, 7, none⟩) (by dsimp only; omega) (.int .i64 clock)) (p := ⟨w.heap.size + 1, 8, none⟩) (by dsimp only; omega) (.int .i64 bank)) (p := ⟨w.heap.size + 1, 9, none⟩) (by dsimp only; omega) (.slice q3 vs.length c3)) (by omega), (((((((((((HX3.out.setCell (p := ⟨w.heap.size + 1 + 1, 9, none⟩) (by dsimp only; omega) (.slice q3 vs.length c3)).setCell (p := ⟨w.heap.size + 1, 0, none⟩) (by dsimp only; omega) (.int .i64 wide)).setCell (p := ⟨w.heap.size + 1, 1, none⟩) (by dsimp only; omega) (.int .i64 deep)).setCell (p := ⟨w.heap.size + 1, 2, none⟩) (by dsimp only; omega) (.slice p1 cells.length c1)).setCell (p := ⟨w.heap.size + 1, 3, none⟩) (by dsimp only; omega) (.int .i64 free)).setCell (p := ⟨w.heap.size + 1, 4, none⟩) (by dsimp only; omega) (.int .i64 step)).setCell (p := ⟨w.heap.size + 1, 5, none⟩) (by dsimp only; omega) (.int .i64 price)).setCell (p := ⟨w.heap.size + 1, 6, none⟩) (by dsimp only; omega) (.int .i64 capp)).setCell (p := ⟨w.heap.size + 1, 7, none⟩) (by dsimp only; omega) (.int .i64 clock)).setCell (p := ⟨w.heap.size + 1, 8, none⟩) (by dsimp only; omega) (.int .i64 bank)).setCell (p := ⟨w.heap.size + 1, 9, none⟩) (by dsimp only; omega) (.slice q3 vs.length c3))⟩
end Go.Proofs.YtncfnlocdlhagaaDoor

/-
  The laws' eqHall, eqHouse at equal halls and houses. Conditions: slices read as lists.
-/
namespace Go.Proofs.YtncfnlocdlhagaaDoor
open Go.RowKit
set_option linter.unusedVariables false

set_option maxRecDepth 100000 in
set_option maxHeartbeats 1000000 in
theorem eqHall_any (wide deep : Int) (p q : Option Addr) (n c1 c2 : Nat) (xs : List Int) (w : World) (h1 : Sl w p n c1 1 (ivs xs)) (h2 : Sl w q n c2 1 (ivs xs)) :
    Calls Tryd.prog 64 #[hallV wide deep p n c1, hallV wide deep q n c2] w fun e w' => e = .returned (.bool true) ∧ Ext w w' := by
  have H1 := Lib.hid h1
  have H2 := Lib.hid h2
  clear h1 h2
  go_enter Tryd.func64, Tryd.ntmps64
  go_wp2_with fail
  refine (eqIntS_any p q n c1 c2 xs _ (H1.out.ext (by (repeat' (first | exact Ext.refl _ | (with_reducible assumption) | (with_reducible refine Ext.alloc ?_ _) | (with_reducible refine Ext.setCell ?_ (by first | exact Nat.le_refl _ | (dsimp only; omega) | (simp; done) | (simp; omega)) _) | (with_reducible refine Ext.drew ?_) | (with_reducible refine Ext.drewN ?_ _) | (refine Ext.trans ?_ (by with_reducible assumption)))))) (H2.out.ext (by (repeat' (first | exact Ext.refl _ | (with_reducible assumption) | (with_reducible refine Ext.alloc ?_ _) | (with_reducible refine Ext.setCell ?_ (by first | exact Nat.le_refl _ | (dsimp only; omega) | (simp; done) | (simp; omega)) _) | (with_reducible refine Ext.drew ?_) | (with_reducible refine Ext.drewN ?_ _) | (refine Ext.trans ?_ (by with_reducible assumption))))))).mono ?_
  rintro e w1 ⟨rfl, hx⟩
  go_wp2
  go_ret
  exact ⟨rfl, by (repeat' (first | exact Ext.refl _ | (with_reducible assumption) | (with_reducible refine Ext.alloc ?_ _) | (with_reducible refine Ext.setCell ?_ (by first | exact Nat.le_refl _ | (dsimp only; omega) | (simp; done) | (simp; omega)) _) | (with_reducible refine Ext.drew ?_) | (with_reducible refine Ext.drewN ?_ _) | (refine Ext.trans ?_ (by with_reducible assumption))))⟩

set_option maxRecDepth 100000 in
set_option maxHeartbeats 1000000 in
theorem eqHouse_any (h : HouseD) (p1 : Option Addr) (n c1 : Nat) (q1 : Option Addr) (m d1 : Nat) (p2 : Option Addr) (c2 : Nat) (q2 : Option Addr) (d2 : Nat) (w : World) (hi1 : IsHouse w h p1 n c1 q1 m d1) (hi2 : IsHouse w h p2 n c2 q2 m d2) :
    Calls Tryd.prog 22 #[houseV h p1 n c1 q1 m d1, houseV h p2 n c2 q2 m d2] w fun e w' => e = .returned (.bool true) ∧ Ext w w' := by
  have H1 := Lib.hid hi1
  have H2 := Lib.hid hi2
  clear hi1 hi2
  obtain ⟨wide, deep, cells, free, step, price, capp, clock, bank, vs⟩ := h
  go_enter Tryd.func22, Tryd.ntmps22
  go_wp2_with fail
  refine (eqHall_any wide deep p1 p2 n c1 c2 cells _ (H1.out.cells.ext (by (repeat' (first | exact Ext.refl _ | (with_reducible assumption) | (with_reducible refine Ext.alloc ?_ _) | (with_reducible refine Ext.setCell ?_ (by first | exact Nat.le_refl _ | (dsimp only; omega) | (simp; done) | (simp; omega)) _) | (with_reducible refine Ext.drew ?_) | (with_reducible refine Ext.drewN ?_ _) | (refine Ext.trans ?_ (by with_reducible assumption)))))) (H2.out.cells.ext (by (repeat' (first | exact Ext.refl _ | (with_reducible assumption) | (with_reducible refine Ext.alloc ?_ _) | (with_reducible refine Ext.setCell ?_ (by first | exact Nat.le_refl _ | (dsimp only; omega) | (simp; done) | (simp; omega)) _) | (with_reducible refine Ext.drew ?_) | (with_reducible refine Ext.drewN ?_ _) | (refine Ext.trans ?_ (by with_reducible assumption))))))).mono ?_
  rintro e w1 ⟨rfl, hx1⟩
  have BA := Lib.hid (((Blk.new w 52 #[.int .i64 wide, .int .i64 deep, .slice p1 n c1, .int .i64 free, .int .i64 step, .int .i64 price, .int .i64 capp, .int .i64 clock, .int .i64 bank, .slice q1 m d1]).alloc (.cells #[.int .i64 wide, .int .i64 deep, .slice p2 n c2, .int .i64 free, .int .i64 step, .int .i64 price, .int .i64 capp, .int .i64 clock, .int .i64 bank, .slice q2 m d2] 52)).ext hx1)
  have BB' := Lib.hid ((Blk.new (w.alloc (.cells #[.int .i64 wide, .int .i64 deep, .slice p1 n c1, .int .i64 free, .int .i64 step, .int .i64 price, .int .i64 capp, .int .i64 clock, .int .i64 bank, .slice q1 m d1] 52)) 52 #[.int .i64 wide, .int .i64 deep, .slice p2 n c2, .int .i64 free, .int .i64 step, .int .i64 price, .int .i64 capp, .int .i64 clock, .int .i64 bank, .slice q2 m d2]).ext hx1)
  simp only [World.size_alloc] at BB'
  have hxw1 : Ext w w1 := (((Ext.refl w).alloc _).alloc _).trans hx1
  have ha : w.heap.size + 1 < w1.heap.size := Nat.lt_of_lt_of_le (by simp) hx1.sz
  clear hx1
  have a3 : w1.cell? ⟨w.heap.size, 3, none⟩ = some (.int .i64 free) := BA.out.cell 3
  have a4 : w1.cell? ⟨w.heap.size, 4, none⟩ = some (.int .i64 step) := BA.out.cell 4
  have a5 : w1.cell? ⟨w.heap.size, 5, none⟩ = some (.int .i64 price) := BA.out.cell 5
  have a6 : w1.cell? ⟨w.heap.size, 6, none⟩ = some (.int .i64 capp) := BA.out.cell 6
  have b3 : w1.cell? ⟨w.heap.size + 1, 3, none⟩ = some (.int .i64 free) := BB'.out.cell 3
  have b4 : w1.cell? ⟨w.heap.size + 1, 4, none⟩ = some (.int .i64 step) := BB'.out.cell 4
  have b5 : w1.cell? ⟨w.heap.size + 1, 5, none⟩ = some (.int .i64 price) := BB'.out.cell 5
  have b6 : w1.cell? ⟨w.heap.size + 1, 6, none⟩ = some (.int .i64 capp) := BB'.out.cell 6
  go_wp2_with fail
  clear a3 a4 a5 a6 b3 b4 b5 b6
  refine (eqTariff_any free step price capp _).mono ?_
  rintro e w2 ⟨rfl, hx2⟩
  have hxw2 : Ext w w2 := hxw1.trans hx2
  have ha2 : w.heap.size + 1 < w2.heap.size := Nat.lt_of_lt_of_le ha hx2.sz
  have BA2 := Lib.hid (BA.out.ext hx2)
  have BB2 := Lib.hid (BB'.out.ext hx2)
  clear hx2 BA BB'
  have a7 : w2.cell? ⟨w.heap.size, 7, none⟩ = some (.int .i64 clock) := BA2.out.cell 7
  have a8 : w2.cell? ⟨w.heap.size, 8, none⟩ = some (.int .i64 bank) := BA2.out.cell 8
  have a9 : w2.cell? ⟨w.heap.size, 9, none⟩ = some (.slice q1 m d1) := BA2.out.cell 9
  have b7 : w2.cell? ⟨w.heap.size + 1, 7, none⟩ = some (.int .i64 clock) := BB2.out.cell 7
  have b8 : w2.cell? ⟨w.heap.size + 1, 8, none⟩ = some (.int .i64 bank) := BB2.out.cell 8
  have b9 : w2.cell? ⟨w.heap.size + 1, 9, none⟩ = some (.slice q2 m d2) := BB2.out.cell 9
  go_wp2_with fail
  clear a7 a8 a9 b7 b8 b9
  refine (eqVisitS_any q1 q2 m d1 d2 vs _ (H1.out.vs.ext (by (repeat' (first | exact Ext.refl _ | (with_reducible assumption) | (with_reducible refine Ext.alloc ?_ _) | (with_reducible refine Ext.setCell ?_ (by first | exact Nat.le_refl _ | (dsimp only; omega) | (simp; done) | (simp; omega)) _) | (with_reducible refine Ext.drew ?_) | (with_reducible refine Ext.drewN ?_ _) | (refine Ext.trans ?_ (by with_reducible assumption)))))) (H2.out.vs.ext (by (repeat' (first | exact Ext.refl _ | (with_reducible assumption) | (with_reducible refine Ext.alloc ?_ _) | (with_reducible refine Ext.setCell ?_ (by first | exact Nat.le_refl _ | (dsimp only; omega) | (simp; done) | (simp; omega)) _) | (with_reducible refine Ext.drew ?_) | (with_reducible refine Ext.drewN ?_ _) | (refine Ext.trans ?_ (by with_reducible assumption))))))).mono ?_
  rintro e w3 ⟨rfl, hx3⟩
  go_wp2
  go_ret
  exact ⟨rfl, by (repeat' (first | exact Ext.refl _ | (with_reducible assumption) | (with_reducible refine Ext.alloc ?_ _) | (with_reducible refine Ext.setCell ?_ (by first | exact Nat.le_refl _ | (dsimp only; omega) | (simp; done) | (simp; omega)) _) | (with_reducible refine Ext.drew ?_) | (with_reducible refine Ext.drewN ?_ _) | (refine Ext.trans ?_ (by with_reducible assumption))))⟩

theorem RetHouse.is {h : HouseD} {w w' : World} {p q : Option Addr} {cap c2 : Nat} (ho : w'.ownsRow w.heap.size TI 1 (.slice p h.cells.length cap) h.cells.length (ivs h.cells)) (hv : w'.ownsRow w.heap.size TV 4 (.slice q h.vs.length c2) h.vs.length (h.vs.flatMap visitCells)) :
    IsHouse w' h p h.cells.length cap q h.vs.length c2 := ⟨Sl.own ho, Sl.own hv⟩
end Go.Proofs.YtncfnlocdlhagaaDoor

/-
  How a house among the arguments of a law is opened. No condition.
-/
namespace Go.Proofs.YtncfnlocdlhagaaDoor
open Go.ChangeShapes Go.WideShapes Go.ChangeAt Go.RowKit Go.Deep
set_option linter.unusedVariables false
set_option linter.unusedSimpArgs false

section
variable {H : Type} {enc : TypeId × Value → H} {w : World} {base : Nat} {spare : Nat → Bool} {held : Bool} {b0 : Nat} {r : Reach} {v : Value} {d : DataW H} {p : List MemPlace}
def goodVisit (v : Visit4) : Prop := B64 v.1 ∧ B64 v.2.1 ∧ B64 v.2.2.1 ∧ B64 v.2.2.2
theorem cInt : Tryd.prog.cellsOf 3 = 1 := by kernel_rfl

set_option maxRecDepth 100000 in
theorem trod_visit {n : Nat} {cs : List Value} {y : DataW H × List MemPlace} (hy : DataW.trod enc Tryd.prog w base spare held n 126 cs = some y) : ∃ a, cs = visitCells a ∧ goodVisit a := by
  obtain ⟨y0, y1, m, _, hl, h0, h1⟩ := trod_struct2 Tryd.underlying126 hy
  have hl' : cs.length = 4 := hl.trans (by kernel_rfl)
  match cs, hl' with
  | [c0, c1, c2, c3], _ =>
    have hc3 : Tryd.prog.cellsOf 124 = 3 := by kernel_rfl
    simp only [cInt, hc3, List.drop_zero, List.drop_succ_cons, List.take_succ_cons, List.take_zero] at h0 h1
    obtain ⟨z0, z1, z2, m', _, _, g0, g1, g2⟩ := trod_struct3 Tryd.underlying124 h1
    simp only [cInt, List.drop_zero, List.drop_succ_cons, List.take_succ_cons, List.take_zero] at g0 g1 g2
    obtain ⟨a, rfl, ga⟩ := trod_i64 h0
    obtain ⟨b, rfl, gb⟩ := trod_i64 g0
    obtain ⟨c, rfl, gc⟩ := trod_i64 g1
    obtain ⟨e, rfl, ge⟩ := trod_i64 g2
    exact ⟨(a, b, c, e), rfl, ga, gb, gc, ge⟩

def goodHouse (h : HouseD) : Prop := B64 h.wide ∧ B64 h.deep ∧ B64 h.free ∧ B64 h.step ∧ B64 h.price ∧ B64 h.capp ∧ B64 h.clock ∧ B64 h.bank ∧ (∀ x ∈ h.cells, B64 x) ∧ ∀ v ∈ h.vs, goodVisit v

theorem list10 {cs : List Value} (h : cs.length = 10) : ∃ a b c d e f g i j k, cs = [a, b, c, d, e, f, g, i, j, k] := by
  match cs, h with
  | [a, b, c, d, e, f, g, i, j, k], _ => exact ⟨a, b, c, d, e, f, g, i, j, k, rfl⟩

set_option maxRecDepth 100000 in
set_option maxHeartbeats 1000000 in
theorem open_house (hv : Value.okWide Tryd.prog w r b0 45 v) (h : DataW.Trod enc Tryd.prog w base spare held 45 v d p) :
    ∃ y : HouseD × (Option Addr × Nat) × (Option Addr × Nat), v = houseV y.1 y.2.1.1 y.1.cells.length y.2.1.2 y.2.2.1 y.1.vs.length y.2.2.2 ∧ IsHouse w y.1 y.2.1.1 y.1.cells.length y.2.1.2 y.2.2.1 y.1.vs.length y.2.2.2 ∧ goodHouse y.1 := by
  obtain ⟨cs, rfl, hsz⟩ := okWide_struct Tryd.underlying45 hv
  obtain ⟨l⟩ := cs
  have hl : l.length = 10 := by have := hsz.trans (show Tryd.prog.cellsOf 45 = 10 by kernel_rfl); simpa using this
  obtain ⟨x0, x1, x2, x3, x4, x5, x6, x7, x8, x9, rfl⟩ := list10 hl
  obtain ⟨fuel, hf⟩ := h
  obtain ⟨xs, n, _, hx, _, hlen, hg⟩ := DataW.trod_struct Tryd.underlying45 hf
  have hh : Tryd.prog.cellsOf 40 = 3 := by kernel_rfl
  have ht : Tryd.prog.cellsOf 42 = 4 := by kernel_rfl
  have hs1 : Tryd.prog.cellsOf 43 = 1 := by kernel_rfl
  have hs2 : Tryd.prog.cellsOf 38 = 1 := by kernel_rfl
  have hcl : ∀ l : List Value, (Value.agg l.toArray).cells.toList = l := fun l => by simp [Value.cells]
  match xs, hlen with
  | [y0, y1, y2, y3, y4], _ =>
    have g0 := hg 0 _ rfl
    have g1 := hg 1 _ rfl
    have g2 := hg 2 _ rfl
    have g3 := hg 3 _ rfl
    have g4 := hg 4 _ rfl
    simp only [hcl, cInt, hh, ht, hs1, List.drop_zero, List.drop_succ_cons, List.take_succ_cons, List.take_zero, List.getElem?_cons_zero, List.getElem?_cons_succ] at g0 g1 g2 g3 g4
    obtain ⟨z0, z1, z2, m, _, _, k0, k1, k2⟩ := trod_struct3 Tryd.underlying40 g0
    simp only [cInt, hs2, List.drop_zero, List.drop_succ_cons, List.take_succ_cons, List.take_zero] at k0 k1 k2
    obtain ⟨wide, rfl, gw⟩ := trod_i64 k0
    obtain ⟨deep, rfl, gd⟩ := trod_i64 k1
    obtain ⟨cells, cp, cc, rfl, hS, gcs⟩ := open_ints_c k2
    obtain ⟨ys, m2, _, _, _, hlen2, hg2⟩ := DataW.trod_struct Tryd.underlying42 g1
    match ys, hlen2 with
    | [t0, t1, t2, t3], _ =>
      have j0 := hg2 0 _ rfl
      have j1 := hg2 1 _ rfl
      have j2 := hg2 2 _ rfl
      have j3 := hg2 3 _ rfl
      simp only [cInt, List.drop_zero, List.drop_succ_cons, List.take_succ_cons, List.take_zero, List.getElem?_cons_zero, List.getElem?_cons_succ] at j0 j1 j2 j3
      obtain ⟨free, rfl, gf⟩ := trod_i64 j0
      obtain ⟨step, rfl, gs⟩ := trod_i64 j1
      obtain ⟨price, rfl, gp⟩ := trod_i64 j2
      obtain ⟨capp, rfl, gc⟩ := trod_i64 j3
      obtain ⟨clock, rfl, gk⟩ := trod_i64 g2
      obtain ⟨bank, rfl, gb⟩ := trod_i64 g3
      obtain ⟨vs, vp, vc, rfl, hV, gvs⟩ := open_slc (α := Visit4) visitCells goodVisit 4 Tryd.underlying43 (by kernel_rfl) (by omega) (fun _ => rfl) (fun n cs y hy => trod_visit hy) g4
      exact ⟨(⟨wide, deep, cells, free, step, price, capp, clock, bank, vs⟩, (cp, cc), (vp, vc)), rfl, ⟨hS, hV⟩, gw, gd, gf, gs, gp, gc, gk, gb, gcs, gvs⟩
end
end Go.Proofs.YtncfnlocdlhagaaDoor

/-
  What the walks ask of the world: the library's table of powers of ten is laid, and the variable bytealg.MaxLen holds a number. Both stay as they are while the world only grows.
-/
namespace Go.Proofs.YtncfnlocdlhagaaDoor
open Go.RowKit
set_option linter.unusedVariables false

theorem gTab : Tryd.prog.globalNamed "internal/strconv.uint64pow10" = some 1 := by kernel_rfl
structure Env (w : World) : Prop where
  tab : Lib.TabIs Tryd.prog w "internal/strconv.uint64pow10" .u64 Lib.pow10Tab
  mx : ∃ m, w.cell? ⟨0, 0, none⟩ = some (.int .i64 m)

theorem Env.ext {w w' : World} (h : Env w) (hb : Ext w w') : Env w' where
  tab := Joins.var_stays gTab h.tab hb (Nat.le_refl _)
  mx := by
    obtain ⟨m, hm⟩ := h.mx
    exact ⟨m, (hb.cells.1 _ _ (World.block_lt_of_cell? w _ hm)).trans hm⟩

theorem Env.start {w : World} (ht : Lib.TabIs Tryd.prog w "internal/strconv.uint64pow10" .u64 Lib.pow10Tab) (hS : w.ShapedOpen Tryd.prog) : Env w where
  tab := ht
  mx := Tryd.laysM145.s1_3 w hS

/-- a text as a value -/
abbrev str (l : List UInt8) : Value := .string ⟨l.toArray⟩

theorem ret_str {a b : List UInt8} (h : a = b) : Ending.returned (str a) = .returned (str b) := by rw [h]

theorem itoa_nat (n : Nat) : Lib.itoa (n : Int) = Lib.decDigits n := by
  unfold Lib.itoa; rw [if_neg (by omega)]; simp

theorem ext_grow (w : World) (os : Array Obj) : Ext w (Sort.grow w os) :=
  ⟨rfl, rfl, rfl, by simp, fun k hk => by simp only [Sort.grow]; rw [Array.getElem?_append_left hk]⟩

/-- strconv.Itoa -/
theorem itoa_any (n : Nat) (w : World) (hn : n ≤ 9223372036854775807) (hE : Env w) :
    Calls Tryd.prog 48 #[.int .i64 n] w fun e w' => e = .returned (str (Lib.decDigits n)) ∧ Ext w w' := by
  refine (Tryd.strconv_Itoa (n : Int) (by omega) (by omega) w hE.tab).mono ?_
  rintro e w' ⟨rfl, k, os, rfl⟩
  exact ⟨by rw [itoa_nat], (Ext.drewN (Ext.refl w) k).trans (ext_grow _ _)⟩

theorem itoaI (n : Int) (w : World) (h0 : 0 ≤ n) (hn : n ≤ 9223372036854775807) (hE : Env w) :
    Calls Tryd.prog 48 #[.int .i64 n] w fun e w' => e = .returned (str (Lib.decDigits n.toNat)) ∧ Ext w w' := by
  obtain ⟨m, rfl⟩ := Int.eq_ofNat_of_zero_le h0
  exact itoa_any m w (by omega) hE

/-- string([]byte{x}) -/
theorem conv1 (x : Int) (W : World) (b : Nat) (h : W.cell? ⟨b, 0, none⟩ = some (.int .u8 x)) : Sem.run Tryd.prog (convert 22 9 (.slice (some ⟨b, 0, none⟩) 1 1)) W = .ok (str [UInt8.ofNat x.toNat]) W :=
  run_convert_bytes_arg W 22 5 Tryd.underlying22 Tryd.underlying5 b 0 1 1 [x] rfl (fun i hi => by
    obtain rfl : i = 0 := by omega
    simpa using h) 9 Tryd.underlying9

theorem decDigits_lt (n : Nat) (h : n < 10) : Lib.decDigits n = [UInt8.ofNat (48 + n)] := by rw [Lib.decDigits]; simp [h]
theorem decDigits_ge (n : Nat) (h : ¬ n < 10) : Lib.decDigits n = Lib.decDigits (n / 10) ++ [UInt8.ofNat (48 + n % 10)] := by rw [Lib.decDigits]; simp [h]
theorem decDigits_len (n : Nat) (h : n ≤ 9223372036854775807) : (Lib.decDigits n).length ≤ 21 := by
  rw [← itoa_nat]; exact Lib.itoa_length_le _ (by omega) (by omega)
theorem decDigits_pos (n : Nat) : 1 ≤ (Lib.decDigits n).length := by
  by_cases h : n < 10
  · rw [decDigits_lt n h]; simp
  · rw [decDigits_ge n h]; simp
end Go.Proofs.YtncfnlocdlhagaaDoor

/-
  strings.Join, laid at this seat's numbers by hand: the texts with the separator between them. Conditions: at most 2^40 bytes in all.
-/
namespace Go.Proofs.YtncfnlocdlhagaaDoor
open Go.RowKit
set_option linter.unusedVariables false

def lays156_ren : Go.Shelf.Ren := ⟨fun | 156 => 63 | 165 => 94 | 166 => 51 | 169 => 52 | 240 => 88 | 241 => 111 | 276 => 108 | 277 => 135 | n => n, fun | 0 => 0 | 3 => 3 | 4 => 4 | 5 => 5 | 9 => 9 | 20 => 20 | 31 => 68 | 37 => 22 | 70 => 85 | 72 => 87 | 75 => 89 | 76 => 90 | 80 => 92 | 127 => 120 | 164 => 140 | n => n, fun | n => n⟩
theorem lays156 : Go.Proofs.Lays.n156 Tryd.prog lays156_ren := {
  mixed := by kernel_rfl,
  f156 := Tryd.func63.trans (congrArg some (by kernel_rfl)),
  f165 := Tryd.func94.trans (congrArg some (by kernel_rfl)),
  f166 := Tryd.func51.trans (congrArg some (by kernel_rfl)),
  f169 := Tryd.func52.trans (congrArg some (by kernel_rfl)),
  f240 := Tryd.func88.trans (congrArg some (by kernel_rfl)),
  f241 := Tryd.func111.trans (congrArg some (by kernel_rfl)),
  f276 := Tryd.func108.trans (congrArg some (by kernel_rfl)),
  f277 := Tryd.func135.trans (congrArg some (by kernel_rfl)),
  t0 := Tryd.underlying0,
  a0 := Tryd.isAgg0,
  z0 := Tryd.sizeOf0,
  v0 := Tryd.zeroValue0,
  t3 := Tryd.underlying3,
  a3 := Tryd.isAgg3,
  z3 := Tryd.sizeOf3,
  v3 := Tryd.zeroValue3,
  t4 := Tryd.underlying4,
  a4 := Tryd.isAgg4,
  z4 := Tryd.sizeOf4,
  v4 := Tryd.zeroValue4,
  t9 := Tryd.underlying9,
  a9 := Tryd.isAgg9,
  z9 := Tryd.sizeOf9,
  v9 := Tryd.zeroValue9,
  t20 := Tryd.underlying20,
  a20 := Tryd.isAgg20,
  z20 := Tryd.sizeOf20,
  v20 := Tryd.zeroValue20,
  t31 := Tryd.underlying68,
  a31 := Tryd.isAgg68,
  z31 := Tryd.sizeOf68,
  v31 := Tryd.zeroValue68,
  t37 := Tryd.underlying22,
  a37 := Tryd.isAgg22,
  z37 := Tryd.sizeOf22,
  v37 := Tryd.zeroValue22,
  t70 := Tryd.underlying85,
  a70 := Tryd.isAgg85,
  z70 := Tryd.sizeOf85,
  v70 := Tryd.zeroValue85,
  t72 := Tryd.underlying87,
  a72 := Tryd.isAgg87,
  z72 := Tryd.sizeOf87,
  v72 := Tryd.zeroValue87,
  t75 := Tryd.underlying89,
  a75 := Tryd.isAgg89,
  z75 := Tryd.sizeOf89,
  v75 := Tryd.zeroValue89,
  t76 := Tryd.underlying90,
  a76 := Tryd.isAgg90,
  z76 := Tryd.sizeOf90,
  v76 := Tryd.zeroValue90,
  t127 := Tryd.underlying120,
  a127 := Tryd.isAgg120,
  z127 := Tryd.sizeOf120,
  v127 := Tryd.zeroValue120,
  t164 := Tryd.underlying140,
  a164 := Tryd.isAgg140,
  z164 := Tryd.sizeOf140,
  v164 := Tryd.zeroValue140 }
theorem extra156 : Go.Proofs.Builder.Extra Tryd.prog lays156_ren := {
  sizeBuilder := by kernel_rfl
  liesBuilder := by kernel_rfl
  t5 := Tryd.underlying5
  a5 := Tryd.isAgg5
  z5 := Tryd.sizeOf5
  v5 := Tryd.zeroValue5
  infoByte := by kernel_rfl
  cellsByte := by kernel_rfl
  sizeByte := by kernel_rfl
  neB5 := by decide }

/-- texts with a byte ahead of each -/
def tailB (c : UInt8) (r : List (List UInt8)) : List UInt8 := r.flatMap (fun y => c :: y)
/-- texts with a byte between them -/
def joinB (c : UInt8) : List (List UInt8) → List UInt8
  | [] => []
  | x :: r => x ++ tailB c r
theorem tailB_snoc (c : UInt8) (r : List (List UInt8)) (y : List UInt8) : tailB c (r ++ [y]) = tailB c r ++ c :: y := by simp [tailB]
theorem joinB_lib (c : UInt8) (xs : List (List UInt8)) : Lib.join xs [c] = joinB c xs := by
  cases xs with
  | nil => rfl
  | cons x r =>
    rw [Lib.join_cons]
    show x ++ (r.map ([c] ++ ·)).flatten = x ++ r.flatMap (fun y => c :: y)
    rw [List.flatMap_def]
    rfl
def strV (ps : List (List UInt8)) : List Value := ps.map str
theorem join_any (ps : List (List UInt8)) (c : UInt8) (p : Option Addr) (n cap : Nat) (w : World) (hn : ps.length = n) (h0 : 0 < n) (hS : Sl w p n cap 1 (strV ps)) (hl : (joinB c ps).length ≤ 140737488355328) (hn2 : n ≤ 1099511627776) :
    Calls Tryd.prog 63 #[.slice p n cap, .string ⟨#[c]⟩] w fun e w' => e = .returned (str (joinB c ps)) ∧ Ext w w' := by
  obtain ⟨b, off, rfl, hb, hc⟩ := hS.rd h0
  subst hn
  have hm : (ps.map (fun l => (⟨l.toArray⟩ : ByteArray))).map (·.data.toList) = ps := by
    rw [List.map_map]; exact (List.map_congr_left (fun x _ => by simp)).trans (List.map_id ps)
  have h := Any.strings_Join lays156 extra156 b off cap (ps.map (fun l => (⟨l.toArray⟩ : ByteArray))) ⟨#[c]⟩ w
    (fun j x hx => by
      rw [List.getElem?_map] at hx
      obtain ⟨y, hy, rfl⟩ := Option.map_eq_some_iff.1 hx
      have hj : j < ps.length := (List.getElem?_eq_some_iff.1 hy).1
      rw [hc j (by omega)]
      simp [strV, hy])
    hb (by rw [List.length_map]; omega) (by rw [List.length_map]; exact hS.le) (by rw [hm]; simpa [joinB_lib] using hl)
  rw [hm, List.length_map] at h
  refine h.mono ?_
  rintro e w' ⟨rfl, hx⟩
  exact ⟨by rw [show (⟨#[c]⟩ : ByteArray).data.toList = [c] from rfl, joinB_lib], hx⟩
end Go.Proofs.YtncfnlocdlhagaaDoor
