/-
  impl.ReadDeed returns the deed that a text is ('readDeed'). Conditions: the text is shorter than 2^32 - 15 bytes, the library's table is laid.
-/
import Derived.Test.YtncfnlocdlhagaaDoorQ5
import Derived.RegionTactic
import Derived.Test.YtncfnlocdlhagaaDoorQ4
import Derived.Test.YtncfnlocdlhagaaDoorQ1
import Derived.Test.YtncfnlocdlhagaaDoorQ3
namespace Go.Proofs.YtncfnlocdlhagaaDoor
open Go.RowKit
set_option linter.unusedVariables false

/-- what ReadDeed returns -/
def rdV : Option (Int × Int × Int) → Value
  | some (k, a, b) => .tuple #[deedV k a b, .bool true]
  | none => .tuple #[deedV 0 0 0, .bool false]
def RetRd (o : Option (Int × Int × Int)) (w : World) (e : Ending) (w' : World) : Prop := e = .returned (rdV o) ∧ Ext w w'

theorem part_cell {w : World} {base g n cap : Nat} {e : TypeId} {ps : List (List UInt8)} (h : w.ownsRow base e 1 (.slice (some ⟨g, 0, none⟩) n cap) n (strs ps)) (j : Nat) (hj : j < n) (p : List UInt8) (hp : ps[j]? = some p) : w.cell? ⟨g, j, none⟩ = some (str p) := by
  rw [h.cellAt j (by omega)]; simp [strs, hp]

set_option maxRecDepth 100000 in
set_option maxHeartbeats 1000000 in
theorem implRead_len (l : List UInt8) (w : World) (ps : List (List UInt8)) (hpos : 0 < ps.length) (hl : ps.length < 2 ∨ 2 ≤ ps.length ∧ 3 < ps.length)
    (HS : Hid (∀ w, Env w → Calls Tryd.prog 83 #[str l, .string ⟨#[32]⟩] w fun e w' => ∃ v, e = .returned v ∧ w'.ownsRow w.heap.size 9 1 v ps.length (strs ps) ∧ Ext w w')) (HE : Hid (Env w)) :
    Calls Tryd.prog 41 #[str l] w (RetRd none w) := by
  rcases hl with hl | ⟨hl0, hl⟩
  all_goals
    go_enter Tryd.func41, Tryd.ntmps41
    go_wp2_with fail
    refine (HS.out _ (HE.out.ext (by (repeat' (first | exact Ext.refl _ | (with_reducible assumption) | (with_reducible refine Ext.alloc ?_ _) | (with_reducible refine Ext.setCell ?_ (by first | exact Nat.le_refl _ | (dsimp only; omega) | (simp; done) | (simp; omega)) _) | (with_reducible refine Ext.drew ?_) | (with_reducible refine Ext.drewN ?_ _) | (refine Ext.trans ?_ (by with_reducible assumption))))))).mono ?_
    rintro e w1 ⟨v, rfl, hown, h1⟩
    obtain ⟨g, cap, rfl⟩ := Joins.ownsRow_form hown hpos
    obtain ⟨hc1, hf1⟩ := h1.cells
    have hz1 : w.heap.size < w1.heap.size := Nat.lt_of_lt_of_le (by simp) h1.sz
    clear hown
    go_wp2
    exact bodyPost_ret (v := rdV none) (by simp [results, Tryd.results41, go_sem, *]; rfl) rfl ⟨rfl, by (repeat' (first | exact Ext.refl _ | (with_reducible assumption) | (with_reducible refine Ext.alloc ?_ _) | (with_reducible refine Ext.setCell ?_ (by first | exact Nat.le_refl _ | (dsimp only; omega) | (simp; done) | (simp; omega)) _) | (with_reducible refine Ext.drew ?_) | (with_reducible refine Ext.drewN ?_ _) | (refine Ext.trans ?_ (by with_reducible assumption))))⟩

set_option maxRecDepth 100000 in
set_option maxHeartbeats 1000000 in
theorem implRead_name2 (l : List UInt8) (w : World) (p q : List UInt8) (n1 : (p == [105, 110]) = false) (n2 : (p == [112, 97, 121]) = false) (n3 : (p == [111, 117, 116]) = false) (n4 : (p == [119, 97, 105, 116]) = false) (n5 : (p == [115, 108, 105, 100, 101]) = false)
    (HS : Hid (∀ w, Env w → Calls Tryd.prog 83 #[str l, .string ⟨#[32]⟩] w fun e w' => ∃ v, e = .returned v ∧ w'.ownsRow w.heap.size 9 1 v 2 (strs [p, q]) ∧ Ext w w')) (HE : Hid (Env w)) :
    Calls Tryd.prog 41 #[str l] w (RetRd none w) := by
  all_goals
    go_enter Tryd.func41, Tryd.ntmps41
    go_wp2_with fail
    refine (HS.out _ (HE.out.ext (by (repeat' (first | exact Ext.refl _ | (with_reducible assumption) | (with_reducible refine Ext.alloc ?_ _) | (with_reducible refine Ext.setCell ?_ (by first | exact Nat.le_refl _ | (dsimp only; omega) | (simp; done) | (simp; omega)) _) | (with_reducible refine Ext.drew ?_) | (with_reducible refine Ext.drewN ?_ _) | (refine Ext.trans ?_ (by with_reducible assumption))))))).mono ?_
    rintro e w1 ⟨v, rfl, hown, h1⟩
    obtain ⟨g, cap, rfl⟩ := Joins.ownsRow_form hown (by omega)
    have e0 := part_cell hown 0 (by omega) _ rfl
    have e1 := part_cell hown 1 (by omega) _ rfl
    have hg := (hown.lt g rfl).2
    obtain ⟨hc1, hf1⟩ := h1.cells
    have hz1 : w.heap.size < w1.heap.size := Nat.lt_of_lt_of_le (by simp) h1.sz
    clear hown
    go_wp2
    exact bodyPost_ret (v := rdV none) (by simp [results, Tryd.results41, go_sem, *]; rfl) rfl ⟨rfl, by (repeat' (first | exact Ext.refl _ | (with_reducible assumption) | (with_reducible refine Ext.alloc ?_ _) | (with_reducible refine Ext.setCell ?_ (by first | exact Nat.le_refl _ | (dsimp only; omega) | (simp; done) | (simp; omega)) _) | (with_reducible refine Ext.drew ?_) | (with_reducible refine Ext.drewN ?_ _) | (refine Ext.trans ?_ (by with_reducible assumption))))⟩

set_option maxRecDepth 100000 in
set_option maxHeartbeats 1000000 in
theorem implRead_q2 (l : List UInt8) (w : World) (p q : List UInt8) (k : Int) (hk : p = [105, 110] ∧ k = 0 ∨ p = [112, 97, 121] ∧ k = 1 ∨ p = [111, 117, 116] ∧ k = 2 ∨ p = [119, 97, 105, 116] ∧ k = 3 ∨ p = [115, 108, 105, 100, 101] ∧ k = 4)
    (HS : Hid (∀ w, Env w → Calls Tryd.prog 83 #[str l, .string ⟨#[32]⟩] w fun e w' => ∃ v, e = .returned v ∧ w'.ownsRow w.heap.size 9 1 v 2 (strs [p, q]) ∧ Ext w w')) (HE : Hid (Env w))
    (HR : Hid (∀ w, Calls Tryd.prog 40 #[str q, .int .i64 4] w fun e w' => e = .returned (.tuple #[.int .i64 0, .bool false]) ∧ w = w')) :
    Calls Tryd.prog 41 #[str l] w (RetRd none w) := by
  rcases hk with ⟨rfl, rfl⟩ | ⟨rfl, rfl⟩ | ⟨rfl, rfl⟩ | ⟨rfl, rfl⟩ | ⟨rfl, rfl⟩
  all_goals
    go_enter Tryd.func41, Tryd.ntmps41
    go_wp2_with fail
    refine (HS.out _ (HE.out.ext (by (repeat' (first | exact Ext.refl _ | (with_reducible assumption) | (with_reducible refine Ext.alloc ?_ _) | (with_reducible refine Ext.setCell ?_ (by first | exact Nat.le_refl _ | (dsimp only; omega) | (simp; done) | (simp; omega)) _) | (with_reducible refine Ext.drew ?_) | (with_reducible refine Ext.drewN ?_ _) | (refine Ext.trans ?_ (by with_reducible assumption))))))).mono ?_
    rintro e w1 ⟨v, rfl, hown, h1⟩
    obtain ⟨g, cap, rfl⟩ := Joins.ownsRow_form hown (by omega)
    have e0 := part_cell hown 0 (by omega) _ rfl
    have e1 := part_cell hown 1 (by omega) _ rfl
    have hg := (hown.lt g rfl).2
    obtain ⟨hc1, hf1⟩ := h1.cells
    have hz1 : w.heap.size < w1.heap.size := Nat.lt_of_lt_of_le (by simp) h1.sz
    clear hown
    go_wp2_with fail
    refine (HR.out _).mono ?_
    rintro e w2 ⟨rfl, rfl⟩
    go_wp2
    exact bodyPost_ret (v := rdV none) (by simp [results, Tryd.results41, go_sem, *]; rfl) rfl ⟨rfl, by (repeat' (first | exact Ext.refl _ | (with_reducible assumption) | (with_reducible refine Ext.alloc ?_ _) | (with_reducible refine Ext.setCell ?_ (by first | exact Nat.le_refl _ | (dsimp only; omega) | (simp; done) | (simp; omega)) _) | (with_reducible refine Ext.drew ?_) | (with_reducible refine Ext.drewN ?_ _) | (refine Ext.trans ?_ (by with_reducible assumption))))⟩

set_option maxRecDepth 100000 in
set_option maxHeartbeats 1000000 in
theorem implRead_name3 (l : List UInt8) (w : World) (p q r : List UInt8) (n1 : (p == [105, 110]) = false) (n2 : (p == [112, 97, 121]) = false) (n3 : (p == [111, 117, 116]) = false) (n4 : (p == [119, 97, 105, 116]) = false) (n5 : (p == [115, 108, 105, 100, 101]) = false)
    (HS : Hid (∀ w, Env w → Calls Tryd.prog 83 #[str l, .string ⟨#[32]⟩] w fun e w' => ∃ v, e = .returned v ∧ w'.ownsRow w.heap.size 9 1 v 3 (strs [p, q, r]) ∧ Ext w w')) (HE : Hid (Env w)) :
    Calls Tryd.prog 41 #[str l] w (RetRd none w) := by
  all_goals
    go_enter Tryd.func41, Tryd.ntmps41
    go_wp2_with fail
    refine (HS.out _ (HE.out.ext (by (repeat' (first | exact Ext.refl _ | (with_reducible assumption) | (with_reducible refine Ext.alloc ?_ _) | (with_reducible refine Ext.setCell ?_ (by first | exact Nat.le_refl _ | (dsimp only; omega) | (simp; done) | (simp; omega)) _) | (with_reducible refine Ext.drew ?_) | (with_reducible refine Ext.drewN ?_ _) | (refine Ext.trans ?_ (by with_reducible assumption))))))).mono ?_
    rintro e w1 ⟨v, rfl, hown, h1⟩
    obtain ⟨g, cap, rfl⟩ := Joins.ownsRow_form hown (by omega)
    have e0 := part_cell hown 0 (by omega) _ rfl
    have e1 := part_cell hown 1 (by omega) _ rfl
    have e2 := part_cell hown 2 (by omega) _ rfl
    have hg := (hown.lt g rfl).2
    obtain ⟨hc1, hf1⟩ := h1.cells
    have hz1 : w.heap.size < w1.heap.size := Nat.lt_of_lt_of_le (by simp) h1.sz
    clear hown
    go_wp2
    exact bodyPost_ret (v := rdV none) (by simp [results, Tryd.results41, go_sem, *]; rfl) rfl ⟨rfl, by (repeat' (first | exact Ext.refl _ | (with_reducible assumption) | (with_reducible refine Ext.alloc ?_ _) | (with_reducible refine Ext.setCell ?_ (by first | exact Nat.le_refl _ | (dsimp only; omega) | (simp; done) | (simp; omega)) _) | (with_reducible refine Ext.drew ?_) | (with_reducible refine Ext.drewN ?_ _) | (refine Ext.trans ?_ (by with_reducible assumption))))⟩

set_option maxRecDepth 100000 in
set_option maxHeartbeats 1000000 in
theorem implRead_q3 (l : List UInt8) (w : World) (p q r : List UInt8) (k : Int) (hk : p = [105, 110] ∧ k = 0 ∨ p = [112, 97, 121] ∧ k = 1 ∨ p = [111, 117, 116] ∧ k = 2 ∨ p = [119, 97, 105, 116] ∧ k = 3 ∨ p = [115, 108, 105, 100, 101] ∧ k = 4)
    (HS : Hid (∀ w, Env w → Calls Tryd.prog 83 #[str l, .string ⟨#[32]⟩] w fun e w' => ∃ v, e = .returned v ∧ w'.ownsRow w.heap.size 9 1 v 3 (strs [p, q, r]) ∧ Ext w w')) (HE : Hid (Env w))
    (HR : Hid (∀ w, Calls Tryd.prog 40 #[str q, .int .i64 4] w fun e w' => e = .returned (.tuple #[.int .i64 0, .bool false]) ∧ w = w')) :
    Calls Tryd.prog 41 #[str l] w (RetRd none w) := by
  rcases hk with ⟨rfl, rfl⟩ | ⟨rfl, rfl⟩ | ⟨rfl, rfl⟩ | ⟨rfl, rfl⟩ | ⟨rfl, rfl⟩
  all_goals
    go_enter Tryd.func41, Tryd.ntmps41
    go_wp2_with fail
    refine (HS.out _ (HE.out.ext (by (repeat' (first | exact Ext.refl _ | (with_reducible assumption) | (with_reducible refine Ext.alloc ?_ _) | (with_reducible refine Ext.setCell ?_ (by first | exact Nat.le_refl _ | (dsimp only; omega) | (simp; done) | (simp; omega)) _) | (with_reducible refine Ext.drew ?_) | (with_reducible refine Ext.drewN ?_ _) | (refine Ext.trans ?_ (by with_reducible assumption))))))).mono ?_
    rintro e w1 ⟨v, rfl, hown, h1⟩
    obtain ⟨g, cap, rfl⟩ := Joins.ownsRow_form hown (by omega)
    have e0 := part_cell hown 0 (by omega) _ rfl
    have e1 := part_cell hown 1 (by omega) _ rfl
    have e2 := part_cell hown 2 (by omega) _ rfl
    have hg := (hown.lt g rfl).2
    obtain ⟨hc1, hf1⟩ := h1.cells
    have hz1 : w.heap.size < w1.heap.size := Nat.lt_of_lt_of_le (by simp) h1.sz
    clear hown
    go_wp2_with fail
    refine (HR.out _).mono ?_
    rintro e w2 ⟨rfl, rfl⟩
    go_wp2
    exact bodyPost_ret (v := rdV none) (by simp [results, Tryd.results41, go_sem, *]; rfl) rfl ⟨rfl, by (repeat' (first | exact Ext.refl _ | (with_reducible assumption) | (with_reducible refine Ext.alloc ?_ _) | (with_reducible refine Ext.setCell ?_ (by first | exact Nat.le_refl _ | (dsimp only; omega) | (simp; done) | (simp; omega)) _) | (with_reducible refine Ext.drew ?_) | (with_reducible refine Ext.drewN ?_ _) | (refine Ext.trans ?_ (by with_reducible assumption))))⟩

set_option maxRecDepth 100000 in
set_option maxHeartbeats 1000000 in
theorem implRead_r3 (l : List UInt8) (w : World) (p q r : List UInt8) (k a : Int) (hk : p = [105, 110] ∧ k = 0 ∨ p = [112, 97, 121] ∧ k = 1 ∨ p = [111, 117, 116] ∧ k = 2 ∨ p = [119, 97, 105, 116] ∧ k = 3 ∨ p = [115, 108, 105, 100, 101] ∧ k = 4)
    (HS : Hid (∀ w, Env w → Calls Tryd.prog 83 #[str l, .string ⟨#[32]⟩] w fun e w' => ∃ v, e = .returned v ∧ w'.ownsRow w.heap.size 9 1 v 3 (strs [p, q, r]) ∧ Ext w w')) (HE : Hid (Env w))
    (HR : Hid (∀ w, Calls Tryd.prog 40 #[str q, .int .i64 4] w fun e w' => e = .returned (.tuple #[.int .i64 a, .bool true]) ∧ w = w'))
    (HR2 : Hid (∀ w, Calls Tryd.prog 40 #[str r, .int .i64 4] w fun e w' => e = .returned (.tuple #[.int .i64 0, .bool false]) ∧ w = w')) :
    Calls Tryd.prog 41 #[str l] w (RetRd none w) := by
  rcases hk with ⟨rfl, rfl⟩ | ⟨rfl, rfl⟩ | ⟨rfl, rfl⟩ | ⟨rfl, rfl⟩ | ⟨rfl, rfl⟩
  all_goals
    go_enter Tryd.func41, Tryd.ntmps41
    go_wp2_with fail
    refine (HS.out _ (HE.out.ext (by (repeat' (first | exact Ext.refl _ | (with_reducible assumption) | (with_reducible refine Ext.alloc ?_ _) | (with_reducible refine Ext.setCell ?_ (by first | exact Nat.le_refl _ | (dsimp only; omega) | (simp; done) | (simp; omega)) _) | (with_reducible refine Ext.drew ?_) | (with_reducible refine Ext.drewN ?_ _) | (refine Ext.trans ?_ (by with_reducible assumption))))))).mono ?_
    rintro e w1 ⟨v, rfl, hown, h1⟩
    obtain ⟨g, cap, rfl⟩ := Joins.ownsRow_form hown (by omega)
    have e0 := part_cell hown 0 (by omega) _ rfl
    have e1 := part_cell hown 1 (by omega) _ rfl
    have e2 := part_cell hown 2 (by omega) _ rfl
    have hg := (hown.lt g rfl).2
    obtain ⟨hc1, hf1⟩ := h1.cells
    have hz1 : w.heap.size < w1.heap.size := Nat.lt_of_lt_of_le (by simp) h1.sz
    clear hown
    go_wp2_with fail
    refine (HR.out _).mono ?_
    rintro e w2 ⟨rfl, rfl⟩
    go_wp2_with fail
    refine (HR2.out _).mono ?_
    rintro e w2 ⟨rfl, rfl⟩
    go_wp2
    exact bodyPost_ret (v := rdV none) (by simp [results, Tryd.results41, go_sem, *]; rfl) rfl ⟨rfl, by (repeat' (first | exact Ext.refl _ | (with_reducible assumption) | (with_reducible refine Ext.alloc ?_ _) | (with_reducible refine Ext.setCell ?_ (by first | exact Nat.le_refl _ | (dsimp only; omega) | (simp; done) | (simp; omega)) _) | (with_reducible refine Ext.drew ?_) | (with_reducible refine Ext.drewN ?_ _) | (refine Ext.trans ?_ (by with_reducible assumption))))⟩

set_option maxRecDepth 100000 in
set_option maxHeartbeats 1000000 in
theorem implRead_ok2 (l : List UInt8) (w : World) (p q t : List UInt8) (k a : Int) (hk : p = [105, 110] ∧ k = 0 ∨ p = [112, 97, 121] ∧ k = 1 ∨ p = [111, 117, 116] ∧ k = 2 ∨ p = [119, 97, 105, 116] ∧ k = 3 ∨ p = [115, 108, 105, 100, 101] ∧ k = 4) (ht : (t == l) = true)
    (HS : Hid (∀ w, Env w → Calls Tryd.prog 83 #[str l, .string ⟨#[32]⟩] w fun e w' => ∃ v, e = .returned v ∧ w'.ownsRow w.heap.size 9 1 v 2 (strs [p, q]) ∧ Ext w w')) (HE : Hid (Env w))
    (HR : Hid (∀ w, Calls Tryd.prog 40 #[str q, .int .i64 4] w fun e w' => e = .returned (.tuple #[.int .i64 a, .bool true]) ∧ w = w'))
    (HD : Hid (∀ w, Env w → Calls Tryd.prog 46 #[deedV k a 0] w fun e w' => e = .returned (str t) ∧ Ext w w')) :
    Calls Tryd.prog 41 #[str l] w (RetRd (some (k, a, 0)) w) := by
  rcases hk with ⟨rfl, rfl⟩ | ⟨rfl, rfl⟩ | ⟨rfl, rfl⟩ | ⟨rfl, rfl⟩ | ⟨rfl, rfl⟩
  all_goals
    go_enter Tryd.func41, Tryd.ntmps41
    go_wp2_with fail
    refine (HS.out _ (HE.out.ext (by (repeat' (first | exact Ext.refl _ | (with_reducible assumption) | (with_reducible refine Ext.alloc ?_ _) | (with_reducible refine Ext.setCell ?_ (by first | exact Nat.le_refl _ | (dsimp only; omega) | (simp; done) | (simp; omega)) _) | (with_reducible refine Ext.drew ?_) | (with_reducible refine Ext.drewN ?_ _) | (refine Ext.trans ?_ (by with_reducible assumption))))))).mono ?_
    rintro e w1 ⟨v, rfl, hown, h1⟩
    obtain ⟨g, cap, rfl⟩ := Joins.ownsRow_form hown (by omega)
    have e0 := part_cell hown 0 (by omega) _ rfl
    have e1 := part_cell hown 1 (by omega) _ rfl
    have hg := (hown.lt g rfl).2
    obtain ⟨hc1, hf1⟩ := h1.cells
    have hz1 : w.heap.size < w1.heap.size := Nat.lt_of_lt_of_le (by simp) h1.sz
    clear hown
    go_wp2_with fail
    refine (HR.out _).mono ?_
    rintro e w2 ⟨rfl, rfl⟩
    go_wp2_with fail
    refine (HD.out _ (HE.out.ext (by (repeat' (first | exact Ext.refl _ | (with_reducible assumption) | (with_reducible refine Ext.alloc ?_ _) | (with_reducible refine Ext.setCell ?_ (by first | exact Nat.le_refl _ | (dsimp only; omega) | (simp; done) | (simp; omega)) _) | (with_reducible refine Ext.drew ?_) | (with_reducible refine Ext.drewN ?_ _) | (refine Ext.trans ?_ (by with_reducible assumption))))))).mono ?_
    rintro e w2 ⟨rfl, h2⟩
    obtain ⟨hc2, hf2⟩ := h2.cells
    have hz2 : w1.heap.size < w2.heap.size := Nat.lt_of_lt_of_le (by simp) h2.sz
    have hz3 : w.heap.size < w2.heap.size := Nat.lt_trans hz1 hz2
    have hw := (h1.alloc (.cells #[.int .i64 _, .int .i64 _, .int .i64 _] 25)).trans h2
    obtain ⟨hcw, hfw⟩ := hw.cells
    go_wp2
    exact bodyPost_ret (v := rdV (some (_, a, 0))) (by simp [results, Tryd.results41, go_sem, *]; rfl) rfl ⟨rfl, by (repeat' (first | exact Ext.refl _ | (with_reducible assumption) | (with_reducible refine Ext.alloc ?_ _) | (with_reducible refine Ext.setCell ?_ (by first | exact Nat.le_refl _ | (dsimp only; omega) | (simp; done) | (simp; omega)) _) | (with_reducible refine Ext.drew ?_) | (with_reducible refine Ext.drewN ?_ _) | (refine Ext.trans ?_ (by with_reducible assumption))))⟩

set_option maxRecDepth 100000 in
set_option maxHeartbeats 1000000 in
theorem implRead_no2 (l : List UInt8) (w : World) (p q t : List UInt8) (k a : Int) (hk : p = [105, 110] ∧ k = 0 ∨ p = [112, 97, 121] ∧ k = 1 ∨ p = [111, 117, 116] ∧ k = 2 ∨ p = [119, 97, 105, 116] ∧ k = 3 ∨ p = [115, 108, 105, 100, 101] ∧ k = 4) (ht : (t == l) = false)
    (HS : Hid (∀ w, Env w → Calls Tryd.prog 83 #[str l, .string ⟨#[32]⟩] w fun e w' => ∃ v, e = .returned v ∧ w'.ownsRow w.heap.size 9 1 v 2 (strs [p, q]) ∧ Ext w w')) (HE : Hid (Env w))
    (HR : Hid (∀ w, Calls Tryd.prog 40 #[str q, .int .i64 4] w fun e w' => e = .returned (.tuple #[.int .i64 a, .bool true]) ∧ w = w'))
    (HD : Hid (∀ w, Env w → Calls Tryd.prog 46 #[deedV k a 0] w fun e w' => e = .returned (str t) ∧ Ext w w')) :
    Calls Tryd.prog 41 #[str l] w (RetRd (none) w) := by
  rcases hk with ⟨rfl, rfl⟩ | ⟨rfl, rfl⟩ | ⟨rfl, rfl⟩ | ⟨rfl, rfl⟩ | ⟨rfl, rfl⟩
  all_goals
    go_enter Tryd.func41, Tryd.ntmps41
    go_wp2_with fail
    refine (HS.out _ (HE.out.ext (by (repeat' (first | exact Ext.refl _ | (with_reducible assumption) | (with_reducible refine Ext.alloc ?_ _) | (with_reducible refine Ext.setCell ?_ (by first | exact Nat.le_refl _ | (dsimp only; omega) | (simp; done) | (simp; omega)) _) | (with_reducible refine Ext.drew ?_) | (with_reducible refine Ext.drewN ?_ _) | (refine Ext.trans ?_ (by with_reducible assumption))))))).mono ?_
    rintro e w1 ⟨v, rfl, hown, h1⟩
    obtain ⟨g, cap, rfl⟩ := Joins.ownsRow_form hown (by omega)
    have e0 := part_cell hown 0 (by omega) _ rfl
    have e1 := part_cell hown 1 (by omega) _ rfl
    have hg := (hown.lt g rfl).2
    obtain ⟨hc1, hf1⟩ := h1.cells
    have hz1 : w.heap.size < w1.heap.size := Nat.lt_of_lt_of_le (by simp) h1.sz
    clear hown
    go_wp2_with fail
    refine (HR.out _).mono ?_
    rintro e w2 ⟨rfl, rfl⟩
    go_wp2_with fail
    refine (HD.out _ (HE.out.ext (by (repeat' (first | exact Ext.refl _ | (with_reducible assumption) | (with_reducible refine Ext.alloc ?_ _) | (with_reducible refine Ext.setCell ?_ (by first | exact Nat.le_refl _ | (dsimp only; omega) | (simp; done) | (simp; omega)) _) | (with_reducible refine Ext.drew ?_) | (with_reducible refine Ext.drewN ?_ _) | (refine Ext.trans ?_ (by with_reducible assumption))))))).mono ?_
    rintro e w2 ⟨rfl, h2⟩
    obtain ⟨hc2, hf2⟩ := h2.cells
    have hz2 : w1.heap.size < w2.heap.size := Nat.lt_of_lt_of_le (by simp) h2.sz
    have hz3 : w.heap.size < w2.heap.size := Nat.lt_trans hz1 hz2
    have hw := (h1.alloc (.cells #[.int .i64 _, .int .i64 _, .int .i64 _] 25)).trans h2
    obtain ⟨hcw, hfw⟩ := hw.cells
    go_wp2
    exact bodyPost_ret (v := rdV none) (by simp [results, Tryd.results41, go_sem, *]; rfl) rfl ⟨rfl, by (repeat' (first | exact Ext.refl _ | (with_reducible assumption) | (with_reducible refine Ext.alloc ?_ _) | (with_reducible refine Ext.setCell ?_ (by first | exact Nat.le_refl _ | (dsimp only; omega) | (simp; done) | (simp; omega)) _) | (with_reducible refine Ext.drew ?_) | (with_reducible refine Ext.drewN ?_ _) | (refine Ext.trans ?_ (by with_reducible assumption))))⟩

set_option maxRecDepth 100000 in
set_option maxHeartbeats 1000000 in
theorem implRead_ok3 (l : List UInt8) (w : World) (p q r t : List UInt8) (k a b : Int) (hk : p = [105, 110] ∧ k = 0 ∨ p = [112, 97, 121] ∧ k = 1 ∨ p = [111, 117, 116] ∧ k = 2 ∨ p = [119, 97, 105, 116] ∧ k = 3 ∨ p = [115, 108, 105, 100, 101] ∧ k = 4) (ht : (t == l) = true)
    (HS : Hid (∀ w, Env w → Calls Tryd.prog 83 #[str l, .string ⟨#[32]⟩] w fun e w' => ∃ v, e = .returned v ∧ w'.ownsRow w.heap.size 9 1 v 3 (strs [p, q, r]) ∧ Ext w w')) (HE : Hid (Env w))
    (HR : Hid (∀ w, Calls Tryd.prog 40 #[str q, .int .i64 4] w fun e w' => e = .returned (.tuple #[.int .i64 a, .bool true]) ∧ w = w'))
    (HR2 : Hid (∀ w, Calls Tryd.prog 40 #[str r, .int .i64 4] w fun e w' => e = .returned (.tuple #[.int .i64 b, .bool true]) ∧ w = w'))
    (HD : Hid (∀ w, Env w → Calls Tryd.prog 46 #[deedV k a b] w fun e w' => e = .returned (str t) ∧ Ext w w')) :
    Calls Tryd.prog 41 #[str l] w (RetRd (some (k, a, b)) w) := by
  rcases hk with ⟨rfl, rfl⟩ | ⟨rfl, rfl⟩ | ⟨rfl, rfl⟩ | ⟨rfl, rfl⟩ | ⟨rfl, rfl⟩
  all_goals
    go_enter Tryd.func41, Tryd.ntmps41
    go_wp2_with fail
    refine (HS.out _ (HE.out.ext (by (repeat' (first | exact Ext.refl _ | (with_reducible assumption) | (with_reducible refine Ext.alloc ?_ _) | (with_reducible refine Ext.setCell ?_ (by first | exact Nat.le_refl _ | (dsimp only; omega) | (simp; done) | (simp; omega)) _) | (with_reducible refine Ext.drew ?_) | (with_reducible refine Ext.drewN ?_ _) | (refine Ext.trans ?_ (by with_reducible assumption))))))).mono ?_
    rintro e w1 ⟨v, rfl, hown, h1⟩
    obtain ⟨g, cap, rfl⟩ := Joins.ownsRow_form hown (by omega)
    have e0 := part_cell hown 0 (by omega) _ rfl
    have e1 := part_cell hown 1 (by omega) _ rfl
    have e2 := part_cell hown 2 (by omega) _ rfl
    have hg := (hown.lt g rfl).2
    obtain ⟨hc1, hf1⟩ := h1.cells
    have hz1 : w.heap.size < w1.heap.size := Nat.lt_of_lt_of_le (by simp) h1.sz
    clear hown
    go_wp2_with fail
    refine (HR.out _).mono ?_
    rintro e w2 ⟨rfl, rfl⟩
    go_wp2_with fail
    refine (HR2.out _).mono ?_
    rintro e w2 ⟨rfl, rfl⟩
    go_wp2_with fail
    refine (HD.out _ (HE.out.ext (by (repeat' (first | exact Ext.refl _ | (with_reducible assumption) | (with_reducible refine Ext.alloc ?_ _) | (with_reducible refine Ext.setCell ?_ (by first | exact Nat.le_refl _ | (dsimp only; omega) | (simp; done) | (simp; omega)) _) | (with_reducible refine Ext.drew ?_) | (with_reducible refine Ext.drewN ?_ _) | (refine Ext.trans ?_ (by with_reducible assumption))))))).mono ?_
    rintro e w2 ⟨rfl, h2⟩
    obtain ⟨hc2, hf2⟩ := h2.cells
    have hz2 : w1.heap.size < w2.heap.size := Nat.lt_of_lt_of_le (by simp) h2.sz
    have hz3 : w.heap.size < w2.heap.size := Nat.lt_trans hz1 hz2
    have hw := (h1.alloc (.cells #[.int .i64 _, .int .i64 _, .int .i64 _] 25)).trans h2
    obtain ⟨hcw, hfw⟩ := hw.cells
    go_wp2
    exact bodyPost_ret (v := rdV (some (_, a, b))) (by simp [results, Tryd.results41, go_sem, *]; rfl) rfl ⟨rfl, by (repeat' (first | exact Ext.refl _ | (with_reducible assumption) | (with_reducible refine Ext.alloc ?_ _) | (with_reducible refine Ext.setCell ?_ (by first | exact Nat.le_refl _ | (dsimp only; omega) | (simp; done) | (simp; omega)) _) | (with_reducible refine Ext.drew ?_) | (with_reducible refine Ext.drewN ?_ _) | (refine Ext.trans ?_ (by with_reducible assumption))))⟩

set_option maxRecDepth 100000 in
set_option maxHeartbeats 1000000 in
theorem implRead_no3 (l : List UInt8) (w : World) (p q r t : List UInt8) (k a b : Int) (hk : p = [105, 110] ∧ k = 0 ∨ p = [112, 97, 121] ∧ k = 1 ∨ p = [111, 117, 116] ∧ k = 2 ∨ p = [119, 97, 105, 116] ∧ k = 3 ∨ p = [115, 108, 105, 100, 101] ∧ k = 4) (ht : (t == l) = false)
    (HS : Hid (∀ w, Env w → Calls Tryd.prog 83 #[str l, .string ⟨#[32]⟩] w fun e w' => ∃ v, e = .returned v ∧ w'.ownsRow w.heap.size 9 1 v 3 (strs [p, q, r]) ∧ Ext w w')) (HE : Hid (Env w))
    (HR : Hid (∀ w, Calls Tryd.prog 40 #[str q, .int .i64 4] w fun e w' => e = .returned (.tuple #[.int .i64 a, .bool true]) ∧ w = w'))
    (HR2 : Hid (∀ w, Calls Tryd.prog 40 #[str r, .int .i64 4] w fun e w' => e = .returned (.tuple #[.int .i64 b, .bool true]) ∧ w = w'))
    (HD : Hid (∀ w, Env w → Calls Tryd.prog 46 #[deedV k a b] w fun e w' => e = .returned (str t) ∧ Ext w w')) :
    Calls Tryd.prog 41 #[str l] w (RetRd (none) w) := by
  rcases hk with ⟨rfl, rfl⟩ | ⟨rfl, rfl⟩ | ⟨rfl, rfl⟩ | ⟨rfl, rfl⟩ | ⟨rfl, rfl⟩
  all_goals
    go_enter Tryd.func41, Tryd.ntmps41
    go_wp2_with fail
    refine (HS.out _ (HE.out.ext (by (repeat' (first | exact Ext.refl _ | (with_reducible assumption) | (with_reducible refine Ext.alloc ?_ _) | (with_reducible refine Ext.setCell ?_ (by first | exact Nat.le_refl _ | (dsimp only; omega) | (simp; done) | (simp; omega)) _) | (with_reducible refine Ext.drew ?_) | (with_reducible refine Ext.drewN ?_ _) | (refine Ext.trans ?_ (by with_reducible assumption))))))).mono ?_
    rintro e w1 ⟨v, rfl, hown, h1⟩
    obtain ⟨g, cap, rfl⟩ := Joins.ownsRow_form hown (by omega)
    have e0 := part_cell hown 0 (by omega) _ rfl
    have e1 := part_cell hown 1 (by omega) _ rfl
    have e2 := part_cell hown 2 (by omega) _ rfl
    have hg := (hown.lt g rfl).2
    obtain ⟨hc1, hf1⟩ := h1.cells
    have hz1 : w.heap.size < w1.heap.size := Nat.lt_of_lt_of_le (by simp) h1.sz
    clear hown
    go_wp2_with fail
    refine (HR.out _).mono ?_
    rintro e w2 ⟨rfl, rfl⟩
    go_wp2_with fail
    refine (HR2.out _).mono ?_
    rintro e w2 ⟨rfl, rfl⟩
    go_wp2_with fail
    refine (HD.out _ (HE.out.ext (by (repeat' (first | exact Ext.refl _ | (with_reducible assumption) | (with_reducible refine Ext.alloc ?_ _) | (with_reducible refine Ext.setCell ?_ (by first | exact Nat.le_refl _ | (dsimp only; omega) | (simp; done) | (simp; omega)) _) | (with_reducible refine Ext.drew ?_) | (with_reducible refine Ext.drewN ?_ _) | (refine Ext.trans ?_ (by with_reducible assumption))))))).mono ?_
    rintro e w2 ⟨rfl, h2⟩
    obtain ⟨hc2, hf2⟩ := h2.cells
    have hz2 : w1.heap.size < w2.heap.size := Nat.lt_of_lt_of_le (by simp) h2.sz
    have hz3 : w.heap.size < w2.heap.size := Nat.lt_trans hz1 hz2
    have hw := (h1.alloc (.cells #[.int .i64 _, .int .i64 _, .int .i64 _] 25)).trans h2
    obtain ⟨hcw, hfw⟩ := hw.cells
    go_wp2
    exact bodyPost_ret (v := rdV none) (by simp [results, Tryd.results41, go_sem, *]; rfl) rfl ⟨rfl, by (repeat' (first | exact Ext.refl _ | (with_reducible assumption) | (with_reducible refine Ext.alloc ?_ _) | (with_reducible refine Ext.setCell ?_ (by first | exact Nat.le_refl _ | (dsimp only; omega) | (simp; done) | (simp; omega)) _) | (with_reducible refine Ext.drew ?_) | (with_reducible refine Ext.drewN ?_ _) | (refine Ext.trans ?_ (by with_reducible assumption))))⟩

end Go.Proofs.YtncfnlocdlhagaaDoor

/-
  impl.ReadDeed at every text. Conditions: the text is shorter than 2^32 - 15 bytes, the library's table is laid.
-/
namespace Go.Proofs.YtncfnlocdlhagaaDoor
open Go.RowKit
set_option linter.unusedVariables false

theorem cutL_len (c : UInt8) : ∀ (l : List UInt8), (∀ p ∈ cutL c l, p.length ≤ l.length) ∧ (cutL c l).length ≤ l.length + 1 := by
  intro l
  induction l with
  | nil => simp [cutL]
  | cons x xs ih =>
    by_cases h : x = c
    · have e : cutL c (x :: xs) = [] :: cutL c xs := by rw [cutL, if_pos h]
      rw [e]
      refine ⟨fun p hp => ?_, by simp; exact ih.2⟩
      rcases List.mem_cons.1 hp with rfl | hp
      · simp
      · have := ih.1 p hp; simp; omega
    · have e : cutL c (x :: xs) = match cutL c xs with | [] => [[x]] | p :: ps => (x :: p) :: ps := by rw [cutL, if_neg h]; rfl
      rw [e]
      cases hq : cutL c xs with
      | nil => exact absurd hq (cutL_ne c xs)
      | cons q qs =>
        rw [hq] at ih
        refine ⟨fun p hp => ?_, by have := ih.2; simp at this ⊢; omega⟩
        rcases List.mem_cons.1 hp with rfl | hp
        · have := ih.1 q (by simp); simp; omega
        · have := ih.1 p (by simp [hp]); simp; omega

theorem kindOf_none {p : List UInt8} (h : kindOf p = none) : (p == [105, 110]) = false ∧ (p == [112, 97, 121]) = false ∧ (p == [111, 117, 116]) = false ∧ (p == [119, 97, 105, 116]) = false ∧ (p == [115, 108, 105, 100, 101]) = false := by
  unfold kindOf at h
  repeat' split at h
  all_goals simp_all
theorem kindOf_cases {p : List UInt8} {k : Int} (h : kindOf p = some k) : p = [105, 110] ∧ k = 0 ∨ p = [112, 97, 121] ∧ k = 1 ∨ p = [111, 117, 116] ∧ k = 2 ∨ p = [119, 97, 105, 116] ∧ k = 3 ∨ p = [115, 108, 105, 100, 101] ∧ k = 4 := by
  unfold kindOf at h
  repeat' split at h
  all_goals simp_all

theorem readNum_str (q : List UInt8) (m : Nat) (hm : 1 ≤ m ∧ m ≤ 5) (hq : q.length ≤ maxLen) (w : World) : Calls Tryd.prog 40 #[str q, .int .i64 m] w fun e w' => e = .returned (.tuple #[.int .i64 ((readL m q).getD 0), .bool (readL m q).isSome]) ∧ w = w' :=
  readNumber_any ⟨q.toArray⟩ m w hm (by simpa [ByteArray.size] using hq)

/-- impl.ReadDeed -/
theorem implReadDeed (l : List UInt8) (w : World) (hs : l.length < 4294967281) (hE : Env w) : Calls Tryd.prog 41 #[str l] w (RetRd (readDeed l) w) := by
  have hS : ∀ w, Env w → Calls Tryd.prog 83 #[str l, .string ⟨#[32]⟩] w fun e w' => ∃ v, e = .returned v ∧ w'.ownsRow w.heap.size 9 1 v (cutL 32 l).length (strs (cutL 32 l)) ∧ Ext w w' :=
    fun w hE => split_any ⟨l.toArray⟩ 32 w (by simpa [ByteArray.size] using hs) hE
  have hlen := cutL_len 32 l
  have hq4 : ∀ q ∈ cutL 32 l, ∀ o, readL 4 q = o → Hid (∀ w, Calls Tryd.prog 40 #[str q, .int .i64 4] w fun e w' => e = .returned (.tuple #[.int .i64 (o.getD 0), .bool o.isSome]) ∧ w = w') := by
    intro q hq o ho w
    subst ho
    exact readNum_str q 4 (by omega) (by have := hlen.1 q hq; unfold maxLen; omega) w
  rcases hc : cutL 32 l with _ | ⟨p, _ | ⟨q, _ | ⟨r, _ | ⟨x, rest⟩⟩⟩⟩
  · exact absurd hc (cutL_ne 32 l)
  · rw [hc] at hS
    have e : readDeed l = none := by unfold readDeed; rw [hc]
    rw [e]
    exact implRead_len l w [p] (by simp) (.inl (by simp)) hS hE
  · rw [hc] at hS hq4
    cases hk : kindOf p with
    | none =>
      obtain ⟨n1, n2, n3, n4, n5⟩ := kindOf_none hk
      have e : readDeed l = none := by unfold readDeed; rw [hc]; simp [hk]
      rw [e]
      exact implRead_name2 l w p q n1 n2 n3 n4 n5 hS hE
    | some k =>
      cases hq : readL 4 q with
      | none =>
        have e : readDeed l = none := by unfold readDeed; rw [hc]; simp [hk, hq]
        rw [e]
        exact implRead_q2 l w p q k (kindOf_cases hk) hS hE (hq4 q (by simp) _ hq)
      | some a =>
        by_cases ht : deedText k a 0 = l
        · skip
          have e : readDeed l = some (k, a, 0) := by unfold readDeed; rw [hc]; simp [hk, hq, ht]
          rw [e]
          exact implRead_ok2 l w p q (deedText k a 0) k a (kindOf_cases hk) (by simp [ht]) hS hE (hq4 q (by simp) _ hq) (fun w h => implDeed k a 0 w h)
        · skip
          have e : readDeed l = none := by unfold readDeed; rw [hc]; simp [hk, hq, ht]
          rw [e]
          exact implRead_no2 l w p q (deedText k a 0) k a (kindOf_cases hk) (by simp [ht]) hS hE (hq4 q (by simp) _ hq) (fun w h => implDeed k a 0 w h)
  · rw [hc] at hS hq4
    cases hk : kindOf p with
    | none =>
      obtain ⟨n1, n2, n3, n4, n5⟩ := kindOf_none hk
      have e : readDeed l = none := by unfold readDeed; rw [hc]; simp [hk]
      rw [e]
      exact implRead_name3 l w p q r n1 n2 n3 n4 n5 hS hE
    | some k =>
      cases hq : readL 4 q with
      | none =>
        have e : readDeed l = none := by unfold readDeed; rw [hc]; simp [hk, hq]
        rw [e]
        exact implRead_q3 l w p q r k (kindOf_cases hk) hS hE (hq4 q (by simp) _ hq)
      | some a =>
        cases hr : readL 4 r with
        | none =>
          have e : readDeed l = none := by unfold readDeed; rw [hc]; simp [hk, hq, hr]
          rw [e]
          exact implRead_r3 l w p q r k a (kindOf_cases hk) hS hE (hq4 q (by simp) _ hq) (hq4 r (by simp) _ hr)
        | some b =>
          by_cases ht : deedText k a b = l
          · skip
            have e : readDeed l = some (k, a, b) := by unfold readDeed; rw [hc]; simp [hk, hq, hr, ht]
            rw [e]
            exact implRead_ok3 l w p q r (deedText k a b) k a b (kindOf_cases hk) (by simp [ht]) hS hE (hq4 q (by simp) _ hq) (hq4 r (by simp) _ hr) (fun w h => implDeed k a b w h)
          · skip
            have e : readDeed l = none := by unfold readDeed; rw [hc]; simp [hk, hq, hr, ht]
            rw [e]
            exact implRead_no3 l w p q r (deedText k a b) k a b (kindOf_cases hk) (by simp [ht]) hS hE (hq4 q (by simp) _ hq) (hq4 r (by simp) _ hr) (fun w h => implDeed k a b w h)
  · rw [hc] at hS
    have e : readDeed l = none := by unfold readDeed; rw [hc]
    rw [e]
    exact implRead_len l w (p :: q :: r :: x :: rest) (by simp) (.inr (by simp)) hS hE
end Go.Proofs.YtncfnlocdlhagaaDoor

/-
  impl.ReadEntry returns what 'readEntry' says. Conditions: the text is shorter than 2^32 - 15 bytes, the library's table is laid.
-/
namespace Go.Proofs.YtncfnlocdlhagaaDoor
open Go.RowKit
set_option linter.unusedVariables false

theorem cutFst_none (c : UInt8) : ∀ l : List UInt8, c ∉ l → cutFst c l = l ∧ cutSnd c l = [] := by
  intro l
  induction l with
  | nil => intro _; exact ⟨rfl, rfl⟩
  | cons x xs ih =>
    intro h
    have hx : x ≠ c := fun q => h (by simp [q])
    obtain ⟨i1, i2⟩ := ih (fun q => h (by simp [q]))
    simp [cutFst, cutSnd, hx, i1, i2]
theorem index_first (c : UInt8) (a b : List UInt8) (h : c ∉ a) : Lib.index (a ++ c :: b) [c] = a.length := by
  rcases index_one c (a ++ c :: b) with ⟨h1, h2, h3⟩ | ⟨i, h1, h2, h3, h4⟩
  · exact absurd (by simp) h3
  · have e := cutL_head c (a ++ c :: b)
    rw [h3, (cutFst_append c a b h).1] at e
    simp only [List.getElem?_cons_zero, Option.some.injEq] at e
    have := congrArg List.length e
    simp at this h2
    rw [h1]; omega
theorem libCut (c : UInt8) (l : List UInt8) : (Lib.cut l [c]).1 = cutFst c l ∧ (Lib.cut l [c]).2.1 = cutSnd c l := by
  by_cases h : c ∈ l
  · obtain ⟨a, b, rfl, ha⟩ := cut_first c l h
    unfold Lib.cut
    rw [index_first c a b ha, if_pos (by omega), (cutFst_append c a b ha).1, (cutFst_append c a b ha).2]
    simp
  · have e : Lib.index l [c] = -1 := by
      rcases index_one c l with ⟨h1, _⟩ | ⟨i, h1, h2, h3, h4⟩
      · exact h1
      · exfalso
        have e2 := cutL_none c l h
        rw [h3] at e2
        have := congrArg List.length e2
        simp at this
        exact absurd this (cutL_ne c _)
    unfold Lib.cut
    rw [e, if_neg (by omega), (cutFst_none c l h).1, (cutFst_none c l h).2]
    exact ⟨rfl, rfl⟩
theorem indexByte_pos (c : UInt8) (l : List UInt8) : Lib.indexByte l c = match posOf c l with | some e => (e : Int) | none => -1 := by
  by_cases h : c ∈ l
  · obtain ⟨a, b, rfl, ha⟩ := cut_first c l h
    rw [posOf_append c a b ha]
    have hg := Lib.indexByte_ge (a ++ c :: b) c
    by_cases h1 : Lib.indexByte (a ++ c :: b) c = -1
    · exact absurd (by simp) (Lib.indexByte_none h1 a.length)
    · obtain ⟨o, ho⟩ := Int.eq_ofNat_of_zero_le (show 0 ≤ Lib.indexByte (a ++ c :: b) c by omega)
      obtain ⟨s1, s2⟩ := Lib.indexByte_some ho
      have : o = a.length := by
        rcases Nat.lt_trichotomy o a.length with q | q | q
        · rw [List.getElem?_append_left q] at s1
          exact absurd (List.mem_of_getElem? s1) ha
        · exact q
        · exact absurd (by simp) (s2 a.length q)
      rw [ho, this]
  · have e : posOf c l = none := by unfold posOf; rw [if_neg h]
    rw [e]
    by_cases h1 : Lib.indexByte l c = -1
    · exact h1
    · have hg := Lib.indexByte_ge l c
      obtain ⟨o, ho⟩ := Int.eq_ofNat_of_zero_le (show 0 ≤ Lib.indexByte l c by omega)
      exact absurd (List.mem_of_getElem? (Lib.indexByte_some ho).1) h

theorem cut_any' (l : List UInt8) (c : UInt8) (w : World) (hs : l.length < 4294967281) (hE : Env w) :
    Calls Tryd.prog 39 #[str l, .string ⟨#[c]⟩] w fun e w' => e = .returned (.tuple #[str (cutFst c l), str (cutSnd c l), .bool (Lib.cut l [c]).2.2]) ∧ Ext w w' := by
  obtain ⟨m, hm⟩ := hE.mx
  refine (Tryd.strings_Cut ⟨l.toArray⟩ ⟨#[c]⟩ m w (by simpa [ByteArray.size] using hs) hm).mono ?_
  rintro e w' ⟨rfl, n, rfl⟩
  obtain ⟨c1, c2⟩ := libCut c l
  refine ⟨?_, (Ext.refl _).drewN _⟩
  show Ending.returned (.tuple #[.string ⟨(Lib.cut l [c]).1.toArray⟩, .string ⟨(Lib.cut l [c]).2.1.toArray⟩, .bool (Lib.cut l [c]).2.2]) = _
  rw [c1, c2]

theorem entryText_len (n k a b : Int) : (entryText n k a b).length ≤ 200 := by
  by_cases h : entryText n k a b = []
  · rw [h]; simp
  · obtain ⟨h1, h2, ho, e⟩ := entryText_form h
    rw [e]
    have e1 := decDigits_len n.toNat (by omega)
    have e2 := deedText_len k a b
    have e3 := sum_len (Lib.decDigits n.toNat ++ [58] ++ deedText k a b)
    simp only [List.length_append, List.length_cons, List.length_nil] at e3 ⊢
    omega

/-- what ReadEntry returns -/
def reV : Option (Int × Deed3 × Nat) → Value
  | some (n, (k, a, b), m) => .tuple #[.int .i64 n, deedV k a b, .int .i64 m]
  | none => .tuple #[.int .i64 0, deedV 0 0 0, .int .i64 0]
def RetRe (o : Option (Int × Deed3 × Nat)) (w : World) (e : Ending) (w' : World) : Prop := e = .returned (reV o) ∧ Ext w w'

set_option maxRecDepth 100000 in
set_option maxHeartbeats 1000000 in
theorem implReadE_none (l : List UInt8) (w : World) (HI : Hid (∀ w, Calls Tryd.prog 38 #[str l, .int .u8 59] w fun e w' => e = .returned (.int .i64 (-1)) ∧ w = w')) :
    Calls Tryd.prog 9 #[str l] w (RetRe none w) := by
  go_enter Tryd.func9, Tryd.ntmps9
  go_wp2_with fail
  refine (HI.out _).mono ?_
  rintro e w1 ⟨rfl, rfl⟩
  go_wp2
  exact bodyPost_ret (v := reV none) (by simp [results, Tryd.results9, go_sem]; rfl) rfl ⟨rfl, by (repeat' (first | exact Ext.refl _ | (with_reducible assumption) | (with_reducible refine Ext.alloc ?_ _) | (with_reducible refine Ext.setCell ?_ (by first | exact Nat.le_refl _ | (dsimp only; omega) | (simp; done) | (simp; omega)) _) | (with_reducible refine Ext.drew ?_) | (with_reducible refine Ext.drewN ?_ _) | (refine Ext.trans ?_ (by with_reducible assumption))))⟩

set_option maxRecDepth 100000 in
set_option maxHeartbeats 1000000 in
theorem implReadE_num (l b b2 f r : List UInt8) (e : Nat) (x y : Bool) (w : World) (hl : l.length ≤ 4294967280) (hel : e < l.length)
    (HI : Hid (∀ w, Calls Tryd.prog 38 #[str l, .int .u8 59] w fun q w' => q = .returned (.int .i64 e) ∧ w = w'))
    (HC : Hid (∀ w, Env w → Calls Tryd.prog 39 #[.string ((⟨l.toArray⟩ : ByteArray).extract 0 e), .string ⟨#[35]⟩] w fun q w' => q = .returned (.tuple #[str b, str b2, .bool x]) ∧ Ext w w'))
    (HC2 : Hid (∀ w, Env w → Calls Tryd.prog 39 #[str b, .string ⟨#[58]⟩] w fun q w' => q = .returned (.tuple #[str f, str r, .bool y]) ∧ Ext w w'))
    (HN : Hid (∀ w, Calls Tryd.prog 40 #[str f, .int .i64 2] w fun q w' => q = .returned (.tuple #[.int .i64 0, .bool false]) ∧ w = w')) (HE : Hid (Env w)) :
    Calls Tryd.prog 9 #[str l] w (RetRe none w) := by
  go_enter Tryd.func9, Tryd.ntmps9
  go_wp2_with fail
  refine (HI.out _).mono ?_
  rintro q w1 ⟨rfl, rfl⟩
  go_wp2_with fail
  refine (HC.out _ (HE.out.ext (by (repeat' (first | exact Ext.refl _ | (with_reducible assumption) | (with_reducible refine Ext.alloc ?_ _) | (with_reducible refine Ext.setCell ?_ (by first | exact Nat.le_refl _ | (dsimp only; omega) | (simp; done) | (simp; omega)) _) | (with_reducible refine Ext.drew ?_) | (with_reducible refine Ext.drewN ?_ _) | (refine Ext.trans ?_ (by with_reducible assumption))))))).mono ?_
  rintro q w1 ⟨rfl, h1⟩
  go_wp2_with fail
  refine (HC2.out _ (HE.out.ext (by (repeat' (first | exact Ext.refl _ | (with_reducible assumption) | (with_reducible refine Ext.alloc ?_ _) | (with_reducible refine Ext.setCell ?_ (by first | exact Nat.le_refl _ | (dsimp only; omega) | (simp; done) | (simp; omega)) _) | (with_reducible refine Ext.drew ?_) | (with_reducible refine Ext.drewN ?_ _) | (refine Ext.trans ?_ (by with_reducible assumption))))))).mono ?_
  rintro q w2 ⟨rfl, h2⟩
  replace h2 := h1.trans h2
  clear h1
  obtain ⟨hc2, hf2⟩ := h2.cells
  go_wp2_with fail
  refine (HN.out _).mono ?_
  rintro q w3 ⟨rfl, rfl⟩
  go_wp2
  exact bodyPost_ret (v := reV none) (by simp [results, Tryd.results9, go_sem, *]; rfl) rfl ⟨rfl, by (repeat' (first | exact Ext.refl _ | (with_reducible assumption) | (with_reducible refine Ext.alloc ?_ _) | (with_reducible refine Ext.setCell ?_ (by first | exact Nat.le_refl _ | (dsimp only; omega) | (simp; done) | (simp; omega)) _) | (with_reducible refine Ext.drew ?_) | (with_reducible refine Ext.drewN ?_ _) | (refine Ext.trans ?_ (by with_reducible assumption))))⟩

set_option maxRecDepth 100000 in
set_option maxHeartbeats 1000000 in
theorem implReadE_deed (l b b2 f r : List UInt8) (e : Nat) (n : Int) (x y : Bool) (w : World) (hl : l.length ≤ 4294967280) (hel : e < l.length)
    (HI : Hid (∀ w, Calls Tryd.prog 38 #[str l, .int .u8 59] w fun q w' => q = .returned (.int .i64 e) ∧ w = w'))
    (HC : Hid (∀ w, Env w → Calls Tryd.prog 39 #[.string ((⟨l.toArray⟩ : ByteArray).extract 0 e), .string ⟨#[35]⟩] w fun q w' => q = .returned (.tuple #[str b, str b2, .bool x]) ∧ Ext w w'))
    (HC2 : Hid (∀ w, Env w → Calls Tryd.prog 39 #[str b, .string ⟨#[58]⟩] w fun q w' => q = .returned (.tuple #[str f, str r, .bool y]) ∧ Ext w w'))
    (HN : Hid (∀ w, Calls Tryd.prog 40 #[str f, .int .i64 2] w fun q w' => q = .returned (.tuple #[.int .i64 n, .bool true]) ∧ w = w'))
    (HR : Hid (∀ w, Env w → Calls Tryd.prog 41 #[str r] w fun q w' => q = .returned (.tuple #[deedV 0 0 0, .bool false]) ∧ Ext w w')) (HE : Hid (Env w)) :
    Calls Tryd.prog 9 #[str l] w (RetRe none w) := by
  go_enter Tryd.func9, Tryd.ntmps9
  go_wp2_with fail
  refine (HI.out _).mono ?_
  rintro q w1 ⟨rfl, rfl⟩
  go_wp2_with fail
  refine (HC.out _ (HE.out.ext (by (repeat' (first | exact Ext.refl _ | (with_reducible assumption) | (with_reducible refine Ext.alloc ?_ _) | (with_reducible refine Ext.setCell ?_ (by first | exact Nat.le_refl _ | (dsimp only; omega) | (simp; done) | (simp; omega)) _) | (with_reducible refine Ext.drew ?_) | (with_reducible refine Ext.drewN ?_ _) | (refine Ext.trans ?_ (by with_reducible assumption))))))).mono ?_
  rintro q w1 ⟨rfl, h1⟩
  go_wp2_with fail
  refine (HC2.out _ (HE.out.ext (by (repeat' (first | exact Ext.refl _ | (with_reducible assumption) | (with_reducible refine Ext.alloc ?_ _) | (with_reducible refine Ext.setCell ?_ (by first | exact Nat.le_refl _ | (dsimp only; omega) | (simp; done) | (simp; omega)) _) | (with_reducible refine Ext.drew ?_) | (with_reducible refine Ext.drewN ?_ _) | (refine Ext.trans ?_ (by with_reducible assumption))))))).mono ?_
  rintro q w2 ⟨rfl, h2⟩
  replace h2 := h1.trans h2
  clear h1
  go_wp2_with fail
  refine (HN.out _).mono ?_
  rintro q w3 ⟨rfl, rfl⟩
  go_wp2_with fail
  refine (HR.out _ (HE.out.ext (by (repeat' (first | exact Ext.refl _ | (with_reducible assumption) | (with_reducible refine Ext.alloc ?_ _) | (with_reducible refine Ext.setCell ?_ (by first | exact Nat.le_refl _ | (dsimp only; omega) | (simp; done) | (simp; omega)) _) | (with_reducible refine Ext.drew ?_) | (with_reducible refine Ext.drewN ?_ _) | (refine Ext.trans ?_ (by with_reducible assumption))))))).mono ?_
  rintro q w3 ⟨rfl, h3⟩
  replace h3 := h2.trans h3
  clear h2
  obtain ⟨hc3, hf3⟩ := h3.cells
  have hz3 : w.heap.size < w3.heap.size := Nat.lt_of_lt_of_le (by simp) h3.sz
  go_wp2
  go_quiet (fail)
  go_wp2
  exact bodyPost_ret (v := reV none) (by simp [results, Tryd.results9, go_sem, *]; rfl) rfl ⟨rfl, by (repeat' (first | exact Ext.refl _ | (with_reducible assumption) | (with_reducible refine Ext.alloc ?_ _) | (with_reducible refine Ext.setCell ?_ (by first | exact Nat.le_refl _ | (dsimp only; omega) | (simp; done) | (simp; omega)) _) | (with_reducible refine Ext.drew ?_) | (with_reducible refine Ext.drewN ?_ _) | (refine Ext.trans ?_ (by with_reducible assumption))))⟩
set_option maxRecDepth 100000 in
set_option maxHeartbeats 1000000 in
theorem implReadE_no (l b b2 f r : List UInt8) (e : Nat) (n k a b0 : Int) (t : List UInt8) (x y : Bool) (w : World) (hl : l.length ≤ 4294967280) (hel : e < l.length)
    (HI : Hid (∀ w, Calls Tryd.prog 38 #[str l, .int .u8 59] w fun q w' => q = .returned (.int .i64 e) ∧ w = w'))
    (HC : Hid (∀ w, Env w → Calls Tryd.prog 39 #[.string ((⟨l.toArray⟩ : ByteArray).extract 0 e), .string ⟨#[35]⟩] w fun q w' => q = .returned (.tuple #[str b, str b2, .bool x]) ∧ Ext w w'))
    (HC2 : Hid (∀ w, Env w → Calls Tryd.prog 39 #[str b, .string ⟨#[58]⟩] w fun q w' => q = .returned (.tuple #[str f, str r, .bool y]) ∧ Ext w w'))
    (HN : Hid (∀ w, Calls Tryd.prog 40 #[str f, .int .i64 2] w fun q w' => q = .returned (.tuple #[.int .i64 n, .bool true]) ∧ w = w'))
    (HR : Hid (∀ w, Env w → Calls Tryd.prog 41 #[str r] w fun q w' => q = .returned (.tuple #[deedV k a b0, .bool true]) ∧ Ext w w')) (HE : Hid (Env w))
    (HT : Hid (∀ w, Env w → Calls Tryd.prog 12 #[.int .i64 n, deedV k a b0] w fun q w' => q = .returned (str t) ∧ Ext w w')) (htl : t.length ≤ 200) (hcmp : (t == ((⟨l.toArray⟩ : ByteArray).extract 0 (e + 1)).toList) = false) :
    Calls Tryd.prog 9 #[str l] w (RetRe none w) := by
  go_enter Tryd.func9, Tryd.ntmps9
  go_wp2_with fail
  refine (HI.out _).mono ?_
  rintro q w1 ⟨rfl, rfl⟩
  go_wp2_with fail
  refine (HC.out _ (HE.out.ext (by (repeat' (first | exact Ext.refl _ | (with_reducible assumption) | (with_reducible refine Ext.alloc ?_ _) | (with_reducible refine Ext.setCell ?_ (by first | exact Nat.le_refl _ | (dsimp only; omega) | (simp; done) | (simp; omega)) _) | (with_reducible refine Ext.drew ?_) | (with_reducible refine Ext.drewN ?_ _) | (refine Ext.trans ?_ (by with_reducible assumption))))))).mono ?_
  rintro q w1 ⟨rfl, h1⟩
  go_wp2_with fail
  refine (HC2.out _ (HE.out.ext (by (repeat' (first | exact Ext.refl _ | (with_reducible assumption) | (with_reducible refine Ext.alloc ?_ _) | (with_reducible refine Ext.setCell ?_ (by first | exact Nat.le_refl _ | (dsimp only; omega) | (simp; done) | (simp; omega)) _) | (with_reducible refine Ext.drew ?_) | (with_reducible refine Ext.drewN ?_ _) | (refine Ext.trans ?_ (by with_reducible assumption))))))).mono ?_
  rintro q w2 ⟨rfl, h2⟩
  replace h2 := h1.trans h2
  clear h1
  go_wp2_with fail
  refine (HN.out _).mono ?_
  rintro q w3 ⟨rfl, rfl⟩
  go_wp2_with fail
  refine (HR.out _ (HE.out.ext (by (repeat' (first | exact Ext.refl _ | (with_reducible assumption) | (with_reducible refine Ext.alloc ?_ _) | (with_reducible refine Ext.setCell ?_ (by first | exact Nat.le_refl _ | (dsimp only; omega) | (simp; done) | (simp; omega)) _) | (with_reducible refine Ext.drew ?_) | (with_reducible refine Ext.drewN ?_ _) | (refine Ext.trans ?_ (by with_reducible assumption))))))).mono ?_
  rintro q w3 ⟨rfl, h3⟩
  replace h3 := h2.trans h3
  clear h2
  obtain ⟨hc3, hf3⟩ := h3.cells
  have hz3 : w.heap.size < w3.heap.size := Nat.lt_of_lt_of_le (by simp) h3.sz
  go_wp2
  have q1 : IntKind.i64.wrap ((e : Int) + 1) = (e : Int) + 1 := IntWalk.i64_in _ (by omega)
  have q2 : 0 ≤ (e : Int) + 1 := by omega
  have q3 : ((e : Int) + 1).toNat = e + 1 := by omega
  have q4 : (e : Int) + 1 ≤ (l.length : Int) := by omega
  have q5 : e + 1 ≤ l.length := by omega
  go_region_held3 (fun w' => w'.cell? ⟨w3.heap.size, 0, none⟩ = some (.int .i64 k) ∧ w'.cell? ⟨w3.heap.size, 1, none⟩ = some (.int .i64 a) ∧ w'.cell? ⟨w3.heap.size, 2, none⟩ = some (.int .i64 b0)) (go_keep)
    ((go_at_call 12; refine (HT.out _ (HE.out.ext (by (repeat' (first | exact Ext.refl _ | (with_reducible assumption) | (with_reducible refine Ext.alloc ?_ _) | (with_reducible refine Ext.setCell ?_ (by first | exact Nat.le_refl _ | (dsimp only; omega) | (simp; done) | (simp; omega)) _) | (with_reducible refine Ext.drew ?_) | (with_reducible refine Ext.drewN ?_ _) | (refine Ext.trans ?_ (by with_reducible assumption))))))).mono ?_; rintro q w4 ⟨rfl, h4⟩; (try replace h4 := h4.of_drew); have hce := h4.cells.1))
  clear q1 q2 q3 q4 q5
  replace h4 := (h3.alloc (.cells #[.int .i64 k, .int .i64 a, .int .i64 b0] 25)).trans h4
  obtain ⟨hc4, hf4⟩ := h4.cells
  have hz4 : w.heap.size < w4.heap.size := Nat.lt_of_lt_of_le (by simp) h4.sz
  go_wp2
  exact bodyPost_ret (v := reV none) (by simp [results, Tryd.results9, go_sem, *]; rfl) rfl ⟨rfl, by (repeat' (first | exact Ext.refl _ | (with_reducible assumption) | (with_reducible refine Ext.alloc ?_ _) | (with_reducible refine Ext.setCell ?_ (by first | exact Nat.le_refl _ | (dsimp only; omega) | (simp; done) | (simp; omega)) _) | (with_reducible refine Ext.drew ?_) | (with_reducible refine Ext.drewN ?_ _) | (refine Ext.trans ?_ (by with_reducible assumption))))⟩

set_option maxRecDepth 100000 in
set_option maxHeartbeats 1000000 in
theorem implReadE_ok (l b b2 f r : List UInt8) (e : Nat) (n k a b0 : Int) (t : List UInt8) (x y : Bool) (w : World) (hl : l.length ≤ 4294967280) (hel : e < l.length)
    (HI : Hid (∀ w, Calls Tryd.prog 38 #[str l, .int .u8 59] w fun q w' => q = .returned (.int .i64 e) ∧ w = w'))
    (HC : Hid (∀ w, Env w → Calls Tryd.prog 39 #[.string ((⟨l.toArray⟩ : ByteArray).extract 0 e), .string ⟨#[35]⟩] w fun q w' => q = .returned (.tuple #[str b, str b2, .bool x]) ∧ Ext w w'))
    (HC2 : Hid (∀ w, Env w → Calls Tryd.prog 39 #[str b, .string ⟨#[58]⟩] w fun q w' => q = .returned (.tuple #[str f, str r, .bool y]) ∧ Ext w w'))
    (HN : Hid (∀ w, Calls Tryd.prog 40 #[str f, .int .i64 2] w fun q w' => q = .returned (.tuple #[.int .i64 n, .bool true]) ∧ w = w'))
    (HR : Hid (∀ w, Env w → Calls Tryd.prog 41 #[str r] w fun q w' => q = .returned (.tuple #[deedV k a b0, .bool true]) ∧ Ext w w')) (HE : Hid (Env w))
    (HT : Hid (∀ w, Env w → Calls Tryd.prog 12 #[.int .i64 n, deedV k a b0] w fun q w' => q = .returned (str t) ∧ Ext w w')) (htl : t.length ≤ 200) (hcmp : (t == ((⟨l.toArray⟩ : ByteArray).extract 0 (e + 1)).toList) = true) :
    Calls Tryd.prog 9 #[str l] w (RetRe (some (n, (k, a, b0), e + 1)) w) := by
  go_enter Tryd.func9, Tryd.ntmps9
  go_wp2_with fail
  refine (HI.out _).mono ?_
  rintro q w1 ⟨rfl, rfl⟩
  go_wp2_with fail
  refine (HC.out _ (HE.out.ext (by (repeat' (first | exact Ext.refl _ | (with_reducible assumption) | (with_reducible refine Ext.alloc ?_ _) | (with_reducible refine Ext.setCell ?_ (by first | exact Nat.le_refl _ | (dsimp only; omega) | (simp; done) | (simp; omega)) _) | (with_reducible refine Ext.drew ?_) | (with_reducible refine Ext.drewN ?_ _) | (refine Ext.trans ?_ (by with_reducible assumption))))))).mono ?_
  rintro q w1 ⟨rfl, h1⟩
  go_wp2_with fail
  refine (HC2.out _ (HE.out.ext (by (repeat' (first | exact Ext.refl _ | (with_reducible assumption) | (with_reducible refine Ext.alloc ?_ _) | (with_reducible refine Ext.setCell ?_ (by first | exact Nat.le_refl _ | (dsimp only; omega) | (simp; done) | (simp; omega)) _) | (with_reducible refine Ext.drew ?_) | (with_reducible refine Ext.drewN ?_ _) | (refine Ext.trans ?_ (by with_reducible assumption))))))).mono ?_
  rintro q w2 ⟨rfl, h2⟩
  replace h2 := h1.trans h2
  clear h1
  go_wp2_with fail
  refine (HN.out _).mono ?_
  rintro q w3 ⟨rfl, rfl⟩
  go_wp2_with fail
  refine (HR.out _ (HE.out.ext (by (repeat' (first | exact Ext.refl _ | (with_reducible assumption) | (with_reducible refine Ext.alloc ?_ _) | (with_reducible refine Ext.setCell ?_ (by first | exact Nat.le_refl _ | (dsimp only; omega) | (simp; done) | (simp; omega)) _) | (with_reducible refine Ext.drew ?_) | (with_reducible refine Ext.drewN ?_ _) | (refine Ext.trans ?_ (by with_reducible assumption))))))).mono ?_
  rintro q w3 ⟨rfl, h3⟩
  replace h3 := h2.trans h3
  clear h2
  obtain ⟨hc3, hf3⟩ := h3.cells
  have hz3 : w.heap.size < w3.heap.size := Nat.lt_of_lt_of_le (by simp) h3.sz
  go_wp2
  have q1 : IntKind.i64.wrap ((e : Int) + 1) = (e : Int) + 1 := IntWalk.i64_in _ (by omega)
  have q2 : 0 ≤ (e : Int) + 1 := by omega
  have q3 : ((e : Int) + 1).toNat = e + 1 := by omega
  have q4 : (e : Int) + 1 ≤ (l.length : Int) := by omega
  have q5 : e + 1 ≤ l.length := by omega
  go_region_held3 (fun w' => w'.cell? ⟨w3.heap.size, 0, none⟩ = some (.int .i64 k) ∧ w'.cell? ⟨w3.heap.size, 1, none⟩ = some (.int .i64 a) ∧ w'.cell? ⟨w3.heap.size, 2, none⟩ = some (.int .i64 b0)) (go_keep)
    ((go_at_call 12; refine (HT.out _ (HE.out.ext (by (repeat' (first | exact Ext.refl _ | (with_reducible assumption) | (with_reducible refine Ext.alloc ?_ _) | (with_reducible refine Ext.setCell ?_ (by first | exact Nat.le_refl _ | (dsimp only; omega) | (simp; done) | (simp; omega)) _) | (with_reducible refine Ext.drew ?_) | (with_reducible refine Ext.drewN ?_ _) | (refine Ext.trans ?_ (by with_reducible assumption))))))).mono ?_; rintro q w4 ⟨rfl, h4⟩; (try replace h4 := h4.of_drew); have hce := h4.cells.1))
  clear q1 q2 q3 q4 q5
  replace h4 := (h3.alloc (.cells #[.int .i64 k, .int .i64 a, .int .i64 b0] 25)).trans h4
  obtain ⟨hc4, hf4⟩ := h4.cells
  have hz4 : w.heap.size < w4.heap.size := Nat.lt_of_lt_of_le (by simp) h4.sz
  go_wp2
  go_region
  all_goals go_wp2
  all_goals exact bodyPost_ret (v := reV (some (n, (k, a, b0), e + 1))) (by simp [results, Tryd.results9, go_sem, *]; rfl) rfl ⟨rfl, by (repeat' (first | exact Ext.refl _ | (with_reducible assumption) | (with_reducible refine Ext.alloc ?_ _) | (with_reducible refine Ext.setCell ?_ (by first | exact Nat.le_refl _ | (dsimp only; omega) | (simp; done) | (simp; omega)) _) | (with_reducible refine Ext.drew ?_) | (with_reducible refine Ext.drewN ?_ _) | (refine Ext.trans ?_ (by with_reducible assumption))))⟩

theorem extract_take (l : List UInt8) (n : Nat) : (((⟨l.toArray⟩ : ByteArray).extract 0 n).toList) = l.take n := by
  rw [Lib.toList_data, Lib.extract_data]; simp
theorem extract_str0 (l : List UInt8) (n : Nat) : Value.string ((⟨l.toArray⟩ : ByteArray).extract 0 n) = str (l.take n) := by
  rw [string_str, ← Lib.toList_data, extract_take]

/-- impl.ReadEntry -/
theorem implReadEntry (l : List UInt8) (w : World) (hs : l.length ≤ 4294967280) (hE : Env w) : Calls Tryd.prog 9 #[str l] w (RetRe (readEntry l) w) := by
  have hI : ∀ w, Calls Tryd.prog 38 #[str l, .int .u8 59] w fun q w' => q = .returned (.int .i64 (match posOf 59 l with | some e => (e : Int) | none => -1)) ∧ w = w' := by
    intro w
    refine (Tryd.strings_IndexByte ⟨l.toArray⟩ 59 w).mono ?_
    rintro q w' ⟨rfl, rfl⟩
    exact ⟨by rw [← indexByte_pos]; rfl, rfl⟩
  unfold readEntry
  cases hp : posOf 59 l with
  | none => rw [hp] at hI; exact implReadE_none l w hI
  | some e =>
    rw [hp] at hI
    have hel := (posOf_lt hp).1
    simp only
    have hb1 := (cutFst_len 35 (l.take e)).1
    have htk : (l.take e).length ≤ l.length := List.length_take_le' _ _
    obtain ⟨x, hC⟩ : ∃ x, ∀ w, Env w → Calls Tryd.prog 39 #[.string ((⟨l.toArray⟩ : ByteArray).extract 0 e), .string ⟨#[35]⟩] w fun q w' => q = .returned (.tuple #[str (cutFst 35 (l.take e)), str (cutSnd 35 (l.take e)), .bool x]) ∧ Ext w w' := by
      rw [extract_str0]
      refine ⟨(Lib.cut (l.take e) [35]).2.2, fun w hE => cut_any' _ 35 w (by omega) hE⟩
    obtain ⟨y, hC2⟩ : ∃ y, ∀ w, Env w → Calls Tryd.prog 39 #[str (cutFst 35 (l.take e)), .string ⟨#[58]⟩] w fun q w' => q = .returned (.tuple #[str (cutFst 58 (cutFst 35 (l.take e))), str (cutSnd 58 (cutFst 35 (l.take e))), .bool y]) ∧ Ext w w' :=
      ⟨_, fun w hE => cut_any' _ 58 w (by omega) hE⟩
    generalize hb : cutFst 35 (l.take e) = b at *
    have hf1 := (cutFst_len 58 b).1
    have hf2 := (cutFst_len 58 b).2
    have hN : ∀ o, readL 2 (cutFst 58 b) = o → ∀ w, Calls Tryd.prog 40 #[str (cutFst 58 b), .int .i64 2] w fun q w' => q = .returned (.tuple #[.int .i64 (o.getD 0), .bool o.isSome]) ∧ w = w' := by
      intro o ho w; subst ho; exact readNum_str _ 2 (by omega) (by unfold maxLen; omega) w
    have hR : ∀ o, readDeed (cutSnd 58 b) = o → ∀ w, Env w → Calls Tryd.prog 41 #[str (cutSnd 58 b)] w fun q w' => q = .returned (rdV o) ∧ Ext w w' := by
      intro o ho w hE; subst ho; exact implReadDeed _ w (by omega) hE
    cases hn : readL 2 (cutFst 58 b) with
    | none => exact implReadE_num l b _ _ _ e x y w hs hel hI hC hC2 (hN _ hn) hE
    | some n =>
      cases hd : readDeed (cutSnd 58 b) with
      | none => exact implReadE_deed l b _ _ _ e n x y w hs hel hI hC hC2 (hN _ hn) (hR _ hd) hE
      | some d =>
        obtain ⟨k, a, b0⟩ := d
        have hT : ∀ w, Env w → Calls Tryd.prog 12 #[.int .i64 n, deedV k a b0] w fun q w' => q = .returned (str (entryText n k a b0)) ∧ Ext w w' := fun w hE => implEntry n k a b0 w hE
        by_cases ht : entryText n k a b0 = l.take (e + 1)
        · simp only [ht, if_true]
          exact implReadE_ok l b _ _ _ e n k a b0 _ x y w hs hel hI hC hC2 (hN _ hn) (hR _ hd) hE hT (entryText_len n k a b0) (by rw [extract_take, ht]; simp)
        · simp only [ht, if_false]
          exact implReadE_no l b _ _ _ e n k a b0 _ x y w hs hel hI hC hC2 (hN _ hn) (hR _ hd) hE hT (entryText_len n k a b0) (by rw [extract_take]; simpa using ht)
end Go.Proofs.YtncfnlocdlhagaaDoor

/-
  Both functions JournalText return the text 'journalText' of a list of deeds. Conditions: the slice reads as the list, which has at most 2^40 deeds; the library's table is laid.
-/
namespace Go.Proofs.YtncfnlocdlhagaaDoor
open Go.RowKit
set_option linter.unusedVariables false

/-! ### slices of structs -/
theorem Rd.at {α : Type} {f : α → List Value} {w : World} {b off n cap sz : Nat} {xs : List α} (hf : ∀ a, (f a).length = sz) (h : Rd w (.slice (some ⟨b, off, none⟩) n cap) n sz (xs.flatMap f)) {k : Nat} {a : α} (hk : xs[k]? = some a) (hn : xs.length = n) (j : Nat) (hj : j < sz) :
    w.cell? ⟨b, off + k * sz + j, none⟩ = (f a)[j]? := by
  rcases h.2 with ⟨h1, _⟩ | ⟨b', off', cap', h1, _, _, _, h2⟩
  · simp at h1
  · simp only [Value.slice.injEq, Option.some.injEq, Addr.mk.injEq, and_true, true_and] at h1
    obtain ⟨⟨rfl, rfl⟩, rfl⟩ := h1
    have hkn : k < n := by rw [← hn]; exact (List.getElem?_eq_some_iff.1 hk).1
    have hlt : k * sz + j < n * sz := by
      have : (k + 1) * sz ≤ n * sz := Nat.mul_le_mul_right sz hkn
      rw [Nat.succ_mul] at this; omega
    rw [Nat.add_assoc, h2 _ hlt, flat_get f sz hf xs k a hk j hj]

def deedCells (d : Deed3) : List Value := [.int .i64 d.1, .int .i64 d.2.1, .int .i64 d.2.2]
abbrev RdDeeds (w : World) (v : Value) (ds : List Deed3) : Prop := Rd w v ds.length 3 (ds.flatMap deedCells)
theorem RdDeeds.at {w : World} {b off n cap : Nat} {ds : List Deed3} (h : Rd w (.slice (some ⟨b, off, none⟩) n cap) n 3 (ds.flatMap deedCells)) (hn : ds.length = n) {k : Nat} {d : Deed3} (hk : ds[k]? = some d) :
    w.cell? ⟨b, off + k * 3, none⟩ = some (.int .i64 d.1) ∧ w.cell? ⟨b, off + k * 3 + 1, none⟩ = some (.int .i64 d.2.1) ∧ w.cell? ⟨b, off + k * 3 + 2, none⟩ = some (.int .i64 d.2.2) :=
  ⟨h.at (f := deedCells) (fun _ => rfl) hk hn 0 (by omega), h.at (f := deedCells) (fun _ => rfl) hk hn 1 (by omega), h.at (f := deedCells) (fun _ => rfl) hk hn 2 (by omega)⟩

/-! ### the text -/
def jt (first : Int) : List Deed3 → Option (List UInt8)
  | [] => some []
  | d :: ds => if entryText first d.1 d.2.1 d.2.2 = [] then none else (jt (first + 1) ds).map (entryText first d.1 d.2.1 d.2.2 ++ ·)
def journalText (first : Int) (ds : List Deed3) : List UInt8 := (jt first ds).getD []
theorem jt_append (B : List Deed3) : ∀ (A : List Deed3) (first : Int), jt first (A ++ B) = (jt first A).bind fun x => (jt (first + A.length) B).map (x ++ ·) := by
  intro A
  induction A with
  | nil => intro first; simp [jt]
  | cons d A ih =>
    intro first
    simp only [List.cons_append, jt]
    split
    · simp
    · rw [ih (first + 1)]
      have e : first + 1 + (A.length : Int) = first + ((d :: A).length : Nat) := by simp; omega
      rw [e]
      cases jt (first + 1) A with
      | none => simp
      | some x => simp only [Option.bind_some, Option.map_some, Option.map_map]
                  cases jt (first + ((d :: A).length : Nat)) B <;> simp
theorem jt_bd : ∀ (A : List Deed3) (first : Int) (x : List UInt8), jt first A = some x → (A = [] ∨ 1 ≤ first ∧ first + A.length ≤ 100) ∧ x.length ≤ 200 * A.length := by
  intro A
  induction A with
  | nil => intro first x h; simp [jt] at h; subst h; simp
  | cons d A ih =>
    intro first x h
    simp only [jt] at h
    split at h
    · simp at h
    · rename_i hne
      obtain ⟨y, hy, rfl⟩ := Option.map_eq_some_iff.1 h
      obtain ⟨h1, h2⟩ := ih _ _ hy
      obtain ⟨q1, q2, _⟩ := entryText_form hne
      have := entryText_len first d.1 d.2.1 d.2.2
      refine ⟨.inr ⟨q1, ?_⟩, by simp; omega⟩
      rcases h1 with rfl | ⟨_, h1⟩
      · simp; omega
      · simp; omega
theorem jt_step {first : Int} {ds : List Deed3} {k : Nat} {d : Deed3} {x : List UInt8} (hd : ds[k]? = some d) (hx : jt first (ds.take k) = some x) (hne : entryText (first + k) d.1 d.2.1 d.2.2 ≠ []) :
    jt first (ds.take (k + 1)) = some (x ++ entryText (first + k) d.1 d.2.1 d.2.2) := by
  have hk : k < ds.length := (List.getElem?_eq_some_iff.1 hd).1
  have e : ds.take (k + 1) = ds.take k ++ [d] := by
    rw [List.take_succ_eq_append_getElem hk]; congr 2
    exact (List.getElem?_eq_some_iff.1 hd).2
  have hl : (ds.take k).length = k := by simp; omega
  rw [e, jt_append, hx, hl]; simp [jt, hne]
theorem jt_stop {first : Int} {ds : List Deed3} {k : Nat} {d : Deed3} {x : List UInt8} (hd : ds[k]? = some d) (hx : jt first (ds.take k) = some x) (hne : entryText (first + k) d.1 d.2.1 d.2.2 = []) :
    jt first ds = none := by
  have hk : k < ds.length := (List.getElem?_eq_some_iff.1 hd).1
  have e : ds = ds.take k ++ d :: ds.drop (k + 1) := by
    conv => lhs; rw [← List.take_append_drop k ds]
    congr 1
    rw [List.drop_eq_getElem_cons hk]; congr 1
    exact (List.getElem?_eq_some_iff.1 hd).2
  have hl : (ds.take k).length = k := by simp; omega
  rw [e, jt_append, hx, hl]; simp [jt, hne]

/-! ### a builder while the world grows -/
theorem Ext.gb {w w' : World} (h : Ext w w') : w.grownBy w' none := ⟨h.os, h.tape, h.output, h.size, fun k hk _ => h.block k hk⟩
theorem builderAt_ext {T e : TypeId} {B b : Nat} {p : Value} {bs : List Value} {w w' : World} (h : Lib.BuilderAtF T e B b p bs w) (hx : Ext w w') : Lib.BuilderAtF T e B b p bs w' := by
  have hlt := h.lt
  obtain ⟨hB, v, hh, hown, hne⟩ := h
  exact ⟨hB, v, by rw [hx.block b hlt]; exact hh, hown.kept hx.gb (by cases v.ownBlock <;> simp), hne⟩
theorem builder_ext {T e : TypeId} {B b : Nat} {bs : List Value} {w w' : World} (h : Lib.IsBuilderF T e B b bs w) (hx : Ext w w') : Lib.IsBuilderF T e B b bs w' :=
  h.elim (fun q => .inl (builderAt_ext q hx)) (fun q => .inr (builderAt_ext q hx))
theorem ext_below {w wr w' : World} {B : Nat} (h : Ext w wr) (hb : Below B wr w') (hB : w.heap.size ≤ B) : Ext w w' := Below.trans h (Below.mono hb hB)
end Go.Proofs.YtncfnlocdlhagaaDoor

/-
  Both functions JournalText return the text 'journalText' of a list of deeds. Conditions: the slice reads as the list, which has at most 2^40 deeds; the library's table is laid.
-/
namespace Go.Proofs.YtncfnlocdlhagaaDoor
open Go.RowKit
set_option linter.unusedVariables false

theorem jt_arg {first : Int} {ds : List Deed3} {k : Nat} {x : List UInt8} (hx : jt first (ds.take k) = some x) (hk : k < ds.length) (hB : -9223372036854775808 ≤ first ∧ first ≤ 9223372036854775807) :
    -9223372036854775808 ≤ first + k ∧ first + k ≤ 9223372036854775807 ∧ x.length ≤ 20000 := by
  have hl : (ds.take k).length = k := by simp; omega
  obtain ⟨h1, h2⟩ := jt_bd _ _ _ hx
  rw [hl] at h1 h2
  rcases h1 with h1 | h1
  · have := congrArg List.length h1
    rw [hl] at this; simp at this; subst this; simp; omega
  · omega

set_option maxRecDepth 100000 in
set_option maxHeartbeats 1000000 in
theorem specJournal_some (first : Int) (ds : List Deed3) (b off n cap : Nat) (w : World) (hB : -9223372036854775808 ≤ first ∧ first ≤ 9223372036854775807) (hn : ds.length = n) (hn2 : n ≤ 1099511627776) (hb : b < w.heap.size)
    (HR : Hid (Rd w (.slice (some ⟨b, off, none⟩) n cap) n 3 (ds.flatMap deedCells))) :
    Calls Tryd.prog 50 #[.int .i64 first, .slice (some ⟨b, off, none⟩) n cap] w fun e w' => e = .returned (str (journalText first ds)) ∧ Ext w w' := by
  have HN := Lib.hid hn
  clear hn
  go_enter Tryd.func50, Tryd.ntmps50
  go_wp2
  go_loopw [5, 6] (fun out i wr => ∃ (k : Nat) (acc : List UInt8), k ≤ n ∧ i = .int .i64 k ∧ out = str acc ∧ jt first (ds.take k) = some acc ∧ Ext w wr) (fun _ i _ => n - (intOf i).toNat)
  case atStart => exact ⟨0, [], Nat.zero_le _, rfl, rfl, rfl, Ext.refl _⟩
  case round =>
    obtain ⟨k, acc, hk, rfl, rfl, hj, hE⟩ := hrel
    have HJ := Lib.hid hj
    clear hj
    by_cases hlt : k < n
    · obtain ⟨d, hd⟩ : ∃ d, ds[k]? = some d := ⟨_, List.getElem?_eq_getElem (by rw [HN.out]; exact hlt)⟩
      have HD := Lib.hid hd
      obtain ⟨c0, c1, c2⟩ := RdDeeds.at HR.out HN.out hd
      have e0 := (hE.cells.1 _ _ hb).trans c0
      have e1 := (hE.cells.1 _ _ hb).trans c1
      have e2 := (hE.cells.1 _ _ hb).trans c2
      obtain ⟨q1, q2, q3⟩ := jt_arg HJ.out (by rw [HN.out]; exact hlt) hB
      have hsz := hE.sz
      clear c0 c1 c2 hd
      obtain ⟨d0, d1, d2⟩ := d
      obtain ⟨t, ht⟩ : ∃ t, entryText (first + k) d0 d1 d2 = t := ⟨_, rfl⟩
      have htl : t.length ≤ 200 := by rw [← ht]; exact entryText_len _ _ _ _
      have HS : Hid (∀ w, Calls Tryd.prog 34 #[.int .i64 (first + k), deedV d0 d1 d2] w fun e w' => e = .returned (str t) ∧ Ext w w') := fun w => by rw [← ht]; exact specEntry _ _ _ _ w
      have HT := Lib.hid ht
      clear ht
      by_cases h0 : t = []
      · have hb0 : t.isEmpty = true := by simp [h0]
        have hfin : Hid (journalText first ds = []) := by show _ = _; rw [journalText, jt_stop HD.out HJ.out (by rw [HT.out, h0])]; rfl
        clear h0
        go_wp2_with fail
        refine (HS.out _).mono ?_
        rintro e w1 ⟨rfl, h1⟩
        go_wp2
        go_ret
        exact ⟨ret_str hfin.out.symm, by (repeat' (first | exact Ext.refl _ | (with_reducible assumption) | (with_reducible refine Ext.alloc ?_ _) | (with_reducible refine Ext.setCell ?_ (by first | exact Nat.le_refl _ | (dsimp only; omega) | (simp; done) | (simp; omega)) _) | (with_reducible refine Ext.drew ?_) | (with_reducible refine Ext.drewN ?_ _) | (refine Ext.trans ?_ (by with_reducible assumption))))⟩
      · have hb0 : t.isEmpty = false := by simp [h0]
        have hfin : Hid (jt first (ds.take (k + 1)) = some (acc ++ t)) := by show _ = _; rw [jt_step HD.out HJ.out (by rw [HT.out]; exact h0), HT.out]
        clear h0
        go_wp2_with fail
        refine (HS.out _).mono ?_
        rintro e w1 ⟨rfl, h1⟩
        go_wp2
        go_roundw
        case rel => exact ⟨k + 1, acc ++ t, by omega, by go_num, rfl, hfin.out, by (repeat' (first | exact Ext.refl _ | (with_reducible assumption) | (with_reducible refine Ext.alloc ?_ _) | (with_reducible refine Ext.setCell ?_ (by first | exact Nat.le_refl _ | (dsimp only; omega) | (simp; done) | (simp; omega)) _) | (with_reducible refine Ext.drew ?_) | (with_reducible refine Ext.drewN ?_ _) | (refine Ext.trans ?_ (by with_reducible assumption))))⟩
        case measure => simp [intOf]; omega
    · have e : ds.take k = ds := List.take_of_length_le (by rw [HN.out]; omega)
      have hfin : Hid (journalText first ds = acc) := by show _ = _; rw [journalText, ← e, HJ.out]; rfl
      clear e
      go_wp2
      go_ret
      exact ⟨ret_str hfin.out.symm, by (repeat' (first | exact Ext.refl _ | (with_reducible assumption) | (with_reducible refine Ext.alloc ?_ _) | (with_reducible refine Ext.setCell ?_ (by first | exact Nat.le_refl _ | (dsimp only; omega) | (simp; done) | (simp; omega)) _) | (with_reducible refine Ext.drew ?_) | (with_reducible refine Ext.drewN ?_ _) | (refine Ext.trans ?_ (by with_reducible assumption))))⟩

theorem byteCells_append (a b : List UInt8) : Lib.byteCells (a ++ b) = Lib.byteCells a ++ Lib.strCells ⟨b.toArray⟩ := by
  simp [Lib.byteCells, Lib.strCells]

set_option maxRecDepth 100000 in
set_option maxHeartbeats 1000000 in
theorem implJournal_some (first : Int) (ds : List Deed3) (b off n cap : Nat) (w : World) (hE0 : Env w) (hB : -9223372036854775808 ≤ first ∧ first ≤ 9223372036854775807) (hn : ds.length = n) (hn2 : n ≤ 1099511627776) (hb : b < w.heap.size)
    (HR : Hid (Rd w (.slice (some ⟨b, off, none⟩) n cap) n 3 (ds.flatMap deedCells))) :
    Calls Tryd.prog 17 #[.int .i64 first, .slice (some ⟨b, off, none⟩) n cap] w fun e w' => e = .returned (str (journalText first ds)) ∧ Ext w w' := by
  have HN := Lib.hid hn
  have HE0 := Lib.hid hE0
  clear hn hE0
  go_enter Tryd.func17, Tryd.ntmps17
  go_wp2
  go_loopw [11] (fun i wr => ∃ (k : Nat) (acc : List UInt8), k ≤ n ∧ i = .int .i64 k ∧ jt first (ds.take k) = some acc ∧ Lib.IsBuilderF 87 5 w.heap.size w.heap.size (Lib.byteCells acc) wr ∧ Ext w wr) (fun i _ => n - (intOf i).toNat)
  case atStart => exact ⟨0, [], Nat.zero_le _, rfl, rfl, .inl ⟨Nat.le_refl _, .slice none 0 0, by rw [heap_alloc_new], World.ownsRowF_nil _ _ _ _, by simp [Value.ownBlock]⟩, (Ext.refl _).alloc _⟩
  case round =>
    obtain ⟨k, acc, hk, rfl, hj, hbu, hE⟩ := hrel
    have HJ := Lib.hid hj
    have HBU := Lib.hid hbu
    clear hj hbu
    by_cases hlt : k < n
    · obtain ⟨d, hd⟩ : ∃ d, ds[k]? = some d := ⟨_, List.getElem?_eq_getElem (by rw [HN.out]; exact hlt)⟩
      have HD := Lib.hid hd
      obtain ⟨c0, c1, c2⟩ := RdDeeds.at HR.out HN.out hd
      have e0 := (hE.cells.1 _ _ hb).trans c0
      have e1 := (hE.cells.1 _ _ hb).trans c1
      have e2 := (hE.cells.1 _ _ hb).trans c2
      obtain ⟨q1, q2, q3⟩ := jt_arg HJ.out (by rw [HN.out]; exact hlt) hB
      have hsz := hE.sz
      clear c0 c1 c2 hd
      obtain ⟨d0, d1, d2⟩ := d
      obtain ⟨t, ht⟩ : ∃ t, entryText (first + k) d0 d1 d2 = t := ⟨_, rfl⟩
      have htl : t.length ≤ 200 := by rw [← ht]; exact entryText_len _ _ _ _
      have HS : Hid (∀ w, Env w → Calls Tryd.prog 12 #[.int .i64 (first + k), deedV d0 d1 d2] w fun e w' => e = .returned (str t) ∧ Ext w w') := fun w hE => by rw [← ht]; exact implEntry _ _ _ _ w hE
      have HT := Lib.hid ht
      clear ht
      by_cases h0 : t = []
      · have hb0 : t.isEmpty = true := by simp [h0]
        have hfin : Hid (journalText first ds = []) := by show _ = _; rw [journalText, jt_stop HD.out HJ.out (by rw [HT.out, h0])]; rfl
        clear h0
        go_wp2_with fail
        refine (HS.out _ (HE0.out.ext (by (repeat' (first | exact Ext.refl _ | (with_reducible assumption) | (with_reducible refine Ext.alloc ?_ _) | (with_reducible refine Ext.setCell ?_ (by first | exact Nat.le_refl _ | (dsimp only; omega) | (simp; done) | (simp; omega)) _) | (with_reducible refine Ext.drew ?_) | (with_reducible refine Ext.drewN ?_ _) | (refine Ext.trans ?_ (by with_reducible assumption))))))).mono ?_
        rintro e w1 ⟨rfl, h1⟩
        go_wp2
        go_ret
        exact ⟨ret_str hfin.out.symm, by (repeat' (first | exact Ext.refl _ | (with_reducible assumption) | (with_reducible refine Ext.alloc ?_ _) | (with_reducible refine Ext.setCell ?_ (by first | exact Nat.le_refl _ | (dsimp only; omega) | (simp; done) | (simp; omega)) _) | (with_reducible refine Ext.drew ?_) | (with_reducible refine Ext.drewN ?_ _) | (refine Ext.trans ?_ (by with_reducible assumption))))⟩
      · have hb0 : t.isEmpty = false := by simp [h0]
        have hfin : Hid (jt first (ds.take (k + 1)) = some (acc ++ t)) := by show _ = _; rw [jt_step HD.out HJ.out (by rw [HT.out]; exact h0), HT.out]
        clear h0
        go_wp2_with fail
        refine (HS.out _ (HE0.out.ext (by (repeat' (first | exact Ext.refl _ | (with_reducible assumption) | (with_reducible refine Ext.alloc ?_ _) | (with_reducible refine Ext.setCell ?_ (by first | exact Nat.le_refl _ | (dsimp only; omega) | (simp; done) | (simp; omega)) _) | (with_reducible refine Ext.drew ?_) | (with_reducible refine Ext.drewN ?_ _) | (refine Ext.trans ?_ (by with_reducible assumption))))))).mono ?_
        rintro e w1 ⟨rfl, h1⟩
        have hb1 := builder_ext (HBU.out.alloc _) h1
        have hs1 := h1.sz
        simp only [World.size_alloc] at hs1
        have HB1 := Lib.hid hb1
        clear hb1
        go_wp2_with fail
        refine (WriteString_k w.heap.size w.heap.size (Lib.byteCells acc) ⟨t.toArray⟩ _ HB1.out (by simp [Lib.byteCells, ByteArray.size]; omega) (by omega)).mono ?_
        rintro e w2 ⟨rfl, h2, h3, _⟩
        have HB2 : Hid (Lib.IsBuilderF 87 5 w.heap.size w.heap.size (Lib.byteCells (acc ++ t)) w2) := by rw [byteCells_append]; exact .inr h2
        have hE2 : Ext w w2 := ext_below (by (repeat' (first | exact Ext.refl _ | (with_reducible assumption) | (with_reducible refine Ext.alloc ?_ _) | (with_reducible refine Ext.setCell ?_ (by first | exact Nat.le_refl _ | (dsimp only; omega) | (simp; done) | (simp; omega)) _) | (with_reducible refine Ext.drew ?_) | (with_reducible refine Ext.drewN ?_ _) | (refine Ext.trans ?_ (by with_reducible assumption))))) h3 (Nat.le_refl _)
        clear h2 h3
        go_wp2
        go_roundw
        case rel => exact ⟨k + 1, acc ++ t, by omega, by go_num, hfin.out, HB2.out, hE2⟩
        case measure => simp [intOf]; omega
    · have e : ds.take k = ds := List.take_of_length_le (by rw [HN.out]; omega)
      have hfin : Hid (journalText first ds = acc) := by show _ = _; rw [journalText, ← e, HJ.out]; rfl
      have hsz := hE.sz
      clear e
      go_wp2_with fail
      refine (Tryd.Builder_String_any_f w.heap.size w.heap.size acc _ HBU.out hsz).mono ?_
      rintro e w1 ⟨rfl, h2, h3⟩
      have hE2 : Ext w w1 := ext_below hE h3 (Nat.le_refl _)
      clear h2 h3
      go_wp2
      go_ret
      exact ⟨ret_str hfin.out.symm, by (repeat' (first | exact Ext.refl _ | (with_reducible assumption) | (with_reducible refine Ext.alloc ?_ _) | (with_reducible refine Ext.setCell ?_ (by first | exact Nat.le_refl _ | (dsimp only; omega) | (simp; done) | (simp; omega)) _) | (with_reducible refine Ext.drew ?_) | (with_reducible refine Ext.drewN ?_ _) | (refine Ext.trans ?_ (by with_reducible assumption))))⟩
end Go.Proofs.YtncfnlocdlhagaaDoor

/-
  impl.HallText is the text of a hall ('hallText'). Conditions: the slice of cells reads as a list; the library's table is laid.
-/
namespace Go.Proofs.YtncfnlocdlhagaaDoor
open Go.RowKit
set_option linter.unusedVariables false

def cellTok (x : Int) : List UInt8 := if x = 0 then [46] else Lib.decDigits x.toNat
def cellSep (wide : Int) (k : Nat) : List UInt8 := if k = 0 then [] else if (k : Int) % wide = 0 then [47] else [44]
def hallTextN (wide : Int) (xs : List Int) : Nat → List UInt8
  | 0 => []
  | k + 1 => hallTextN wide xs k ++ cellSep wide k ++ cellTok (xs[k]?.getD 0)
def hallText (wide deep : Int) (xs : List Int) : List UInt8 := if hallOk wide deep xs then hallTextN wide xs xs.length else []

theorem cellTok_len (x : Int) (h : x ≤ 99) : (cellTok x).length ≤ 21 := by
  unfold cellTok; split
  · simp
  · exact decDigits_len _ (by omega)
theorem hallTextN_len (wide : Int) (xs : List Int) (h : ∀ x ∈ xs, x ≤ 99) : ∀ k, (hallTextN wide xs k).length ≤ 22 * k := by
  intro k
  induction k with
  | zero => simp [hallTextN]
  | succ k ih =>
    have h1 : (cellTok (xs[k]?.getD 0)).length ≤ 21 := by
      refine cellTok_len _ ?_
      cases hx : xs[k]? with
      | none => simp
      | some x => exact h x (List.mem_of_getElem? hx)
    have h2 : (cellSep wide k).length ≤ 1 := by unfold cellSep; split; simp; split <;> simp
    simp only [hallTextN, List.length_append]; omega
theorem hallTextN_step {wide : Int} {xs : List Int} {k : Nat} {x : Int} (h : xs[k]? = some x) : hallTextN wide xs (k + 1) = hallTextN wide xs k ++ cellSep wide k ++ cellTok x := by
  simp [hallTextN, h]
theorem byteCells_one (a : List UInt8) (c : UInt8) (ci : Int) (hc : ci = (c.toNat : Int)) : Lib.byteCells (a ++ [c]) = Lib.byteCells a ++ [.int .u8 ci] := by
  subst hc; simp [Lib.byteCells]

set_option maxRecDepth 100000 in
set_option maxHeartbeats 1000000 in
theorem implHallText_bad (wide deep : Int) (p : Option Addr) (n cap : Nat) (w : World) (HV : Hid (∀ w', Ext w w' → Calls Tryd.prog 75 #[hallV wide deep p n cap] w' fun e w'' => e = .returned (.bool false) ∧ Ext w' w'')) :
    Calls Tryd.prog 45 #[hallV wide deep p n cap] w fun e w' => e = .returned (str []) ∧ Ext w w' := by
  go_enter Tryd.func45, Tryd.ntmps45
  go_wp2_with fail
  refine (HV.out _ (by (repeat' (first | exact Ext.refl _ | (with_reducible assumption) | (with_reducible refine Ext.alloc ?_ _) | (with_reducible refine Ext.setCell ?_ (by first | exact Nat.le_refl _ | (dsimp only; omega) | (simp; done) | (simp; omega)) _) | (with_reducible refine Ext.drew ?_) | (with_reducible refine Ext.drewN ?_ _) | (refine Ext.trans ?_ (by with_reducible assumption)))))).mono ?_
  rintro e w1 ⟨rfl, h1⟩
  go_wp2
  go_ret
  exact ⟨rfl, by (repeat' (first | exact Ext.refl _ | (with_reducible assumption) | (with_reducible refine Ext.alloc ?_ _) | (with_reducible refine Ext.setCell ?_ (by first | exact Nat.le_refl _ | (dsimp only; omega) | (simp; done) | (simp; omega)) _) | (with_reducible refine Ext.drew ?_) | (with_reducible refine Ext.drewN ?_ _) | (refine Ext.trans ?_ (by with_reducible assumption))))⟩

set_option maxRecDepth 100000 in
set_option maxHeartbeats 1000000 in
theorem implHallText_ok (wide deep : Int) (p : Option Addr) (n cap : Nat) (xs : List Int) (w : World) (hE0 : Env w) (h0 : 2 ≤ wide) (h1 : wide ≤ 4) (hn : n ≤ 12) (hc : ∀ x ∈ xs, 0 ≤ x ∧ x ≤ 99) (HS : Hid (Sl w p n cap 1 (ivs xs)))
    (HV : Hid (∀ w', Ext w w' → Calls Tryd.prog 75 #[hallV wide deep p n cap] w' fun e w'' => e = .returned (.bool true) ∧ Ext w' w'')) :
    Calls Tryd.prog 45 #[hallV wide deep p n cap] w fun e w' => e = .returned (str (hallTextN wide xs n)) ∧ Ext w w' := by
  have HE0 := Lib.hid hE0
  have HC := Lib.hid hc
  clear hE0 hc
  go_enter Tryd.func45, Tryd.ntmps45
  go_wp2_with fail
  refine (HV.out _ (by (repeat' (first | exact Ext.refl _ | (with_reducible assumption) | (with_reducible refine Ext.alloc ?_ _) | (with_reducible refine Ext.setCell ?_ (by first | exact Nat.le_refl _ | (dsimp only; omega) | (simp; done) | (simp; omega)) _) | (with_reducible refine Ext.drew ?_) | (with_reducible refine Ext.drewN ?_ _) | (refine Ext.trans ?_ (by with_reducible assumption)))))).mono ?_
  rintro e w1 ⟨rfl, h1'⟩
  have hz1 : w.heap.size < w1.heap.size := Nat.lt_of_lt_of_le (by simp) h1'.sz
  have ea : w1.cell? ⟨w.heap.size, 0, none⟩ = some (.int .i64 wide) := by rw [h1'.cells.1 _ _ (by simp)]; simp
  have eb : w1.cell? ⟨w.heap.size, 2, none⟩ = some (.slice p n cap) := by rw [h1'.cells.1 _ _ (by simp)]; simp
  have hx1 : Ext w w1 := by (repeat' (first | exact Ext.refl _ | (with_reducible assumption) | (with_reducible refine Ext.alloc ?_ _) | (with_reducible refine Ext.setCell ?_ (by first | exact Nat.le_refl _ | (dsimp only; omega) | (simp; done) | (simp; omega)) _) | (with_reducible refine Ext.drew ?_) | (with_reducible refine Ext.drewN ?_ _) | (refine Ext.trans ?_ (by with_reducible assumption))))
  go_wp2
  go_loopw [12] (fun i wr => ∃ (k : Nat), k ≤ n ∧ i = .int .i64 k ∧ Lib.IsBuilderF 87 5 w1.heap.size w1.heap.size (Lib.byteCells (hallTextN wide xs k)) wr ∧ Ext w1 wr ∧ w1.heap.size < wr.heap.size) (fun i _ => n - (intOf i).toNat)
  case atStart => exact ⟨0, Nat.zero_le _, rfl, .inl ⟨Nat.le_refl _, .slice none 0 0, by rw [heap_alloc_new], World.ownsRowF_nil _ _ _ _, by simp [Value.ownBlock]⟩, (Ext.refl _).alloc _, by simp⟩
  case round =>
    obtain ⟨k, hk, rfl, hbu, hE, hsw⟩ := hrel
    have HBU := Lib.hid hbu
    clear hbu
    have hEw : Ext w wr := hx1.trans hE
    have ea2 : wr.cell? ⟨w.heap.size, 0, none⟩ = some (.int .i64 wide) := (hE.cells.1 _ _ hz1).trans ea
    have hbl : (Lib.byteCells (hallTextN wide xs k)).length ≤ 300 := by
      have := hallTextN_len wide xs (fun x hx => (HC.out x hx).2) k
      simp [Lib.byteCells]; omega
    by_cases hlt : k < n
    · obtain ⟨b, off, x, rfl, hx, hbs, hcell⟩ := (HS.out.ext hEw).int_at hlt
      obtain ⟨hx0, hx1'⟩ := HC.out x (List.mem_of_getElem? hx)
      have HX := Lib.hid hx
      clear hx
      have hfin := Lib.hid (hallTextN_step (wide := wide) HX.out)
      by_cases hk0 : k = 0
      · have k1 : ((k : Int) == 0) = true := by simp [hk0]
        have hsep : Hid (cellSep wide k = []) := by show _ = _; simp [cellSep, hk0]
        clear hk0
        by_cases hz : x = 0
        · have z1 : (x == 0) = true := by simp [hz]
          have hacc : Hid (hallTextN wide xs (k + 1) = hallTextN wide xs k ++ [46]) := by show _ = _; rw [hfin.out, hsep.out, List.append_nil]; simp [cellTok, hz]
          clear hz
          go_wp2_with fail
          refine (WriteByte_k w1.heap.size w1.heap.size (Lib.byteCells (hallTextN wide xs k)) 46 _ HBU.out (by simp [Lib.byteCells] at hbl ⊢; omega) (by omega)).mono ?_
          rintro e w3 ⟨rfl, h2, h3, _⟩
          have HB3 : Hid (Lib.IsBuilderF 87 5 w1.heap.size w1.heap.size (Lib.byteCells (hallTextN wide xs (k + 1))) w3) := by rw [hacc.out, byteCells_one _ 46 46 rfl]; exact .inr h2
          have hE3 : Ext w1 w3 := ext_below hE h3 (Nat.le_refl _)
          have hs3 : w1.heap.size < w3.heap.size := Nat.lt_of_lt_of_le hsw h3.size
          clear h2 h3
          go_wp2
          go_roundw
          case rel => exact ⟨k + 1, by omega, by go_num, HB3.out, hE3, hs3⟩
          case measure => simp [intOf]; omega
        · have z1 : (x == 0) = false := by simp [hz]
          have hacc : Hid (hallTextN wide xs (k + 1) = hallTextN wide xs k ++ Lib.decDigits x.toNat) := by show _ = _; rw [hfin.out, hsep.out, List.append_nil]; simp [cellTok, hz]
          clear hz
          have hdl : (Lib.decDigits x.toNat).length ≤ 21 := decDigits_len _ (by omega)
          go_wp2_with fail
          refine (itoaI x _ hx0 (by omega) (HE0.out.ext (hx1.trans hE))).mono ?_
          rintro e w3 ⟨rfl, h3'⟩
          have HB2 := Lib.hid (builder_ext HBU.out h3')
          have hs3' : w1.heap.size < w3.heap.size := Nat.lt_of_lt_of_le hsw h3'.sz
          go_wp2_with fail
          refine (WriteString_k w1.heap.size w1.heap.size (Lib.byteCells (hallTextN wide xs k)) _ _ HB2.out (by simp [Lib.byteCells, ByteArray.size] at hbl ⊢; omega) (by omega)).mono ?_
          rintro e w4 ⟨rfl, h2, h3, _⟩
          have HB3 : Hid (Lib.IsBuilderF 87 5 w1.heap.size w1.heap.size (Lib.byteCells (hallTextN wide xs (k + 1))) w4) := by rw [hacc.out, byteCells_append]; exact .inr h2
          have hE3 : Ext w1 w4 := ext_below (Ext.trans hE h3') h3 (Nat.le_refl _)
          have hs3 : w1.heap.size < w4.heap.size := Nat.lt_of_lt_of_le hs3' h3.size
          clear h2 h3
          go_wp2
          go_roundw
          case rel => exact ⟨k + 1, by omega, by go_num, HB3.out, hE3, hs3⟩
          case measure => simp [intOf]; omega
      · have k1 : ((k : Int) == 0) = false := by simp; omega
        by_cases hm : (k : Int) % wide = 0
        · have k2 : ((k : Int) % wide == 0) = true := by simp [hm]
          have hsep : Hid (cellSep wide k = [47]) := by show _ = _; simp [cellSep, hk0, hm]
          clear hk0 hm
          go_wp2_with fail
          refine (WriteByte_k w1.heap.size w1.heap.size (Lib.byteCells (hallTextN wide xs k)) 47 _ HBU.out (by omega) (by omega)).mono ?_
          rintro e w2 ⟨rfl, h2, h3, _⟩
          have HBS : Hid (Lib.IsBuilderF 87 5 w1.heap.size w1.heap.size (Lib.byteCells (hallTextN wide xs k ++ [47])) w2) := by rw [byteCells_one _ 47 47 rfl]; exact .inr h2
          have hE2 : Ext w1 w2 := ext_below hE h3 (Nat.le_refl _)
          have hs2 : w1.heap.size < w2.heap.size := Nat.lt_of_lt_of_le hsw h3.size
          clear h2 h3
          by_cases hz : x = 0
          · have z1 : (x == 0) = true := by simp [hz]
            have hacc : Hid (hallTextN wide xs (k + 1) = hallTextN wide xs k ++ [47] ++ [46]) := by show _ = _; rw [hfin.out, hsep.out]; simp [cellTok, hz]
            clear hz
            go_wp2_with fail
            refine (WriteByte_k w1.heap.size w1.heap.size (Lib.byteCells (hallTextN wide xs k ++ [47])) 46 _ HBS.out (by simp [Lib.byteCells] at hbl ⊢; omega) (by omega)).mono ?_
            rintro e w3 ⟨rfl, h2, h3, _⟩
            have HB3 : Hid (Lib.IsBuilderF 87 5 w1.heap.size w1.heap.size (Lib.byteCells (hallTextN wide xs (k + 1))) w3) := by rw [hacc.out, byteCells_one _ 46 46 rfl]; exact .inr h2
            have hE3 : Ext w1 w3 := ext_below hE2 h3 (Nat.le_refl _)
            have hs3 : w1.heap.size < w3.heap.size := Nat.lt_of_lt_of_le hs2 h3.size
            clear h2 h3
            go_wp2
            go_roundw
            case rel => exact ⟨k + 1, by omega, by go_num, HB3.out, hE3, hs3⟩
            case measure => simp [intOf]; omega
          · have z1 : (x == 0) = false := by simp [hz]
            have hacc : Hid (hallTextN wide xs (k + 1) = hallTextN wide xs k ++ [47] ++ Lib.decDigits x.toNat) := by show _ = _; rw [hfin.out, hsep.out]; simp [cellTok, hz]
            clear hz
            have hdl : (Lib.decDigits x.toNat).length ≤ 21 := decDigits_len _ (by omega)
            go_wp2_with fail
            refine (itoaI x _ hx0 (by omega) (HE0.out.ext (hx1.trans hE2))).mono ?_
            rintro e w3 ⟨rfl, h3'⟩
            have HB2 := Lib.hid (builder_ext HBS.out h3')
            have hs3' : w1.heap.size < w3.heap.size := Nat.lt_of_lt_of_le hs2 h3'.sz
            go_wp2_with fail
            refine (WriteString_k w1.heap.size w1.heap.size (Lib.byteCells (hallTextN wide xs k ++ [47])) _ _ HB2.out (by simp [Lib.byteCells, ByteArray.size] at hbl ⊢; omega) (by omega)).mono ?_
            rintro e w4 ⟨rfl, h2, h3, _⟩
            have HB3 : Hid (Lib.IsBuilderF 87 5 w1.heap.size w1.heap.size (Lib.byteCells (hallTextN wide xs (k + 1))) w4) := by rw [hacc.out, byteCells_append]; exact .inr h2
            have hE3 : Ext w1 w4 := ext_below (Ext.trans hE2 h3') h3 (Nat.le_refl _)
            have hs3 : w1.heap.size < w4.heap.size := Nat.lt_of_lt_of_le hs3' h3.size
            clear h2 h3
            go_wp2
            go_roundw
            case rel => exact ⟨k + 1, by omega, by go_num, HB3.out, hE3, hs3⟩
            case measure => simp [intOf]; omega
        · have k2 : ((k : Int) % wide == 0) = false := by simp [hm]
          have hsep : Hid (cellSep wide k = [44]) := by show _ = _; simp [cellSep, hk0, hm]
          clear hk0 hm
          go_wp2_with fail
          refine (WriteByte_k w1.heap.size w1.heap.size (Lib.byteCells (hallTextN wide xs k)) 44 _ HBU.out (by omega) (by omega)).mono ?_
          rintro e w2 ⟨rfl, h2, h3, _⟩
          have HBS : Hid (Lib.IsBuilderF 87 5 w1.heap.size w1.heap.size (Lib.byteCells (hallTextN wide xs k ++ [44])) w2) := by rw [byteCells_one _ 44 44 rfl]; exact .inr h2
          have hE2 : Ext w1 w2 := ext_below hE h3 (Nat.le_refl _)
          have hs2 : w1.heap.size < w2.heap.size := Nat.lt_of_lt_of_le hsw h3.size
          clear h2 h3
          by_cases hz : x = 0
          · have z1 : (x == 0) = true := by simp [hz]
            have hacc : Hid (hallTextN wide xs (k + 1) = hallTextN wide xs k ++ [44] ++ [46]) := by show _ = _; rw [hfin.out, hsep.out]; simp [cellTok, hz]
            clear hz
            go_wp2_with fail
            refine (WriteByte_k w1.heap.size w1.heap.size (Lib.byteCells (hallTextN wide xs k ++ [44])) 46 _ HBS.out (by simp [Lib.byteCells] at hbl ⊢; omega) (by omega)).mono ?_
            rintro e w3 ⟨rfl, h2, h3, _⟩
            have HB3 : Hid (Lib.IsBuilderF 87 5 w1.heap.size w1.heap.size (Lib.byteCells (hallTextN wide xs (k + 1))) w3) := by rw [hacc.out, byteCells_one _ 46 46 rfl]; exact .inr h2
            have hE3 : Ext w1 w3 := ext_below hE2 h3 (Nat.le_refl _)
            have hs3 : w1.heap.size < w3.heap.size := Nat.lt_of_lt_of_le hs2 h3.size
            clear h2 h3
            go_wp2
            go_roundw
            case rel => exact ⟨k + 1, by omega, by go_num, HB3.out, hE3, hs3⟩
            case measure => simp [intOf]; omega
          · have z1 : (x == 0) = false := by simp [hz]
            have hacc : Hid (hallTextN wide xs (k + 1) = hallTextN wide xs k ++ [44] ++ Lib.decDigits x.toNat) := by show _ = _; rw [hfin.out, hsep.out]; simp [cellTok, hz]
            clear hz
            have hdl : (Lib.decDigits x.toNat).length ≤ 21 := decDigits_len _ (by omega)
            go_wp2_with fail
            refine (itoaI x _ hx0 (by omega) (HE0.out.ext (hx1.trans hE2))).mono ?_
            rintro e w3 ⟨rfl, h3'⟩
            have HB2 := Lib.hid (builder_ext HBS.out h3')
            have hs3' : w1.heap.size < w3.heap.size := Nat.lt_of_lt_of_le hs2 h3'.sz
            go_wp2_with fail
            refine (WriteString_k w1.heap.size w1.heap.size (Lib.byteCells (hallTextN wide xs k ++ [44])) _ _ HB2.out (by simp [Lib.byteCells, ByteArray.size] at hbl ⊢; omega) (by omega)).mono ?_
            rintro e w4 ⟨rfl, h2, h3, _⟩
            have HB3 : Hid (Lib.IsBuilderF 87 5 w1.heap.size w1.heap.size (Lib.byteCells (hallTextN wide xs (k + 1))) w4) := by rw [hacc.out, byteCells_append]; exact .inr h2
            have hE3 : Ext w1 w4 := ext_below (Ext.trans hE2 h3') h3 (Nat.le_refl _)
            have hs3 : w1.heap.size < w4.heap.size := Nat.lt_of_lt_of_le hs3' h3.size
            clear h2 h3
            go_wp2
            go_roundw
            case rel => exact ⟨k + 1, by omega, by go_num, HB3.out, hE3, hs3⟩
            case measure => simp [intOf]; omega
    · obtain rfl : k = n := by omega
      go_wp2_with fail
      refine (Tryd.Builder_String_any_f w1.heap.size w1.heap.size (hallTextN wide xs k) _ HBU.out (by omega)).mono ?_
      rintro e w2 ⟨rfl, h2, h3⟩
      have hE2 : Ext w w2 := ext_below hEw h3 (by omega)
      clear h2 h3
      go_wp2
      go_ret
      exact ⟨rfl, hE2⟩
end Go.Proofs.YtncfnlocdlhagaaDoor

/-
  impl.HallText at every hall; laws.alive returns true. Condition: the library's table is laid.
-/
namespace Go.Proofs.YtncfnlocdlhagaaDoor
open Go.RowKit
set_option linter.unusedVariables false

theorem hallOk_parts {wide deep : Int} {xs : List Int} (h : hallOk wide deep xs = true) : 2 ≤ wide ∧ wide ≤ 4 ∧ 2 ≤ deep ∧ deep ≤ 3 ∧ 4 ≤ xs.length ∧ xs.length ≤ 12 ∧ (xs.length : Int) = wide * deep ∧ (∀ x ∈ xs, 0 ≤ x ∧ x ≤ 99) ∧ (xs.filter (fun x => decide (0 < x))).Nodup := by
  simp only [hallOk, Bool.and_eq_true] at h
  obtain ⟨h1, h2, h3, h4, h5, h6, h7⟩ := shape_bd h.1
  obtain ⟨q1, _, q3⟩ := (cellsOk_iff _ _).1 h.2
  exact ⟨h1, h2, h3, h4, h5, h6, h7, q1, q3⟩

/-- impl.HallText -/
theorem implHallText (wide deep : Int) (p : Option Addr) (n cap : Nat) (xs : List Int) (w : World) (hE : Env w) (hS : Sl w p n cap 1 (ivs xs)) :
    Calls Tryd.prog 45 #[hallV wide deep p n cap] w fun e w' => e = .returned (str (hallText wide deep xs)) ∧ Ext w w' := by
  have hl := hS.ilen
  cases h : hallOk wide deep xs with
  | true =>
    obtain ⟨h1, h2, h3, h4, h5, h6, h7, h8, h9⟩ := hallOk_parts h
    unfold hallText
    rw [if_pos h, hl]
    exact implHallText_ok wide deep p n cap xs w hE h1 h2 (by omega) h8 hS (fun w' hx => by rw [← h]; exact implHv wide deep p n cap xs w' (hS.ext hx))
  | false =>
    unfold hallText
    rw [if_neg (by simp [h])]
    exact implHallText_bad wide deep p n cap w (fun w' hx => by rw [← h]; exact implHv wide deep p n cap xs w' (hS.ext hx))

set_option maxRecDepth 100000 in
set_option maxHeartbeats 1000000 in
theorem alive_any (w : World) (hE : Env w) : Calls Tryd.prog 11 #[] w fun e w' => e = .returned (.bool true) ∧ Ext w w' := by
  have HE := Lib.hid hE
  have T1 : Hid (∀ w p, Env w → Sl w p 4 4 1 (ivs [0, 7, 0, 0]) → Calls Tryd.prog 45 #[hallV 2 2 p 4 4] w fun e w' => e = .returned (str [46, 44, 55, 47, 46, 44, 46]) ∧ Ext w w') := fun w p hE hS => by
    have := implHallText 2 2 p 4 4 [0, 7, 0, 0] w hE hS
    have e : hallText 2 2 [0, 7, 0, 0] = [46, 44, 55, 47, 46, 44, 46] := by
      simp [hallText, hallOk, shapeOk, cellsOk, hallTextN, cellSep, cellTok, decDigits_lt]
    rwa [e] at this
  have T2 : Hid (∀ w, Env w → Calls Tryd.prog 45 #[hallV 0 0 none 0 0] w fun e w' => e = .returned (str []) ∧ Ext w w') := fun w hE => by
    have := implHallText 0 0 none 0 0 [] w hE (Sl.nil w 1)
    have e : hallText 0 0 [] = [] := by simp [hallText, hallOk, shapeOk]
    rwa [e] at this
  clear hE
  go_enter Tryd.func11, Tryd.ntmps11
  go_wp2_with fail
  refine (T1.out _ _ (HE.out.ext (by (repeat' (first | exact Ext.refl _ | (with_reducible assumption) | (with_reducible refine Ext.alloc ?_ _) | (with_reducible refine Ext.setCell ?_ (by first | exact Nat.le_refl _ | (dsimp only; omega) | (simp; done) | (simp; omega)) _) | (with_reducible refine Ext.drew ?_) | (with_reducible refine Ext.drewN ?_ _) | (refine Ext.trans ?_ (by with_reducible assumption)))))) (Sl.new w #[iv 0, iv 7, iv 0, iv 0] _ 4 rfl (by unfold maxLen; omega))).mono ?_
  rintro e w1 ⟨rfl, h1⟩
  go_wp2_with fail
  refine (T2.out _ (HE.out.ext (by (repeat' (first | exact Ext.refl _ | (with_reducible assumption) | (with_reducible refine Ext.alloc ?_ _) | (with_reducible refine Ext.setCell ?_ (by first | exact Nat.le_refl _ | (dsimp only; omega) | (simp; done) | (simp; omega)) _) | (with_reducible refine Ext.drew ?_) | (with_reducible refine Ext.drewN ?_ _) | (refine Ext.trans ?_ (by with_reducible assumption))))))).mono ?_
  rintro e w2 ⟨rfl, h2⟩
  go_wp2
  go_ret
  exact ⟨rfl, by (repeat' (first | exact Ext.refl _ | (with_reducible assumption) | (with_reducible refine Ext.alloc ?_ _) | (with_reducible refine Ext.setCell ?_ (by first | exact Nat.le_refl _ | (dsimp only; omega) | (simp; done) | (simp; omega)) _) | (with_reducible refine Ext.drew ?_) | (with_reducible refine Ext.drewN ?_ _) | (refine Ext.trans ?_ (by with_reducible assumption))))⟩
end Go.Proofs.YtncfnlocdlhagaaDoor

/-
  Plain words on the texts of houses. Nothing of the program but the library's join.
-/
namespace Go.Proofs.YtncfnlocdlhagaaDoor
open Go.RowKit
set_option linter.unusedVariables false
set_option linter.unusedSimpArgs false

abbrev dec (x : Int) : List UInt8 := Lib.decDigits x.toNat
def numsText (xs : List Int) : List UInt8 := joinB 44 (xs.map dec)
def visitNums (v : Visit4) : List Int := [v.1, v.2.1, v.2.2.1, v.2.2.2]
def houseParts (h : HouseD) : List (List UInt8) := hallText h.wide h.deep h.cells :: numsText [h.free, h.step, h.price, h.capp] :: dec h.clock :: dec h.bank :: h.vs.map (fun v => numsText (visitNums v))
def houseText (h : HouseD) : List UInt8 := if houseOk h then joinB 59 (houseParts h) else []
theorem numsText_four (a b c d : Int) : numsText [a, b, c, d] = dec a ++ 44 :: dec b ++ 44 :: dec c ++ 44 :: dec d := by
  simp [numsText, joinB, tailB]
theorem numsText_one (a : Int) : numsText [a] = dec a := by simp [numsText, joinB, tailB]
theorem dec_len (x : Int) (h : x ≤ 9223372036854775807) : (dec x).length ≤ 21 := decDigits_len _ (by omega)
theorem nums_len4 (a b c d : Int) (h1 : a ≤ 9223372036854775807) (h2 : b ≤ 9223372036854775807) (h3 : c ≤ 9223372036854775807) (h4 : d ≤ 9223372036854775807) : (numsText [a, b, c, d]).length ≤ 90 := by
  rw [numsText_four]
  have := dec_len a h1; have := dec_len b h2; have := dec_len c h3; have := dec_len d h4
  simp only [List.length_append, List.length_cons]
  omega
theorem tail_len (c : UInt8) (M : Nat) : ∀ r : List (List UInt8), (∀ x ∈ r, x.length ≤ M) → (tailB c r).length ≤ (M + 1) * r.length := by
  intro r
  induction r with
  | nil => intro _; simp [tailB]
  | cons x r ih =>
    intro h
    have h1 := h x (by simp)
    have h2 := ih (fun y hy => h y (by simp [hy]))
    simp only [tailB, List.flatMap_cons, List.length_append, List.length_cons] at h2 ⊢
    rw [Nat.mul_succ]
    omega

end Go.Proofs.YtncfnlocdlhagaaDoor
