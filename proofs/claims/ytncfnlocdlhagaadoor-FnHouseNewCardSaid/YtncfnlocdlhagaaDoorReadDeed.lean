/-
  impl.ReadDeed returns the deed that a text is ('readDeed'). Conditions: the text is shorter than 2^32 - 15 bytes, the library's table is laid.
-/
import Derived.Test.YtncfnlocdlhagaaDoorParse
namespace Go.Proofs.YtncfnlocdlhagaaDoor
open Go.RowKit
set_option linter.unusedVariables false

/-- what ReadDeed returns -/
def rdV : Option (Int × Int × Int) → Value
  | some (k, a, b) => .tuple #[deedV k a b, .bool true]
  | none => .tuple #[deedV 0 0 0, .bool false]
def RetRd (o : Option (Int × Int × Int)) (w : World) (e : Ending) (w' : World) : Prop := e = .returned (rdV o) ∧ Ext w w'

theorem part_cell {w : World} {base g n cap : Nat} {e : TypeId} {ps : List (List UInt8)} (h : w.ownsRow base e 1 (.slice (some ⟨g, 0, none⟩) n cap) n (strs ps)) (j : Nat) (hj : j < n) (p : List UInt8) (hp : ps[j]? = some p) : w.cell? ⟨g, j, none⟩ = some (str p) := by
  rw [h.cellAt j (by omega)]; simp [strs, hp]

set_option maxRecDepth 100000 in
set_option maxHeartbeats 1000000 in
theorem implRead_len (l : List UInt8) (w : World) (ps : List (List UInt8)) (hpos : 0 < ps.length) (hl : ps.length < 2 ∨ 2 ≤ ps.length ∧ 3 < ps.length)
    (HS : Hid (∀ w, Env w → Calls Tryd.prog 83 #[str l, .string ⟨#[32]⟩] w fun e w' => ∃ v, e = .returned v ∧ w'.ownsRow w.heap.size 9 1 v ps.length (strs ps) ∧ Ext w w')) (HE : Hid (Env w)) :
    Calls Tryd.prog 41 #[str l] w (RetRd none w) := by
  rcases hl with hl | ⟨hl0, hl⟩
  all_goals
    go_enter Tryd.func41, Tryd.ntmps41
    go_wp2_with fail
    refine (HS.out _ (HE.out.ext (by (repeat' (first | exact Ext.refl _ | (with_reducible assumption) | (with_reducible refine Ext.alloc ?_ _) | (with_reducible refine Ext.setCell ?_ (by first | exact Nat.le_refl _ | (dsimp only; omega) | (simp; done) | (simp; omega)) _) | (with_reducible refine Ext.drew ?_) | (with_reducible refine Ext.drewN ?_ _) | (refine Ext.trans ?_ (by with_reducible assumption))))))).mono ?_
    rintro e w1 ⟨v, rfl, hown, h1⟩
    obtain ⟨g, cap, rfl⟩ := Joins.ownsRow_form hown hpos
    obtain ⟨hc1, hf1⟩ := h1.cells
    have hz1 : w.heap.size < w1.heap.size := Nat.lt_of_lt_of_le (by simp) h1.sz
    clear hown
    go_wp2
    exact bodyPost_ret (v := rdV none) (by simp [results, Tryd.results41, go_sem, *]; rfl) rfl ⟨rfl, by (repeat' (first | exact Ext.refl _ | (with_reducible assumption) | (with_reducible refine Ext.alloc ?_ _) | (with_reducible refine Ext.setCell ?_ (by first | exact Nat.le_refl _ | (dsimp only; omega) | (simp; done) | (simp; omega)) _) | (with_reducible refine Ext.drew ?_) | (with_reducible refine Ext.drewN ?_ _) | (refine Ext.trans ?_ (by with_reducible assumption))))⟩

set_option maxRecDepth 100000 in
set_option maxHeartbeats 1000000 in
theorem implRead_name2 (l : List UInt8) (w : World) (p q : List UInt8) (n1 : (p == [105, 110]) = false) (n2 : (p == [112, 97, 121]) = false) (n3 : (p == [111, 117, 116]) = false) (n4 : (p == [119, 97, 105, 116]) = false) (n5 : (p == [115, 108, 105, 100, 101]) = false)
    (HS : Hid (∀ w, Env w → Calls Tryd.prog 83 #[str l, .string ⟨#[32]⟩] w fun e w' => ∃ v, e = .returned v ∧ w'.ownsRow w.heap.size 9 1 v 2 (strs [p, q]) ∧ Ext w w')) (HE : Hid (Env w)) :
    Calls Tryd.prog 41 #[str l] w (RetRd none w) := by
  all_goals
    go_enter Tryd.func41, Tryd.ntmps41
    go_wp2_with fail
    refine (HS.out _ (HE.out.ext (by (repeat' (first | exact Ext.refl _ | (with_reducible assumption) | (with_reducible refine Ext.alloc ?_ _) | (with_reducible refine Ext.setCell ?_ (by first | exact Nat.le_refl _ | (dsimp only; omega) | (simp; done) | (simp; omega)) _) | (with_reducible refine Ext.drew ?_) | (with_reducible refine Ext.drewN ?_ _) | (refine Ext.trans ?_ (by with_reducible assumption))))))).mono ?_
    rintro e w1 ⟨v, rfl, hown, h1⟩
    obtain ⟨g, cap, rfl⟩ := Joins.ownsRow_form hown (by omega)
    have e0 := part_cell hown 0 (by omega) _ rfl
    have e1 := part_cell hown 1 (by omega) _ rfl
    have hg := (hown.lt g rfl).2
    obtain ⟨hc1, hf1⟩ := h1.cells
    have hz1 : w.heap.size < w1.heap.size := Nat.lt_of_lt_of_le (by simp) h1.sz
    clear hown
    go_wp2
    exact bodyPost_ret (v := rdV none) (by simp [results, Tryd.results41, go_sem, *]; rfl) rfl ⟨rfl, by (repeat' (first | exact Ext.refl _ | (with_reducible assumption) | (with_reducible refine Ext.alloc ?_ _) | (with_reducible refine Ext.setCell ?_ (by first | exact Nat.le_refl _ | (dsimp only; omega) | (simp; done) | (simp; omega)) _) | (with_reducible refine Ext.drew ?_) | (with_reducible refine Ext.drewN ?_ _) | (refine Ext.trans ?_ (by with_reducible assumption))))⟩

set_option maxRecDepth 100000 in
set_option maxHeartbeats 1000000 in
theorem implRead_q2 (l : List UInt8) (w : World) (p q : List UInt8) (k : Int) (hk : p = [105, 110] ∧ k = 0 ∨ p = [112, 97, 121] ∧ k = 1 ∨ p = [111, 117, 116] ∧ k = 2 ∨ p = [119, 97, 105, 116] ∧ k = 3 ∨ p = [115, 108, 105, 100, 101] ∧ k = 4)
    (HS : Hid (∀ w, Env w → Calls Tryd.prog 83 #[str l, .string ⟨#[32]⟩] w fun e w' => ∃ v, e = .returned v ∧ w'.ownsRow w.heap.size 9 1 v 2 (strs [p, q]) ∧ Ext w w')) (HE : Hid (Env w))
    (HR : Hid (∀ w, Calls Tryd.prog 40 #[str q, .int .i64 4] w fun e w' => e = .returned (.tuple #[.int .i64 0, .bool false]) ∧ w = w')) :
    Calls Tryd.prog 41 #[str l] w (RetRd none w) := by
  rcases hk with ⟨rfl, rfl⟩ | ⟨rfl, rfl⟩ | ⟨rfl, rfl⟩ | ⟨rfl, rfl⟩ | ⟨rfl, rfl⟩
  all_goals
    go_enter Tryd.func41, Tryd.ntmps41
    go_wp2_with fail
    refine (HS.out _ (HE.out.ext (by (repeat' (first | exact Ext.refl _ | (with_reducible assumption) | (with_reducible refine Ext.alloc ?_ _) | (with_reducible refine Ext.setCell ?_ (by first | exact Nat.le_refl _ | (dsimp only; omega) | (simp; done) | (simp; omega)) _) | (with_reducible refine Ext.drew ?_) | (with_reducible refine Ext.drewN ?_ _) | (refine Ext.trans ?_ (by with_reducible assumption))))))).mono ?_
    rintro e w1 ⟨v, rfl, hown, h1⟩
    obtain ⟨g, cap, rfl⟩ := Joins.ownsRow_form hown (by omega)
    have e0 := part_cell hown 0 (by omega) _ rfl
    have e1 := part_cell hown 1 (by omega) _ rfl
    have hg := (hown.lt g rfl).2
    obtain ⟨hc1, hf1⟩ := h1.cells
    have hz1 : w.heap.size < w1.heap.size := Nat.lt_of_lt_of_le (by simp) h1.sz
    clear hown
    go_wp2_with fail
    refine (HR.out _).mono ?_
    rintro e w2 ⟨rfl, rfl⟩
    go_wp2
    exact bodyPost_ret (v := rdV none) (by simp [results, Tryd.results41, go_sem, *]; rfl) rfl ⟨rfl, by (repeat' (first | exact Ext.refl _ | (with_reducible assumption) | (with_reducible refine Ext.alloc ?_ _) | (with_reducible refine Ext.setCell ?_ (by first | exact Nat.le_refl _ | (dsimp only; omega) | (simp; done) | (simp; omega)) _) | (with_reducible refine Ext.drew ?_) | (with_reducible refine Ext.drewN ?_ _) | (refine Ext.trans ?_ (by with_reducible assumption))))⟩

set_option maxRecDepth 100000 in
set_option maxHeartbeats 1000000 in
theorem implRead_name3 (l : List UInt8) (w : World) (p q r : List UInt8) (n1 : (p == [105, 110]) = false) (n2 : (p == [112, 97, 121]) = false) (n3 : (p == [111, 117, 116]) = false) (n4 : (p == [119, 97, 105, 116]) = false) (n5 : (p == [115, 108, 105, 100, 101]) = false)
    (HS : Hid (∀ w, Env w → Calls Tryd.prog 83 #[str l, .string ⟨#[32]⟩] w fun e w' => ∃ v, e = .returned v ∧ w'.ownsRow w.heap.size 9 1 v 3 (strs [p, q, r]) ∧ Ext w w')) (HE : Hid (Env w)) :
    Calls Tryd.prog 41 #[str l] w (RetRd none w) := by
  all_goals
    go_enter Tryd.func41, Tryd.ntmps41
    go_wp2_with fail
    refine (HS.out _ (HE.out.ext (by (repeat' (first | exact Ext.refl _ | (with_reducible assumption) | (with_reducible refine Ext.alloc ?_ _) | (with_reducible refine Ext.setCell ?_ (by first | exact Nat.le_refl _ | (dsimp only; omega) | (simp; done) | (simp; omega)) _) | (with_reducible refine Ext.drew ?_) | (with_reducible refine Ext.drewN ?_ _) | (refine Ext.trans ?_ (by with_reducible assumption))))))).mono ?_
    rintro e w1 ⟨v, rfl, hown, h1⟩
    obtain ⟨g, cap, rfl⟩ := Joins.ownsRow_form hown (by omega)
    have e0 := part_cell hown 0 (by omega) _ rfl
    have e1 := part_cell hown 1 (by omega) _ rfl
    have e2 := part_cell hown 2 (by omega) _ rfl
    have hg := (hown.lt g rfl).2
    obtain ⟨hc1, hf1⟩ := h1.cells
    have hz1 : w.heap.size < w1.heap.size := Nat.lt_of_lt_of_le (by simp) h1.sz
    clear hown
    go_wp2
    exact bodyPost_ret (v := rdV none) (by simp [results, Tryd.results41, go_sem, *]; rfl) rfl ⟨rfl, by (repeat' (first | exact Ext.refl _ | (with_reducible assumption) | (with_reducible refine Ext.alloc ?_ _) | (with_reducible refine Ext.setCell ?_ (by first | exact Nat.le_refl _ | (dsimp only; omega) | (simp; done) | (simp; omega)) _) | (with_reducible refine Ext.drew ?_) | (with_reducible refine Ext.drewN ?_ _) | (refine Ext.trans ?_ (by with_reducible assumption))))⟩

set_option maxRecDepth 100000 in
set_option maxHeartbeats 1000000 in
theorem implRead_q3 (l : List UInt8) (w : World) (p q r : List UInt8) (k : Int) (hk : p = [105, 110] ∧ k = 0 ∨ p = [112, 97, 121] ∧ k = 1 ∨ p = [111, 117, 116] ∧ k = 2 ∨ p = [119, 97, 105, 116] ∧ k = 3 ∨ p = [115, 108, 105, 100, 101] ∧ k = 4)
    (HS : Hid (∀ w, Env w → Calls Tryd.prog 83 #[str l, .string ⟨#[32]⟩] w fun e w' => ∃ v, e = .returned v ∧ w'.ownsRow w.heap.size 9 1 v 3 (strs [p, q, r]) ∧ Ext w w')) (HE : Hid (Env w))
    (HR : Hid (∀ w, Calls Tryd.prog 40 #[str q, .int .i64 4] w fun e w' => e = .returned (.tuple #[.int .i64 0, .bool false]) ∧ w = w')) :
    Calls Tryd.prog 41 #[str l] w (RetRd none w) := by
  rcases hk with ⟨rfl, rfl⟩ | ⟨rfl, rfl⟩ | ⟨rfl, rfl⟩ | ⟨rfl, rfl⟩ | ⟨rfl, rfl⟩
  all_goals
    go_enter Tryd.func41, Tryd.ntmps41
    go_wp2_with fail
    refine (HS.out _ (HE.out.ext (by (repeat' (first | exact Ext.refl _ | (with_reducible assumption) | (with_reducible refine Ext.alloc ?_ _) | (with_reducible refine Ext.setCell ?_ (by first | exact Nat.le_refl _ | (dsimp only; omega) | (simp; done) | (simp; omega)) _) | (with_reducible refine Ext.drew ?_) | (with_reducible refine Ext.drewN ?_ _) | (refine Ext.trans ?_ (by with_reducible assumption))))))).mono ?_
    rintro e w1 ⟨v, rfl, hown, h1⟩
    obtain ⟨g, cap, rfl⟩ := Joins.ownsRow_form hown (by omega)
    have e0 := part_cell hown 0 (by omega) _ rfl
    have e1 := part_cell hown 1 (by omega) _ rfl
    have e2 := part_cell hown 2 (by omega) _ rfl
    have hg := (hown.lt g rfl).2
    obtain ⟨hc1, hf1⟩ := h1.cells
    have hz1 : w.heap.size < w1.heap.size := Nat.lt_of_lt_of_le (by simp) h1.sz
    clear hown
    go_wp2_with fail
    refine (HR.out _).mono ?_
    rintro e w2 ⟨rfl, rfl⟩
    go_wp2
    exact bodyPost_ret (v := rdV none) (by simp [results, Tryd.results41, go_sem, *]; rfl) rfl ⟨rfl, by (repeat' (first | exact Ext.refl _ | (with_reducible assumption) | (with_reducible refine Ext.alloc ?_ _) | (with_reducible refine Ext.setCell ?_ (by first | exact Nat.le_refl _ | (dsimp only; omega) | (simp; done) | (simp; omega)) _) | (with_reducible refine Ext.drew ?_) | (with_reducible refine Ext.drewN ?_ _) | (refine Ext.trans ?_ (by with_reducible assumption))))⟩

set_option maxRecDepth 100000 in
set_option maxHeartbeats 1000000 in
theorem implRead_r3 (l : List UInt8) (w : World) (p q r : List UInt8) (k a : Int) (hk : p = [105, 110] ∧ k = 0 ∨ p = [112, 97, 121] ∧ k = 1 ∨ p = [111, 117, 116] ∧ k = 2 ∨ p = [119, 97, 105, 116] ∧ k = 3 ∨ p = [115, 108, 105, 100, 101] ∧ k = 4)
    (HS : Hid (∀ w, Env w → Calls Tryd.prog 83 #[str l, .string ⟨#[32]⟩] w fun e w' => ∃ v, e = .returned v ∧ w'.ownsRow w.heap.size 9 1 v 3 (strs [p, q, r]) ∧ Ext w w')) (HE : Hid (Env w))
    (HR : Hid (∀ w, Calls Tryd.prog 40 #[str q, .int .i64 4] w fun e w' => e = .returned (.tuple #[.int .i64 a, .bool true]) ∧ w = w'))
    (HR2 : Hid (∀ w, Calls Tryd.prog 40 #[str r, .int .i64 4] w fun e w' => e = .returned (.tuple #[.int .i64 0, .bool false]) ∧ w = w')) :
    Calls Tryd.prog 41 #[str l] w (RetRd none w) := by
  rcases hk with ⟨rfl, rfl⟩ | ⟨rfl, rfl⟩ | ⟨rfl, rfl⟩ | ⟨rfl, rfl⟩ | ⟨rfl, rfl⟩
  all_goals
    go_enter Tryd.func41, Tryd.ntmps41
    go_wp2_with fail
    refine (HS.out _ (HE.out.ext (by (repeat' (first | exact Ext.refl _ | (with_reducible assumption) | (with_reducible refine Ext.alloc ?_ _) | (with_reducible refine Ext.setCell ?_ (by first | exact Nat.le_refl _ | (dsimp only; omega) | (simp; done) | (simp; omega)) _) | (with_reducible refine Ext.drew ?_) | (with_reducible refine Ext.drewN ?_ _) | (refine Ext.trans ?_ (by with_reducible assumption))))))).mono ?_
    rintro e w1 ⟨v, rfl, hown, h1⟩
    obtain ⟨g, cap, rfl⟩ := Joins.ownsRow_form hown (by omega)
    have e0 := part_cell hown 0 (by omega) _ rfl
    have e1 := part_cell hown 1 (by omega) _ rfl
    have e2 := part_cell hown 2 (by omega) _ rfl
    have hg := (hown.lt g rfl).2
    obtain ⟨hc1, hf1⟩ := h1.cells
    have hz1 : w.heap.size < w1.heap.size := Nat.lt_of_lt_of_le (by simp) h1.sz
    clear hown
    go_wp2_with fail
    refine (HR.out _).mono ?_
    rintro e w2 ⟨rfl, rfl⟩
    go_wp2_with fail
    refine (HR2.out _).mono ?_
    rintro e w2 ⟨rfl, rfl⟩
    go_wp2
    exact bodyPost_ret (v := rdV none) (by simp [results, Tryd.results41, go_sem, *]; rfl) rfl ⟨rfl, by (repeat' (first | exact Ext.refl _ | (with_reducible assumption) | (with_reducible refine Ext.alloc ?_ _) | (with_reducible refine Ext.setCell ?_ (by first | exact Nat.le_refl _ | (dsimp only; omega) | (simp; done) | (simp; omega)) _) | (with_reducible refine Ext.drew ?_) | (with_reducible refine Ext.drewN ?_ _) | (refine Ext.trans ?_ (by with_reducible assumption))))⟩

set_option maxRecDepth 100000 in
set_option maxHeartbeats 1000000 in
theorem implRead_ok2 (l : List UInt8) (w : World) (p q t : List UInt8) (k a : Int) (hk : p = [105, 110] ∧ k = 0 ∨ p = [112, 97, 121] ∧ k = 1 ∨ p = [111, 117, 116] ∧ k = 2 ∨ p = [119, 97, 105, 116] ∧ k = 3 ∨ p = [115, 108, 105, 100, 101] ∧ k = 4) (ht : (t == l) = true)
    (HS : Hid (∀ w, Env w → Calls Tryd.prog 83 #[str l, .string ⟨#[32]⟩] w fun e w' => ∃ v, e = .returned v ∧ w'.ownsRow w.heap.size 9 1 v 2 (strs [p, q]) ∧ Ext w w')) (HE : Hid (Env w))
    (HR : Hid (∀ w, Calls Tryd.prog 40 #[str q, .int .i64 4] w fun e w' => e = .returned (.tuple #[.int .i64 a, .bool true]) ∧ w = w'))
    (HD : Hid (∀ w, Env w → Calls Tryd.prog 46 #[deedV k a 0] w fun e w' => e = .returned (str t) ∧ Ext w w')) :
    Calls Tryd.prog 41 #[str l] w (RetRd (some (k, a, 0)) w) := by
  rcases hk with ⟨rfl, rfl⟩ | ⟨rfl, rfl⟩ | ⟨rfl, rfl⟩ | ⟨rfl, rfl⟩ | ⟨rfl, rfl⟩
  all_goals
    go_enter Tryd.func41, Tryd.ntmps41
    go_wp2_with fail
    refine (HS.out _ (HE.out.ext (by (repeat' (first | exact Ext.refl _ | (with_reducible assumption) | (with_reducible refine Ext.alloc ?_ _) | (with_reducible refine Ext.setCell ?_ (by first | exact Nat.le_refl _ | (dsimp only; omega) | (simp; done) | (simp; omega)) _) | (with_reducible refine Ext.drew ?_) | (with_reducible refine Ext.drewN ?_ _) | (refine Ext.trans ?_ (by with_reducible assumption))))))).mono ?_
    rintro e w1 ⟨v, rfl, hown, h1⟩
    obtain ⟨g, cap, rfl⟩ := Joins.ownsRow_form hown (by omega)
    have e0 := part_cell hown 0 (by omega) _ rfl
    have e1 := part_cell hown 1 (by omega) _ rfl
    have hg := (hown.lt g rfl).2
    obtain ⟨hc1, hf1⟩ := h1.cells
    have hz1 : w.heap.size < w1.heap.size := Nat.lt_of_lt_of_le (by simp) h1.sz
    clear hown
    go_wp2_with fail
    refine (HR.out _).mono ?_
    rintro e w2 ⟨rfl, rfl⟩
    go_wp2_with fail
    refine (HD.out _ (HE.out.ext (by (repeat' (first | exact Ext.refl _ | (with_reducible assumption) | (with_reducible refine Ext.alloc ?_ _) | (with_reducible refine Ext.setCell ?_ (by first | exact Nat.le_refl _ | (dsimp only; omega) | (simp; done) | (simp; omega)) _) | (with_reducible refine Ext.drew ?_) | (with_reducible refine Ext.drewN ?_ _) | (refine Ext.trans ?_ (by with_reducible assumption))))))).mono ?_
    rintro e w2 ⟨rfl, h2⟩
    obtain ⟨hc2, hf2⟩ := h2.cells
    have hz2 : w1.heap.size < w2.heap.size := Nat.lt_of_lt_of_le (by simp) h2.sz
    have hz3 : w.heap.size < w2.heap.size := Nat.lt_trans hz1 hz2
    have hw := (h1.alloc (.cells #[.int .i64 _, .int .i64 _, .int .i64 _] 25)).trans h2
    obtain ⟨hcw, hfw⟩ := hw.cells
    go_wp2
    exact bodyPost_ret (v := rdV (some (_, a, 0))) (by simp [results, Tryd.results41, go_sem, *]; rfl) rfl ⟨rfl, by (repeat' (first | exact Ext.refl _ | (with_reducible assumption) | (with_reducible refine Ext.alloc ?_ _) | (with_reducible refine Ext.setCell ?_ (by first | exact Nat.le_refl _ | (dsimp only; omega) | (simp; done) | (simp; omega)) _) | (with_reducible refine Ext.drew ?_) | (with_reducible refine Ext.drewN ?_ _) | (refine Ext.trans ?_ (by with_reducible assumption))))⟩

set_option maxRecDepth 100000 in
set_option maxHeartbeats 1000000 in
theorem implRead_no2 (l : List UInt8) (w : World) (p q t : List UInt8) (k a : Int) (hk : p = [105, 110] ∧ k = 0 ∨ p = [112, 97, 121] ∧ k = 1 ∨ p = [111, 117, 116] ∧ k = 2 ∨ p = [119, 97, 105, 116] ∧ k = 3 ∨ p = [115, 108, 105, 100, 101] ∧ k = 4) (ht : (t == l) = false)
    (HS : Hid (∀ w, Env w → Calls Tryd.prog 83 #[str l, .string ⟨#[32]⟩] w fun e w' => ∃ v, e = .returned v ∧ w'.ownsRow w.heap.size 9 1 v 2 (strs [p, q]) ∧ Ext w w')) (HE : Hid (Env w))
    (HR : Hid (∀ w, Calls Tryd.prog 40 #[str q, .int .i64 4] w fun e w' => e = .returned (.tuple #[.int .i64 a, .bool true]) ∧ w = w'))
    (HD : Hid (∀ w, Env w → Calls Tryd.prog 46 #[deedV k a 0] w fun e w' => e = .returned (str t) ∧ Ext w w')) :
    Calls Tryd.prog 41 #[str l] w (RetRd (none) w) := by
  rcases hk with ⟨rfl, rfl⟩ | ⟨rfl, rfl⟩ | ⟨rfl, rfl⟩ | ⟨rfl, rfl⟩ | ⟨rfl, rfl⟩
  all_goals
    go_enter Tryd.func41, Tryd.ntmps41
    go_wp2_with fail
    refine (HS.out _ (HE.out.ext (by (repeat' (first | exact Ext.refl _ | (with_reducible assumption) | (with_reducible refine Ext.alloc ?_ _) | (with_reducible refine Ext.setCell ?_ (by first | exact Nat.le_refl _ | (dsimp only; omega) | (simp; done) | (simp; omega)) _) | (with_reducible refine Ext.drew ?_) | (with_reducible refine Ext.drewN ?_ _) | (refine Ext.trans ?_ (by with_reducible assumption))))))).mono ?_
    rintro e w1 ⟨v, rfl, hown, h1⟩
    obtain ⟨g, cap, rfl⟩ := Joins.ownsRow_form hown (by omega)
    have e0 := part_cell hown 0 (by omega) _ rfl
    have e1 := part_cell hown 1 (by omega) _ rfl
    have hg := (hown.lt g rfl).2
    obtain ⟨hc1, hf1⟩ := h1.cells
    have hz1 : w.heap.size < w1.heap.size := Nat.lt_of_lt_of_le (by simp) h1.sz
    clear hown
    go_wp2_with fail
    refine (HR.out _).mono ?_
    rintro e w2 ⟨rfl, rfl⟩
    go_wp2_with fail
    refine (HD.out _ (HE.out.ext (by (repeat' (first | exact Ext.refl _ | (with_reducible assumption) | (with_reducible refine Ext.alloc ?_ _) | (with_reducible refine Ext.setCell ?_ (by first | exact Nat.le_refl _ | (dsimp only; omega) | (simp; done) | (simp; omega)) _) | (with_reducible refine Ext.drew ?_) | (with_reducible refine Ext.drewN ?_ _) | (refine Ext.trans ?_ (by with_reducible assumption))))))).mono ?_
    rintro e w2 ⟨rfl, h2⟩
    obtain ⟨hc2, hf2⟩ := h2.cells
    have hz2 : w1.heap.size < w2.heap.size := Nat.lt_of_lt_of_le (by simp) h2.sz
    have hz3 : w.heap.size < w2.heap.size := Nat.lt_trans hz1 hz2
    have hw := (h1.alloc (.cells #[.int .i64 _, .int .i64 _, .int .i64 _] 25)).trans h2
    obtain ⟨hcw, hfw⟩ := hw.cells
    go_wp2
    exact bodyPost_ret (v := rdV none) (by simp [results, Tryd.results41, go_sem, *]; rfl) rfl ⟨rfl, by (repeat' (first | exact Ext.refl _ | (with_reducible assumption) | (with_reducible refine Ext.alloc ?_ _) | (with_reducible refine Ext.setCell ?_ (by first | exact Nat.le_refl _ | (dsimp only; omega) | (simp; done) | (simp; omega)) _) | (with_reducible refine Ext.drew ?_) | (with_reducible refine Ext.drewN ?_ _) | (refine Ext.trans ?_ (by with_reducible assumption))))⟩

set_option maxRecDepth 100000 in
set_option maxHeartbeats 1000000 in
theorem implRead_ok3 (l : List UInt8) (w : World) (p q r t : List UInt8) (k a b : Int) (hk : p = [105, 110] ∧ k = 0 ∨ p = [112, 97, 121] ∧ k = 1 ∨ p = [111, 117, 116] ∧ k = 2 ∨ p = [119, 97, 105, 116] ∧ k = 3 ∨ p = [115, 108, 105, 100, 101] ∧ k = 4) (ht : (t == l) = true)
    (HS : Hid (∀ w, Env w → Calls Tryd.prog 83 #[str l, .string ⟨#[32]⟩] w fun e w' => ∃ v, e = .returned v ∧ w'.ownsRow w.heap.size 9 1 v 3 (strs [p, q, r]) ∧ Ext w w')) (HE : Hid (Env w))
    (HR : Hid (∀ w, Calls Tryd.prog 40 #[str q, .int .i64 4] w fun e w' => e = .returned (.tuple #[.int .i64 a, .bool true]) ∧ w = w'))
    (HR2 : Hid (∀ w, Calls Tryd.prog 40 #[str r, .int .i64 4] w fun e w' => e = .returned (.tuple #[.int .i64 b, .bool true]) ∧ w = w'))
    (HD : Hid (∀ w, Env w → Calls Tryd.prog 46 #[deedV k a b] w fun e w' => e = .returned (str t) ∧ Ext w w')) :
    Calls Tryd.prog 41 #[str l] w (RetRd (some (k, a, b)) w) := by
  rcases hk with ⟨rfl, rfl⟩ | ⟨rfl, rfl⟩ | ⟨rfl, rfl⟩ | ⟨rfl, rfl⟩ | ⟨rfl, rfl⟩
  all_goals
    go_enter Tryd.func41, Tryd.ntmps41
    go_wp2_with fail
    refine (HS.out _ (HE.out.ext (by (repeat' (first | exact Ext.refl _ | (with_reducible assumption) | (with_reducible refine Ext.alloc ?_ _) | (with_reducible refine Ext.setCell ?_ (by first | exact Nat.le_refl _ | (dsimp only; omega) | (simp; done) | (simp; omega)) _) | (with_reducible refine Ext.drew ?_) | (with_reducible refine Ext.drewN ?_ _) | (refine Ext.trans ?_ (by with_reducible assumption))))))).mono ?_
    rintro e w1 ⟨v, rfl, hown, h1⟩
    obtain ⟨g, cap, rfl⟩ := Joins.ownsRow_form hown (by omega)
    have e0 := part_cell hown 0 (by omega) _ rfl
    have e1 := part_cell hown 1 (by omega) _ rfl
    have e2 := part_cell hown 2 (by omega) _ rfl
    have hg := (hown.lt g rfl).2
    obtain ⟨hc1, hf1⟩ := h1.cells
    have hz1 : w.heap.size < w1.heap.size := Nat.lt_of_lt_of_le (by simp) h1.sz
    clear hown
    go_wp2_with fail
    refine (HR.out _).mono ?_
    rintro e w2 ⟨rfl, rfl⟩
    go_wp2_with fail
    refine (HR2.out _).mono ?_
    rintro e w2 ⟨rfl, rfl⟩
    go_wp2_with fail
    refine (HD.out _ (HE.out.ext (by (repeat' (first | exact Ext.refl _ | (with_reducible assumption) | (with_reducible refine Ext.alloc ?_ _) | (with_reducible refine Ext.setCell ?_ (by first | exact Nat.le_refl _ | (dsimp only; omega) | (simp; done) | (simp; omega)) _) | (with_reducible refine Ext.drew ?_) | (with_reducible refine Ext.drewN ?_ _) | (refine Ext.trans ?_ (by with_reducible assumption))))))).mono ?_
    rintro e w2 ⟨rfl, h2⟩
    obtain ⟨hc2, hf2⟩ := h2.cells
    have hz2 : w1.heap.size < w2.heap.size := Nat.lt_of_lt_of_le (by simp) h2.sz
    have hz3 : w.heap.size < w2.heap.size := Nat.lt_trans hz1 hz2
    have hw := (h1.alloc (.cells #[.int .i64 _, .int .i64 _, .int .i64 _] 25)).trans h2
    obtain ⟨hcw, hfw⟩ := hw.cells
    go_wp2
    exact bodyPost_ret (v := rdV (some (_, a, b))) (by simp [results, Tryd.results41, go_sem, *]; rfl) rfl ⟨rfl, by (repeat' (first | exact Ext.refl _ | (with_reducible assumption) | (with_reducible refine Ext.alloc ?_ _) | (with_reducible refine Ext.setCell ?_ (by first | exact Nat.le_refl _ | (dsimp only; omega) | (simp; done) | (simp; omega)) _) | (with_reducible refine Ext.drew ?_) | (with_reducible refine Ext.drewN ?_ _) | (refine Ext.trans ?_ (by with_reducible assumption))))⟩

set_option maxRecDepth 100000 in
set_option maxHeartbeats 1000000 in
theorem implRead_no3 (l : List UInt8) (w : World) (p q r t : List UInt8) (k a b : Int) (hk : p = [105, 110] ∧ k = 0 ∨ p = [112, 97, 121] ∧ k = 1 ∨ p = [111, 117, 116] ∧ k = 2 ∨ p = [119, 97, 105, 116] ∧ k = 3 ∨ p = [115, 108, 105, 100, 101] ∧ k = 4) (ht : (t == l) = false)
    (HS : Hid (∀ w, Env w → Calls Tryd.prog 83 #[str l, .string ⟨#[32]⟩] w fun e w' => ∃ v, e = .returned v ∧ w'.ownsRow w.heap.size 9 1 v 3 (strs [p, q, r]) ∧ Ext w w')) (HE : Hid (Env w))
    (HR : Hid (∀ w, Calls Tryd.prog 40 #[str q, .int .i64 4] w fun e w' => e = .returned (.tuple #[.int .i64 a, .bool true]) ∧ w = w'))
    (HR2 : Hid (∀ w, Calls Tryd.prog 40 #[str r, .int .i64 4] w fun e w' => e = .returned (.tuple #[.int .i64 b, .bool true]) ∧ w = w'))
    (HD : Hid (∀ w, Env w → Calls Tryd.prog 46 #[deedV k a b] w fun e w' => e = .returned (str t) ∧ Ext w w')) :
    Calls Tryd.prog 41 #[str l] w (RetRd (none) w) := by
  rcases hk with ⟨rfl, rfl⟩ | ⟨rfl, rfl⟩ | ⟨rfl, rfl⟩ | ⟨rfl, rfl⟩ | ⟨rfl, rfl⟩
  all_goals
    go_enter Tryd.func41, Tryd.ntmps41
    go_wp2_with fail
    refine (HS.out _ (HE.out.ext (by (repeat' (first | exact Ext.refl _ | (with_reducible assumption) | (with_reducible refine Ext.alloc ?_ _) | (with_reducible refine Ext.setCell ?_ (by first | exact Nat.le_refl _ | (dsimp only; omega) | (simp; done) | (simp; omega)) _) | (with_reducible refine Ext.drew ?_) | (with_reducible refine Ext.drewN ?_ _) | (refine Ext.trans ?_ (by with_reducible assumption))))))).mono ?_
    rintro e w1 ⟨v, rfl, hown, h1⟩
    obtain ⟨g, cap, rfl⟩ := Joins.ownsRow_form hown (by omega)
    have e0 := part_cell hown 0 (by omega) _ rfl
    have e1 := part_cell hown 1 (by omega) _ rfl
    have e2 := part_cell hown 2 (by omega) _ rfl
    have hg := (hown.lt g rfl).2
    obtain ⟨hc1, hf1⟩ := h1.cells
    have hz1 : w.heap.size < w1.heap.size := Nat.lt_of_lt_of_le (by simp) h1.sz
    clear hown
    go_wp2_with fail
    refine (HR.out _).mono ?_
    rintro e w2 ⟨rfl, rfl⟩
    go_wp2_with fail
    refine (HR2.out _).mono ?_
    rintro e w2 ⟨rfl, rfl⟩
    go_wp2_with fail
    refine (HD.out _ (HE.out.ext (by (repeat' (first | exact Ext.refl _ | (with_reducible assumption) | (with_reducible refine Ext.alloc ?_ _) | (with_reducible refine Ext.setCell ?_ (by first | exact Nat.le_refl _ | (dsimp only; omega) | (simp; done) | (simp; omega)) _) | (with_reducible refine Ext.drew ?_) | (with_reducible refine Ext.drewN ?_ _) | (refine Ext.trans ?_ (by with_reducible assumption))))))).mono ?_
    rintro e w2 ⟨rfl, h2⟩
    obtain ⟨hc2, hf2⟩ := h2.cells
    have hz2 : w1.heap.size < w2.heap.size := Nat.lt_of_lt_of_le (by simp) h2.sz
    have hz3 : w.heap.size < w2.heap.size := Nat.lt_trans hz1 hz2
    have hw := (h1.alloc (.cells #[.int .i64 _, .int .i64 _, .int .i64 _] 25)).trans h2
    obtain ⟨hcw, hfw⟩ := hw.cells
    go_wp2
    exact bodyPost_ret (v := rdV none) (by simp [results, Tryd.results41, go_sem, *]; rfl) rfl ⟨rfl, by (repeat' (first | exact Ext.refl _ | (with_reducible assumption) | (with_reducible refine Ext.alloc ?_ _) | (with_reducible refine Ext.setCell ?_ (by first | exact Nat.le_refl _ | (dsimp only; omega) | (simp; done) | (simp; omega)) _) | (with_reducible refine Ext.drew ?_) | (with_reducible refine Ext.drewN ?_ _) | (refine Ext.trans ?_ (by with_reducible assumption))))⟩

end Go.Proofs.YtncfnlocdlhagaaDoor
