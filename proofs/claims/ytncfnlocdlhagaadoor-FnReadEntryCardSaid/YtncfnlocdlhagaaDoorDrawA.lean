/-
  The reference's draws of deeds and texts: each returns what its law needs to know of it, and turns the reader's block alone.
-/
import Derived.Test.YtncfnlocdlhagaaDoorRand
import Derived.Test.YtncfnlocdlhagaaDoorTextLaws
namespace Go.Proofs.YtncfnlocdlhagaaDoor
open Go.RowKit
set_option linter.unusedVariables false

/-- a code: a slice of bytes -/
def Code (w : World) (v : Value) : Prop := ∃ (p : Option Addr) (n cap : Nat) (bs : List Int), v = .slice p n cap ∧ Sl w p n cap 1 (bs.map (Value.int .u8)) ∧ ∀ x ∈ bs, 0 ≤ x ∧ x ≤ 255
theorem Code.ext {w w' : World} {v : Value} (h : Code w v) (hx : Ext w w') : Code w' v := by
  obtain ⟨p, n, cap, bs, h1, h2, h3⟩ := h
  exact ⟨p, n, cap, bs, h1, h2.ext hx, h3⟩

def RetRand (w : World) (e : Ending) (w' : World) : Prop := ∃ R, e = .returned (.pointer (some ⟨R, 0, none⟩)) ∧ w.heap.size ≤ R ∧ Rand w' R 0 ∧ Ext w w'

theorem rand_new {w : World} {p : Option Addr} {n cap : Nat} {bs : List Int} (h : Sl w p n cap 1 (bs.map (Value.int .u8))) (hn : n ≤ 2000) (hb : ∀ x ∈ bs, 0 ≤ x ∧ x ≤ 255) (hp : 0 < n → ∀ b off, p = some ⟨b, off, none⟩ → b < w.heap.size) :
    Rand (w.alloc (.cells #[.slice p n cap, .int .i64 0] 117)) w.heap.size 0 :=
  ⟨p, n, cap, 0, bs, Blk.new _ _ _, by omega, by omega, h.ext ((Ext.refl w).alloc _), hn, hb, fun h0 b off e => by have := hp h0 b off e; omega⟩

set_option maxRecDepth 100000 in
set_option maxHeartbeats 1000000 in
theorem l20Open_any (v : Value) (w : World) (hc : Code w v) : Calls Tryd.prog 33 #[v] w (RetRand w) := by
  obtain ⟨p, n, cap, bs, rfl, h, hb⟩ := hc
  have hp : 0 < n → ∃ b off, p = some ⟨b, off, none⟩ ∧ b < w.heap.size := fun h0 => by
    obtain ⟨b, off, e, h1, _⟩ := h.rd h0
    exact ⟨b, off, e, h1⟩
  have hle := h.le
  have hmx := h.mx
  have hbd := h.bd
  unfold maxLen at hmx
  have H := Lib.hid h
  clear h
  by_cases hn : 2000 < n
  · obtain ⟨b, off, rfl, hb'⟩ := hp (by omega)
    go_enter Tryd.func33, Tryd.ntmps33
    go_wp2
    go_ret
    exact ⟨_, rfl, Nat.le_refl _, rand_new (by simpa using sl_cut H.out (m := 2000) (by omega)) (by omega) (fun x hx => hb x (List.mem_of_mem_take hx)) (fun _ b' off' e => by injection e with e; injection e with e; omega), by (repeat' (first | exact Ext.refl _ | (with_reducible assumption) | (with_reducible refine Ext.alloc ?_ _) | (with_reducible refine Ext.setCell ?_ (by first | exact Nat.le_refl _ | (dsimp only; omega) | (simp; done) | (simp; omega)) _) | (with_reducible refine Ext.drew ?_) | (with_reducible refine Ext.drewN ?_ _) | (refine Ext.trans ?_ (by with_reducible assumption))))⟩
  · go_enter Tryd.func33, Tryd.ntmps33
    go_wp2
    go_ret
    exact ⟨_, rfl, Nat.le_refl _, rand_new H.out (by omega) hb (fun h0 b' off' e => by obtain ⟨b, off, e2, h3⟩ := hp h0; rw [e2] at e; injection e with e; injection e with e; omega), by (repeat' (first | exact Ext.refl _ | (with_reducible assumption) | (with_reducible refine Ext.alloc ?_ _) | (with_reducible refine Ext.setCell ?_ (by first | exact Nat.le_refl _ | (dsimp only; omega) | (simp; done) | (simp; omega)) _) | (with_reducible refine Ext.drew ?_) | (with_reducible refine Ext.drewN ?_ _) | (refine Ext.trans ?_ (by with_reducible assumption))))⟩

def RandBool (R k : Nat) (n : Int) (w : World) (e : Ending) (w' : World) : Prop := ∃ t : Bool, e = .returned (.bool t) ∧ Rand w' R (k + 1) ∧ ExtR R w w'
set_option maxRecDepth 100000 in
set_option maxHeartbeats 1000000 in
theorem odd_any (R k : Nat) (n : Int) (w : World) (hr : Rand w R k) (hk : k ≤ 1099511627775) (hn : 0 ≤ n) (hn2 : n ≤ 1000000) :
    Calls Tryd.prog 97 #[.pointer (some ⟨R, 0, none⟩), .int .i64 n] w (RandBool R k n w) := by
  by_cases h0 : 0 < n
  · go_enter Tryd.func97, Tryd.ntmps97
    go_wp2_with fail
    refine (pick_any R (k) (n) _ (hr) (by omega)).mono ?_
    rintro e w1 ⟨a, rfl, a0, a1, r1, x1⟩
    replace a1 : a < n := by omega
    go_wp2
    go_ret
    exact ⟨_, rfl, r1, x1⟩
  · go_enter Tryd.func97, Tryd.ntmps97
    go_wp2
    go_ret
    exact ⟨_, rfl, hr.mono (by omega), ExtR.refl _ _⟩

abbrev TD : TypeId := 25
theorem ExtR.blk {R g : Nat} {w w' : World} {t : TypeId} {cs : Array Value} (h : ExtR R w w') (hb : Blk w g t cs) (hne : g ≠ R) : Blk w' g t cs := hb.grown h (fun e => hne (by injection e))
theorem Blk.three {w : World} {g : Nat} {t : TypeId} {a b c : Value} (h : Blk w g t #[a, b, c]) : w.cell? ⟨g, 0, none⟩ = some a ∧ w.cell? ⟨g, 1, none⟩ = some b ∧ w.cell? ⟨g, 2, none⟩ = some c ∧ w.frozen? ⟨g, 0, none⟩ = false ∧ w.frozen? ⟨g, 1, none⟩ = false ∧ w.frozen? ⟨g, 2, none⟩ = false :=
  ⟨h.cell 0, h.cell 1, h.cell 2, h.frozen 0, h.frozen 1, h.frozen 2⟩

def RandDeed (R k : Nat) (w : World) (e : Ending) (w' : World) : Prop := ∃ a b c : Int, e = .returned (deedV a b c) ∧ deedOk a b c = true ∧ Rand w' R (k + 3) ∧ ExtR R w w'
set_option maxRecDepth 100000 in
set_option maxHeartbeats 1000000 in
theorem l20Deed_any (R k : Nat) (w : World) (hr : Rand w R k) (hk : k ≤ 1099511627770) :
    Calls Tryd.prog 36 #[.pointer (some ⟨R, 0, none⟩)] w (RandDeed R k w) := by
  have hR := hr.lt
  go_enter Tryd.func36, Tryd.ntmps36
  go_wp2_with fail
  refine (pick_any R (k) (5) _ (hr.ext (by (repeat' (first | exact Ext.refl _ | (with_reducible assumption) | (with_reducible refine Ext.alloc ?_ _) | (with_reducible refine Ext.setCell ?_ (by first | exact Nat.le_refl _ | (dsimp only; omega) | (simp; done) | (simp; omega)) _) | (with_reducible refine Ext.drew ?_) | (with_reducible refine Ext.drewN ?_ _) | (refine Ext.trans ?_ (by with_reducible assumption)))))) (by omega)).mono ?_
  rintro e w1 ⟨a, rfl, a0, a1, r1, x1⟩
  replace a1 : a < 5 := by omega
  have B1 : Blk w1 w.heap.size TD #[.int .i64 0, .int .i64 0, .int .i64 0] := x1.blk (Blk.new _ _ _) (by omega)
  have s1 : w.heap.size < w1.heap.size := Nat.lt_of_lt_of_le (by simp) x1.sz
  go_wp2_with fail
  refine (pick_any R (k + 1) (30) _ (r1) (by omega)).mono ?_
  rintro e w2 ⟨b, rfl, b0, b1, r2, x2⟩
  replace b1 : b < 30 := by omega
  have B2 := x2.blk B1 (by omega)
  have s2 : w.heap.size < w2.heap.size := Nat.lt_of_lt_of_le s1 x2.sz
  have hx2 : ExtR R w w2 := (((ExtR.refl R w).alloc _).trans x1).trans x2
  obtain ⟨p0, p1, p2, p3, p4, p5⟩ := B2.three
  by_cases ht : a = 1 ∨ a = 4
  · have ht2 : deedTwo a = true := by rcases ht with rfl | rfl <;> rfl
    have HR2 := Lib.hid B2
    have h3 : (a == 1) = true ∨ (a == 1) = false ∧ (a == 4) = true := by simp; omega
    clear B1 B2 p0 p1 p2 p3 p4 p5 ht
    rcases h3 with h3 | ⟨h3, h4⟩
    all_goals
      go_wp2_with fail
      refine (pick_any R (k + 2) (30) _ (r2.ext (by (repeat' (first | exact Ext.refl _ | (with_reducible assumption) | (with_reducible refine Ext.alloc ?_ _) | (with_reducible refine Ext.setCell ?_ (by first | exact Nat.le_refl _ | (dsimp only; omega) | (simp; done) | (simp; omega)) _) | (with_reducible refine Ext.drew ?_) | (with_reducible refine Ext.drewN ?_ _) | (refine Ext.trans ?_ (by with_reducible assumption)))))) (by omega)).mono ?_
      rintro e w3 ⟨c, rfl, c0, c1, r3, x3⟩
      replace c1 : c < 30 := by omega
      have B3 := x3.blk (HR2.out.alloc _) (by omega)
      have D3 := x3.blk (Blk.new _ _ _) (by omega)
      obtain ⟨p0, p1, p2, p3, p4, p5⟩ := B3.three
      obtain ⟨q0, q1, q2, q3, q4, q5⟩ := D3.three
      have s3 : w2.heap.size < w3.heap.size := Nat.lt_of_lt_of_le (by simp) x3.sz
      have s4 : w.heap.size < w3.heap.size := by omega
      have s5 : w2.heap.size ≠ w.heap.size := by omega
      clear B3 D3
      go_wp2
      refine bodyPost_ret (v := deedV a b c) (by simp [results, Tryd.results36, go_sem, *]) rfl ⟨a, b, c, rfl, ?_, ?_, ?_⟩
      · simp [deedOk, ht2]; omega
      · (repeat' (first | (with_reducible assumption) | (with_reducible refine Rand.alloc ?_ _) | (with_reducible refine Rand.setCell ?_ (by first | exact Nat.le_refl _ | (dsimp only; omega) | (simp; done) | (simp; omega)) _) | (with_reducible refine Rand.drew ?_) | (with_reducible refine Rand.drewN ?_ _) | (refine Rand.ext ?_ (by with_reducible assumption))))
      · (repeat' (first | exact ExtR.refl _ _ | (with_reducible assumption) | (with_reducible refine ExtR.alloc ?_ _) | (with_reducible refine ExtR.setCell ?_ (.inr (by first | exact Nat.le_refl _ | (dsimp only; omega) | (simp; done) | (simp; omega))) _) | (with_reducible refine ExtR.drew ?_) | (with_reducible refine ExtR.drewN ?_ _) | (refine ExtR.trans ?_ (by with_reducible assumption)) | (refine ExtR.ext ?_ (by with_reducible assumption))))
  · have ht2 : deedTwo a = false := by simp [deedTwo]; omega
    have h3 : (a == 1) = false := by simp; omega
    have h4 : (a == 4) = false := by simp; omega
    have s5 : w2.heap.size ≠ w.heap.size := by omega
    clear B1 B2 ht
    go_wp2
    refine bodyPost_ret (v := deedV a b 0) (by simp [results, Tryd.results36, go_sem, *]) rfl ⟨a, b, 0, rfl, ?_, ?_, ?_⟩
    · simp [deedOk, ht2]; omega
    · exact Rand.mono (by (repeat' (first | (with_reducible assumption) | (with_reducible refine Rand.alloc ?_ _) | (with_reducible refine Rand.setCell ?_ (by first | exact Nat.le_refl _ | (dsimp only; omega) | (simp; done) | (simp; omega)) _) | (with_reducible refine Rand.drew ?_) | (with_reducible refine Rand.drewN ?_ _) | (refine Rand.ext ?_ (by with_reducible assumption))))) (Nat.le_succ (k + 1 + 1))
    · (repeat' (first | exact ExtR.refl _ _ | (with_reducible assumption) | (with_reducible refine ExtR.alloc ?_ _) | (with_reducible refine ExtR.setCell ?_ (.inr (by first | exact Nat.le_refl _ | (dsimp only; omega) | (simp; done) | (simp; omega))) _) | (with_reducible refine ExtR.drew ?_) | (with_reducible refine ExtR.drewN ?_ _) | (refine ExtR.trans ?_ (by with_reducible assumption)) | (refine ExtR.ext ?_ (by with_reducible assumption))))
end Go.Proofs.YtncfnlocdlhagaaDoor
