/-
  The reference's draws for the laws on deeds and entries.
-/
import Derived.Test.YtgojmmhfablapaaDoorDrawA
import Derived.Test.YtgojmmhfablapaaDoorDeed3
namespace Go.Proofs.YtgojmmhfablapaaDoor
open Go.RowKit
set_option linter.unusedVariables false

def DrewStr (P : List UInt8 → Prop) (w : World) (e : Ending) (w' : World) : Prop := ∃ s : ByteArray, e = .returned (.string s) ∧ P s.data.toList ∧ Ext w w'
def LowText (l : List UInt8) : Prop := l.length ≤ 100 ∧ ∀ c ∈ l, c.toNat < 128
theorem bytes_app (a b : List UInt8) : (⟨a.toArray⟩ : ByteArray) ++ ⟨b.toArray⟩ = ⟨(a ++ b).toArray⟩ := Go.WideShapes.bytes_inj (by simp [ByteArray.data_append])
theorem drew_str {P : List UInt8 → Prop} {w w' : World} (l : List UInt8) {s : ByteArray} (hs : s = ⟨l.toArray⟩) (hP : P l) (hx : Ext w w') : DrewStr P w (.returned (.string s)) w' := ⟨s, rfl, by rw [hs]; simpa using hP, hx⟩

set_option maxRecDepth 100000 in
set_option maxHeartbeats 1000000 in
theorem drawSumOf (v : Value) (w : World) (hc : Code w v) : Calls Tryd.prog 19 #[v] w (DrewStr LowText w) := by
  go_enter Tryd.func19, Tryd.ntmps19
  go_wp2_with fail
  refine (l20Open_any v w hc).mono ?_
  rintro e w1 ⟨R, rfl, hR, r1, x1⟩
  go_wp2_with fail
  refine (l20Deed_any R 0 _ r1 (by omega)).mono ?_
  rintro e w2 ⟨k, a, b, rfl, hok, r2, x2⟩
  have hlow : Hid (∀ x : List UInt8, x.length ≤ 1 → (∀ c ∈ x, c.toNat < 128) → LowText (deedText k a b ++ x)) := fun x h1 h2 => by
    have := deedText_len k a b
    exact ⟨by simp; omega, fun c hc => by rcases List.mem_append.1 hc with h | h; exact deed_low k a b c h; exact h2 c h⟩
  go_wp2_with fail
  refine (specDeed k a b _).mono ?_
  rintro e w3 ⟨rfl, x3⟩
  have hl := deedText_len k a b
  have hR3 := (r2.ext x3).lt
  go_wp2_with fail
  refine (pick_any R (3) (3) _ ((r2.ext x3).alloc _) (by omega)).mono ?_
  rintro e w4 ⟨j, rfl, j0, j1, r4, x4⟩
  replace j1 : j < 3 := by omega
  have hg : w3.heap.size < w4.heap.size := Nat.lt_of_lt_of_le (by simp) x4.sz
  have hxx : Ext w w4 := ExtR.new x1 ((x2.ext x3).trans ((ExtR.refl R w3).alloc _ |>.trans x4)) hR
  have hb := x4.blk (Blk.new _ _ _) (by omega)
  obtain ⟨q0, q1, q2, _, _, _⟩ := hb.three
  clear hb
  rcases (show j = 0 ∨ j = 1 ∨ j = 2 by omega) with rfl | rfl | rfl
  · go_wp2
    go_ret
    exact drew_str (deedText k a b ++ []) (bytes_app _ []) (hlow.out [] (by simp) (by simp)) hxx
  · go_wp2
    go_ret
    exact drew_str (deedText k a b ++ [35]) (bytes_app _ [35]) (hlow.out [35] (by simp) (by simp)) hxx
  · go_wp2
    go_ret
    exact drew_str (deedText k a b ++ [120]) (bytes_app _ [120]) (hlow.out [120] (by simp) (by simp)) hxx

def DrewDeed (w : World) (e : Ending) (w' : World) : Prop := ∃ k a b : Int, e = .returned (deedV k a b) ∧ Ext w w'
set_option maxRecDepth 100000 in
set_option maxHeartbeats 1000000 in
theorem drawDeedText (v : Value) (w : World) (hc : Code w v) : Calls Tryd.prog 31 #[v] w (DrewDeed w) := by
  go_enter Tryd.func31, Tryd.ntmps31
  go_wp2_with fail
  refine (l20Open_any v _ (hc.ext (by (repeat' (first | exact Ext.refl _ | (with_reducible assumption) | (with_reducible refine Ext.alloc ?_ _) | (with_reducible refine Ext.setCell ?_ (by first | exact Nat.le_refl _ | (dsimp only; omega) | (simp; done) | (simp; omega)) _) | (with_reducible refine Ext.drew ?_) | (with_reducible refine Ext.drewN ?_ _) | (refine Ext.trans ?_ (by with_reducible assumption))))))).mono ?_
  rintro e w1 ⟨R, rfl, hR, r1, x1⟩
  have hR2 : w.heap.size < R := Nat.lt_of_lt_of_le (by simp) hR
  have B1 : Blk w1 w.heap.size TD #[.int .i64 0, .int .i64 0, .int .i64 0] := (Blk.new _ _ _).ext x1
  have s1 : w.heap.size < w1.heap.size := Nat.lt_of_lt_of_le (by simp) x1.sz
  go_wp2_with fail
  refine (pick_any R (0) (5) _ (r1) (by omega)).mono ?_
  rintro e w2 ⟨a, rfl, a0, a1, r2, x2⟩
  replace a1 : a < 5 := by omega
  go_wp2_with fail
  refine (pick_any R (1) (12) _ (r2) (by omega)).mono ?_
  rintro e w3 ⟨b, rfl, b0, b1, r3, x3⟩
  replace b1 : b < 12 := by omega
  go_wp2_with fail
  refine (pick_any R (2) (256) _ (r3) (by omega)).mono ?_
  rintro e w4 ⟨c, rfl, c0, c1, r4, x4⟩
  replace c1 : c < 256 := by omega
  go_wp2_with fail
  refine (pick_any R (3) (40) _ (r4) (by omega)).mono ?_
  rintro e w5 ⟨d, rfl, d0, d1, r5, x5⟩
  replace d1 : d < 40 := by omega
  have m0 : 0 ≤ c * d := Int.mul_nonneg c0 d0
  have m1 : c * d ≤ 255 * 39 := Int.mul_le_mul (by omega) (by omega) d0 (by omega)
  go_wp2_with fail
  refine (pick_any R (4) (30) _ (r5) (by omega)).mono ?_
  rintro e w6 ⟨f, rfl, f0, f1, r6, x6⟩
  replace f1 : f < 30 := by omega
  go_wp2_with fail
  refine (pick_any R (5) (90) _ (r6) (by omega)).mono ?_
  rintro e w7 ⟨g, rfl, g0, g1, r7, x7⟩
  replace g1 : g < 90 := by omega
  have x17 : ExtR R w1 w7 := ((((x2.trans x3).trans x4).trans x5).trans x6).trans x7
  have B7 := x17.blk B1 (by omega)
  have hs7 := x17.sz
  have hR7 := r7.lt
  have xw7 : Ext w w7 := ExtR.new ((Ext.alloc (Ext.refl w) _).trans x1) x17 (by omega)
  obtain ⟨p0, p1, p2, p3, p4, p5⟩ := B7.three
  have s7 : w.heap.size < w7.heap.size := by omega
  have s8 : w7.heap.size ≠ w.heap.size := by omega
  have HB7 := Lib.hid B7
  clear B1 B7 x2 x3 x4 x5 x6 x7 r1 r2 r3 r4 r5 r6
  obtain ⟨k, hk⟩ : ∃ k : Int, k = a + b / 11 * 5 := ⟨_, rfl⟩
  by_cases e1 : a + b / 11 * 5 = 1
  · have t1 : (a + b / 11 * 5 != 1) = false := by simp [e1]
    clear hk e1
    go_wp2
    exact bodyPost_ret (v := deedV (a + b / 11 * 5) (c * d - f / 29 * 9999) g) (by simp [results, Tryd.results31, go_sem, *]) rfl ⟨_, _, _, rfl, by (repeat' (first | exact Ext.refl _ | (with_reducible assumption) | (with_reducible refine Ext.alloc ?_ _) | (with_reducible refine Ext.setCell ?_ (by first | exact Nat.le_refl _ | (dsimp only; omega) | (simp; done) | (simp; omega)) _) | (with_reducible refine Ext.drew ?_) | (with_reducible refine Ext.drewN ?_ _) | (refine Ext.trans ?_ (by with_reducible assumption))))⟩
  · have t1 : (a + b / 11 * 5 != 1) = true := by simp [e1]
    by_cases e4 : a + b / 11 * 5 = 4
    · have t4 : (a + b / 11 * 5 != 4) = false := by simp [e4]
      clear hk e1 e4
      go_wp2
      exact bodyPost_ret (v := deedV (a + b / 11 * 5) (c * d - f / 29 * 9999) g) (by simp [results, Tryd.results31, go_sem, *]) rfl ⟨_, _, _, rfl, by (repeat' (first | exact Ext.refl _ | (with_reducible assumption) | (with_reducible refine Ext.alloc ?_ _) | (with_reducible refine Ext.setCell ?_ (by first | exact Nat.le_refl _ | (dsimp only; omega) | (simp; done) | (simp; omega)) _) | (with_reducible refine Ext.drew ?_) | (with_reducible refine Ext.drewN ?_ _) | (refine Ext.trans ?_ (by with_reducible assumption))))⟩
    · have t4 : (a + b / 11 * 5 != 4) = true := by simp [e4]
      clear hk e1 e4
      go_wp2_with fail
      refine (pick_any R (6) (8) _ (r7.alloc _) (by omega)).mono ?_
      rintro e w8 ⟨h, rfl, h0, h1, r8, x8⟩
      replace h1 : h < 8 := by omega
      have B8 := x8.blk (HB7.out.alloc _) (by omega)
      have D8 := x8.blk (Blk.new _ _ _) (by omega)
      obtain ⟨p0, p1, p2, p3, p4, p5⟩ := B8.three
      obtain ⟨q0, q1, q2, q3, q4, q5⟩ := D8.three
      have s9 : w7.heap.size < w8.heap.size := Nat.lt_of_lt_of_le (by simp) x8.sz
      have s10 : w.heap.size < w8.heap.size := by omega
      have xw8 : Ext w w8 := ExtR.new xw7 ((ExtR.refl R w7).alloc _ |>.trans x8) (by omega)
      clear B8 D8 x8
      by_cases e0 : 0 < h
      · go_wp2
        exact bodyPost_ret (v := deedV (a + b / 11 * 5) (c * d - f / 29 * 9999) 0) (by simp [results, Tryd.results31, go_sem, *]) rfl ⟨_, _, _, rfl, by (repeat' (first | exact Ext.refl _ | (with_reducible assumption) | (with_reducible refine Ext.alloc ?_ _) | (with_reducible refine Ext.setCell ?_ (by first | exact Nat.le_refl _ | (dsimp only; omega) | (simp; done) | (simp; omega)) _) | (with_reducible refine Ext.drew ?_) | (with_reducible refine Ext.drewN ?_ _) | (refine Ext.trans ?_ (by with_reducible assumption))))⟩
      · go_wp2
        exact bodyPost_ret (v := deedV (a + b / 11 * 5) (c * d - f / 29 * 9999) g) (by simp [results, Tryd.results31, go_sem, *]) rfl ⟨_, _, _, rfl, by (repeat' (first | exact Ext.refl _ | (with_reducible assumption) | (with_reducible refine Ext.alloc ?_ _) | (with_reducible refine Ext.setCell ?_ (by first | exact Nat.le_refl _ | (dsimp only; omega) | (simp; done) | (simp; omega)) _) | (with_reducible refine Ext.drew ?_) | (with_reducible refine Ext.drewN ?_ _) | (refine Ext.trans ?_ (by with_reducible assumption))))⟩

section
open Go.ChangeShapes Go.WideShapes Go.ChangeAt
variable {H : Type} {enc : TypeId × Value → H} {w : World} {base : Nat} {spare : Nat → Bool} {held : Bool} {b0 : Nat} {r : Reach} {v : Value} {d : DataW H} {p : List MemPlace}
set_option maxRecDepth 100000 in
theorem open_code (hv : Value.okWide Tryd.prog w r b0 30 v) (h : DataW.Trod enc Tryd.prog w base spare held 30 v d p) : ∃ u : Unit, Code w v := by
  obtain ⟨a0, len, cap, rfl⟩ := okWide_slice Tryd.underlying30 hv
  obtain ⟨fuel, hh⟩ := h
  obtain ⟨xs, q, c, hv', hS, hg⟩ := open_slc (α := Int) (fun x => [.int .u8 x]) (fun x => 0 ≤ x ∧ x ≤ 255) 1 Tryd.underlying30 (by kernel_rfl) (by omega) (fun _ => rfl) (fun n cs y hy => by
    obtain ⟨a, rfl, _, ha⟩ := DataW.trod_int Tryd.underlying5 hy
    exact ⟨a, rfl, bounds_u8 ha⟩) (by simpa [Value.cells] using hh)
  refine ⟨(), q, _, c, xs, hv', ?_, hg⟩
  have e : xs.flatMap (fun x => [Value.int .u8 x]) = xs.map (Value.int .u8) := by
    clear hS hg hv'
    induction xs with
    | nil => rfl
    | cons x xs ih => simp_all
  rw [← e]; exact hS
end
end Go.Proofs.YtgojmmhfablapaaDoor
