/-
  The reference's draws for the laws FnReadEntry and FnReadJournal: texts that are not too long.
-/
import Derived.Test.YtncfnlocdlhagaaDoorDrawE
namespace Go.Proofs.YtncfnlocdlhagaaDoor
open Go.RowKit
set_option linter.unusedVariables false

theorem len_str (l : List UInt8) : (⟨l.toArray⟩ : ByteArray).size = l.length := by simp [ByteArray.size]
theorem six_at (a : Int) (h0 : 0 ≤ a) (h1 : a < 6) : ∃ x : ByteArray, (#[.string ⟨#[]⟩, .string ⟨#[48]⟩, .string ⟨#[59]⟩, .string ⟨#[35]⟩, .string ⟨#[57]⟩, .string ⟨#[53, 58]⟩] : Array Value)[a.toNat]? = some (.string x) ∧ x.size ≤ 2 := by
  rcases (show a = 0 ∨ a = 1 ∨ a = 2 ∨ a = 3 ∨ a = 4 ∨ a = 5 by omega) with rfl | rfl | rfl | rfl | rfl | rfl
  all_goals exact ⟨_, rfl, by decide⟩
theorem six_get {j : Nat} {x : ByteArray} (hx : (#[.string ⟨#[]⟩, .string ⟨#[48]⟩, .string ⟨#[59]⟩, .string ⟨#[35]⟩, .string ⟨#[57]⟩, .string ⟨#[53, 58]⟩] : Array Value)[j]? = some (.string x)) (h : j < ([.string ⟨#[]⟩, .string ⟨#[48]⟩, .string ⟨#[59]⟩, .string ⟨#[35]⟩, .string ⟨#[57]⟩, .string ⟨#[53, 58]⟩] : List Value).length) :
    ([.string ⟨#[]⟩, .string ⟨#[48]⟩, .string ⟨#[59]⟩, .string ⟨#[35]⟩, .string ⟨#[57]⟩, .string ⟨#[53, 58]⟩] : List Value)[j]'h = .string x := by
  have := List.getElem?_eq_getElem h
  have h2 : ([.string ⟨#[]⟩, .string ⟨#[48]⟩, .string ⟨#[59]⟩, .string ⟨#[35]⟩, .string ⟨#[57]⟩, .string ⟨#[53, 58]⟩] : List Value)[j]? = some (.string x) := by simpa using hx
  rw [this] at h2
  injection h2
theorem spoil_size (s x : ByteArray) (j : Nat) (hj : j < s.size) (hx : x.size ≤ 2) : (s.extract 0 j ++ x ++ s.extract (j + 1) s.size).size ≤ s.size + 1 := by
  simp [ByteArray.size_append, ByteArray.size_extract]; omega

def RandStr (R k m : Nat) (w : World) (e : Ending) (w' : World) : Prop := ∃ s : ByteArray, e = .returned (.string s) ∧ s.size ≤ m ∧ Rand w' R k ∧ ExtR R w w'
set_option maxRecDepth 100000 in
set_option maxHeartbeats 1000000 in
theorem l20Spoil_any (R c : Nat) (s : ByteArray) (w : World) (hr : Rand w R c) (hc : c ≤ 1000000) (hs : s.size ≤ 1000000) : Calls Tryd.prog 37 #[.pointer (some ⟨R, 0, none⟩), .string s] w (RandStr R (c + 2) (s.size + 1) w) := by
  have hR := hr.lt
  by_cases h0 : s.size = 0
  · have hs0 : s = ⟨#[]⟩ := by
      obtain ⟨⟨l⟩⟩ := s
      simp [ByteArray.size] at h0
      rw [h0]
    subst hs0
    go_enter Tryd.func37, Tryd.ntmps37
    go_wp2
    go_ret
    exact ⟨_, rfl, by decide, hr.mono (by omega), ExtR.refl _ _⟩
  · have t0 : ((s.size : Int) == 0) = false := by simp [h0]
    have h1 : 0 < s.size := by omega
    clear h0
    go_enter Tryd.func37, Tryd.ntmps37
    go_wp2_with fail
    refine (pick_any R (c) ((s.size : Int)) _ (hr) (by omega)).mono ?_
    rintro e w5 ⟨j, rfl, j0, j1, r5, x5⟩
    replace j1 : j < (s.size : Int) := by omega
    have hR5 := r5.lt
    obtain ⟨jn, rfl⟩ := Int.eq_ofNat_of_zero_le j0
    have i1 : jn < s.size := by omega
    have i2 : (jn : Int) ≤ (s.size : Int) := by omega
    have i3 : (jn : Int) + 1 ≤ (s.size : Int) := by omega
    have i4 : IntKind.i64.wrap ((jn : Int) + 1) = (jn : Int) + 1 := IntWalk.i64_in _ (by omega)
    have i5 : (0 : Int) ≤ (jn : Int) + 1 := by omega
    have i6 : ((jn : Int) + 1).toNat = jn + 1 := by omega
    go_wp2
    go_region_with (go_at_call 35; refine (pick_any R (c + 1) 6 _ (by first | exact r5 | exact r5.alloc _ | exact (r5.alloc _).drew | exact r5.drew | exact r5.drew.alloc _) (by omega)).mono ?_; rintro e w6 ⟨d, rfl, d0, d1, r6, x6⟩; (replace d1 : d < 6 := by omega); obtain ⟨x, hx, hx2⟩ := six_at d d0 d1; (have HX := Lib.hid hx); (have hq : ∀ h, ([.string ⟨#[]⟩, .string ⟨#[48]⟩, .string ⟨#[59]⟩, .string ⟨#[35]⟩, .string ⟨#[57]⟩, .string ⟨#[53, 58]⟩] : List Value)[d.toNat]'h = .string x := fun h => six_get HX.out h); clear hx; (first | (have gB : Blk w6 w5.heap.size 9 #[.string ⟨#[]⟩, .string ⟨#[48]⟩, .string ⟨#[59]⟩, .string ⟨#[35]⟩, .string ⟨#[57]⟩, .string ⟨#[53, 58]⟩] := x6.blk (Blk.new w5 _ _) (Nat.ne_of_gt hR5); have gl : w6.cell? ⟨w5.heap.size, d.toNat, none⟩ = some (.string x) := (gB.cell d.toNat).trans HX.out; clear gB) | skip))
    all_goals go_wp2
    all_goals go_ret
    all_goals exact ⟨_, rfl, spoil_size s x jn i1 hx2, by (repeat' (first | (with_reducible assumption) | (with_reducible refine Rand.alloc ?_ _) | (with_reducible refine Rand.setCell ?_ (by first | exact Nat.le_refl _ | (dsimp only; omega) | (simp; done) | (simp; omega)) _) | (with_reducible refine Rand.drew ?_) | (with_reducible refine Rand.drewN ?_ _) | (refine Rand.ext ?_ (by with_reducible assumption)))), by (repeat' (first | exact ExtR.refl _ _ | (with_reducible assumption) | (with_reducible refine ExtR.alloc ?_ _) | (with_reducible refine ExtR.setCell ?_ (.inr (by first | exact Nat.le_refl _ | (dsimp only; omega) | (simp; done) | (simp; omega))) _) | (with_reducible refine ExtR.drew ?_) | (with_reducible refine ExtR.drewN ?_ _) | (refine ExtR.trans ?_ (by with_reducible assumption)) | (refine ExtR.ext ?_ (by with_reducible assumption))))⟩

set_option maxRecDepth 100000 in
set_option maxHeartbeats 1000000 in
theorem drawReadEntry (v : Value) (w : World) (hc : Code w v) : Calls Tryd.prog 8 #[v] w (DrewStr (fun l => l.length ≤ 1000) w) := by
  go_enter Tryd.func8, Tryd.ntmps8
  go_wp2_with fail
  refine (l20Open_any v w hc).mono ?_
  rintro e w1 ⟨R, rfl, hR, r1, x1⟩
  have hR1 := r1.lt
  go_wp2_with fail
  refine (pick_any R (0) (40) _ (r1) (by omega)).mono ?_
  rintro e w2 ⟨n, rfl, n0, n1, r2, x2⟩
  replace n1 : n < 40 := by omega
  go_wp2_with fail
  refine (l20Deed_any R 1 _ r2 (by omega)).mono ?_
  rintro e w3 ⟨k, a, b, rfl, hok, r3, x3⟩
  clear hok
  go_wp2_with fail
  refine (specEntry (1 + n) k a b _).mono ?_
  rintro e w4 ⟨rfl, x4⟩
  have hl := entryText_len (1 + n) k a b
  obtain ⟨s, hs, hsz⟩ : ∃ s : ByteArray, str (entryText (1 + n) k a b) = .string s ∧ s.size = (entryText (1 + n) k a b).length := ⟨_, rfl, len_str _⟩
  rw [hs]
  have hs2 : s.size ≤ 200 := by omega
  clear hs hsz hl
  have HX4 := Lib.hid ((x2.trans x3).ext x4)
  have r4 := r3.ext x4
  clear x2 x3 x4 r2 r3
  go_wp2_with fail
  refine (pick_any R (4) (3) _ (r4.alloc _) (by omega)).mono ?_
  rintro e w5 ⟨j, rfl, j0, j1, r5, x5⟩
  replace j1 : j < 3 := by omega
  have hR4 := r4.lt
  have hg : w4.heap.size < w5.heap.size := Nat.lt_of_lt_of_le (by simp) x5.sz
  have hb := x5.blk (Blk.new _ _ _) (by omega)
  obtain ⟨q0, q1, q2, _, _, _⟩ := hb.three
  have HX5 := Lib.hid ((HX4.out.alloc _).trans x5)
  have R5 := Lib.hid r5
  clear hb x5
  have key : ∀ y : ByteArray, y.size ≤ 4 → (s ++ y).size ≤ 204 := fun y hy => by simp [ByteArray.size_append]; omega
  have KEY := Lib.hid key
  clear key
  rcases (show j = 0 ∨ j = 1 ∨ j = 2 by omega) with rfl | rfl | rfl
  all_goals
    go_wp2_with fail
    refine (pick_any R 5 3 _ R5.out (by omega)).mono ?_
    rintro e w6 ⟨c, rfl, c0, c1, r6, x6⟩
    have HX6 := Lib.hid (HX5.out.trans x6)
    clear x6
    by_cases hc0 : c = 0
    · have t0 : (c == 0) = true := by simp [hc0]
      clear hc0
      go_wp2_with fail
      refine (l20Spoil_any R 6 _ _ r6 (by omega) (Nat.le_trans (KEY.out _ (by decide)) (by omega))).mono ?_
      rintro e w7 ⟨z, rfl, hz, r7, x7⟩
      have hz2 : z.size ≤ 1000 := Nat.le_trans hz (Nat.le_trans (Nat.succ_le_succ (KEY.out _ (by decide))) (by omega))
      go_wp2
      go_ret
      exact ⟨z, rfl, by show z.data.toList.length ≤ 1000; rw [toList_length]; exact hz2, ExtR.new x1 (HX6.out.trans x7) hR⟩
    · have t0 : (c == 0) = false := by simp [hc0]
      clear hc0
      go_wp2
      go_ret
      exact ⟨_, rfl, by dsimp only; rw [toList_length]; exact Nat.le_trans (KEY.out _ (by decide)) (by omega), ExtR.new x1 HX6.out hR⟩
end Go.Proofs.YtncfnlocdlhagaaDoor
