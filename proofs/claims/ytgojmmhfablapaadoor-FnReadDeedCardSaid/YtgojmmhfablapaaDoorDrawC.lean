/-
  The reference's draw for the law FnReadDeed: a text of at most 80 bytes.
-/
import Derived.Test.YtgojmmhfablapaaDoorDrawB
namespace Go.Proofs.YtgojmmhfablapaaDoor
open Go.RowKit
set_option linter.unusedVariables false

def ShortText (l : List UInt8) : Prop := l.length ≤ 80
def fiveStr : Array Value := #[.string ⟨#[]⟩, .string ⟨#[48]⟩, .string ⟨#[32]⟩, .string ⟨#[55]⟩, .string ⟨#[119]⟩]
theorem five_at (a : Int) (h0 : 0 ≤ a) (h1 : a < 5) : ∃ x : ByteArray, (#[.string ⟨#[]⟩, .string ⟨#[48]⟩, .string ⟨#[32]⟩, .string ⟨#[55]⟩, .string ⟨#[119]⟩] : Array Value)[a.toNat]? = some (.string x) ∧ x.size ≤ 1 := by
  rcases (show a = 0 ∨ a = 1 ∨ a = 2 ∨ a = 3 ∨ a = 4 by omega) with rfl | rfl | rfl | rfl | rfl
  all_goals exact ⟨_, rfl, by decide⟩
theorem five_get {j : Nat} {x : ByteArray} (hx : (#[.string ⟨#[]⟩, .string ⟨#[48]⟩, .string ⟨#[32]⟩, .string ⟨#[55]⟩, .string ⟨#[119]⟩] : Array Value)[j]? = some (.string x)) (h : j < ([.string ⟨#[]⟩, .string ⟨#[48]⟩, .string ⟨#[32]⟩, .string ⟨#[55]⟩, .string ⟨#[119]⟩] : List Value).length) :
    ([.string ⟨#[]⟩, .string ⟨#[48]⟩, .string ⟨#[32]⟩, .string ⟨#[55]⟩, .string ⟨#[119]⟩] : List Value)[j]'h = .string x := by
  have := List.getElem?_eq_getElem h
  have h2 : ([.string ⟨#[]⟩, .string ⟨#[48]⟩, .string ⟨#[32]⟩, .string ⟨#[55]⟩, .string ⟨#[119]⟩] : List Value)[j]? = some (.string x) := by simpa using hx
  rw [this] at h2
  injection h2
theorem spoil_short (s x : ByteArray) (j : Nat) (n : Nat) (hs : s.size ≤ n) (hj : j < s.size) (hx : x.size ≤ 2) : (s.extract 0 j ++ x ++ s.extract (j + 1) s.size).size ≤ n + 1 := by
  simp [ByteArray.size_append, ByteArray.size_extract]; omega

set_option maxRecDepth 100000 in
set_option maxHeartbeats 1000000 in
theorem drawReadDeed (v : Value) (w : World) (hc : Code w v) : Calls Tryd.prog 34 #[v] w (DrewStr ShortText w) := by
  go_enter Tryd.func34, Tryd.ntmps34
  go_wp2_with fail
  refine (l20Open_any v w hc).mono ?_
  rintro e w1 ⟨R, rfl, hR, r1, x1⟩
  go_wp2_with fail
  refine (l20Deed_any R 0 _ r1 (by omega)).mono ?_
  rintro e w2 ⟨k, a, b, rfl, hok, r2, x2⟩
  go_wp2_with fail
  refine (specDeed k a b _).mono ?_
  rintro e w3 ⟨rfl, x3⟩
  have hl := deedText_len k a b
  have hl0 : 0 < (deedText k a b).length := by
    have : deedText k a b ≠ [] := deedText_ne hok
    exact List.length_pos_iff.2 this
  obtain ⟨s, hs, hsz⟩ : ∃ s : ByteArray, str (deedText k a b) = .string s ∧ s.size = (deedText k a b).length := ⟨_, rfl, by simp [ByteArray.size]⟩
  rw [hs]
  have hs1 : 0 < s.size := by omega
  have hs2 : s.size ≤ 60 := by omega
  clear hsz hl hl0 hs
  have X3 : Ext w w3 := ExtR.new x1 (x2.ext x3) hR
  have HX3 := Lib.hid (x2.ext x3)
  have hR3 := (r2.ext x3).lt
  clear hok
  go_wp2_with fail
  refine (pick_any R (3) (3) _ (r2.ext x3) (by omega)).mono ?_
  rintro e w4 ⟨c, rfl, c0, c1, r4, x4⟩
  replace c1 : c < 3 := by omega
  have X4 : Ext w w4 := ExtR.new x1 (HX3.out.trans x4) hR
  have HX4 := Lib.hid (HX3.out.trans x4)
  by_cases hc0 : c = 0
  · have t0 : (c == 0) = true := by simp [hc0]
    clear hc0
    go_wp2_with fail
    refine (pick_any R (4) ((s.size : Int)) _ (r4) (by omega)).mono ?_
    rintro e w5 ⟨j, rfl, j0, j1, r5, x5⟩
    replace j1 : j < (s.size : Int) := by omega
    have HX5 := Lib.hid (HX4.out.trans x5)
    have hR5 := r5.lt
    obtain ⟨jn, rfl⟩ := Int.eq_ofNat_of_zero_le j0
    have i1 : jn < s.size := by omega
    have i2 : (jn : Int) ≤ (s.size : Int) := by omega
    have i3 : (jn : Int) + 1 ≤ (s.size : Int) := by omega
    have i4 : IntKind.i64.wrap ((jn : Int) + 1) = (jn : Int) + 1 := IntWalk.i64_in _ (by omega)
    have i5 : (0 : Int) ≤ (jn : Int) + 1 := by omega
    have i6 : ((jn : Int) + 1).toNat = jn + 1 := by omega
    go_wp2
    go_region_with (go_at_call 50; refine (pick_any R 5 5 _ (by first | exact r5 | exact r5.alloc _ | exact (r5.alloc _).drew | exact r5.drew | exact r5.drew.alloc _) (by omega)).mono ?_; rintro e w6 ⟨d, rfl, d0, d1, r6, x6⟩; (replace d1 : d < 5 := by omega); obtain ⟨x, hx, hx2⟩ := five_at d d0 d1; (have HX := Lib.hid hx); (have hq : ∀ h, ([.string ⟨#[]⟩, .string ⟨#[48]⟩, .string ⟨#[32]⟩, .string ⟨#[55]⟩, .string ⟨#[119]⟩] : List Value)[d.toNat]'h = .string x := fun h => five_get HX.out h); clear hx; (first | (have gB : Blk w6 w5.heap.size 9 #[.string ⟨#[]⟩, .string ⟨#[48]⟩, .string ⟨#[32]⟩, .string ⟨#[55]⟩, .string ⟨#[119]⟩] := x6.blk (Blk.new w5 _ _) (Nat.ne_of_gt hR5); have gl : w6.cell? ⟨w5.heap.size, d.toNat, none⟩ = some (.string x) := (gB.cell d.toNat).trans HX.out; clear gB) | skip))
    all_goals go_wp2
    all_goals go_ret
    all_goals have q5 := HX5.out
    all_goals clear x2 x4 x5
    all_goals exact ⟨_, rfl, by show _ ≤ 80; rw [toList_length]; have := spoil_short s x jn 60 hs2 i1 (by omega); omega, ExtR.new x1 (by (repeat' (first | exact ExtR.refl _ _ | (with_reducible assumption) | (with_reducible refine ExtR.alloc ?_ _) | (with_reducible refine ExtR.setCell ?_ (.inr (by first | exact Nat.le_refl _ | (dsimp only; omega) | (simp; done) | (simp; omega))) _) | (with_reducible refine ExtR.drew ?_) | (with_reducible refine ExtR.drewN ?_ _) | (refine ExtR.trans ?_ (by with_reducible assumption)) | (refine ExtR.ext ?_ (by with_reducible assumption))))) hR⟩
  · have t0 : (c == 0) = false := by simp [hc0]
    clear hc0
    go_wp2
    go_ret
    exact ⟨s, rfl, by show s.data.toList.length ≤ 80; rw [toList_length]; omega, X4⟩
end Go.Proofs.YtgojmmhfablapaaDoor
