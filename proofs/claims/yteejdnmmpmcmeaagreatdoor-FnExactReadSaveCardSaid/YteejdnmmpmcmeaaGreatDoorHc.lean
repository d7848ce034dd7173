/-
  Both packages' HallEmpty, the reference's l1Sorted and HallCars. Conditions: slices read as lists.
-/
import Derived.Test.YteejdnmmpmcmeaaGreatDoorHs
import Derived.Test.YteejdnmmpmcmeaaGreatDoorHouseP
namespace Go.Proofs.YteejdnmmpmcmeaaGreatDoor
open Go.RowKit
set_option linter.unusedVariables false

abbrev TI : TypeId := 3
/-- a hall of the call's own -/
def RetHall (wide deep : Int) (xs : List Int) (w : World) (e : Ending) (w' : World) : Prop :=
  ∃ p cap, e = .returned (hallV wide deep p xs.length cap) ∧ w'.ownsRow w.heap.size TI 1 (.slice p xs.length cap) xs.length (ivs xs) ∧ Ext w w'
def emptyHall (wide deep : Int) : Int × Int × List Int := if 2 ≤ wide ∧ wide ≤ 4 ∧ 2 ≤ deep ∧ deep ≤ 3 then (wide, deep, List.replicate (wide * deep).toNat 0) else (0, 0, [])
theorem made_zero (n : Nat) : (madeCells (Value.int .i64 0).cells (n * 1)).toList = ivs (List.replicate n 0) := by
  apply List.ext_getElem <;> simp [madeCells, Value.cells, Nat.mod_one]

set_option maxRecDepth 100000 in
set_option maxHeartbeats 1000000 in
theorem specHe_bad (wide deep : Int) (w : World) (h : wide < 2 ∨ 2 ≤ wide ∧ 4 < wide ∨ 2 ≤ wide ∧ wide ≤ 4 ∧ deep < 2 ∨ 2 ≤ wide ∧ wide ≤ 4 ∧ 2 ≤ deep ∧ 3 < deep) :
    Calls Tryz.prog 145 #[.int .i64 wide, .int .i64 deep] w (RetHall 0 0 [] w) := by
  rcases h with h | ⟨h0, h⟩ | ⟨h0, h1, h⟩ | ⟨h0, h1, h2, h⟩
  all_goals
    (try (have hdd : decide (deep ≤ 3) = false := by simp; omega))
    (try (have hdd : decide (wide ≤ 4) = false := by simp; omega))
    go_enter Tryz.func145, Tryz.ntmps145
    go_wp2_with go_in
    exact bodyPost_ret (v := hallV 0 0 none 0 0) (by simp [results, Tryz.results145, go_sem]) rfl ⟨none, 0, rfl, World.ownsRow_nil _ _ _ _, by (repeat' (first | exact Ext.refl _ | (with_reducible assumption) | (with_reducible refine Ext.alloc ?_ _) | (with_reducible refine Ext.setCell ?_ (by first | exact Nat.le_refl _ | (dsimp only; omega) | (simp; done) | (simp; omega)) _) | (with_reducible refine Ext.drew ?_) | (with_reducible refine Ext.drewN ?_ _) | (refine Ext.trans ?_ (by with_reducible assumption))))⟩
theorem Blk.three {w : World} {g : Nat} {t : TypeId} {a b c : Value} (h : Blk w g t #[a, b, c]) : w.cell? ⟨g, 0, none⟩ = some a ∧ w.cell? ⟨g, 1, none⟩ = some b ∧ w.cell? ⟨g, 2, none⟩ = some c ∧ w.frozen? ⟨g, 0, none⟩ = false ∧ w.frozen? ⟨g, 1, none⟩ = false ∧ w.frozen? ⟨g, 2, none⟩ = false :=
  ⟨h.cell 0, h.cell 1, h.cell 2, h.frozen 0, h.frozen 1, h.frozen 2⟩
theorem ret_hall {wide deep : Int} {p : Option Addr} {n cap : Nat} {xs : List Int} {w w' : World} (hn : xs.length = n) (ho : w'.ownsRow w.heap.size TI 1 (.slice p n cap) n (ivs xs)) (hx : Ext w w') : RetHall wide deep xs w (.returned (hallV wide deep p n cap)) w' := by
  subst hn; exact ⟨p, cap, rfl, ho, hx⟩
theorem own_store3 {w : World} {B n : Nat} {xs : List Value} {c0 c1 c2 : Value} (h : w.ownsRow B TI 1 (.slice (some ⟨B + 1, 0, none⟩) n n) n xs) :
    (((w.setCell ⟨B, 0, none⟩ c0).setCell ⟨B, 1, none⟩ c1).setCell ⟨B, 2, none⟩ c2).ownsRow B TI 1 (.slice (some ⟨B + 1, 0, none⟩) n n) n xs := by
  have hx : ExtR B w (((w.setCell ⟨B, 0, none⟩ c0).setCell ⟨B, 1, none⟩ c1).setCell ⟨B, 2, none⟩ c2) := (((ExtR.refl B w).setCell (p := ⟨B, 0, none⟩) (.inl rfl) _).setCell (p := ⟨B, 1, none⟩) (.inl rfl) _).setCell (p := ⟨B, 2, none⟩) (.inl rfl) _
  exact h.kept hx (.inr (by simp [Value.ownBlock]))

set_option maxRecDepth 100000 in
set_option maxHeartbeats 1000000 in
theorem specHe_ok (wide deep : Int) (n : Nat) (w : World) (h0 : 2 ≤ wide) (h1 : wide ≤ 4) (h2 : 2 ≤ deep) (h3 : deep ≤ 3) (h4 : 0 ≤ wide * deep) (h5 : wide * deep ≤ 12) (h6 : wide * deep = (n : Int)) (h7 : n ≤ 12) :
    Calls Tryz.prog 145 #[.int .i64 wide, .int .i64 deep] w (RetHall wide deep (List.replicate n 0) w) := by
  obtain ⟨i0, hi, hz0, hz1, hz2⟩ := info_parts (show (Tryz.prog.info? 3).map (fun i => (i.zero, i.size, i.bytes)) = some (some (.int .i64 0), 1, 8) by kernel_rfl)
  have q1 : decide (wide ≤ 4) = true := by simp [h1]
  have q2 : decide (deep ≤ 3) = true := by simp [h3]
  go_enter Tryz.func145, Tryz.ntmps145
  go_wp2_with (first | go_in | (at_make; refine wpList_make_full _ rfl _ _ 23 rfl w.heap.size 3 i0 (.int .i64 0) 1 Tryz.underlying23 hi hz0 hz1 .i64 .i64 _ _ n rfl rfl (by first | rfl | exact h6) (by first | rfl | exact h6) (by rw [hz2]; omega) (by unfold maxLen; omega) (by simp) ?_; intro w0 hown0 hgrow0; have hE0 : Ext _ w0 := (Ext.refl _).grown hgrow0 (fun q hq => by cases hq); obtain ⟨p0, p1, p2, p3, p4, p5⟩ := ((Blk.new w 25 #[.int .i64 0, .int .i64 0, .slice none 0 0]).ext hE0).three; have hz : w.heap.size < w0.heap.size := Nat.lt_of_lt_of_le (by simp) hE0.sz; rw [made_zero] at hown0; have HO := Lib.hid hown0; have HE0 : Hid (Ext w w0) := ((Ext.refl w).alloc _).trans hE0; clear hown0 hgrow0 hE0))
  have hx : Ext w _ := (((HE0.out.setCell (p := ⟨w.heap.size, 0, none⟩) (Nat.le_refl _) (.int .i64 wide)).setCell (p := ⟨w.heap.size, 1, none⟩) (Nat.le_refl _) (.int .i64 deep)).setCell (p := ⟨w.heap.size, 2, none⟩) (Nat.le_refl _) (.slice (some ⟨w.heap.size + 1, 0, none⟩) n n))
  exact bodyPost_ret (v := hallV wide deep (some ⟨w.heap.size + 1, 0, none⟩) n n) (by simp [results, Tryz.results145, go_sem, *]) rfl (ret_hall (by simp) (own_store3 (by simpa using HO.out)) hx)

end Go.Proofs.YteejdnmmpmcmeaaGreatDoor
