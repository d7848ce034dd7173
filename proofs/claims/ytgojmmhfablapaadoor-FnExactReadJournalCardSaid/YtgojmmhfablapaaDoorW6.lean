/-
  The walk of the law FnExactReadJournal.
-/
import Derived.Test.YtgojmmhfablapaaDoorRJ2
import Derived.Test.YtgojmmhfablapaaDoorW5
namespace Go.Proofs.YtgojmmhfablapaaDoor
open Go.RowKit
set_option linter.unusedVariables false

theorem markDeedS (v : Value) (n base : Nat) (xs : List Value) (w : World) (hn : n ≤ 1099511627776) (h : w.ownsRow base 25 3 v n xs) :
    Calls Tryd.prog 38 #[v, .int .i64 1] w fun e w' => e = .returned (.int .i64 (1 + (n * 3 : Nat))) ∧ w'.ownsRow base 25 3 v n (marksFrom 1 (n * 3)) ∧ ∀ W, Ext W w → W.heap.size ≤ base → Ext W w' := by
  rcases h.2 with ⟨rfl, rfl⟩ | ⟨g, cap, cur, rfl, hb, r⟩
  · refine (markDeedS_zero none 0 1 w).mono ?_
    rintro e w' ⟨rfl, rfl⟩
    exact ⟨by simp, by simpa [marksFrom] using World.ownsRow_nil w base _ 3, fun W h _ => h⟩
  · refine (markDeedS_some g n cap base xs 1 w hn (by omega) (by omega) h).mono ?_
    rintro e w' ⟨rfl, h1, h2⟩
    exact ⟨rfl, h1, fun W h hW => h.grown h2 (fun k hk => by simp at hk; omega)⟩
theorem heldDeedS (v : Value) (n base : Nat) (w : World) (hn : n ≤ 1099511627776) (h : w.ownsRow base 25 3 v n (marksFrom 1 (n * 3))) :
    Calls Tryd.prog 39 #[v, .int .i64 1] w fun e w' => e = .returned (.int .i64 (1 + (n * 3 : Nat))) ∧ w = w' := by
  rcases h.2 with ⟨rfl, rfl⟩ | ⟨g, cap, cur, rfl, hb, r⟩
  · refine (heldDeedS_zero none 0 1 w).mono ?_
    rintro e w' ⟨rfl, rfl⟩
    exact ⟨by simp, rfl⟩
  · refine heldDeedS_some g 0 n cap 1 w hn (by omega) (by omega) ?_
    intro j hj
    rw [Nat.zero_add, h.cellAt j hj]
    exact marksFrom_get 1 _ j hj

set_option maxRecDepth 100000 in
set_option maxHeartbeats 1000000 in
theorem exRJ_big (first : Int) (s : ByteArray) (W : World) (h : 1048576 < s.size) (hs : s.size ≤ maxLen) :
    Calls Tryd.prog 12 #[.int .i64 first, .string s] W fun e w' => e = .returned (.bool true) ∧ Ext W w' := by
  unfold maxLen at hs
  go_enter Tryd.func12, Tryd.ntmps12
  go_wp2
  go_ret
  exact ⟨rfl, by (repeat' (first | exact Ext.refl _ | (with_reducible assumption) | (with_reducible refine Ext.alloc ?_ _) | (with_reducible refine Ext.setCell ?_ (by first | exact Nat.le_refl _ | (dsimp only; omega) | (simp; done) | (simp; omega)) _) | (with_reducible refine Ext.drew ?_) | (with_reducible refine Ext.drewN ?_ _) | (refine Ext.trans ?_ (by with_reducible assumption))))⟩

set_option maxRecDepth 100000 in
set_option maxHeartbeats 1000000 in
theorem exRJ_o (first : Int) (s : ByteArray) (hs : s.size ≤ 1048576) (n : Nat) (z M : Int) (cs ms : List Value) (W : World) (hM : 0 ≤ M)
    (HS : Hid (∀ w, Calls Tryd.prog 36 #[.int .i64 first, .string s] w fun e w' => ∃ v, e = .returned (.tuple #[v, .int .i64 z]) ∧ RdZ w' v n 3 cs ∧ Ext w w'))
    (HI : Hid (∀ w, Env w → Calls Tryd.prog 37 #[.int .i64 first, .string s] w fun e w' => ∃ v, e = .returned (.tuple #[v, .int .i64 z]) ∧ w'.ownsRow w.heap.size 25 3 v n cs ∧ Ext w w'))
    (HQ : Hid (∀ v1 v2 w, RdZ w v1 n 3 cs → RdZ w v2 n 3 cs → Calls Tryd.prog 27 #[v1, v2] w fun e w' => e = .returned (.bool true) ∧ Ext w w'))
    (HM : Hid (∀ v base w, w.ownsRow base 25 3 v n cs → Calls Tryd.prog 38 #[v, .int .i64 1] w fun e w' => e = .returned (.int .i64 M) ∧ w'.ownsRow base 25 3 v n ms ∧ ∀ W, Ext W w → W.heap.size ≤ base → Ext W w'))
    (HH : Hid (∀ v base w, w.ownsRow base 25 3 v n ms → Calls Tryd.prog 39 #[v, .int .i64 1] w fun e w' => e = .returned (.int .i64 M) ∧ w = w'))
    (HE : Hid (Env W)) :
    Calls Tryd.prog 12 #[.int .i64 first, .string s] W fun e w' => e = .returned (.bool true) ∧ Ext W w' := by
  go_enter Tryd.func12, Tryd.ntmps12
  go_wp2_with fail
  refine (HS.out _).mono ?_
  rintro e w1 ⟨v0, rfl, r1, h1⟩
  have R1 := Lib.hid r1
  clear r1
  go_wp2_with fail
  refine (HI.out _ (HE.out.ext h1)).mono ?_
  rintro e w2 ⟨v1, rfl, o1, h2⟩
  have O1 := Lib.hid o1
  have R1b := Lib.hid (R1.out.ext h2)
  have H2 := Lib.hid (h1.trans h2)
  clear o1
  go_wp2_with fail
  refine (HQ.out v1 v0 _ (own_rdz (by omega) O1.out) R1b.out).mono ?_
  rintro e w3 ⟨rfl, h3⟩
  have O3 := Lib.hid (O1.out.kept h3.gb (by cases Value.ownBlock _ <;> simp))
  have H3 := Lib.hid (h2.trans h3)
  have H03 := Lib.hid (H2.out.trans h3)
  clear h3
  go_wp2_with fail
  refine (HM.out v1 _ _ O3.out).mono ?_
  rintro e w4 ⟨rfl, o4, g4⟩
  have O4 := Lib.hid o4
  have H14 := Lib.hid (g4 w1 H3.out (Nat.le_refl _))
  have H04 := Lib.hid (h1.trans H14.out)
  clear o4 g4
  go_wp2_with fail
  refine (HH.out v1 _ _ O4.out).mono ?_
  rintro e w5 ⟨rfl, rfl⟩
  go_wp2_with fail
  refine (HI.out _ (HE.out.ext H04.out)).mono ?_
  rintro e w6 ⟨v6, rfl, o6, h6⟩
  have O6 := Lib.hid o6
  have O46 := Lib.hid (O4.out.kept h6.gb (by cases Value.ownBlock _ <;> simp))
  have R6 := Lib.hid (R1.out.ext (H14.out.trans h6))
  have H06 := Lib.hid (H04.out.trans h6)
  clear o6 h6
  go_wp2_with fail
  refine (HQ.out v6 v0 _ (own_rdz (by omega) O6.out) R6.out).mono ?_
  rintro e w7 ⟨rfl, h7⟩
  have O7 := Lib.hid (O46.out.kept h7.gb (by cases Value.ownBlock _ <;> simp))
  have H07 := Lib.hid (H06.out.trans h7)
  clear h7
  go_wp2_with fail
  refine (HH.out v1 _ _ O7.out).mono ?_
  rintro e w8 ⟨rfl, rfl⟩
  go_wp2
  go_ret
  exact ⟨rfl, H07.out⟩

theorem rj_size (first : Int) (l : List UInt8) : (rj first l).1.length ≤ l.length := by
  have : ∀ f first (l : List UInt8), (rjGo f first l).1.length ≤ l.length := by
    intro f
    induction f with
    | zero => intro first l; simp [rjGo]
    | succ f ih =>
      intro first l
      unfold rjGo
      cases h : readEntry l with
      | none => simp
      | some x =>
        obtain ⟨n, d, m⟩ := x
        obtain ⟨h1, h2, _⟩ := readEntry_pos h
        simp only
        split
        · have := ih (first + 1) (l.drop m); simp at this ⊢; omega
        · simp
  exact this _ _ _

theorem walk_FnExactReadJournal (first : Int) (hB : B64 first) (s : ByteArray) (hs : s.size ≤ maxLen) (W : World) (hE : Env W) :
    Calls Tryd.prog 12 #[.int .i64 first, .string s] W fun e w' => e = .returned (.bool true) ∧ Ext W w' := by
  by_cases h : 1048576 < s.size
  · exact exRJ_big first s W h hs
  · have hl := rj_size first s.data.toList
    rw [toList_length] at hl
    refine exRJ_o first s (by omega) (rj first s.data.toList).1.length (rj first s.data.toList).2 (1 + ((rj first s.data.toList).1.length * 3 : Nat)) ((rj first s.data.toList).1.flatMap deedCells) (marksFrom 1 ((rj first s.data.toList).1.length * 3)) W (by omega) ?_ ?_ ?_ ?_ ?_ hE
    · intro w
      refine (specRJ first s w (by omega) hB).mono ?_
      rintro e w' ⟨v, rfl, ho, hx⟩
      exact ⟨v, rfl, own_rdz (by omega) ho, hx⟩
    · intro w he
      exact implRJ first s w (by omega) hB he
    · intro v1 v2 w h1 h2; exact eqDeedS v1 v2 _ w h1 h2 (by omega)
    · intro v base w ho; exact markDeedS v _ base _ w (by omega) ho
    · intro v base w ho; exact heldDeedS v _ base w (by omega) ho
end Go.Proofs.YtgojmmhfablapaaDoor
