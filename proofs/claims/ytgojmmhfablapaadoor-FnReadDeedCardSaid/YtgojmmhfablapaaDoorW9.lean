/-
  The walk of the law FnReadDeed.
-/
import Derived.Test.YtgojmmhfablapaaDoorDrawC
import Derived.Test.YtgojmmhfablapaaDoorAlive
import Derived.Test.YtgojmmhfablapaaDoorSpecRead2
namespace Go.Proofs.YtgojmmhfablapaaDoor
open Go.RowKit
set_option linter.unusedVariables false

set_option maxRecDepth 100000 in
set_option maxHeartbeats 1000000 in
theorem fnReadDeed_big (p : Option Addr) (n cap : Nat) (w : World) (h : (1048576 : Int) < n) :
    Calls Tryd.prog 10 #[.slice p n cap] w fun e w' => e = .returned (.bool true) ∧ Ext w w' := by
  go_enter Tryd.func10, Tryd.ntmps10
  go_wp2
  go_ret
  exact ⟨rfl, by (repeat' (first | exact Ext.refl _ | (with_reducible assumption) | (with_reducible refine Ext.alloc ?_ _) | (with_reducible refine Ext.setCell ?_ (by first | exact Nat.le_refl _ | (dsimp only; omega) | (simp; done) | (simp; omega)) _) | (with_reducible refine Ext.drew ?_) | (with_reducible refine Ext.drewN ?_ _) | (refine Ext.trans ?_ (by with_reducible assumption))))⟩

set_option maxRecDepth 100000 in
set_option maxHeartbeats 1000000 in
theorem fnReadDeed_o (p : Option Addr) (n cap : Nat) (w : World) (hE : Hid (Env w)) (h : (n : Int) ≤ 1048576) (HD : Hid (Calls Tryd.prog 34 #[.slice p n cap] w (DrewStr ShortText w))) :
    Calls Tryd.prog 10 #[.slice p n cap] w fun e w' => e = .returned (.bool true) ∧ Ext w w' := by
  go_enter Tryd.func10, Tryd.ntmps10
  go_wp2_with fail
  refine HD.out.mono ?_
  rintro e w1 ⟨s, rfl, hP, h1⟩
  obtain ⟨l, hl, hl2⟩ : ∃ l : List UInt8, Value.string s = str l ∧ l.length ≤ 80 := by
    obtain ⟨⟨l⟩⟩ := s
    exact ⟨l, rfl, by simpa [ShortText] using hP⟩
  rw [hl]
  clear hP hl
  have HI : Hid (∀ w, Env w → Calls Tryd.prog 29 #[str l] w (RetRd (readDeed l) w)) := fun w hE => implReadDeed l w (by omega) hE
  have HS : Hid (∀ w, Calls Tryd.prog 28 #[str l] w (RetRd (readDeed l) w)) := fun w => specReadDeed l w (by omega)
  cases hr : readDeed l with
  | none =>
    rw [hr] at HI HS
    have HI : Hid (∀ w, Env w → Calls Tryd.prog 29 #[str l] w fun e w' => e = .returned (.tuple #[deedV 0 0 0, .bool false]) ∧ Ext w w') := HI
    have HS : Hid (∀ w, Calls Tryd.prog 28 #[str l] w fun e w' => e = .returned (.tuple #[deedV 0 0 0, .bool false]) ∧ Ext w w') := HS
    clear hr
    go_wp2_with fail
    refine (HI.out _ (hE.out.ext (by (repeat' (first | exact Ext.refl _ | (with_reducible assumption) | (with_reducible refine Ext.alloc ?_ _) | (with_reducible refine Ext.setCell ?_ (by first | exact Nat.le_refl _ | (dsimp only; omega) | (simp; done) | (simp; omega)) _) | (with_reducible refine Ext.drew ?_) | (with_reducible refine Ext.drewN ?_ _) | (refine Ext.trans ?_ (by with_reducible assumption))))))).mono ?_
    rintro e w2 ⟨rfl, h2⟩
    go_wp2_with fail
    refine (HS.out _).mono ?_
    rintro e w3 ⟨rfl, h3⟩
    have B2 : Blk w3 w2.heap.size TD #[.int .i64 0, .int .i64 0, .int .i64 0] := (Blk.new w2 _ _).ext h3
    obtain ⟨p0, p1, p2, _, _, _⟩ := B2.three
    have hz3 : w2.heap.size < w3.heap.size := B2.lt
    have HB2 := Lib.hid B2
    clear B2
    go_wp2_with fail
    refine (alive_any _ (hE.out.ext (by (repeat' (first | exact Ext.refl _ | (with_reducible assumption) | (with_reducible refine Ext.alloc ?_ _) | (with_reducible refine Ext.setCell ?_ (by first | exact Nat.le_refl _ | (dsimp only; omega) | (simp; done) | (simp; omega)) _) | (with_reducible refine Ext.drew ?_) | (with_reducible refine Ext.drewN ?_ _) | (refine Ext.trans ?_ (by with_reducible assumption))))))).mono ?_
    rintro e w4 ⟨rfl, h4⟩
    go_wp2
    go_ret
    exact ⟨rfl, by (repeat' (first | exact Ext.refl _ | (with_reducible assumption) | (with_reducible refine Ext.alloc ?_ _) | (with_reducible refine Ext.setCell ?_ (by first | exact Nat.le_refl _ | (dsimp only; omega) | (simp; done) | (simp; omega)) _) | (with_reducible refine Ext.drew ?_) | (with_reducible refine Ext.drewN ?_ _) | (refine Ext.trans ?_ (by with_reducible assumption))))⟩
  | some d =>
    obtain ⟨k, a, b⟩ := d
    obtain ⟨hd, hok⟩ := readDeed_some hr
    rw [hr] at HI HS
    have HI : Hid (∀ w, Env w → Calls Tryd.prog 29 #[str l] w fun e w' => e = .returned (.tuple #[deedV k a b, .bool true]) ∧ Ext w w') := HI
    have HS : Hid (∀ w, Calls Tryd.prog 28 #[str l] w fun e w' => e = .returned (.tuple #[deedV k a b, .bool true]) ∧ Ext w w') := HS
    have HM : Hid (∀ w, Env w → Calls Tryd.prog 29 #[.string (⟨l.toArray⟩ ++ ⟨#[32]⟩)] w fun e w' => e = .returned (.tuple #[deedV 0 0 0, .bool false]) ∧ Ext w w') := fun w hE => by
      rw [bytes_app l [32]]
      have := implReadDeed (l ++ [32]) w (by simp; omega) hE
      rwa [readDeed_space] at this
    have HT : Hid (∀ w, Env w → Calls Tryd.prog 16 #[deedV k a b] w fun e w' => e = .returned (str l) ∧ Ext w w') := fun w hE => by
      have := implDeed k a b w hE
      rwa [hd] at this
    clear hr hd hok
    go_wp2_with fail
    refine (HI.out _ (hE.out.ext (by (repeat' (first | exact Ext.refl _ | (with_reducible assumption) | (with_reducible refine Ext.alloc ?_ _) | (with_reducible refine Ext.setCell ?_ (by first | exact Nat.le_refl _ | (dsimp only; omega) | (simp; done) | (simp; omega)) _) | (with_reducible refine Ext.drew ?_) | (with_reducible refine Ext.drewN ?_ _) | (refine Ext.trans ?_ (by with_reducible assumption))))))).mono ?_
    rintro e w2 ⟨rfl, h2⟩
    go_wp2_with fail
    refine (HS.out _).mono ?_
    rintro e w3 ⟨rfl, h3⟩
    have B2 : Blk w3 w2.heap.size TD #[.int .i64 k, .int .i64 a, .int .i64 b] := (Blk.new w2 _ _).ext h3
    obtain ⟨p0, p1, p2, _, _, _⟩ := B2.three
    have hz3 : w2.heap.size < w3.heap.size := B2.lt
    have HB2 := Lib.hid B2
    clear B2
    go_wp2_with fail
    clear p0 p1 p2
    refine (HM.out _ (hE.out.ext (by (repeat' (first | exact Ext.refl _ | (with_reducible assumption) | (with_reducible refine Ext.alloc ?_ _) | (with_reducible refine Ext.setCell ?_ (by first | exact Nat.le_refl _ | (dsimp only; omega) | (simp; done) | (simp; omega)) _) | (with_reducible refine Ext.drew ?_) | (with_reducible refine Ext.drewN ?_ _) | (refine Ext.trans ?_ (by with_reducible assumption))))))).mono ?_
    rintro e w4 ⟨rfl, h4⟩
    have B4 : Blk w4 w2.heap.size TD #[.int .i64 k, .int .i64 a, .int .i64 b] := (HB2.out.alloc _).ext h4
    obtain ⟨p0, p1, p2, _, _, _⟩ := B4.three
    have hz4 : w2.heap.size < w4.heap.size := B4.lt
    clear B4 HB2
    go_wp2_with fail
    clear p0 p1 p2
    refine (HT.out _ (hE.out.ext (by (repeat' (first | exact Ext.refl _ | (with_reducible assumption) | (with_reducible refine Ext.alloc ?_ _) | (with_reducible refine Ext.setCell ?_ (by first | exact Nat.le_refl _ | (dsimp only; omega) | (simp; done) | (simp; omega)) _) | (with_reducible refine Ext.drew ?_) | (with_reducible refine Ext.drewN ?_ _) | (refine Ext.trans ?_ (by with_reducible assumption))))))).mono ?_
    rintro e w5 ⟨rfl, h5⟩
    go_wp2
    go_ret
    exact ⟨rfl, by (repeat' (first | exact Ext.refl _ | (with_reducible assumption) | (with_reducible refine Ext.alloc ?_ _) | (with_reducible refine Ext.setCell ?_ (by first | exact Nat.le_refl _ | (dsimp only; omega) | (simp; done) | (simp; omega)) _) | (with_reducible refine Ext.drew ?_) | (with_reducible refine Ext.drewN ?_ _) | (refine Ext.trans ?_ (by with_reducible assumption))))⟩

theorem walk_FnReadDeed (W : World) (v : Value) (u : Unit) (hc : Code W v) (hE : Env W) : Calls Tryd.prog 10 #[v] W fun e w' => e = .returned (.bool true) ∧ Ext W w' := by
  have hD := drawReadDeed v W hc
  obtain ⟨p, n, cap, bs, rfl, h, hb⟩ := hc
  by_cases hn : (n : Int) ≤ 1048576
  · exact fnReadDeed_o p n cap W hE hn hD
  · exact fnReadDeed_big p n cap W (by omega)
end Go.Proofs.YtgojmmhfablapaaDoor
