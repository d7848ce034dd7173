/-
  The walk of the law FnReadEntry.
-/
import Derived.Test.YtncfnlocdlhagaaDoorDrawF
import Derived.Test.YtncfnlocdlhagaaDoorAlive
import Derived.Test.YtncfnlocdlhagaaDoorSpecEntry
import Derived.Test.YtncfnlocdlhagaaDoorEdig
namespace Go.Proofs.YtncfnlocdlhagaaDoor
open Go.RowKit
set_option linter.unusedVariables false

set_option maxRecDepth 100000 in
set_option maxHeartbeats 1000000 in
theorem fnReadEntry_big (p : Option Addr) (n cap : Nat) (w : World) (h : (1048576 : Int) < n) :
    Calls Tryd.prog 3 #[.slice p n cap] w fun e w' => e = .returned (.bool true) ∧ Ext w w' := by
  go_enter Tryd.func3, Tryd.ntmps3
  go_wp2
  go_ret
  exact ⟨rfl, by (repeat' (first | exact Ext.refl _ | (with_reducible assumption) | (with_reducible refine Ext.alloc ?_ _) | (with_reducible refine Ext.setCell ?_ (by first | exact Nat.le_refl _ | (dsimp only; omega) | (simp; done) | (simp; omega)) _) | (with_reducible refine Ext.drew ?_) | (with_reducible refine Ext.drewN ?_ _) | (refine Ext.trans ?_ (by with_reducible assumption))))⟩

theorem take_str (s : ByteArray) (m : Nat) : str (s.data.toList.take m) = .string (s.extract 0 m) := by
  obtain ⟨⟨l⟩⟩ := s
  exact (extract_str0 l m).symm
theorem put_str (s : ByteArray) (j : Nat) (x : UInt8) (hj : j < s.size) : Value.string (s.extract 0 j ++ ⟨#[x]⟩ ++ s.extract (j + 1) s.size) = str (s.data.toList.take j ++ x :: s.data.toList.drop (j + 1)) := by
  obtain ⟨⟨l⟩⟩ := s
  congr 1
  apply Go.WideShapes.bytes_inj
  simp [ByteArray.data_append, ByteArray.data_extract, List.extract, ByteArray.size] at hj ⊢
  rw [List.take_of_length_le (by simp)]
theorem put_len (s : ByteArray) (j : Nat) (x : UInt8) (hj : j < s.size) : (s.data.toList.take j ++ x :: s.data.toList.drop (j + 1)).length = s.size := by
  have : s.data.toList.length = s.size := toList_length s
  simp only [List.length_append, List.length_cons, List.length_take, List.length_drop]
  omega

set_option maxRecDepth 100000 in
set_option maxHeartbeats 1000000 in
theorem fnReadEntry_o (p : Option Addr) (n cap : Nat) (w : World) (hE : Hid (Env w)) (h : (n : Int) ≤ 1048576) (HD : Hid (Calls Tryd.prog 8 #[.slice p n cap] w (DrewStr (fun l => l.length ≤ 1000) w))) :
    Calls Tryd.prog 3 #[.slice p n cap] w fun e w' => e = .returned (.bool true) ∧ Ext w w' := by
  go_enter Tryd.func3, Tryd.ntmps3
  go_wp2_with fail
  refine HD.out.mono ?_
  rintro e w1 ⟨s, rfl, hP, h1⟩
  have hsz : s.size ≤ 1000 := by have h0 : s.data.toList.length ≤ 1000 := hP; rwa [toList_length] at h0
  have hln : s.data.toList.length = s.size := toList_length s
  have hstr : Value.string s = str s.data.toList := by obtain ⟨⟨l⟩⟩ := s; rfl
  have HI : Hid (∀ w, Env w → Calls Tryd.prog 9 #[.string s] w (RetRe (readEntry s.data.toList) w)) := fun w hE => by rw [hstr]; exact implReadEntry _ w (by omega) hE
  have HS : Hid (∀ w, Calls Tryd.prog 10 #[.string s] w (RetRe (readEntry s.data.toList) w)) := fun w => by rw [hstr]; exact specReadEntry _ w (by omega)
  clear hP
  cases hr : readEntry s.data.toList with
  | none =>
    rw [hr] at HI HS
    have HI : Hid (∀ w, Env w → Calls Tryd.prog 9 #[.string s] w fun e w' => e = .returned (.tuple #[.int .i64 0, deedV 0 0 0, .int .i64 0]) ∧ Ext w w') := HI
    have HS : Hid (∀ w, Calls Tryd.prog 10 #[.string s] w fun e w' => e = .returned (.tuple #[.int .i64 0, deedV 0 0 0, .int .i64 0]) ∧ Ext w w') := HS
    clear hr hstr hln
    go_wp2_with fail
    refine (HI.out _ (hE.out.ext (by (repeat' (first | exact Ext.refl _ | (with_reducible assumption) | (with_reducible refine Ext.alloc ?_ _) | (with_reducible refine Ext.setCell ?_ (by first | exact Nat.le_refl _ | (dsimp only; omega) | (simp; done) | (simp; omega)) _) | (with_reducible refine Ext.drew ?_) | (with_reducible refine Ext.drewN ?_ _) | (refine Ext.trans ?_ (by with_reducible assumption))))))).mono ?_
    rintro e w2 ⟨rfl, h2⟩
    go_wp2_with fail
    refine (HS.out _).mono ?_
    rintro e w3 ⟨rfl, h3⟩
    have B2 : Blk w3 w2.heap.size TD #[.int .i64 0, .int .i64 0, .int .i64 0] := (Blk.new w2 _ _).ext h3
    obtain ⟨p0, p1, p2, _, _, _⟩ := B2.three
    have hz3 : w2.heap.size < w3.heap.size := B2.lt
    clear B2
    go_wp2_with fail
    refine (alive_any _ (hE.out.ext (by (repeat' (first | exact Ext.refl _ | (with_reducible assumption) | (with_reducible refine Ext.alloc ?_ _) | (with_reducible refine Ext.setCell ?_ (by first | exact Nat.le_refl _ | (dsimp only; omega) | (simp; done) | (simp; omega)) _) | (with_reducible refine Ext.drew ?_) | (with_reducible refine Ext.drewN ?_ _) | (refine Ext.trans ?_ (by with_reducible assumption))))))).mono ?_
    rintro e w4 ⟨rfl, h4⟩
    go_wp2
    go_ret
    exact ⟨rfl, by (repeat' (first | exact Ext.refl _ | (with_reducible assumption) | (with_reducible refine Ext.alloc ?_ _) | (with_reducible refine Ext.setCell ?_ (by first | exact Nat.le_refl _ | (dsimp only; omega) | (simp; done) | (simp; omega)) _) | (with_reducible refine Ext.drew ?_) | (with_reducible refine Ext.drewN ?_ _) | (refine Ext.trans ?_ (by with_reducible assumption))))⟩
  | some d =>
    obtain ⟨num, ⟨k, a, b⟩, m⟩ := d
    rw [hr] at HI HS
    have HI : Hid (∀ w, Env w → Calls Tryd.prog 9 #[.string s] w fun e w' => e = .returned (.tuple #[.int .i64 num, deedV k a b, .int .i64 m]) ∧ Ext w w') := HI
    have HS : Hid (∀ w, Calls Tryd.prog 10 #[.string s] w fun e w' => e = .returned (.tuple #[.int .i64 num, deedV k a b, .int .i64 m]) ∧ Ext w w') := HS
    obtain ⟨g1, g2, g3, g4⟩ := readEntry_pos hr
    obtain ⟨q1, q2, q3⟩ := readEntry_some hr
    have HT : Hid (∀ w, Env w → Calls Tryd.prog 12 #[.int .i64 num, deedV k a b] w fun e w' => e = .returned (.string (s.extract 0 m)) ∧ Ext w w') := fun w hE => by
      have e1 : entryText num k a b = s.data.toList.take m := by rw [q2, q3]; simp
      have := implEntry num k a b w hE
      rw [e1, take_str] at this
      exact this
    have HZ : Hid (∀ (j : Nat) (c x : UInt8) w, Env w → j < m → s.data.toList[j]? = some c → 48 ≤ c.toNat ∧ c.toNat ≤ 57 → 48 ≤ x.toNat ∧ x.toNat ≤ 57 → x ≠ c → Calls Tryd.prog 9 #[.string (s.extract 0 j ++ ⟨#[x]⟩ ++ s.extract (j + 1) s.size)] w fun e w' => e = .returned (.tuple #[.int .i64 0, deedV 0 0 0, .int .i64 0]) ∧ Ext w w') := fun j c x w hE hj hc hcd hxd hne => by
      have hjs : j < s.size := by omega
      have := implReadEntry (s.data.toList.take j ++ x :: s.data.toList.drop (j + 1)) w (by rw [put_len s j x hjs]; omega) hE
      rw [entry_digit hr hj hc hcd hxd hne] at this
      rw [put_str s j x hjs]
      exact this
    have hm0 : ((m : Int) == 0) = false := by simp; omega
    have hms : (m : Int) ≤ (s.size : Int) := by omega
    have hms2 : m ≤ s.size := by omega
    have u1 : decide ((m : Int) < 0) = false := by first | (simp; done) | (simp; omega)
    have u2 : decide (s.size < m) = false := by simpa using hms2
    have u3 : decide ((s.size : Int) < (m : Int)) = false := by first | (simp; done) | (simp; omega)
    clear hr q1 q2 q3 g1 g2 g3 g4 hstr hln
    go_wp2_with fail
    refine (HI.out _ (hE.out.ext (by (repeat' (first | exact Ext.refl _ | (with_reducible assumption) | (with_reducible refine Ext.alloc ?_ _) | (with_reducible refine Ext.setCell ?_ (by first | exact Nat.le_refl _ | (dsimp only; omega) | (simp; done) | (simp; omega)) _) | (with_reducible refine Ext.drew ?_) | (with_reducible refine Ext.drewN ?_ _) | (refine Ext.trans ?_ (by with_reducible assumption))))))).mono ?_
    rintro e w2 ⟨rfl, h2⟩
    go_wp2_with fail
    refine (HS.out _).mono ?_
    rintro e w3 ⟨rfl, h3⟩
    have B2 : Blk w3 w2.heap.size TD #[.int .i64 k, .int .i64 a, .int .i64 b] := (Blk.new w2 _ _).ext h3
    obtain ⟨p0, p1, p2, _, _, _⟩ := B2.three
    have hz3 : w2.heap.size < w3.heap.size := B2.lt
    have HB2 := Lib.hid B2
    have X3 : Ext w w3 := by (repeat' (first | exact Ext.refl _ | (with_reducible assumption) | (with_reducible refine Ext.alloc ?_ _) | (with_reducible refine Ext.setCell ?_ (by first | exact Nat.le_refl _ | (dsimp only; omega) | (simp; done) | (simp; omega)) _) | (with_reducible refine Ext.drew ?_) | (with_reducible refine Ext.drewN ?_ _) | (refine Ext.trans ?_ (by with_reducible assumption))))
    clear B2 h1 h2 h3
    go_wp2
    go_region_held3 (fun w' => w'.cell? ⟨w2.heap.size, 0, none⟩ = some (.int .i64 k) ∧ w'.cell? ⟨w2.heap.size, 1, none⟩ = some (.int .i64 a) ∧ w'.cell? ⟨w2.heap.size, 2, none⟩ = some (.int .i64 b)) (first | (refine ⟨?_, ?_, ?_⟩ <;> assumption) | go_keep)
      ((go_at_call 12
        refine (HT.out _ (hE.out.ext (by (repeat' (first | exact Ext.refl _ | (with_reducible assumption) | (with_reducible refine Ext.alloc ?_ _) | (with_reducible refine Ext.setCell ?_ (by first | exact Nat.le_refl _ | (dsimp only; omega) | (simp; done) | (simp; omega)) _) | (with_reducible refine Ext.drew ?_) | (with_reducible refine Ext.drewN ?_ _) | (refine Ext.trans ?_ (by with_reducible assumption))))))).mono ?_
        rintro e w4 ⟨rfl, h4⟩
        first | (have h4' : Ext (w3.alloc (.cells #[.int .i64 k, .int .i64 a, .int .i64 b] TD)) w4 := h4) | (have h4' : Ext (w3.alloc (.cells #[.int .i64 k, .int .i64 a, .int .i64 b] TD)) w4 := h4.of_drew)
        have B4 := (HB2.out.alloc (.cells #[.int .i64 k, .int .i64 a, .int .i64 b] TD)).ext h4'
        have g0 : w4.cell? ⟨w2.heap.size, 0, none⟩ = some (.int .i64 k) := B4.cell 0
        have g1 : w4.cell? ⟨w2.heap.size, 1, none⟩ = some (.int .i64 a) := B4.cell 1
        have g2 : w4.cell? ⟨w2.heap.size, 2, none⟩ = some (.int .i64 b) := B4.cell 2
        have X4 : Ext w w4 := (X3.alloc _).trans h4'
        clear B4 h4 h4'))
    clear u1 u2 u3 p0 p1 p2 g0 g1 g2
    go_wp2
    go_loopw [10] (fun i wr => ∃ j : Nat, j ≤ m ∧ i = .int .i64 j ∧ Ext w wr) (fun i _ => m - (intOf i).toNat)
    case atStart => exact ⟨0, Nat.zero_le _, rfl, X4⟩
    case round =>
      obtain ⟨j, hj, rfl, hX⟩ := hrel
      clear X3 X4
      have hszr : w.heap.size ≤ wr.heap.size := hX.sz
      by_cases hlt : j < m
      · have hjs : j < s.size := by omega
        have i1 : (0 : Int) ≤ (j : Int) := by omega
        have i2 : (j : Int) < (s.size : Int) := by omega
        have i3 : (j : Int) ≤ (s.size : Int) := by omega
        have i4 : IntKind.i64.wrap ((j : Int) + 1) = (j : Int) + 1 := IntWalk.i64_in _ (by omega)
        have i5 : (0 : Int) ≤ (j : Int) + 1 := by omega
        have i6 : ((j : Int) + 1).toNat = j + 1 := by omega
        have i7 : (j : Int) + 1 ≤ (s.size : Int) := by omega
        have hcg := Lib.hid (getElem_at s j hjs)
        by_cases hd : 48 ≤ s[j].toNat ∧ s[j].toNat ≤ 57
        · obtain ⟨hd0, hd1⟩ := hd
          have c0 : (48 : Int) ≤ (s[j].toNat : Int) := by omega
          have c1 : (s[j].toNat : Int) ≤ 57 := by omega
          by_cases e49 : s[j].toNat = 49
          · have t0 : ((s[j].toNat : Int) == 49) = true := by simp [e49]
            have HZ2 : Hid (∀ w, Env w → Calls Tryd.prog 9 #[.string (s.extract 0 j ++ ⟨#[50]⟩ ++ s.extract (j + 1) s.size)] w fun e w' => e = .returned (.tuple #[.int .i64 0, deedV 0 0 0, .int .i64 0]) ∧ Ext w w') := fun w hE => HZ.out j s[j] 50 w hE hlt hcg.out ⟨hd0, hd1⟩ (by decide) (fun e => by rw [← e] at e49; simp at e49)
            clear e49 hd0 hd1
            go_wp2
            go_region_with (go_at_call 9; refine (HZ2.out _ (hE.out.ext (by (repeat' (first | exact Ext.refl _ | (with_reducible assumption) | (with_reducible refine Ext.alloc ?_ _) | (with_reducible refine Ext.setCell ?_ (by first | exact Nat.le_refl _ | (dsimp only; omega) | (simp; done) | (simp; omega)) _) | (with_reducible refine Ext.drew ?_) | (with_reducible refine Ext.drewN ?_ _) | (refine Ext.trans ?_ (by with_reducible assumption))))))).mono ?_; rintro e w5 ⟨rfl, h5⟩; (first | (have hq : Ext (wr.alloc (.cells #[.int .i64 0, .int .i64 0, .int .i64 0] TD)) w5 := h5; (obtain ⟨p0, p1, p2, p3, p4, p5⟩ := ((Blk.new wr TD #[.int .i64 0, .int .i64 0, .int .i64 0]).ext hq).three); (have hzq : wr.heap.size < w5.heap.size := ((Blk.new wr TD #[.int .i64 0, .int .i64 0, .int .i64 0]).ext hq).lt)) | (have hq : Ext (wr.alloc (.cells #[.int .i64 0, .int .i64 0, .int .i64 0] TD)) w5 := h5.of_drew; (obtain ⟨p0, p1, p2, p3, p4, p5⟩ := ((Blk.new wr TD #[.int .i64 0, .int .i64 0, .int .i64 0]).ext hq).three); (have hzq : wr.heap.size < w5.heap.size := ((Blk.new wr TD #[.int .i64 0, .int .i64 0, .int .i64 0]).ext hq).lt)) | skip))
            all_goals clear i4
            all_goals go_wp2
            all_goals go_roundw
            all_goals first
              | (case rel => exact ⟨j + 1, by omega, by go_num, by (repeat' (first | exact Ext.refl _ | (with_reducible assumption) | (with_reducible refine Ext.alloc ?_ _) | (with_reducible refine Ext.setCell ?_ (by first | exact Nat.le_refl _ | (dsimp only; omega) | (simp; done) | (simp; omega)) _) | (with_reducible refine Ext.drew ?_) | (with_reducible refine Ext.drewN ?_ _) | (refine Ext.trans ?_ (by with_reducible assumption))))⟩)
              | (case measure => simp [intOf]; omega)
          · have t0 : ((s[j].toNat : Int) == 49) = false := by simp; omega
            have HZ2 : Hid (∀ w, Env w → Calls Tryd.prog 9 #[.string (s.extract 0 j ++ ⟨#[49]⟩ ++ s.extract (j + 1) s.size)] w fun e w' => e = .returned (.tuple #[.int .i64 0, deedV 0 0 0, .int .i64 0]) ∧ Ext w w') := fun w hE => HZ.out j s[j] 49 w hE hlt hcg.out ⟨hd0, hd1⟩ (by decide) (fun e => e49 (by rw [← e]; rfl))
            clear e49 hd0 hd1
            go_wp2
            go_region_with (go_at_call 9; refine (HZ2.out _ (hE.out.ext (by (repeat' (first | exact Ext.refl _ | (with_reducible assumption) | (with_reducible refine Ext.alloc ?_ _) | (with_reducible refine Ext.setCell ?_ (by first | exact Nat.le_refl _ | (dsimp only; omega) | (simp; done) | (simp; omega)) _) | (with_reducible refine Ext.drew ?_) | (with_reducible refine Ext.drewN ?_ _) | (refine Ext.trans ?_ (by with_reducible assumption))))))).mono ?_; rintro e w5 ⟨rfl, h5⟩; (first | (have hq : Ext (wr.alloc (.cells #[.int .i64 0, .int .i64 0, .int .i64 0] TD)) w5 := h5; (obtain ⟨p0, p1, p2, p3, p4, p5⟩ := ((Blk.new wr TD #[.int .i64 0, .int .i64 0, .int .i64 0]).ext hq).three); (have hzq : wr.heap.size < w5.heap.size := ((Blk.new wr TD #[.int .i64 0, .int .i64 0, .int .i64 0]).ext hq).lt)) | (have hq : Ext (wr.alloc (.cells #[.int .i64 0, .int .i64 0, .int .i64 0] TD)) w5 := h5.of_drew; (obtain ⟨p0, p1, p2, p3, p4, p5⟩ := ((Blk.new wr TD #[.int .i64 0, .int .i64 0, .int .i64 0]).ext hq).three); (have hzq : wr.heap.size < w5.heap.size := ((Blk.new wr TD #[.int .i64 0, .int .i64 0, .int .i64 0]).ext hq).lt)) | skip))
            all_goals clear i4
            all_goals go_wp2
            all_goals go_roundw
            all_goals first
              | (case rel => exact ⟨j + 1, by omega, by go_num, by (repeat' (first | exact Ext.refl _ | (with_reducible assumption) | (with_reducible refine Ext.alloc ?_ _) | (with_reducible refine Ext.setCell ?_ (by first | exact Nat.le_refl _ | (dsimp only; omega) | (simp; done) | (simp; omega)) _) | (with_reducible refine Ext.drew ?_) | (with_reducible refine Ext.drewN ?_ _) | (refine Ext.trans ?_ (by with_reducible assumption))))⟩)
              | (case measure => simp [intOf]; omega)
        · have t0 : ((s[j].toNat : Int) == 49) = false := by simp; omega
          clear i4
          by_cases c0 : s[j].toNat < 48
          · have c1 : (s[j].toNat : Int) < 48 := by omega
            clear hd c0
            go_wp2
            go_roundw
            case rel => exact ⟨j + 1, by omega, by go_num, hX⟩
            case measure => simp [intOf]; omega
          · have c1 : (48 : Int) ≤ (s[j].toNat : Int) := by omega
            have c2 : (57 : Int) < (s[j].toNat : Int) := by omega
            clear hd c0
            go_wp2
            go_roundw
            case rel => exact ⟨j + 1, by omega, by go_num, hX⟩
            case measure => simp [intOf]; omega
      · go_wp2
        go_ret
        exact ⟨rfl, hX⟩

theorem walk_FnReadEntry (W : World) (v : Value) (u : Unit) (hc : Code W v) (hE : Env W) : Calls Tryd.prog 3 #[v] W fun e w' => e = .returned (.bool true) ∧ Ext W w' := by
  have hD := drawReadEntry v W hc
  obtain ⟨p, n, cap, bs, rfl, h, hb⟩ := hc
  by_cases hn : (n : Int) ≤ 1048576
  · exact fnReadEntry_o p n cap W hE hn hD
  · exact fnReadEntry_big p n cap W (by omega)
end Go.Proofs.YtncfnlocdlhagaaDoor
