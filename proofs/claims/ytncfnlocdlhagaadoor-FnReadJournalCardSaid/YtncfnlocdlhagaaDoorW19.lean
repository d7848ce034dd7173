/-
  The walk of the law FnReadJournal.
-/
import Derived.Test.YtncfnlocdlhagaaDoorDrawG
import Derived.Test.YtncfnlocdlhagaaDoorAlive
import Derived.Test.YtncfnlocdlhagaaDoorSame
namespace Go.Proofs.YtncfnlocdlhagaaDoor
open Go.RowKit
set_option linter.unusedVariables false

set_option maxRecDepth 100000 in
set_option maxHeartbeats 1000000 in
theorem fnReadJournal_big (p : Option Addr) (n cap : Nat) (w : World) (h : (1048576 : Int) < n) :
    Calls Tryd.prog 4 #[.slice p n cap] w fun e w' => e = .returned (.bool true) ∧ Ext w w' := by
  go_enter Tryd.func4, Tryd.ntmps4
  go_wp2
  go_ret
  exact ⟨rfl, by (repeat' (first | exact Ext.refl _ | (with_reducible assumption) | (with_reducible refine Ext.alloc ?_ _) | (with_reducible refine Ext.setCell ?_ (by first | exact Nat.le_refl _ | (dsimp only; omega) | (simp; done) | (simp; omega)) _) | (with_reducible refine Ext.drew ?_) | (with_reducible refine Ext.drewN ?_ _) | (refine Ext.trans ?_ (by with_reducible assumption))))⟩
theorem rj_size' (first : Int) (l : List UInt8) : (rj first l).1.length ≤ l.length := by
  have : ∀ f first (l : List UInt8), (rjGo f first l).1.length ≤ l.length := by
    intro f
    induction f with
    | zero => intro first l; simp [rjGo]
    | succ f ih =>
      intro first l
      unfold rjGo
      cases h : readEntry l with
      | none => simp
      | some x =>
        obtain ⟨n, d, m⟩ := x
        obtain ⟨h1, h2, _⟩ := readEntry_pos h
        simp only
        split
        · have := ih (first + 1) (l.drop m); simp at this ⊢; omega
        · simp
  exact this _ _ _
theorem takes_str (s : ByteArray) (m : Nat) : str (s.data.toList.take m) = .string (s.extract 0 m) := by
  obtain ⟨⟨l⟩⟩ := s
  exact (extract_str0 l m).symm
theorem sl_cut3 {w : World} {p : Option Addr} {n cap m : Nat} {ds : List Deed3} (h : Sl w p n cap 3 (ds.flatMap deedCells)) (hm : m ≤ n) (hl : ds.length = n) : Sl w p m cap 3 ((ds.take m).flatMap deedCells) := by
  have hle := h.le
  refine ⟨by rw [flat_len deedCells 3 (fun _ => rfl), List.length_take]; congr 1; omega, by omega, h.mx, fun h0 => ?_⟩
  obtain ⟨b, off, rfl, hb, hc⟩ := h.rd (by omega)
  refine ⟨b, off, rfl, hb, fun k hk => ?_⟩
  rw [hc k (by omega)]
  have e : ds.flatMap deedCells = (ds.take m).flatMap deedCells ++ (ds.drop m).flatMap deedCells := by rw [← List.flatMap_append, List.take_append_drop]
  rw [e, List.getElem?_append_left]
  rw [flat_len deedCells 3 (fun _ => rfl), List.length_take]
  have : min m ds.length = m := by omega
  rw [this]; exact hk

set_option maxRecDepth 100000 in
set_option maxHeartbeats 1000000 in
theorem fnReadJournal_o (p : Option Addr) (n cap : Nat) (w : World) (hE : Hid (Env w)) (h : (n : Int) ≤ 1048576) (HD : Hid (Calls Tryd.prog 13 #[.slice p n cap] w (DrewNumStr w))) :
    Calls Tryd.prog 4 #[.slice p n cap] w fun e w' => e = .returned (.bool true) ∧ Ext w w' := by
  go_enter Tryd.func4, Tryd.ntmps4
  go_wp2_with fail
  refine HD.out.mono ?_
  rintro e w1 ⟨first, s, rfl, f1, f2, hsz, h1⟩
  have hB : B64 first := by unfold B64; omega
  have hln : s.data.toList.length = s.size := toList_length s
  obtain ⟨D, M, hrj⟩ : ∃ D M, rj first s.data.toList = (D, M) := ⟨_, _, rfl⟩
  obtain ⟨m, hm⟩ : ∃ m, m = D.length := ⟨_, rfl⟩
  have hjt := rj_text s.data.toList.length first s.data.toList (Nat.le_refl _)
  rw [hrj] at hjt
  obtain ⟨hjt1, hM⟩ := hjt
  dsimp only at hjt1 hM
  rw [hln] at hM
  have HI : Hid (∀ w, Env w → Calls Tryd.prog 14 #[.int .i64 first, .string s] w fun e w' => ∃ p c, e = .returned (.tuple #[.slice p m c, .int .i64 M]) ∧ w'.ownsRow w.heap.size TD 3 (.slice p m c) m (D.flatMap deedCells) ∧ Ext w w') := fun w hE => by
    refine (implRJ first s w (by omega) hB hE).mono ?_
    rintro e w' ⟨v, rfl, ho, hx⟩
    rw [hrj] at ho ⊢
    obtain ⟨p', c', rfl⟩ := own_len ho
    rw [hm]
    exact ⟨p', c', rfl, ho, hx⟩
  have HS : Hid (∀ w, Calls Tryd.prog 15 #[.int .i64 first, .string s] w fun e w' => ∃ p c, e = .returned (.tuple #[.slice p m c, .int .i64 M]) ∧ w'.ownsRow w.heap.size TD 3 (.slice p m c) m (D.flatMap deedCells) ∧ Ext w w') := fun w => by
    refine (specRJ first s w (by omega) hB).mono ?_
    rintro e w' ⟨v, rfl, ho, hx⟩
    rw [hrj] at ho ⊢
    obtain ⟨p', c', rfl⟩ := own_len ho
    rw [hm]
    exact ⟨p', c', rfl, ho, hx⟩
  have HC : Hid (∀ (j : Nat) w, j ≤ s.size → Env w → Calls Tryd.prog 14 #[.int .i64 first, .string (s.extract 0 j)] w fun e w' => ∃ p c x y, e = .returned (.tuple #[.slice p x c, .int .i64 (y : Nat)]) ∧ x ≤ m ∧ y ≤ j ∧ w'.ownsRow w.heap.size TD 3 (.slice p x c) x ((D.take x).flatMap deedCells) ∧ Ext w w') := fun j w hj hE => by
    refine (implRJ first (s.extract 0 j) w (by simp [ByteArray.size_extract]; omega) hB hE).mono ?_
    rintro e w' ⟨v, rfl, ho, hx⟩
    have ej : (s.extract 0 j).data.toList = s.data.toList.take j := by
      obtain ⟨⟨l⟩⟩ := s; simp [ByteArray.data_extract, List.extract]
    rw [ej] at ho ⊢
    obtain ⟨r1, r2, r3⟩ := rj_cut s.data.toList.length first s.data.toList j (Nat.le_refl _)
    rw [hrj] at r1 r3
    obtain ⟨p', c', rfl⟩ := own_len ho
    rw [r1] at ho
    exact ⟨p', c', _, _, rfl, by rw [hm]; exact r3, r2, by
      have e2 : (D.take (rj first (s.data.toList.take j)).1.length).length = (rj first (s.data.toList.take j)).1.length := by rw [← r1]
      simpa only [e2] using ho, hx⟩
  have HT : Hid (∀ p c B w, Env w → w.ownsRow B TD 3 (.slice p m c) m (D.flatMap deedCells) → Calls Tryd.prog 17 #[.int .i64 first, .slice p m c] w fun e w' => e = .returned (.string (s.extract 0 M)) ∧ Ext w w') := fun p c B w hE ho => by
    have hD : D.length ≤ 1099511627776 := by
      have := rj_size' first s.data.toList
      rw [hrj] at this
      dsimp only at this
      omega
    rw [hm] at ho ⊢
    have := implJournal first _ D w hE hB (own_rdz (by omega) ho) hD
    have e1 : journalText first D = s.data.toList.take M := by unfold journalText; rw [hjt1]; rfl
    rw [e1, takes_str] at this
    exact this
  have HM := Lib.hid hm
  have hMi : (M : Int) ≤ (s.size : Int) := by omega
  clear hrj hjt1 hln hm
  go_wp2_with fail
  refine (HI.out _ (hE.out.ext (by (repeat' (first | exact Ext.refl _ | (with_reducible assumption) | (with_reducible refine Ext.alloc ?_ _) | (with_reducible refine Ext.setCell ?_ (by first | exact Nat.le_refl _ | (dsimp only; omega) | (simp; done) | (simp; omega)) _) | (with_reducible refine Ext.drew ?_) | (with_reducible refine Ext.drewN ?_ _) | (refine Ext.trans ?_ (by with_reducible assumption))))))).mono ?_
  rintro e w2 ⟨p2, c2, rfl, o2, h2⟩
  have HO2 := Lib.hid o2
  clear o2
  go_wp2_with fail
  refine (HS.out _).mono ?_
  rintro e w3 ⟨p3, c3, rfl, o3, h3⟩
  have HO3 := Lib.hid (HO2.out.kept h3.gb (by cases Value.ownBlock _ <;> simp))
  have HQ3 := Lib.hid (Sl.own o3)
  clear o3
  go_wp2_with fail
  refine (sameDeeds_any p2 p3 m c2 c3 D _ (Sl.own HO3.out) HQ3.out).mono ?_
  rintro e w4 ⟨rfl, h4⟩
  have HO4 := Lib.hid (HO3.out.kept h4.gb (by cases Value.ownBlock _ <;> simp))
  have X4 : Ext w w4 := by (repeat' (first | exact Ext.refl _ | (with_reducible assumption) | (with_reducible refine Ext.alloc ?_ _) | (with_reducible refine Ext.setCell ?_ (by first | exact Nat.le_refl _ | (dsimp only; omega) | (simp; done) | (simp; omega)) _) | (with_reducible refine Ext.drew ?_) | (with_reducible refine Ext.drewN ?_ _) | (refine Ext.trans ?_ (by with_reducible assumption))))
  have b2 : m ≤ c2 := by rcases HO4.out.2 with ⟨h, h0⟩ | ⟨_, cap', _, h, _, _, hh, _⟩ <;> (injection h; omega)
  have b3 : c2 ≤ maxLen := by rcases HO4.out.2 with ⟨h, h0⟩ | ⟨_, cap', _, h, _, _, _, hh, _⟩ <;> (injection h with _ _ h; subst h; first | exact Nat.zero_le _ | exact hh)
  unfold maxLen at b3
  clear h1 h2 h3 h4 HO2 HO3 HQ3
  go_wp2
  go_loopw [9] (fun i wr => ∃ j : Nat, j ≤ s.size + 1 ∧ i = .int .i64 j ∧ Ext w4 wr) (fun i _ => s.size + 1 - (intOf i).toNat)
  case atStart => exact ⟨0, Nat.zero_le _, rfl, Ext.refl _⟩
  case round =>
    obtain ⟨j, hj, rfl, hX⟩ := hrel
    have Xr : Ext w wr := X4.trans hX
    by_cases hlt : j ≤ s.size
    · go_wp2_with fail
      refine (HC.out j _ hlt (hE.out.ext Xr)).mono ?_
      rintro e w5 ⟨p5, c5, x, y, rfl, hxm, hyj, o5, h5⟩
      have HO5 := Lib.hid (Sl.own o5)
      have X5 : Ext w4 w5 := by (repeat' (first | exact Ext.refl _ | (with_reducible assumption) | (with_reducible refine Ext.alloc ?_ _) | (with_reducible refine Ext.setCell ?_ (by first | exact Nat.le_refl _ | (dsimp only; omega) | (simp; done) | (simp; omega)) _) | (with_reducible refine Ext.drew ?_) | (with_reducible refine Ext.drewN ?_ _) | (refine Ext.trans ?_ (by with_reducible assumption))))
      have HO45 := Lib.hid (HO4.out.kept X5.gb (by cases Value.ownBlock _ <;> simp))
      clear o5
      have u1 : decide (m < x) = false := by simpa using hxm
      have u2 : decide (j < y) = false := by simpa using hyj
      have u3 : min (x : Int) (m : Int) = (x : Int) := by omega
      go_wp2_with fail
      refine (sameDeeds_any p5 p2 x c5 c2 (D.take x) _ HO5.out (sl_cut3 (Sl.own HO45.out) hxm HM.out.symm)).mono ?_
      rintro e w6 ⟨rfl, h6⟩
      clear u3
      go_wp2
      go_roundw
      case rel => exact ⟨j + 1, by omega, by go_num, by (repeat' (first | exact Ext.refl _ | (with_reducible assumption) | (with_reducible refine Ext.alloc ?_ _) | (with_reducible refine Ext.setCell ?_ (by first | exact Nat.le_refl _ | (dsimp only; omega) | (simp; done) | (simp; omega)) _) | (with_reducible refine Ext.drew ?_) | (with_reducible refine Ext.drewN ?_ _) | (refine Ext.trans ?_ (by with_reducible assumption))))⟩
      case measure => simp [intOf]; omega
    · have HOr := Lib.hid (HO4.out.kept hX.gb (by cases Value.ownBlock _ <;> simp))
      have u1 : decide (M ≤ s.size) = true := by simpa using hM
      go_wp2
      go_region_held3 (fun w' => True) (trivial)
        ((first
          | (go_at_call 17
             refine (HT.out p2 c2 _ _ (hE.out.ext (by (repeat' (first | exact Ext.refl _ | (with_reducible assumption) | (with_reducible refine Ext.alloc ?_ _) | (with_reducible refine Ext.setCell ?_ (by first | exact Nat.le_refl _ | (dsimp only; omega) | (simp; done) | (simp; omega)) _) | (with_reducible refine Ext.drew ?_) | (with_reducible refine Ext.drewN ?_ _) | (refine Ext.trans ?_ (by with_reducible assumption)))))) (HOr.out.kept (Ext.gb (by (repeat' (first | exact Ext.refl _ | (with_reducible assumption) | (with_reducible refine Ext.alloc ?_ _) | (with_reducible refine Ext.setCell ?_ (by first | exact Nat.le_refl _ | (dsimp only; omega) | (simp; done) | (simp; omega)) _) | (with_reducible refine Ext.drew ?_) | (with_reducible refine Ext.drewN ?_ _) | (refine Ext.trans ?_ (by with_reducible assumption)))))) (by cases Value.ownBlock _ <;> simp))).mono ?_
             rintro e w5 ⟨rfl, h5⟩
             have X5 : Ext w w5 := by (repeat' (first | exact Ext.refl _ | (with_reducible assumption) | (with_reducible refine Ext.alloc ?_ _) | (with_reducible refine Ext.setCell ?_ (by first | exact Nat.le_refl _ | (dsimp only; omega) | (simp; done) | (simp; omega)) _) | (with_reducible refine Ext.drew ?_) | (with_reducible refine Ext.drewN ?_ _) | (refine Ext.trans ?_ (by with_reducible assumption)))))
          | (go_at_call 11
             refine (alive_any _ (hE.out.ext (by (repeat' (first | exact Ext.refl _ | (with_reducible assumption) | (with_reducible refine Ext.alloc ?_ _) | (with_reducible refine Ext.setCell ?_ (by first | exact Nat.le_refl _ | (dsimp only; omega) | (simp; done) | (simp; omega)) _) | (with_reducible refine Ext.drew ?_) | (with_reducible refine Ext.drewN ?_ _) | (refine Ext.trans ?_ (by with_reducible assumption))))))).mono ?_
             rintro e w6 ⟨rfl, h6⟩
             have X6 : Ext w w6 := by (repeat' (first | exact Ext.refl _ | (with_reducible assumption) | (with_reducible refine Ext.alloc ?_ _) | (with_reducible refine Ext.setCell ?_ (by first | exact Nat.le_refl _ | (dsimp only; omega) | (simp; done) | (simp; omega)) _) | (with_reducible refine Ext.drew ?_) | (with_reducible refine Ext.drewN ?_ _) | (refine Ext.trans ?_ (by with_reducible assumption)))))))
      all_goals go_wp2
      all_goals go_ret
      all_goals exact ⟨rfl, by (repeat' (first | exact Ext.refl _ | (with_reducible assumption) | (with_reducible refine Ext.alloc ?_ _) | (with_reducible refine Ext.setCell ?_ (by first | exact Nat.le_refl _ | (dsimp only; omega) | (simp; done) | (simp; omega)) _) | (with_reducible refine Ext.drew ?_) | (with_reducible refine Ext.drewN ?_ _) | (refine Ext.trans ?_ (by with_reducible assumption))))⟩

theorem walk_FnReadJournal (W : World) (v : Value) (u : Unit) (hc : Code W v) (hE : Env W) : Calls Tryd.prog 4 #[v] W fun e w' => e = .returned (.bool true) ∧ Ext W w' := by
  have hD := drawReadJournal v W hc
  obtain ⟨p, n, cap, bs, rfl, h, hb⟩ := hc
  by_cases hn : (n : Int) ≤ 1048576
  · exact fnReadJournal_o p n cap W hE hn hD
  · exact fnReadJournal_big p n cap W (by omega)
end Go.Proofs.YtncfnlocdlhagaaDoor
