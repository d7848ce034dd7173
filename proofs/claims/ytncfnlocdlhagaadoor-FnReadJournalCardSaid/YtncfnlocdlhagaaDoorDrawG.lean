/-
  The reference's draw for the law FnReadJournal: a number and a text that is not too long.
-/
import Derived.Test.YtncfnlocdlhagaaDoorDrawF
namespace Go.Proofs.YtncfnlocdlhagaaDoor
open Go.RowKit
set_option linter.unusedVariables false

theorem journal_len (first : Int) (ds : List Deed3) : (journalText first ds).length ≤ 200 * ds.length := by
  unfold journalText
  cases h : jt first ds with
  | none => simp
  | some x => simpa using (jt_bd ds first x h).2
def DrewNumStr (w : World) (e : Ending) (w' : World) : Prop := ∃ (first : Int) (s : ByteArray), e = .returned (.tuple #[.int .i64 first, .string s]) ∧ 1 ≤ first ∧ first ≤ 20 ∧ s.size ≤ 5000 ∧ Ext w w'

set_option maxRecDepth 100000 in
set_option maxHeartbeats 1000000 in
theorem drawReadJournal (v : Value) (w : World) (hc : Code w v) : Calls Tryd.prog 13 #[v] w (DrewNumStr w) := by
  go_enter Tryd.func13, Tryd.ntmps13
  go_wp2_with fail
  refine (l20Open_any v w hc).mono ?_
  rintro e w1 ⟨R, rfl, hR, r1, x1⟩
  have hR1 := r1.lt
  go_wp2_with fail
  refine (l20Log_any R 0 _ r1 (by omega)).mono ?_
  rintro e w2 ⟨first, ds, p, cap, rfl, ho, h6, h1, h20, hok, r2, x2⟩
  have hB : B64 first := by unfold B64; omega
  obtain ⟨t, ht⟩ : ∃ t, t = journalText first ds := ⟨_, rfl⟩
  have htl : t.length ≤ 1200 := by rw [ht]; have := journal_len first ds; omega
  obtain ⟨s, hs, hsz⟩ : ∃ s : ByteArray, str t = .string s ∧ s.size = t.length := ⟨_, rfl, len_str _⟩
  have hs2 : s.size ≤ 1200 := by omega
  have HO := Lib.hid ho
  have HL : Hid (ds.length ≤ 1099511627776) := by show ds.length ≤ _; omega
  obtain ⟨m, hm⟩ : ∃ m, m = ds.length := ⟨_, rfl⟩
  have HS : Hid (∀ w', ExtR R w2 w' → Calls Tryd.prog 50 #[.int .i64 first, .slice p m cap] w' fun e w'' => e = .returned (.string s) ∧ Ext w' w'') := fun w' hx => by
    rw [← hs, ht, hm]; exact specJournal first _ ds w' hB (own_rdz (by omega) (hx.own HO.out hR1)) HL.out
  rw [← hm]
  have HX2 := Lib.hid x2
  clear ho hok ht hs hsz htl hm h6 x2
  go_wp2_with fail
  refine (HS.out _ (ExtR.refl _ _)).mono ?_
  rintro e w3 ⟨rfl, x3⟩
  have HR3 : Hid (ExtR R w2 w3) := x3.r R
  have r3 := r2.ext x3
  clear x3
  go_wp2_with fail
  refine (pick_any R (30) (4) _ (r3) (by omega)).mono ?_
  rintro e w4 ⟨c, rfl, c0, c1, r4, x4⟩
  replace c1 : c < 4 := by omega
  have HX4 := Lib.hid (HX2.out.trans (HR3.out.trans x4))
  have HR4 := Lib.hid (HR3.out.trans x4)
  clear x4 r3
  have fin : ∀ (z : ByteArray) (wf : World), z.size ≤ 5000 → ExtR R w1 wf → DrewNumStr w (.returned (.tuple #[.int .i64 first, .string z])) wf := fun z wf hz hx => ⟨first, z, rfl, h1, h20, hz, ExtR.new x1 hx hR⟩
  have FIN := Lib.hid fin
  clear fin
  rcases (show c = 0 ∨ c = 1 ∨ c = 2 ∨ c = 3 by omega) with rfl | rfl | rfl | rfl
  · go_wp2_with fail
    refine (l20Spoil_any R 31 s _ r4 (by omega) (by omega)).mono ?_
    rintro e w5 ⟨z, rfl, hz, r5, x5⟩
    go_wp2
    exact bodyPost_ret (v := .tuple #[.int .i64 first, .string z]) (by simp [results, Tryd.results13, go_sem]) rfl (FIN.out z _ (by omega) (HX4.out.trans x5))
  · have tt := True.intro
    go_wp2_with fail
    refine (pick_any R (31) ((s.size : Int) + 1) _ (r4) (by omega)).mono ?_
    rintro e w5 ⟨j, rfl, j0, j1, r5, x5⟩
    replace j1 : j < (s.size : Int) + 1 := by omega
    obtain ⟨jn, rfl⟩ := Int.eq_ofNat_of_zero_le j0
    have i1 : jn ≤ s.size := by omega
    go_wp2
    exact bodyPost_ret (v := .tuple #[.int .i64 first, .string (s.extract 0 jn)]) (by simp [results, Tryd.results13, go_sem]) rfl (FIN.out _ _ (by simp [ByteArray.size_extract]; omega) (HX4.out.trans x5))
  · go_wp2_with fail
    refine (HS.out _ HR4.out).mono ?_
    rintro e w5 ⟨rfl, x5⟩
    go_wp2
    exact bodyPost_ret (v := .tuple #[.int .i64 first, .string (s ++ s)]) (by simp [results, Tryd.results13, go_sem]) rfl (FIN.out _ _ (by simp [ByteArray.size_append]; omega) (HX4.out.ext x5))
  · go_wp2
    exact bodyPost_ret (v := .tuple #[.int .i64 first, .string s]) (by simp [results, Tryd.results13, go_sem]) rfl (FIN.out s _ (by omega) HX4.out)
end Go.Proofs.YtncfnlocdlhagaaDoor
