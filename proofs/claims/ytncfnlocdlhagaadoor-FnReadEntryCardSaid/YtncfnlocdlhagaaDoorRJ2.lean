/-
  Both functions ReadJournal return the deeds of the entries with which a text begins ('rj'), in a slice of their own. Conditions: the text has at most 2^31 bytes; the library's table is laid.
-/
import Derived.Test.YtncfnlocdlhagaaDoorRJ
namespace Go.Proofs.YtncfnlocdlhagaaDoor
open Go.RowKit
set_option linter.unusedVariables false

def RetRj (first : Int) (l : List UInt8) (w : World) (e : Ending) (w' : World) : Prop :=
  ∃ v, e = .returned (.tuple #[v, .int .i64 (rj first l).2]) ∧ w'.ownsRow w.heap.size 25 3 v (rj first l).1.length ((rj first l).1.flatMap deedCells) ∧ Ext w w'

/-- what holds ahead of each round -/
def RjAt (first : Int) (l : List UInt8) (A : List Deed3) (q : Nat) : Prop :=
  q ≤ l.length ∧ A.length ≤ q ∧ (A.length = 0 ∨ (1 ≤ first ∧ first + A.length ≤ 100)) ∧ rj first l = (A ++ (rj (first + A.length) (l.drop q)).1, q + (rj (first + A.length) (l.drop q)).2)

theorem rjAt_start (first : Int) (l : List UInt8) : RjAt first l [] 0 := ⟨Nat.zero_le _, Nat.le_refl _, .inl rfl, by simp⟩
theorem rjAt_none {first : Int} {l : List UInt8} {A : List Deed3} {q : Nat} (h : RjAt first l A q) (h1 : readEntry (l.drop q) = none) : rj first l = (A, q) := by
  rw [h.2.2.2, rj_none h1]; simp
theorem rjAt_other {first n : Int} {l : List UInt8} {A : List Deed3} {q m : Nat} {d : Deed3} (h : RjAt first l A q) (h1 : readEntry (l.drop q) = some (n, d, m)) (hn : n ≠ first + A.length) : rj first l = (A, q) := by
  rw [h.2.2.2, rj_other h1 hn]; simp
theorem rjAt_step {first : Int} {l : List UInt8} {A : List Deed3} {q m : Nat} {d : Deed3} (h : RjAt first l A q) (h1 : readEntry (l.drop q) = some (first + A.length, d, m)) : RjAt first l (A ++ [d]) (q + m) := by
  obtain ⟨h2, h3, h4, h5⟩ := h
  obtain ⟨q1, q2, q3, q4⟩ := readEntry_pos h1
  rw [List.length_drop] at q2
  refine ⟨by omega, by simp; omega, .inr ⟨by rcases h4 with h4 | h4 <;> omega, by simp; omega⟩, ?_⟩
  rw [h5, rj_step h1]
  simp [List.drop_drop, Int.add_assoc, Nat.add_assoc]

theorem rj_done {first : Int} {l : List UInt8} {A : List Deed3} {q n : Nat} {v : Value} {w w' : World} (h : rj first l = (A, q)) (hn : n = A.length) (ho : w'.ownsRow w.heap.size 25 3 v n (A.flatMap deedCells)) (hE : Ext w w') :
    RetRj first l w (.returned (.tuple #[v, .int .i64 (q : Int)])) w' := ⟨v, by rw [h], by rw [h]; subst hn; exact ho, hE⟩
theorem extract_drop (s : ByteArray) (q : Nat) : Value.string (s.extract q s.size) = str (s.data.toList.drop q) :=
  extract_str s q s.size _ (by rw [List.take_of_length_le (by rw [Array.length_toList]; exact Nat.le_refl _)])

theorem own_len {w : World} {base sz n : Nat} {e : TypeId} {v : Value} {xs : List Value} (h : w.ownsRow base e sz v n xs) : ∃ p cap, v = .slice p n cap := by
  rcases h.2 with ⟨h1, h2⟩ | ⟨g, cap, _, h1, _⟩
  · exact ⟨none, 0, by rw [h1, h2]⟩
  · exact ⟨_, cap, h1⟩

theorem infoDeedB : (Tryd.prog.info? 25).map (fun i => (i.zero, i.size, i.bytes)) = some (some (.agg #[.int .i64 0, .int .i64 0, .int .i64 0]), 3, 24) := infoDeed

set_option maxRecDepth 100000 in
set_option maxHeartbeats 1000000 in
theorem specRJ (first : Int) (s : ByteArray) (w : World) (hs : s.size ≤ 2147483648) (hB : B64 first) :
    Calls Tryd.prog 15 #[.int .i64 first, .string s] w (RetRj first s.data.toList w) := by
  obtain ⟨i0, hi, hz0, hz1, hz2⟩ := info_parts infoDeedB
  have hls : s.data.toList.length = s.size := by rw [Array.length_toList]; rfl
  have HL := Lib.hid hls
  clear hls
  go_enter Tryd.func15, Tryd.ntmps15
  go_wp2
  go_loopw [6, 7] (fun v q wr => ∃ (k : Nat) (A : List Deed3) (p : Option Addr) (n cap : Nat), v = .slice p n cap ∧ n = A.length ∧ q = .int .i64 k ∧ RjAt first s.data.toList A k ∧ wr.ownsRow w.heap.size 25 3 (.slice p n cap) n (A.flatMap deedCells) ∧ Ext w wr) (fun _ q _ => s.size - (intOf q).toNat)
  case atStart => exact ⟨0, [], _, 0, 0, rfl, rfl, rfl, rjAt_start _ _, World.ownsRow_made _ #[] 0 (Nat.le_refl _) (by simp [maxLen]) rfl, (Ext.refl _).alloc _⟩
  case round =>
    obtain ⟨k, A, p, n, cap, rfl, hn, rfl, hat, hown, hE⟩ := hrel
    have HAT := Lib.hid hat
    have hsz := hE.sz
    have hnk : n ≤ k := by rw [hn]; exact hat.2.1
    have hk : k ≤ s.size := by have := hat.1; rwa [HL.out] at this
    have hsum : n = 0 ∨ (1 ≤ first ∧ first + n ≤ 100) := by rw [hn]; exact hat.2.2.1
    have HN := Lib.hid hn
    clear hn
    clear hat
    by_cases hlt : k < s.size
    · have HS : Hid (∀ w, Calls Tryd.prog 10 #[.string (s.extract k s.size)] w (RetRe (readEntry (s.data.toList.drop k)) w)) := fun w => by
        rw [extract_drop]; exact specReadEntry _ w (by rw [List.length_drop, HL.out]; omega)
      cases hre : readEntry (s.data.toList.drop k) with
      | none =>
        rw [hre] at HS
        have hfin := Lib.hid (rjAt_none HAT.out hre)
        clear hre
        go_wp2_with fail
        refine (HS.out _).mono ?_
        rintro e w1 ⟨rfl, h1⟩
        have hown1 := hown.kept h1.gb (by cases Value.ownBlock _ <;> simp)
        unfold reV
        go_wp2
        exact bodyPost_ret (v := .tuple #[.slice p n cap, .int .i64 (k : Int)]) (by simp [results, Tryd.results15, go_sem, *]) rfl (rj_done hfin.out HN.out (hown1.alloc _) (by (repeat' (first | exact Ext.refl _ | (with_reducible assumption) | (with_reducible refine Ext.alloc ?_ _) | (with_reducible refine Ext.setCell ?_ (by first | exact Nat.le_refl _ | (dsimp only; omega) | (simp; done) | (simp; omega)) _) | (with_reducible refine Ext.drew ?_) | (with_reducible refine Ext.drewN ?_ _) | (refine Ext.trans ?_ (by with_reducible assumption))))))
      | some x =>
        obtain ⟨z, ⟨a, b, c⟩, m⟩ := x
        rw [hre] at HS
        obtain ⟨r1, r2, r3, r4⟩ := readEntry_pos hre
        rw [List.length_drop, HL.out] at r2
        have q1 : IntKind.i64.wrap (first + (n : Int)) = first + n := IntWalk.i64_in _ (by unfold B64 at hB; omega)
        have q2 : ((m : Int) == 0) = false := by rw [beq_eq_false_iff_ne]; omega
        have q3 : IntKind.i64.wrap ((k : Int) + (m : Int)) = (k : Int) + m := IntWalk.i64_in _ (by omega)
        by_cases hz : z = first + n
        · have hfin := Lib.hid (rjAt_step HAT.out (by rw [hre, hz, HN.out]))
          clear hre
          have q4 : (z != first + (n : Int)) = false := by simp [hz]
          have HZ := Lib.hid hz
          clear hz
          go_wp2_with fail
          refine (HS.out _).mono ?_
          rintro e w1 ⟨rfl, h1⟩
          have hown1 := hown.kept h1.gb (by cases Value.ownBlock _ <;> simp)
          unfold reV deedV
          go_wp2_with (at_builtin; refine wpList_append_own _ rfl _ _ 33 rfl w.heap.size 25 i0 (.agg #[.int .i64 0, .int .i64 0, .int .i64 0]) 3 24 Tryd.underlying33 hi hz0 hz1 hz2 rfl (by decide) _ _ _ rfl ((hown1.alloc _).alloc _) ⟨w1.heap.size + 1, 0, none⟩ 1 1 [.int .i64 a, .int .i64 b, .int .i64 c] rfl rfl ?c1 ?c2 ?c3 ?c4 ?c5 ?_)
          case c1 => intro j u h; have := cells_new3 (w1.alloc (.cells #[.int .i64 a, .int .i64 b, .int .i64 c] 25)) (.int .i64 a) (.int .i64 b) (.int .i64 c) 25 j u h; simpa using this
          case c2 => intro u hu; simp at hu; rcases hu with rfl | rfl | rfl <;> rfl
          case c3 => unfold maxLen; omega
          case c4 => omega
          case c5 => have := h1.sz; simp; omega
          intro v' w2 hown' hgrow _
          have hE' : Ext w w2 := (((hE.trans h1).alloc _).alloc _).grown hgrow (fun q hq => (hown1.lt q hq).1)
          clear hgrow hown
          obtain ⟨p2, cap2, rfl⟩ := own_len hown'
          go_wp2
          go_roundw
          case rel => exact ⟨k + m, A ++ [(a, b, c)], p2, n + 1, cap2, rfl, by simp [HN.out], by simp, hfin.out, by simpa [deedCells] using hown', hE'⟩
          case measure => simp [intOf]; omega
        · have q4 : (z != first + (n : Int)) = true := by simpa using hz
          have hfin := Lib.hid (rjAt_other HAT.out hre (by rw [← HN.out]; exact hz))
          clear hre
          go_wp2_with fail
          refine (HS.out _).mono ?_
          rintro e w1 ⟨rfl, h1⟩
          have hown1 := hown.kept h1.gb (by cases Value.ownBlock _ <;> simp)
          unfold reV deedV
          go_wp2
          exact bodyPost_ret (v := .tuple #[.slice p n cap, .int .i64 (k : Int)]) (by simp [results, Tryd.results15, go_sem, *]) rfl (rj_done hfin.out HN.out (hown1.alloc _) (by (repeat' (first | exact Ext.refl _ | (with_reducible assumption) | (with_reducible refine Ext.alloc ?_ _) | (with_reducible refine Ext.setCell ?_ (by first | exact Nat.le_refl _ | (dsimp only; omega) | (simp; done) | (simp; omega)) _) | (with_reducible refine Ext.drew ?_) | (with_reducible refine Ext.drewN ?_ _) | (refine Ext.trans ?_ (by with_reducible assumption))))))
    · obtain rfl : k = s.size := by omega
      have hfin := Lib.hid (rjAt_none HAT.out (by rw [List.drop_eq_nil_of_le (by rw [HL.out]; exact Nat.le_refl _)]; exact readEntry_nil))
      go_wp2
      exact bodyPost_ret (v := .tuple #[.slice p n cap, .int .i64 (s.size : Int)]) (by simp [results, Tryd.results15, go_sem, *]) rfl (rj_done hfin.out HN.out hown (by (repeat' (first | exact Ext.refl _ | (with_reducible assumption) | (with_reducible refine Ext.alloc ?_ _) | (with_reducible refine Ext.setCell ?_ (by first | exact Nat.le_refl _ | (dsimp only; omega) | (simp; done) | (simp; omega)) _) | (with_reducible refine Ext.drew ?_) | (with_reducible refine Ext.drewN ?_ _) | (refine Ext.trans ?_ (by with_reducible assumption))))))
set_option maxRecDepth 100000 in
set_option maxHeartbeats 1000000 in
theorem implRJ (first : Int) (s : ByteArray) (w : World) (hs : s.size ≤ 2147483648) (hB : B64 first) (hEnv : Env w) :
    Calls Tryd.prog 14 #[.int .i64 first, .string s] w (RetRj first s.data.toList w) := by
  obtain ⟨i0, hi, hz0, hz1, hz2⟩ := info_parts infoDeedB
  have hls : s.data.toList.length = s.size := by rw [Array.length_toList]; rfl
  have HL := Lib.hid hls
  clear hls
  go_enter Tryd.func14, Tryd.ntmps14
  go_wp2
  go_loopw [6, 7] (fun v q wr => ∃ (k : Nat) (A : List Deed3) (p : Option Addr) (n cap : Nat), v = .slice p n cap ∧ n = A.length ∧ q = .int .i64 k ∧ RjAt first s.data.toList A k ∧ wr.ownsRow w.heap.size 25 3 (.slice p n cap) n (A.flatMap deedCells) ∧ Ext w wr) (fun _ q _ => s.size - (intOf q).toNat)
  case atStart => exact ⟨0, [], none, 0, 0, rfl, rfl, rfl, rjAt_start _ _, World.ownsRow_nil _ _ _ _, Ext.refl _⟩
  case round =>
    obtain ⟨k, A, p, n, cap, rfl, hn, rfl, hat, hown, hE⟩ := hrel
    have HAT := Lib.hid hat
    have hsz := hE.sz
    have hnk : n ≤ k := by rw [hn]; exact hat.2.1
    have hk : k ≤ s.size := by have := hat.1; rwa [HL.out] at this
    have hsum : n = 0 ∨ (1 ≤ first ∧ first + n ≤ 100) := by rw [hn]; exact hat.2.2.1
    have HN := Lib.hid hn
    clear hn
    clear hat
    have HS : Hid (∀ w, Env w → Calls Tryd.prog 9 #[.string (s.extract k s.size)] w (RetRe (readEntry (s.data.toList.drop k)) w)) := fun w he => by
      rw [extract_drop]; exact implReadEntry _ w (by rw [List.length_drop, HL.out]; omega) he
    cases hre : readEntry (s.data.toList.drop k) with
    | none =>
      rw [hre] at HS
      have hfin := Lib.hid (rjAt_none HAT.out hre)
      clear hre
      go_wp2_with fail
      refine (HS.out _ (hEnv.ext hE)).mono ?_
      rintro e w1 ⟨rfl, h1⟩
      have hown1 := hown.kept h1.gb (by cases Value.ownBlock _ <;> simp)
      unfold reV
      go_wp2
      exact bodyPost_ret (v := .tuple #[.slice p n cap, .int .i64 (k : Int)]) (by simp [results, Tryd.results14, go_sem, *]) rfl (rj_done hfin.out HN.out (hown1.alloc _) (by (repeat' (first | exact Ext.refl _ | (with_reducible assumption) | (with_reducible refine Ext.alloc ?_ _) | (with_reducible refine Ext.setCell ?_ (by first | exact Nat.le_refl _ | (dsimp only; omega) | (simp; done) | (simp; omega)) _) | (with_reducible refine Ext.drew ?_) | (with_reducible refine Ext.drewN ?_ _) | (refine Ext.trans ?_ (by with_reducible assumption))))))
    | some x =>
      obtain ⟨z, ⟨a, b, c⟩, m⟩ := x
      rw [hre] at HS
      obtain ⟨r1, r2, r3, r4⟩ := readEntry_pos hre
      rw [List.length_drop, HL.out] at r2
      have q1 : IntKind.i64.wrap (first + (n : Int)) = first + n := IntWalk.i64_in _ (by unfold B64 at hB; omega)
      have q2 : ((m : Int) == 0) = false := by rw [beq_eq_false_iff_ne]; omega
      have q3 : IntKind.i64.wrap ((k : Int) + (m : Int)) = (k : Int) + m := IntWalk.i64_in _ (by omega)
      by_cases hz : z = first + n
      · have hfin := Lib.hid (rjAt_step HAT.out (by rw [hre, hz, HN.out]))
        clear hre
        have q4 : (z != first + (n : Int)) = false := by simp [hz]
        have HZ := Lib.hid hz
        clear hz
        go_wp2_with fail
        refine (HS.out _ (hEnv.ext hE)).mono ?_
        rintro e w1 ⟨rfl, h1⟩
        have hown1 := hown.kept h1.gb (by cases Value.ownBlock _ <;> simp)
        unfold reV deedV
        go_wp2_with (at_builtin; refine wpList_append_own _ rfl _ _ 33 rfl w.heap.size 25 i0 (.agg #[.int .i64 0, .int .i64 0, .int .i64 0]) 3 24 Tryd.underlying33 hi hz0 hz1 hz2 rfl (by decide) _ _ _ rfl ((hown1.alloc _).alloc _) ⟨w1.heap.size + 1, 0, none⟩ 1 1 [.int .i64 a, .int .i64 b, .int .i64 c] rfl rfl ?c1 ?c2 ?c3 ?c4 ?c5 ?_)
        case c1 => intro j u h; have := cells_new3 (w1.alloc (.cells #[.int .i64 a, .int .i64 b, .int .i64 c] 25)) (.int .i64 a) (.int .i64 b) (.int .i64 c) 25 j u h; simpa using this
        case c2 => intro u hu; simp at hu; rcases hu with rfl | rfl | rfl <;> rfl
        case c3 => unfold maxLen; omega
        case c4 => omega
        case c5 => have := h1.sz; simp; omega
        intro v' w2 hown' hgrow _
        have hE' : Ext w w2 := (((hE.trans h1).alloc _).alloc _).grown hgrow (fun q hq => (hown1.lt q hq).1)
        clear hgrow hown
        obtain ⟨p2, cap2, rfl⟩ := own_len hown'
        go_wp2
        go_roundw
        case rel => exact ⟨k + m, A ++ [(a, b, c)], p2, n + 1, cap2, rfl, by simp [HN.out], by simp, hfin.out, by simpa [deedCells] using hown', hE'⟩
        case measure => simp [intOf]; omega
      · have q4 : (z != first + (n : Int)) = true := by simpa using hz
        have hfin := Lib.hid (rjAt_other HAT.out hre (by rw [← HN.out]; exact hz))
        clear hre
        go_wp2_with fail
        refine (HS.out _ (hEnv.ext hE)).mono ?_
        rintro e w1 ⟨rfl, h1⟩
        have hown1 := hown.kept h1.gb (by cases Value.ownBlock _ <;> simp)
        unfold reV deedV
        go_wp2
        exact bodyPost_ret (v := .tuple #[.slice p n cap, .int .i64 (k : Int)]) (by simp [results, Tryd.results14, go_sem, *]) rfl (rj_done hfin.out HN.out (hown1.alloc _) (by (repeat' (first | exact Ext.refl _ | (with_reducible assumption) | (with_reducible refine Ext.alloc ?_ _) | (with_reducible refine Ext.setCell ?_ (by first | exact Nat.le_refl _ | (dsimp only; omega) | (simp; done) | (simp; omega)) _) | (with_reducible refine Ext.drew ?_) | (with_reducible refine Ext.drewN ?_ _) | (refine Ext.trans ?_ (by with_reducible assumption))))))

end Go.Proofs.YtncfnlocdlhagaaDoor
