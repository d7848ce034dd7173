/-
  DeskFree of both packages is deskFree. Conditions: the slices read as lists.
-/
import Derived.Test.YtndcnflchkfaeaaBk20
import Derived.Test.YtndcnflchkfaeaaBk10
import Derived.Test.YtndcnflchkfaeaaBk11
import Derived.Test.YtndcnflchkfaeaaDk7
namespace Go.Proofs.Ytndcnflchkfaeaa
open Go.RowKit
set_option linter.unusedVariables false
set_option linter.unusedSimpArgs false

theorem idxOf_none {id : Int} {bs : List Visit4} (h : noBook id bs = true) : idxOf id bs = none := by
  unfold idxOf
  rw [List.findIdx?_eq_none_iff]
  intro x hx
  have := noBook_iff.1 h x hx
  simpa using fun e => this e.symm
/-- what DeskFree hands back -/
def RetFree (D : DeskD × List Int) (w : World) (e : Ending) (w' : World) : Prop :=
  ∃ qa na ca qb nb cb qc nc cc, e = .returned (.tuple #[.agg #[.int .i64 D.1.places, .slice qa na ca, .slice qb nb cb], .slice qc nc cc]) ∧ na = D.1.taken.length ∧ nb = D.1.row.length ∧ nc = D.2.length ∧ Mem w w' [ownI w.heap.size TBk 4 (qa) (na) (ca) (D.1.taken.flatMap visitCells), ownI w.heap.size TBk 4 (qb) (nb) (cb) (D.1.row.flatMap visitCells), ownI w.heap.size TI 1 (qc) (nc) (cc) (ivs D.2)]
theorem implFree (P : Int) (q : Option Addr) (m c2 : Nat) (q2 : Option Addr) (m2 d2 : Nat) (id : Int) (T R : List Visit4) (w : World) (hS : Sl w q m c2 4 (T.flatMap visitCells)) (hS2 : Sl w q2 m2 d2 4 (R.flatMap visitCells)) :
    Calls Try.prog 10 #[.agg #[.int .i64 P, .slice q m c2, .slice q2 m2 d2], .int .i64 id] w (RetFree (deskFree ⟨P, T, R⟩ id) w) := by
  have hl : T.length = m := by
    have := hS.len; rw [flat_len visitCells 4 (fun _ => rfl)] at this; omega
  have hl2 : R.length = m2 := by
    have := hS2.len; rw [flat_len visitCells 4 (fun _ => rfl)] at this; omega
  cases hv : deskValid ⟨P, T, R⟩ with
  | false =>
    have hf : deskFree ⟨P, T, R⟩ id = (⟨0, [], []⟩, []) := by unfold deskFree; rw [if_neg (by rw [hv]; decide)]
    rw [hf]
    refine (implDf_bad P q m c2 q2 m2 d2 id T R w (Lib.hid (fun w' hx => by have h := implDv P q m c2 q2 m2 d2 T R w' (hS.ext hx) (hS2.ext hx); rw [hv] at h; exact h))).mono ?_
    rintro e w' ⟨rfl, hx⟩
    exact ⟨none, 0, 0, none, 0, 0, none, 0, 0, rfl, rfl, rfl, rfl, ((((Mem.start w).adv hx).call (Ext.refl _) (World.ownsRow_nil _ _ TI 1)).call (Ext.refl _) (World.ownsRow_nil _ _ TBk 4)).call (Ext.refl _) (World.ownsRow_nil _ _ TBk 4)⟩
  | true =>
    have hlen := desk_len hv
    have hlT : T.length ≤ 7 := hlen.1
    have hlR : R.length ≤ 5 := hlen.2
    have HV : Hid (∀ w', Ext w w' → Calls Try.prog 32 #[.agg #[.int .i64 P, .slice q m c2, .slice q2 m2 d2]] w' fun e w'' => e = .returned (.bool true) ∧ Ext w' w'') := Lib.hid (fun w' hx => by have h := implDv P q m c2 q2 m2 d2 T R w' (hS.ext hx) (hS2.ext hx); rw [hv] at h; exact h)
    have HC : Hid (∀ w', Ext w w' → Calls Try.prog 33 #[.agg #[.int .i64 P, .slice q m c2, .slice q2 m2 d2]] w' fun e w'' => ∃ q5 c5 q6 c6, e = .returned (.agg #[.int .i64 P, .slice q5 m c5, .slice q6 m2 c6]) ∧ Mem w' w'' [ownI w'.heap.size TBk 4 (q5) (m) (c5) (T.flatMap visitCells), ownI w'.heap.size TBk 4 (q6) (m2) (c6) (R.flatMap visitCells)]) := Lib.hid (fun w' hx => copyDesk_o P q m c2 q2 m2 d2 T R w' (Lib.hid (fun w2 hy => clone_any q m c2 _ w2 (by omega) (hS.ext (hx.trans hy)) (books_one _))) (Lib.hid (fun w2 hy => clone_any q2 m2 d2 _ w2 (by omega) (hS2.ext (hx.trans hy)) (books_one _))))
    cases hr : noBook id R with
    | false =>
      obtain ⟨k, hk, hvk, hik⟩ := vix_pos hr
      have hf : deskFree ⟨P, T, R⟩ id = (⟨P, T, R.eraseIdx k⟩, []) := by unfold deskFree; rw [if_pos hv]; simp only [hik]
      rw [hf]
      have HF2 : Hid (∀ w', Ext w w' → Calls Try.prog 34 #[.slice q2 m2 d2, .int .i64 id] w' fun e w'' => e = .returned (.int .i64 (k : Int)) ∧ Ext w' w'') := Lib.hid (fun w' hx => by have h := bookIndex_any id q2 m2 d2 R w' (hS2.ext hx); rw [hvk] at h; exact h)
      · refine (implDf_row P q m c2 q2 m2 d2 id T R w k (by omega) (by omega) HV HC HF2).mono ?_
        rintro e w' ⟨qa, ca, qb, cb, qc, cc, rfl, hM⟩
        exact ⟨qa, m, ca, qb, m2 - 1, cb, qc, 0, cc, rfl, hl.symm, by show _ = (R.eraseIdx k).length; have h := List.length_eraseIdx_of_lt hk; omega, rfl, hM⟩
    | true =>
      have hn := vix_neg hr
      have HF2 : Hid (∀ w', Ext w w' → Calls Try.prog 34 #[.slice q2 m2 d2, .int .i64 id] w' fun e w'' => e = .returned (.int .i64 (-1)) ∧ Ext w' w'') := Lib.hid (fun w' hx => by have h := bookIndex_any id q2 m2 d2 R w' (hS2.ext hx); rw [hn] at h; exact h)
      cases ht : noBook id T with
      | true =>
        have hn1 := vix_neg ht
        have hf : deskFree ⟨P, T, R⟩ id = (⟨P, T, R⟩, []) := by unfold deskFree; rw [if_pos hv]; simp only [idxOf_none hr, idxOf_none ht]
        rw [hf]
        have HF1 : Hid (∀ w', Ext w w' → Calls Try.prog 34 #[.slice q m c2, .int .i64 id] w' fun e w'' => e = .returned (.int .i64 (-1)) ∧ Ext w' w'') := Lib.hid (fun w' hx => by have h := bookIndex_any id q m c2 T w' (hS.ext hx); rw [hn1] at h; exact h)
        refine (implDf_no P q m c2 q2 m2 d2 id T R w HV HC HF2 HF1).mono ?_
        rintro e w' ⟨qa, ca, qb, cb, qc, cc, rfl, hM⟩
        exact ⟨qa, m, ca, qb, m2, cb, qc, 0, cc, rfl, hl.symm, hl2.symm, rfl, hM⟩
      | false =>
        obtain ⟨k, hk, hvk, hik⟩ := vix_pos ht
        have hf : deskFree ⟨P, T, R⟩ id = (⟨P, (freeRun P (T.eraseIdx k) R).1, (freeRun P (T.eraseIdx k) R).2.1⟩, (freeRun P (T.eraseIdx k) R).2.2) := by unfold deskFree; rw [if_pos hv]; simp only [idxOf_none hr, hik]
        rw [hf]
        have HF1 : Hid (∀ w', Ext w w' → Calls Try.prog 34 #[.slice q m c2, .int .i64 id] w' fun e w'' => e = .returned (.int .i64 (k : Int)) ∧ Ext w' w'') := Lib.hid (fun w' hx => by have h := bookIndex_any id q m c2 T w' (hS.ext hx); rw [hvk] at h; exact h)
        · refine (implDf_taken P q m c2 q2 m2 d2 id T R w k (by omega) (by omega) (by omega) (Lib.hid hl) (Lib.hid hl2) (Lib.hid hS2) (Lib.hid (freeAt_inv (desk_iff.1 hv) k)) HV HC HF2 HF1).mono ?_
          rintro e w' ⟨qa, na, ca, qb, nb, cb, qc, nc, cc, rfl, h1, h2, h3, hM⟩
          exact ⟨qa, na, ca, qb, nb, cb, qc, nc, cc, rfl, h1, h2, h3, hM⟩
theorem specFree (P : Int) (q : Option Addr) (m c2 : Nat) (q2 : Option Addr) (m2 d2 : Nat) (id : Int) (T R : List Visit4) (w : World) (hS : Sl w q m c2 4 (T.flatMap visitCells)) (hS2 : Sl w q2 m2 d2 4 (R.flatMap visitCells)) :
    Calls Try.prog 8 #[.agg #[.int .i64 P, .slice q m c2, .slice q2 m2 d2], .int .i64 id] w (RetFree (deskFree ⟨P, T, R⟩ id) w) := by
  have hl : T.length = m := by
    have := hS.len; rw [flat_len visitCells 4 (fun _ => rfl)] at this; omega
  have hl2 : R.length = m2 := by
    have := hS2.len; rw [flat_len visitCells 4 (fun _ => rfl)] at this; omega
  cases hv : deskValid ⟨P, T, R⟩ with
  | false =>
    have hf : deskFree ⟨P, T, R⟩ id = (⟨0, [], []⟩, []) := by unfold deskFree; rw [if_neg (by rw [hv]; decide)]
    rw [hf]
    refine (specDf_bad P q m c2 q2 m2 d2 id T R w (Lib.hid (fun w' hx => by have h := specDv P q m c2 q2 m2 d2 T R w' (hS.ext hx) (hS2.ext hx); rw [hv] at h; exact h))).mono ?_
    rintro e w' ⟨qc, cc, rfl, hM⟩
    exact ⟨none, 0, 0, none, 0, 0, qc, 0, cc, rfl, rfl, rfl, rfl, (hM.call (Ext.refl _) (World.ownsRow_nil _ _ TBk 4)).call (Ext.refl _) (World.ownsRow_nil _ _ TBk 4)⟩
  | true =>
    have hlen := desk_len hv
    have hlT : T.length ≤ 7 := hlen.1
    have hlR : R.length ≤ 5 := hlen.2
    have HV : Hid (∀ w', Ext w w' → Calls Try.prog 27 #[.agg #[.int .i64 P, .slice q m c2, .slice q2 m2 d2]] w' fun e w'' => e = .returned (.bool true) ∧ Ext w' w'') := Lib.hid (fun w' hx => by have h := specDv P q m c2 q2 m2 d2 T R w' (hS.ext hx) (hS2.ext hx); rw [hv] at h; exact h)
    have HC : Hid (∀ w', Ext w w' → Calls Try.prog 28 #[.agg #[.int .i64 P, .slice q m c2, .slice q2 m2 d2]] w' fun e w'' => ∃ q5 c5 q6 c6, e = .returned (.agg #[.int .i64 P, .slice q5 m c5, .slice q6 m2 c6]) ∧ Mem w' w'' [ownI w'.heap.size TBk 4 (q5) (m) (c5) (T.flatMap visitCells), ownI w'.heap.size TBk 4 (q6) (m2) (c6) (R.flatMap visitCells)]) := Lib.hid (fun w' hx => l6Copy_o P q m c2 q2 m2 d2 T R w' (by omega) (by omega) (Lib.hid (hS.ext hx)) (Lib.hid (hS2.ext hx)))
    cases hr : noBook id R with
    | false =>
      obtain ⟨k, hk, hvk, hik⟩ := vix_pos hr
      have hf : deskFree ⟨P, T, R⟩ id = (⟨P, T, R.eraseIdx k⟩, []) := by unfold deskFree; rw [if_pos hv]; simp only [hik]
      rw [hf]
      have HF2 : Hid (∀ w', Ext w w' → Calls Try.prog 29 #[.slice q2 m2 d2, .int .i64 id] w' fun e w'' => e = .returned (.int .i64 (k : Int)) ∧ Ext w' w'') := Lib.hid (fun w' hx => by have h := l6Find_any id q2 m2 d2 R w' (hS2.ext hx); rw [hvk] at h; exact h)
      · obtain ⟨b, off, rfl, _, _⟩ := hS2.rd (by omega)
        have hle := hS2.le
        have hmx := hS2.mx
        by_cases hc : k + 1 < d2
        · refine (specDf_row P q m c2 b off m2 d2 id T R w k (by omega) (by omega) hc hle hmx (Lib.hid hl2) (Lib.hid hS2) HV HC HF2).mono ?_
          rintro e w' ⟨qa, ca, qb, cb, qc, cc, rfl, hM⟩
          exact ⟨qa, m, ca, qb, m2 - 1, cb, qc, 0, cc, rfl, hl.symm, by show _ = (R.eraseIdx k).length; have h := List.length_eraseIdx_of_lt hk; omega, rfl, hM⟩
        · obtain rfl : d2 = k + 1 := by omega
          obtain rfl : m2 = k + 1 := by omega
          refine (specDf_row_end P q m c2 b off k id T R w (by omega) (by omega) (Lib.hid hl2) (Lib.hid hS2) HV HC HF2).mono ?_
          rintro e w' ⟨qa, ca, qb, cb, qc, cc, rfl, hM⟩
          exact ⟨qa, m, ca, qb, k, cb, qc, 0, cc, rfl, hl.symm, by show _ = (R.eraseIdx k).length; have h := List.length_eraseIdx_of_lt hk; omega, rfl, hM⟩
    | true =>
      have hn := vix_neg hr
      have HF2 : Hid (∀ w', Ext w w' → Calls Try.prog 29 #[.slice q2 m2 d2, .int .i64 id] w' fun e w'' => e = .returned (.int .i64 (-1)) ∧ Ext w' w'') := Lib.hid (fun w' hx => by have h := l6Find_any id q2 m2 d2 R w' (hS2.ext hx); rw [hn] at h; exact h)
      cases ht : noBook id T with
      | true =>
        have hn1 := vix_neg ht
        have hf : deskFree ⟨P, T, R⟩ id = (⟨P, T, R⟩, []) := by unfold deskFree; rw [if_pos hv]; simp only [idxOf_none hr, idxOf_none ht]
        rw [hf]
        have HF1 : Hid (∀ w', Ext w w' → Calls Try.prog 29 #[.slice q m c2, .int .i64 id] w' fun e w'' => e = .returned (.int .i64 (-1)) ∧ Ext w' w'') := Lib.hid (fun w' hx => by have h := l6Find_any id q m c2 T w' (hS.ext hx); rw [hn1] at h; exact h)
        refine (specDf_no P q m c2 q2 m2 d2 id T R w HV HC HF2 HF1).mono ?_
        rintro e w' ⟨qa, ca, qb, cb, qc, cc, rfl, hM⟩
        exact ⟨qa, m, ca, qb, m2, cb, qc, 0, cc, rfl, hl.symm, hl2.symm, rfl, hM⟩
      | false =>
        obtain ⟨k, hk, hvk, hik⟩ := vix_pos ht
        have hf : deskFree ⟨P, T, R⟩ id = (⟨P, (freeRun P (T.eraseIdx k) R).1, (freeRun P (T.eraseIdx k) R).2.1⟩, (freeRun P (T.eraseIdx k) R).2.2) := by unfold deskFree; rw [if_pos hv]; simp only [idxOf_none hr, hik]
        rw [hf]
        have HF1 : Hid (∀ w', Ext w w' → Calls Try.prog 29 #[.slice q m c2, .int .i64 id] w' fun e w'' => e = .returned (.int .i64 (k : Int)) ∧ Ext w' w'') := Lib.hid (fun w' hx => by have h := l6Find_any id q m c2 T w' (hS.ext hx); rw [hvk] at h; exact h)
        · obtain ⟨b, off, rfl, _, _⟩ := hS.rd (by omega)
          have hle := hS.le
          have hmx := hS.mx
          by_cases hc : k + 1 < c2
          · refine (specDf_taken P b off m c2 q2 m2 d2 id T R w k (by omega) (by omega) (by omega) hc hle hmx (Lib.hid hl) (Lib.hid hl2) (Lib.hid hS) (Lib.hid hS2) (Lib.hid (freeAt_inv (desk_iff.1 hv) k)) HV HC HF2 HF1).mono ?_
            rintro e w' ⟨qa, na, ca, qb, nb, cb, qc, nc, cc, rfl, h1, h2, h3, hM⟩
            exact ⟨qa, na, ca, qb, nb, cb, qc, nc, cc, rfl, h1, h2, h3, hM⟩
          · obtain rfl : c2 = k + 1 := by omega
            obtain rfl : m = k + 1 := by omega
            refine (specDf_taken_end P b off k q2 m2 d2 id T R w (by omega) (by omega) (by omega) (Lib.hid hl) (Lib.hid hl2) (Lib.hid hS) (Lib.hid hS2) (Lib.hid (freeAt_inv (desk_iff.1 hv) k)) HV HC HF2 HF1).mono ?_
            rintro e w' ⟨qa, na, ca, qb, nb, cb, qc, nc, cc, rfl, h1, h2, h3, hM⟩
            exact ⟨qa, na, ca, qb, nb, cb, qc, nc, cc, rfl, h1, h2, h3, hM⟩
end Go.Proofs.Ytndcnflchkfaeaa
