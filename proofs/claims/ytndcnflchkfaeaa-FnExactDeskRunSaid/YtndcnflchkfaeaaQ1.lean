/-
  DeskAsk of both packages is deskAsk. Conditions: the slices read as lists.
-/
import Derived.Test.YtndcnflchkfaeaaBk16
import Derived.Test.YtndcnflchkfaeaaBk17
import Derived.Test.YtndcnflchkfaeaaBk10
import Derived.Test.YtndcnflchkfaeaaBk11
import Derived.Test.YtndcnflchkfaeaaDk7
import Derived.Test.YtndcnflchkfaeaaBk15
import Derived.Test.YtndcnflchkfaeaaTen0
import Derived.Test.YtndcnflchkfaeaaBk21
namespace Go.Proofs.Ytndcnflchkfaeaa
open Go.RowKit
set_option linter.unusedVariables false
set_option linter.unusedSimpArgs false

/-- what DeskAsk hands back -/
def RetAsk (D : DeskD × Int) (w : World) (e : Ending) (w' : World) : Prop :=
  ∃ qa na ca qb nb cb, e = .returned (.tuple #[.agg #[.int .i64 D.1.places, .slice qa na ca, .slice qb nb cb], .int .i64 D.2]) ∧ na = D.1.taken.length ∧ nb = D.1.row.length ∧ Mem w w' [ownI w.heap.size TBk 4 (qa) (na) (ca) (D.1.taken.flatMap visitCells), ownI w.heap.size TBk 4 (qb) (nb) (cb) (D.1.row.flatMap visitCells)]
theorem implAsk (P : Int) (q : Option Addr) (m c2 : Nat) (q2 : Option Addr) (m2 d2 : Nat) (b0 b1 b2 b3 : Int) (T R : List Visit4) (w : World) (hS : Sl w q m c2 4 (T.flatMap visitCells)) (hS2 : Sl w q2 m2 d2 4 (R.flatMap visitCells)) :
    Calls Try.prog 52 #[.agg #[.int .i64 P, .slice q m c2, .slice q2 m2 d2], bookV b0 b1 b2 b3] w (RetAsk (deskAsk ⟨P, T, R⟩ (b0, b1, b2, b3)) w) := by
  have hl : T.length = m := by
    have := hS.len; rw [flat_len visitCells 4 (fun _ => rfl)] at this; omega
  have hl2 : R.length = m2 := by
    have := hS2.len; rw [flat_len visitCells 4 (fun _ => rfl)] at this; omega
  cases hv : deskValid ⟨P, T, R⟩ with
  | false =>
    have hf : deskAsk ⟨P, T, R⟩ (b0, b1, b2, b3) = (⟨0, [], []⟩, 0) := by unfold deskAsk; rw [if_neg (by rw [hv]; decide)]
    rw [hf]
    refine (implDa_bad P q m c2 q2 m2 d2 b0 b1 b2 b3 T R w (Lib.hid (fun w' hx => by have h := implDv P q m c2 q2 m2 d2 T R w' (hS.ext hx) (hS2.ext hx); rw [hv] at h; exact h))).mono ?_
    rintro e w' ⟨rfl, hx⟩
    exact ⟨none, 0, 0, none, 0, 0, rfl, rfl, rfl, (((Mem.start w).adv hx).call (Ext.refl _) (World.ownsRow_nil _ _ TBk 4)).call (Ext.refl _) (World.ownsRow_nil _ _ TBk 4)⟩
  | true =>
    have hDO := desk_iff.1 hv
    have hlen := desk_len hv
    have hlT : T.length ≤ 7 := hlen.1
    have hlR : R.length ≤ 5 := hlen.2
    have HV : Hid (∀ w', Ext w w' → Calls Try.prog 32 #[.agg #[.int .i64 P, .slice q m c2, .slice q2 m2 d2]] w' fun e w'' => e = .returned (.bool true) ∧ Ext w' w'') := Lib.hid (fun w' hx => by have h := implDv P q m c2 q2 m2 d2 T R w' (hS.ext hx) (hS2.ext hx); rw [hv] at h; exact h)
    have HC : Hid (∀ w', Ext w w' → Calls Try.prog 33 #[.agg #[.int .i64 P, .slice q m c2, .slice q2 m2 d2]] w' fun e w'' => ∃ q5 c5 q6 c6, e = .returned (.agg #[.int .i64 P, .slice q5 m c5, .slice q6 m2 c6]) ∧ Mem w' w'' [ownI w'.heap.size TBk 4 (q5) (m) (c5) (T.flatMap visitCells), ownI w'.heap.size TBk 4 (q6) (m2) (c6) (R.flatMap visitCells)]) := Lib.hid (fun w' hx => copyDesk_o P q m c2 q2 m2 d2 T R w' (Lib.hid (fun w2 hy => clone_any q m c2 _ w2 (by omega) (hS.ext (hx.trans hy)) (books_one _))) (Lib.hid (fun w2 hy => clone_any q2 m2 d2 _ w2 (by omega) (hS2.ext (hx.trans hy)) (books_one _))))
    cases hbv : bookOk (b0, b1, b2, b3) with
    | false =>
      have hf : deskAsk ⟨P, T, R⟩ (b0, b1, b2, b3) = (⟨P, T, R⟩, 0) := by unfold deskAsk; rw [if_pos hv, if_pos (Or.inl hbv)]
      rw [hf]
      refine (implDa_inv P q m c2 q2 m2 d2 b0 b1 b2 b3 T R w HV HC (Lib.hid (fun w' => by have h := implBv b0 b1 b2 b3 w'; rw [hbv] at h; exact h))).mono ?_
      rintro e w' ⟨qa, ca, qb, cb, rfl, hM⟩
      exact ⟨qa, m, ca, qb, m2, cb, rfl, hl.symm, hl2.symm, hM⟩
    | true =>
      have HBV : Hid (∀ w', Calls Try.prog 57 #[bookV b0 b1 b2 b3] w' fun e w'' => e = .returned (.bool true) ∧ Ext w' w'') := Lib.hid (fun w' => by have h := implBv b0 b1 b2 b3 w'; rw [hbv] at h; exact h)
      cases ht : noBook b0 T with
      | false =>
        obtain ⟨k, hk, hvk, hik⟩ := vix_pos ht
        have hf : deskAsk ⟨P, T, R⟩ (b0, b1, b2, b3) = (⟨P, T, R⟩, 0) := by unfold deskAsk; rw [if_pos hv, if_pos (Or.inr (Or.inl ht))]
        rw [hf]
        refine (implDa_t P q m c2 q2 m2 d2 b0 b1 b2 b3 T R w (k : Int) (by omega) HV HC HBV (Lib.hid (fun w' hx => by have h := bookIndex_any b0 q m c2 T w' (hS.ext hx); rw [hvk] at h; exact h))).mono ?_
        rintro e w' ⟨qa, ca, qb, cb, rfl, hM⟩
        exact ⟨qa, m, ca, qb, m2, cb, rfl, hl.symm, hl2.symm, hM⟩
      | true =>
        have hn1 := vix_neg ht
        have hne : ∀ c ∈ T, (b0, b1, b2, b3).1 ≠ c.1 := noBook_iff.1 ht
        have HF1 : Hid (∀ w', Ext w w' → Calls Try.prog 34 #[.slice q m c2, .int .i64 b0] w' fun e w'' => e = .returned (.int .i64 (-1)) ∧ Ext w' w'') := Lib.hid (fun w' hx => by have h := bookIndex_any b0 q m c2 T w' (hS.ext hx); rw [hn1] at h; exact h)
        cases hr : noBook b0 R with
        | false =>
          obtain ⟨k, hk, hvk, hik⟩ := vix_pos hr
          have hf : deskAsk ⟨P, T, R⟩ (b0, b1, b2, b3) = (⟨P, T, R⟩, 0) := by unfold deskAsk; rw [if_pos hv, if_pos (Or.inr (Or.inr hr))]
          rw [hf]
          refine (implDa_r P q m c2 q2 m2 d2 b0 b1 b2 b3 T R w (k : Int) (by omega) HV HC HBV HF1 (Lib.hid (fun w' hx => by have h := bookIndex_any b0 q2 m2 d2 R w' (hS2.ext hx); rw [hvk] at h; exact h))).mono ?_
          rintro e w' ⟨qa, ca, qb, cb, rfl, hM⟩
          exact ⟨qa, m, ca, qb, m2, cb, rfl, hl.symm, hl2.symm, hM⟩
        | true =>
          have hn2 := vix_neg hr
          have HF2 : Hid (∀ w', Ext w w' → Calls Try.prog 34 #[.slice q2 m2 d2, .int .i64 b0] w' fun e w'' => e = .returned (.int .i64 (-1)) ∧ Ext w' w'') := Lib.hid (fun w' hx => by have h := bookIndex_any b0 q2 m2 d2 R w' (hS2.ext hx); rw [hn2] at h; exact h)
          have hno : ¬ (bookOk (b0, b1, b2, b3) = false ∨ noBook (b0, b1, b2, b3).1 T = false ∨ noBook (b0, b1, b2, b3).1 R = false) := by
            show ¬ (bookOk (b0, b1, b2, b3) = false ∨ noBook b0 T = false ∨ noBook b0 R = false)
            rw [hbv, ht, hr]; decide
          cases hft : deskFits P T (b0, b1, b2, b3) with
          | true =>
            have hf : deskAsk ⟨P, T, R⟩ (b0, b1, b2, b3) = (⟨P, putBook T (b0, b1, b2, b3), R⟩, 1) := by unfold deskAsk; rw [if_pos hv, if_neg hno, if_pos hft]
            rw [hf]
            refine (implDa_take P q m c2 q2 m2 d2 b0 b1 b2 b3 T R w ((putBook T (b0, b1, b2, b3)).flatMap visitCells) HV HC HBV HF1 HF2 (Lib.hid (fun w' hx => by have h := canTake_any P q m c2 q2 m2 d2 T b0 b1 b2 b3 w' (by omega) (hS.ext hx) (Lib.hid hDO.up) (Lib.hid hne); rw [hft] at h; exact h)) (Lib.hid (fun w' hx => by have h := withBook_any q m c2 T b0 b1 b2 b3 w' (by omega) (hS.ext hx) (Lib.hid hDO.up) (Lib.hid hne); unfold RetBooks at h; rw [show (putBook T (b0, b1, b2, b3)).length = m + 1 by rw [putBook_len, hl]] at h; exact h))).mono ?_
            rintro e w' ⟨qa, ca, qb, cb, rfl, hM⟩
            exact ⟨qa, m + 1, ca, qb, m2, cb, rfl, by show _ = (putBook T (b0, b1, b2, b3)).length; rw [putBook_len, hl], hl2.symm, hM⟩
          | false =>
            by_cases h5 : R.length = 5
            · have hf : deskAsk ⟨P, T, R⟩ (b0, b1, b2, b3) = (⟨P, T, R⟩, 0) := by unfold deskAsk; rw [if_pos hv, if_neg hno, if_neg (by rw [hft]; decide), if_pos h5]
              rw [hf]
              obtain rfl : m2 = 5 := by omega
              refine (implDa_full P q m c2 q2 d2 b0 b1 b2 b3 T R w HV HC HBV HF1 HF2 (Lib.hid (fun w' hx => by have h := canTake_any P q m c2 q2 5 d2 T b0 b1 b2 b3 w' (by omega) (hS.ext hx) (Lib.hid hDO.up) (Lib.hid hne); rw [hft] at h; exact h))).mono ?_
              rintro e w' ⟨qa, ca, qb, cb, rfl, hM⟩
              exact ⟨qa, m, ca, qb, 5, cb, rfl, hl.symm, hl2.symm, hM⟩
            · have hf : deskAsk ⟨P, T, R⟩ (b0, b1, b2, b3) = (⟨P, T, R ++ [(b0, b1, b2, b3)]⟩, 2) := by unfold deskAsk; rw [if_pos hv, if_neg hno, if_neg (by rw [hft]; decide), if_neg h5]
              rw [hf]
              refine (implDa_wait P q m c2 q2 m2 d2 b0 b1 b2 b3 T R w (by omega) HV HC HBV HF1 HF2 (Lib.hid (fun w' hx => by have h := canTake_any P q m c2 q2 m2 d2 T b0 b1 b2 b3 w' (by omega) (hS.ext hx) (Lib.hid hDO.up) (Lib.hid hne); rw [hft] at h; exact h))).mono ?_
              rintro e w' ⟨qa, ca, qb, cb, rfl, hM⟩
              exact ⟨qa, m, ca, qb, m2 + 1, cb, rfl, hl.symm, by show _ = (R ++ [(b0, b1, b2, b3)]).length; rw [List.length_append, hl2]; rfl, by rw [List.flatMap_append]; simpa using hM⟩
theorem specAsk (P : Int) (q : Option Addr) (m c2 : Nat) (q2 : Option Addr) (m2 d2 : Nat) (b0 b1 b2 b3 : Int) (T R : List Visit4) (w : World) (hS : Sl w q m c2 4 (T.flatMap visitCells)) (hS2 : Sl w q2 m2 d2 4 (R.flatMap visitCells)) :
    Calls Try.prog 51 #[.agg #[.int .i64 P, .slice q m c2, .slice q2 m2 d2], bookV b0 b1 b2 b3] w (RetAsk (deskAsk ⟨P, T, R⟩ (b0, b1, b2, b3)) w) := by
  have hl : T.length = m := by
    have := hS.len; rw [flat_len visitCells 4 (fun _ => rfl)] at this; omega
  have hl2 : R.length = m2 := by
    have := hS2.len; rw [flat_len visitCells 4 (fun _ => rfl)] at this; omega
  cases hv : deskValid ⟨P, T, R⟩ with
  | false =>
    have hf : deskAsk ⟨P, T, R⟩ (b0, b1, b2, b3) = (⟨0, [], []⟩, 0) := by unfold deskAsk; rw [if_neg (by rw [hv]; decide)]
    rw [hf]
    refine (specDa_bad P q m c2 q2 m2 d2 b0 b1 b2 b3 T R w (Lib.hid (fun w' hx => by have h := specDv P q m c2 q2 m2 d2 T R w' (hS.ext hx) (hS2.ext hx); rw [hv] at h; exact h))).mono ?_
    rintro e w' ⟨rfl, hx⟩
    exact ⟨none, 0, 0, none, 0, 0, rfl, rfl, rfl, (((Mem.start w).adv hx).call (Ext.refl _) (World.ownsRow_nil _ _ TBk 4)).call (Ext.refl _) (World.ownsRow_nil _ _ TBk 4)⟩
  | true =>
    have hDO := desk_iff.1 hv
    have hlen := desk_len hv
    have hlT : T.length ≤ 7 := hlen.1
    have hlR : R.length ≤ 5 := hlen.2
    have HV : Hid (∀ w', Ext w w' → Calls Try.prog 27 #[.agg #[.int .i64 P, .slice q m c2, .slice q2 m2 d2]] w' fun e w'' => e = .returned (.bool true) ∧ Ext w' w'') := Lib.hid (fun w' hx => by have h := specDv P q m c2 q2 m2 d2 T R w' (hS.ext hx) (hS2.ext hx); rw [hv] at h; exact h)
    have HC : Hid (∀ w', Ext w w' → Calls Try.prog 28 #[.agg #[.int .i64 P, .slice q m c2, .slice q2 m2 d2]] w' fun e w'' => ∃ q5 c5 q6 c6, e = .returned (.agg #[.int .i64 P, .slice q5 m c5, .slice q6 m2 c6]) ∧ Mem w' w'' [ownI w'.heap.size TBk 4 (q5) (m) (c5) (T.flatMap visitCells), ownI w'.heap.size TBk 4 (q6) (m2) (c6) (R.flatMap visitCells)]) := Lib.hid (fun w' hx => l6Copy_o P q m c2 q2 m2 d2 T R w' (by omega) (by omega) (Lib.hid (hS.ext hx)) (Lib.hid (hS2.ext hx)))
    cases hbv : bookOk (b0, b1, b2, b3) with
    | false =>
      have hf : deskAsk ⟨P, T, R⟩ (b0, b1, b2, b3) = (⟨P, T, R⟩, 0) := by unfold deskAsk; rw [if_pos hv, if_pos (Or.inl hbv)]
      rw [hf]
      refine (specDa_inv P q m c2 q2 m2 d2 b0 b1 b2 b3 T R w HV HC (Lib.hid (fun w' => by have h := specBv b0 b1 b2 b3 w'; rw [hbv] at h; exact h))).mono ?_
      rintro e w' ⟨qa, ca, qb, cb, rfl, hM⟩
      exact ⟨qa, m, ca, qb, m2, cb, rfl, hl.symm, hl2.symm, hM⟩
    | true =>
      have HBV : Hid (∀ w', Calls Try.prog 56 #[bookV b0 b1 b2 b3] w' fun e w'' => e = .returned (.bool true) ∧ Ext w' w'') := Lib.hid (fun w' => by have h := specBv b0 b1 b2 b3 w'; rw [hbv] at h; exact h)
      cases ht : noBook b0 T with
      | false =>
        obtain ⟨k, hk, hvk, hik⟩ := vix_pos ht
        have hf : deskAsk ⟨P, T, R⟩ (b0, b1, b2, b3) = (⟨P, T, R⟩, 0) := by unfold deskAsk; rw [if_pos hv, if_pos (Or.inr (Or.inl ht))]
        rw [hf]
        refine (specDa_t P q m c2 q2 m2 d2 b0 b1 b2 b3 T R w (k : Int) (by omega) HV HC HBV (Lib.hid (fun w' hx => by have h := l6Find_any b0 q m c2 T w' (hS.ext hx); rw [hvk] at h; exact h))).mono ?_
        rintro e w' ⟨qa, ca, qb, cb, rfl, hM⟩
        exact ⟨qa, m, ca, qb, m2, cb, rfl, hl.symm, hl2.symm, hM⟩
      | true =>
        have hn1 := vix_neg ht
        have hne : ∀ c ∈ T, (b0, b1, b2, b3).1 ≠ c.1 := noBook_iff.1 ht
        have HF1 : Hid (∀ w', Ext w w' → Calls Try.prog 29 #[.slice q m c2, .int .i64 b0] w' fun e w'' => e = .returned (.int .i64 (-1)) ∧ Ext w' w'') := Lib.hid (fun w' hx => by have h := l6Find_any b0 q m c2 T w' (hS.ext hx); rw [hn1] at h; exact h)
        cases hr : noBook b0 R with
        | false =>
          obtain ⟨k, hk, hvk, hik⟩ := vix_pos hr
          have hf : deskAsk ⟨P, T, R⟩ (b0, b1, b2, b3) = (⟨P, T, R⟩, 0) := by unfold deskAsk; rw [if_pos hv, if_pos (Or.inr (Or.inr hr))]
          rw [hf]
          refine (specDa_r P q m c2 q2 m2 d2 b0 b1 b2 b3 T R w (k : Int) (by omega) HV HC HBV HF1 (Lib.hid (fun w' hx => by have h := l6Find_any b0 q2 m2 d2 R w' (hS2.ext hx); rw [hvk] at h; exact h))).mono ?_
          rintro e w' ⟨qa, ca, qb, cb, rfl, hM⟩
          exact ⟨qa, m, ca, qb, m2, cb, rfl, hl.symm, hl2.symm, hM⟩
        | true =>
          have hn2 := vix_neg hr
          have HF2 : Hid (∀ w', Ext w w' → Calls Try.prog 29 #[.slice q2 m2 d2, .int .i64 b0] w' fun e w'' => e = .returned (.int .i64 (-1)) ∧ Ext w' w'') := Lib.hid (fun w' hx => by have h := l6Find_any b0 q2 m2 d2 R w' (hS2.ext hx); rw [hn2] at h; exact h)
          have hno : ¬ (bookOk (b0, b1, b2, b3) = false ∨ noBook (b0, b1, b2, b3).1 T = false ∨ noBook (b0, b1, b2, b3).1 R = false) := by
            show ¬ (bookOk (b0, b1, b2, b3) = false ∨ noBook b0 T = false ∨ noBook b0 R = false)
            rw [hbv, ht, hr]; decide
          cases hft : deskFits P T (b0, b1, b2, b3) with
          | true =>
            have hf : deskAsk ⟨P, T, R⟩ (b0, b1, b2, b3) = (⟨P, putBook T (b0, b1, b2, b3), R⟩, 1) := by unfold deskAsk; rw [if_pos hv, if_neg hno, if_pos hft]
            rw [hf]
            refine (specDa_take P q m c2 q2 m2 d2 b0 b1 b2 b3 T R w ((putBook T (b0, b1, b2, b3)).flatMap visitCells) HV HC HBV HF1 HF2 (Lib.hid (fun w' hx => by have h := l6Fits_any P q m c2 q2 m2 d2 T b0 b1 b2 b3 w' (by omega) (hS.ext hx); rw [hft] at h; exact h)) (Lib.hid (fun w' hx => l6Put_any b0 b1 b2 b3 q m c2 T w' (by omega) (hS.ext hx)))).mono ?_
            rintro e w' ⟨qa, ca, qb, cb, rfl, hM⟩
            exact ⟨qa, m + 1, ca, qb, m2, cb, rfl, by show _ = (putBook T (b0, b1, b2, b3)).length; rw [putBook_len, hl], hl2.symm, hM⟩
          | false =>
            by_cases h5 : R.length = 5
            · have hf : deskAsk ⟨P, T, R⟩ (b0, b1, b2, b3) = (⟨P, T, R⟩, 0) := by unfold deskAsk; rw [if_pos hv, if_neg hno, if_neg (by rw [hft]; decide), if_pos h5]
              rw [hf]
              obtain rfl : m2 = 5 := by omega
              refine (specDa_full P q m c2 q2 d2 b0 b1 b2 b3 T R w HV HC HBV HF1 HF2 (Lib.hid (fun w' hx => by have h := l6Fits_any P q m c2 q2 5 d2 T b0 b1 b2 b3 w' (by omega) (hS.ext hx); rw [hft] at h; exact h))).mono ?_
              rintro e w' ⟨qa, ca, qb, cb, rfl, hM⟩
              exact ⟨qa, m, ca, qb, 5, cb, rfl, hl.symm, hl2.symm, hM⟩
            · have hf : deskAsk ⟨P, T, R⟩ (b0, b1, b2, b3) = (⟨P, T, R ++ [(b0, b1, b2, b3)]⟩, 2) := by unfold deskAsk; rw [if_pos hv, if_neg hno, if_neg (by rw [hft]; decide), if_neg h5]
              rw [hf]
              refine (specDa_wait P q m c2 q2 m2 d2 b0 b1 b2 b3 T R w (by omega) HV HC HBV HF1 HF2 (Lib.hid (fun w' hx => by have h := l6Fits_any P q m c2 q2 m2 d2 T b0 b1 b2 b3 w' (by omega) (hS.ext hx); rw [hft] at h; exact h))).mono ?_
              rintro e w' ⟨qa, ca, qb, cb, rfl, hM⟩
              exact ⟨qa, m, ca, qb, m2 + 1, cb, rfl, hl.symm, by show _ = (R ++ [(b0, b1, b2, b3)]).length; rw [List.length_append, hl2]; rfl, by rw [List.flatMap_append]; simpa using hM⟩
end Go.Proofs.Ytndcnflchkfaeaa

/-
  The rewrite's DeskRun is deskRun. Conditions: the callees do as told.
-/
namespace Go.Proofs.Ytndcnflchkfaeaa
open Go.RowKit
set_option linter.unusedVariables false
set_option linter.unusedSimpArgs false
theorem Mem.call3 {w0 w w' : World} {L : List Item} {e e2 e3 : TypeId} {sz sz2 sz3 n c n2 c2 n3 c3 : Nat} {q q2 q3 : Option Addr} {xs ys zs : List Value} (h : Mem w0 w L) (hc : Mem w w' [ownI w.heap.size e sz q n c xs, ownI w.heap.size e2 sz2 q2 n2 c2 ys, ownI w.heap.size e3 sz3 q3 n3 c3 zs]) :
    Mem w0 w' (ownI w0.heap.size e sz q n c xs :: ownI w0.heap.size e2 sz2 q2 n2 c2 ys :: ownI w0.heap.size e3 sz3 q3 n3 c3 zs :: L) := by
  have hsz := h.ext.sz
  have ho1 := Mem.own (i := 0) hc rfl
  have ho2 := Mem.own (i := 1) hc rfl
  have ho3 := Mem.own (i := 2) hc rfl
  have h3 := h.ownNew hc.ext ho3 (Nat.le_refl _)
  have hap := List.pairwise_cons.1 hc.apart
  have hap2 := List.pairwise_cons.1 hap.2
  have h2 : Mem w0 w' (ownI w0.heap.size e2 sz2 q2 n2 c2 ys :: ownI w0.heap.size e3 sz3 q3 n3 c3 zs :: L) := by
    refine h3.cons (ownI_good _ _ _ _ _ _ _) (own_low ho2 hsz) ?_
    intro g hg j hj hjg
    rcases List.mem_cons.1 hj with rfl | hj
    · exact hap2.1 (ownI w.heap.size e3 sz3 q3 n3 c3 zs) (by simp) g hg hjg
    · have h4 := (h.good j hj).lt w (h.ok j hj) g hjg
      have h5 := ho2.lt g hg
      omega
  refine h2.cons (ownI_good _ _ _ _ _ _ _) (own_low ho1 hsz) ?_
  intro g hg j hj hjg
  rcases List.mem_cons.1 hj with rfl | hj
  · exact hap.1 (ownI w.heap.size e2 sz2 q2 n2 c2 ys) (by simp) g hg hjg
  · rcases List.mem_cons.1 hj with rfl | hj
    · exact hap.1 (ownI w.heap.size e3 sz3 q3 n3 c3 zs) (by simp) g hg hjg
    · have h4 := (h.good j hj).lt w (h.ok j hj) g hjg
      have h5 := ho1.lt g hg
      omega
/-- the desk behind k bookings -/
def runAt (d : DeskD) (bs : List Visit4) (k : Nat) : DeskD := (bs.take k).foldl runStep d
theorem runAt_zero (d : DeskD) (bs : List Visit4) : runAt d bs 0 = d := by simp [runAt]
theorem runAt_succ {d : DeskD} {bs : List Visit4} {k : Nat} {b : Visit4} (h : bs[k]? = some b) : runAt d bs (k + 1) = runStep (runAt d bs k) b := by
  unfold runAt
  rw [take_snocL h, List.foldl_append, List.foldl_cons, List.foldl_nil]
theorem runAt_end (d : DeskD) (bs : List Visit4) {k : Nat} (h : bs.length ≤ k) : runAt d bs k = bs.foldl runStep d := by unfold runAt; rw [List.take_of_length_le h]
def RetRun (D : DeskD) (w : World) (e : Ending) (w' : World) : Prop :=
  ∃ qa na ca qb nb cb, e = .returned (.agg #[.int .i64 D.places, .slice qa na ca, .slice qb nb cb]) ∧ na = D.taken.length ∧ nb = D.row.length ∧ Mem w w' [ownI w.heap.size TBk 4 (qa) (na) (ca) (D.taken.flatMap visitCells), ownI w.heap.size TBk 4 (qb) (nb) (cb) (D.row.flatMap visitCells)]

set_option maxRecDepth 100000 in
set_option maxHeartbeats 8000000 in
theorem implDr_bad (P : Int) (q : Option Addr) (m c2 : Nat) (q2 : Option Addr) (m2 d2 : Nat) (q3 : Option Addr) (n3 c3 : Nat) (T R bs : List Visit4) (w : World) (HV : Hid (∀ w', Ext w w' → Calls Try.prog 32 #[.agg #[.int .i64 P, .slice q m c2, .slice q2 m2 d2]] w' fun e w'' => e = .returned (.bool false) ∧ Ext w' w'')) :
    Calls Try.prog 24 #[.agg #[.int .i64 P, .slice q m c2, .slice q2 m2 d2], .slice q3 n3 c3] w fun e w' => e = .returned (.agg #[.int .i64 0, .slice none 0 0, .slice none 0 0]) ∧ Ext w w' := by
  go_enter Try.func24, Try.ntmps24
  go_wp2_with fail
  refine (HV.out _ (((((Mem.start w).blkNew TDk #[.int .i64 P, .slice q m c2, .slice q2 m2 d2] (w.heap.size) (by simp))).blkNew TDk #[.int .i64 0, .slice none 0 0, .slice none 0 0] (w.heap.size + 1) (by simp))).ext).mono ?_
  rintro e w1 ⟨rfl, hx1⟩
  have M1 := Lib.hid ((((((Mem.start w).blkNew TDk #[.int .i64 P, .slice q m c2, .slice q2 m2 d2] (w.heap.size) (by simp))).blkNew TDk #[.int .i64 0, .slice none 0 0, .slice none 0 0] (w.heap.size + 1) (by simp))).adv hx1)
  have lt1_0 : w.heap.size + 1 < w1.heap.size := (M1.out.lt (i := 0) rfl rfl).2
  have lt1_1 : w.heap.size < w1.heap.size := (M1.out.lt (i := 1) rfl rfl).2
  clear hx1
  clear HV
  obtain ⟨cz0, czf0, cz1, czf1, cz2, czf2⟩ := (M1.out.blk (i := 0) rfl).trif
  go_wp2
  clear cz0 czf0 cz1 czf1 cz2 czf2 lt1_0 lt1_1
  have M2 := Lib.hid (((M1.out).put3 (i := 0) rfl (.int .i64 0) (.slice none 0 0) (.slice none 0 0)))
  generalize hwz : World.setCell _ _ _ = wz
  rw [hwz] at M2
  clear hwz M1
  obtain ⟨y0, y1, y2⟩ := (M2.out.blk (i := 0) rfl).tri
  exact bodyPost_ret (v := .agg #[.int .i64 0, .slice none 0 0, .slice none 0 0]) (by simp [results, Try.results24, go_sem, *]) rfl ⟨rfl, M2.out.ext⟩
set_option maxRecDepth 100000 in
set_option maxHeartbeats 8000000 in
theorem implDr_ok (P : Int) (q : Option Addr) (m c2 : Nat) (q2 : Option Addr) (m2 d2 : Nat) (q3 : Option Addr) (n3 c3 : Nat) (T R bs : List Visit4) (w : World) (hl : Hid (T.length = m)) (hl2 : Hid (R.length = m2)) (hl3 : Hid (bs.length = n3)) (hn3 : n3 ≤ 1099511627776) (HB : Hid (Sl w q3 n3 c3 4 (bs.flatMap visitCells)))
    (HV : Hid (∀ w', Ext w w' → Calls Try.prog 32 #[.agg #[.int .i64 P, .slice q m c2, .slice q2 m2 d2]] w' fun e w'' => e = .returned (.bool true) ∧ Ext w' w''))
    (HC : Hid (∀ w', Ext w w' → Calls Try.prog 33 #[.agg #[.int .i64 P, .slice q m c2, .slice q2 m2 d2]] w' fun e w'' => ∃ q5 c5 q6 c6, e = .returned (.agg #[.int .i64 P, .slice q5 m c5, .slice q6 m2 c6]) ∧ Mem w' w'' [ownI w'.heap.size TBk 4 (q5) (m) (c5) (T.flatMap visitCells), ownI w'.heap.size TBk 4 (q6) (m2) (c6) (R.flatMap visitCells)])) :
    Calls Try.prog 24 #[.agg #[.int .i64 P, .slice q m c2, .slice q2 m2 d2], .slice q3 n3 c3] w (RetRun (bs.foldl runStep ⟨P, T, R⟩) w) := by
  unfold RetRun
  go_enter Try.func24, Try.ntmps24
  go_wp2_with fail
  refine (HV.out _ (((((Mem.start w).blkNew TDk #[.int .i64 P, .slice q m c2, .slice q2 m2 d2] (w.heap.size) (by simp))).blkNew TDk #[.int .i64 0, .slice none 0 0, .slice none 0 0] (w.heap.size + 1) (by simp))).ext).mono ?_
  rintro e w1 ⟨rfl, hx1⟩
  have M1 := Lib.hid ((((((Mem.start w).blkNew TDk #[.int .i64 P, .slice q m c2, .slice q2 m2 d2] (w.heap.size) (by simp))).blkNew TDk #[.int .i64 0, .slice none 0 0, .slice none 0 0] (w.heap.size + 1) (by simp))).adv hx1)
  have lt1_0 : w.heap.size + 1 < w1.heap.size := (M1.out.lt (i := 0) rfl rfl).2
  have lt1_1 : w.heap.size < w1.heap.size := (M1.out.lt (i := 1) rfl rfl).2
  clear hx1
  clear HV
  obtain ⟨ca0, ca1, ca2⟩ := (M1.out.blk (i := 1) rfl).tri
  go_wp2_with fail
  clear ca0 ca1 ca2
  refine (HC.out _ (M1.out).ext).mono ?_
  rintro e w2 ⟨q5, c5, q6, c6, rfl, hm2⟩
  have M2 := Lib.hid ((M1.out).call2 hm2)
  clear M1
  clear lt1_0 lt1_1
  have lt2_2 : w.heap.size + 1 < w2.heap.size := (M2.out.lt (i := 2) rfl rfl).2
  have lt2_3 : w.heap.size < w2.heap.size := (M2.out.lt (i := 3) rfl rfl).2
  clear hm2
  clear HC
  go_wp2
  have MS := Lib.hid (show Mem w (w2.alloc (.cells #[.int .i64 P, .slice q5 m c5, .slice q6 m2 c6] TDk)) [ownI w.heap.size TBk 4 (q5) (m) (c5) ((runAt ⟨P, T, R⟩ bs 0).taken.flatMap visitCells), ownI w.heap.size TBk 4 (q6) (m2) (c6) ((runAt ⟨P, T, R⟩ bs 0).row.flatMap visitCells), blkI w.heap.size (w2.heap.size) TDk #[.int .i64 (runAt ⟨P, T, R⟩ bs 0).places, .slice q5 m c5, .slice q6 m2 c6], blkI w.heap.size (w.heap.size + 1) TDk #[.int .i64 0, .slice none 0 0, .slice none 0 0], blkI w.heap.size (w.heap.size) TDk #[.int .i64 P, .slice q m c2, .slice q2 m2 d2]] from by
    rw [runAt_zero]
    exact (((M2.out).blkNew TDk #[.int .i64 P, .slice q5 m c5, .slice q6 m2 c6] (w2.heap.size) (by simp))).pick [1, 2, 0, 3, 4] (by decide) rfl)
  clear M2 lt2_2 lt2_3
  generalize w2.heap.size = a at MS
  go_loopw [16] (fun x wr => ∃ (k : Nat) (q7 : Option Addr) (l7 c7 : Nat) (q8 : Option Addr) (l8 c8 : Nat), k ≤ n3 ∧ x = .int .i64 (k : Int) ∧ l7 = (runAt ⟨P, T, R⟩ bs k).taken.length ∧ l8 = (runAt ⟨P, T, R⟩ bs k).row.length ∧ Mem w wr [ownI w.heap.size TBk 4 (q7) (l7) (c7) ((runAt ⟨P, T, R⟩ bs k).taken.flatMap visitCells), ownI w.heap.size TBk 4 (q8) (l8) (c8) ((runAt ⟨P, T, R⟩ bs k).row.flatMap visitCells), blkI w.heap.size (a) TDk #[.int .i64 (runAt ⟨P, T, R⟩ bs k).places, .slice q7 l7 c7, .slice q8 l8 c8], blkI w.heap.size (w.heap.size + 1) TDk #[.int .i64 0, .slice none 0 0, .slice none 0 0], blkI w.heap.size (w.heap.size) TDk #[.int .i64 P, .slice q m c2, .slice q2 m2 d2]]) (fun x _ => n3 - (intOf x).toNat)
  case atStart => exact ⟨0, q5, m, c5, q6, m2, c6, Nat.zero_le _, rfl, by rw [runAt_zero]; exact hl.out.symm, by rw [runAt_zero]; exact hl2.out.symm, MS.out⟩
  case round =>
    clear MS
    obtain ⟨k, q7, l7, c7, q8, l8, c8, hk, rfl, hl7, hl8, hM⟩ := hrel
    have HM := Lib.hid hM
    have HL7 := Lib.hid hl7
    have HL8 := Lib.hid hl8
    clear hM hl7 hl8
    by_cases hlt : k < n3
    · obtain ⟨b, off, x0, x1, x2, x3, rfl, hv, hb, g0, g1, g2, g3⟩ := visit_at (HB.out.ext HM.out.ext) hlt
      have hst := Lib.hid (runAt_succ (d := ⟨P, T, R⟩) hv)
      clear hv
      have i1 : (0 : Int) ≤ (k : Int) := by omega
      have i2 : (k : Int) < (n3 : Int) := by omega
      by_cases hx2 : 0 < x2
      · have lt20_2 : a < wr.heap.size := (HM.out.lt (i := 2) rfl rfl).2
        have lt20_3 : w.heap.size + 1 < wr.heap.size := (HM.out.lt (i := 3) rfl rfl).2
        have lt20_4 : w.heap.size < wr.heap.size := (HM.out.lt (i := 4) rfl rfl).2
        obtain ⟨ca0, ca1, ca2⟩ := (HM.out.blk (i := 2) rfl).tri
        have hd : decide (0 < x2) = true := by simp; omega
        have hs3 : Hid ((runAt ⟨P, T, R⟩ bs (k + 1)) = (deskAsk ⟨(runAt ⟨P, T, R⟩ bs k).places, (runAt ⟨P, T, R⟩ bs k).taken, (runAt ⟨P, T, R⟩ bs k).row⟩ (x0, x1, x2, x3)).1) := by show _ = _; rw [hst.out]; unfold runStep; rw [if_pos hx2]
        clear hst hx2
        go_wp2_with fail
        clear ca0 ca1 ca2 g0 g1 g2 g3 hb hd
        refine (implAsk (runAt ⟨P, T, R⟩ bs k).places q7 l7 c7 q8 l8 c8 x0 x1 x2 x3 (runAt ⟨P, T, R⟩ bs k).taken (runAt ⟨P, T, R⟩ bs k).row _ ((((HM.out).blkNew TBk #[.int .i64 x0, .int .i64 x1, .int .i64 x2, .int .i64 x3] (wr.heap.size) (by simp))).sl (i := 1) rfl) ((((HM.out).blkNew TBk #[.int .i64 x0, .int .i64 x1, .int .i64 x2, .int .i64 x3] (wr.heap.size) (by simp))).sl (i := 2) rfl)).mono ?_
        rintro e w21 ⟨qa, na, ka, qb, nb, kb, rfl, hna, hnb, hm21⟩
        have M21 := Lib.hid ((((HM.out).blkNew TBk #[.int .i64 x0, .int .i64 x1, .int .i64 x2, .int .i64 x3] (wr.heap.size) (by simp))).call2 hm21)
        clear HM
        clear lt20_2 lt20_3 lt20_4
        have lt21_2 : wr.heap.size < w21.heap.size := (M21.out.lt (i := 2) rfl rfl).2
        have lt21_5 : a < w21.heap.size := (M21.out.lt (i := 5) rfl rfl).2
        have lt21_6 : w.heap.size + 1 < w21.heap.size := (M21.out.lt (i := 6) rfl rfl).2
        have lt21_7 : w.heap.size < w21.heap.size := (M21.out.lt (i := 7) rfl rfl).2
        have HNA := Lib.hid hna
        have HNB := Lib.hid hnb
        clear hm21 hna hnb
        obtain ⟨ca0, caf0, ca1, caf1, ca2, caf2⟩ := (M21.out.blk (i := 5) rfl).trif
        go_wp2
        clear ca0 caf0 ca1 caf1 ca2 caf2 lt21_2 lt21_5 lt21_6 lt21_7
        have M22 := Lib.hid (((M21.out).put3 (i := 5) rfl (.int .i64 (deskAsk ⟨(runAt ⟨P, T, R⟩ bs k).places, (runAt ⟨P, T, R⟩ bs k).taken, (runAt ⟨P, T, R⟩ bs k).row⟩ (x0, x1, x2, x3)).1.places) (.slice qa na ka) (.slice qb nb kb)))
        generalize hwz : World.setCell _ _ _ = wz
        rw [hwz] at M22
        clear hwz M21
        have MZ := Lib.hid (show Mem w wz [ownI w.heap.size TBk 4 (qa) (na) (ka) ((runAt ⟨P, T, R⟩ bs (k + 1)).taken.flatMap visitCells), ownI w.heap.size TBk 4 (qb) (nb) (kb) ((runAt ⟨P, T, R⟩ bs (k + 1)).row.flatMap visitCells), blkI w.heap.size (a) TDk #[.int .i64 (runAt ⟨P, T, R⟩ bs (k + 1)).places, .slice qa na ka, .slice qb nb kb], blkI w.heap.size (w.heap.size + 1) TDk #[.int .i64 0, .slice none 0 0, .slice none 0 0], blkI w.heap.size (w.heap.size) TDk #[.int .i64 P, .slice q m c2, .slice q2 m2 d2]] from by rw [hs3.out]; exact M22.out.pick [0, 1, 5, 6, 7] (by decide) rfl)
        go_roundw
        case rel => exact ⟨k + 1, qa, na, ka, qb, nb, kb, by omega, by go_num, by rw [hs3.out]; exact HNA.out, by rw [hs3.out]; exact HNB.out, MZ.out⟩
        case measure => simp [intOf]; omega
      · have lt20_2 : a < wr.heap.size := (HM.out.lt (i := 2) rfl rfl).2
        have lt20_3 : w.heap.size + 1 < wr.heap.size := (HM.out.lt (i := 3) rfl rfl).2
        have lt20_4 : w.heap.size < wr.heap.size := (HM.out.lt (i := 4) rfl rfl).2
        obtain ⟨ca0, ca1, ca2⟩ := (HM.out.blk (i := 2) rfl).tri
        have hd : decide (0 < x2) = false := by simp; omega
        have hs3 : Hid ((runAt ⟨P, T, R⟩ bs (k + 1)) = (deskFree ⟨(runAt ⟨P, T, R⟩ bs k).places, (runAt ⟨P, T, R⟩ bs k).taken, (runAt ⟨P, T, R⟩ bs k).row⟩ x0).1) := by show _ = _; rw [hst.out]; unfold runStep; rw [if_neg hx2]
        clear hst hx2
        go_wp2_with fail
        clear ca0 ca1 ca2 g0 g1 g2 g3 hb hd
        refine (implFree (runAt ⟨P, T, R⟩ bs k).places q7 l7 c7 q8 l8 c8 x0 (runAt ⟨P, T, R⟩ bs k).taken (runAt ⟨P, T, R⟩ bs k).row _ ((((HM.out).blkNew TBk #[.int .i64 x0, .int .i64 x1, .int .i64 x2, .int .i64 x3] (wr.heap.size) (by simp))).sl (i := 1) rfl) ((((HM.out).blkNew TBk #[.int .i64 x0, .int .i64 x1, .int .i64 x2, .int .i64 x3] (wr.heap.size) (by simp))).sl (i := 2) rfl)).mono ?_
        rintro e w21 ⟨qa, na, ka, qb, nb, kb, qc, nc, kc, rfl, hna, hnb, hnc, hm21⟩
        have M21 := Lib.hid ((((HM.out).blkNew TBk #[.int .i64 x0, .int .i64 x1, .int .i64 x2, .int .i64 x3] (wr.heap.size) (by simp))).call3 hm21)
        clear HM
        clear lt20_2 lt20_3 lt20_4
        have lt21_3 : wr.heap.size < w21.heap.size := (M21.out.lt (i := 3) rfl rfl).2
        have lt21_6 : a < w21.heap.size := (M21.out.lt (i := 6) rfl rfl).2
        have lt21_7 : w.heap.size + 1 < w21.heap.size := (M21.out.lt (i := 7) rfl rfl).2
        have lt21_8 : w.heap.size < w21.heap.size := (M21.out.lt (i := 8) rfl rfl).2
        have HNA := Lib.hid hna
        have HNB := Lib.hid hnb
        clear hm21 hna hnb
        obtain ⟨ca0, caf0, ca1, caf1, ca2, caf2⟩ := (M21.out.blk (i := 6) rfl).trif
        go_wp2
        clear ca0 caf0 ca1 caf1 ca2 caf2 lt21_3 lt21_6 lt21_7 lt21_8
        have M22 := Lib.hid (((M21.out).put3 (i := 6) rfl (.int .i64 (deskFree ⟨(runAt ⟨P, T, R⟩ bs k).places, (runAt ⟨P, T, R⟩ bs k).taken, (runAt ⟨P, T, R⟩ bs k).row⟩ x0).1.places) (.slice qa na ka) (.slice qb nb kb)))
        generalize hwz : World.setCell _ _ _ = wz
        rw [hwz] at M22
        clear hwz M21
        have MZ := Lib.hid (show Mem w wz [ownI w.heap.size TBk 4 (qa) (na) (ka) ((runAt ⟨P, T, R⟩ bs (k + 1)).taken.flatMap visitCells), ownI w.heap.size TBk 4 (qb) (nb) (kb) ((runAt ⟨P, T, R⟩ bs (k + 1)).row.flatMap visitCells), blkI w.heap.size (a) TDk #[.int .i64 (runAt ⟨P, T, R⟩ bs (k + 1)).places, .slice qa na ka, .slice qb nb kb], blkI w.heap.size (w.heap.size + 1) TDk #[.int .i64 0, .slice none 0 0, .slice none 0 0], blkI w.heap.size (w.heap.size) TDk #[.int .i64 P, .slice q m c2, .slice q2 m2 d2]] from by rw [hs3.out]; exact M22.out.pick [0, 1, 6, 7, 8] (by decide) rfl)
        go_roundw
        case rel => exact ⟨k + 1, qa, na, ka, qb, nb, kb, by omega, by go_num, by rw [hs3.out]; exact HNA.out, by rw [hs3.out]; exact HNB.out, MZ.out⟩
        case measure => simp [intOf]; omega
    · obtain rfl : k = n3 := by omega
      have lt20_2 : a < wr.heap.size := (HM.out.lt (i := 2) rfl rfl).2
      have lt20_3 : w.heap.size + 1 < wr.heap.size := (HM.out.lt (i := 3) rfl rfl).2
      have lt20_4 : w.heap.size < wr.heap.size := (HM.out.lt (i := 4) rfl rfl).2
      obtain ⟨ca0, ca1, ca2⟩ := (HM.out.blk (i := 2) rfl).tri
      obtain ⟨cz0, czf0, cz1, czf1, cz2, czf2⟩ := (HM.out.blk (i := 3) rfl).trif
      have ne0_1a : ¬ (a = w.heap.size + 1) := HM.out.ne (i := 2) (j := 3) (by omega) rfl rfl rfl rfl
      have ne0_1b : ¬ (w.heap.size + 1 = a) := fun h => ne0_1a h.symm
      have hfin := Lib.hid (runAt_end ⟨P, T, R⟩ bs (k := k) (by rw [hl3.out]; exact Nat.le_refl _))
      go_wp2
      clear ca0 ca1 ca2 cz0 czf0 cz1 czf1 cz2 czf2 ne0_1a ne0_1b lt20_2 lt20_3 lt20_4
      have M21 := Lib.hid (((HM.out).put3 (i := 3) rfl (.int .i64 (runAt ⟨P, T, R⟩ bs k).places) (.slice q7 l7 c7) (.slice q8 l8 c8)))
      generalize hwz : World.setCell _ _ _ = wz
      rw [hwz] at M21
      clear hwz HM
      obtain ⟨y0, y1, y2⟩ := (M21.out.blk (i := 3) rfl).tri
      exact bodyPost_ret (v := .agg #[.int .i64 (runAt ⟨P, T, R⟩ bs k).places, .slice q7 l7 c7, .slice q8 l8 c8]) (by simp [results, Try.results24, go_sem, *]) rfl (by rw [← hfin.out]; exact ⟨q7, l7, c7, q8, l8, c8, rfl, HL7.out, HL8.out, M21.out.pick [0, 1] (by decide) rfl⟩)
end Go.Proofs.Ytndcnflchkfaeaa

/-
  The reference's DeskRun is deskRun. Conditions: the callees do as told.
-/
namespace Go.Proofs.Ytndcnflchkfaeaa
open Go.RowKit
set_option linter.unusedVariables false
set_option linter.unusedSimpArgs false

set_option maxRecDepth 100000 in
set_option maxHeartbeats 8000000 in
theorem specDr_bad (P : Int) (q : Option Addr) (m c2 : Nat) (q2 : Option Addr) (m2 d2 : Nat) (q3 : Option Addr) (n3 c3 : Nat) (T R bs : List Visit4) (w : World) (HV : Hid (∀ w', Ext w w' → Calls Try.prog 27 #[.agg #[.int .i64 P, .slice q m c2, .slice q2 m2 d2]] w' fun e w'' => e = .returned (.bool false) ∧ Ext w' w'')) :
    Calls Try.prog 23 #[.agg #[.int .i64 P, .slice q m c2, .slice q2 m2 d2], .slice q3 n3 c3] w fun e w' => e = .returned (.agg #[.int .i64 0, .slice none 0 0, .slice none 0 0]) ∧ Ext w w' := by
  go_enter Try.func23, Try.ntmps23
  go_wp2_with fail
  refine (HV.out _ (((((Mem.start w).blkNew TDk #[.int .i64 P, .slice q m c2, .slice q2 m2 d2] (w.heap.size) (by simp))).blkNew TDk #[.int .i64 0, .slice none 0 0, .slice none 0 0] (w.heap.size + 1) (by simp))).ext).mono ?_
  rintro e w1 ⟨rfl, hx1⟩
  have M1 := Lib.hid ((((((Mem.start w).blkNew TDk #[.int .i64 P, .slice q m c2, .slice q2 m2 d2] (w.heap.size) (by simp))).blkNew TDk #[.int .i64 0, .slice none 0 0, .slice none 0 0] (w.heap.size + 1) (by simp))).adv hx1)
  have lt1_0 : w.heap.size + 1 < w1.heap.size := (M1.out.lt (i := 0) rfl rfl).2
  have lt1_1 : w.heap.size < w1.heap.size := (M1.out.lt (i := 1) rfl rfl).2
  clear hx1
  clear HV
  obtain ⟨cz0, czf0, cz1, czf1, cz2, czf2⟩ := (M1.out.blk (i := 0) rfl).trif
  go_wp2
  clear cz0 czf0 cz1 czf1 cz2 czf2 lt1_0 lt1_1
  have M2 := Lib.hid (((M1.out).put3 (i := 0) rfl (.int .i64 0) (.slice none 0 0) (.slice none 0 0)))
  generalize hwz : World.setCell _ _ _ = wz
  rw [hwz] at M2
  clear hwz M1
  obtain ⟨y0, y1, y2⟩ := (M2.out.blk (i := 0) rfl).tri
  exact bodyPost_ret (v := .agg #[.int .i64 0, .slice none 0 0, .slice none 0 0]) (by simp [results, Try.results23, go_sem, *]) rfl ⟨rfl, M2.out.ext⟩
set_option maxRecDepth 100000 in
set_option maxHeartbeats 8000000 in
theorem specDr_ok (P : Int) (q : Option Addr) (m c2 : Nat) (q2 : Option Addr) (m2 d2 : Nat) (q3 : Option Addr) (n3 c3 : Nat) (T R bs : List Visit4) (w : World) (hl : Hid (T.length = m)) (hl2 : Hid (R.length = m2)) (hl3 : Hid (bs.length = n3)) (hn3 : n3 ≤ 1099511627776) (HB : Hid (Sl w q3 n3 c3 4 (bs.flatMap visitCells)))
    (HV : Hid (∀ w', Ext w w' → Calls Try.prog 27 #[.agg #[.int .i64 P, .slice q m c2, .slice q2 m2 d2]] w' fun e w'' => e = .returned (.bool true) ∧ Ext w' w''))
    (HC : Hid (∀ w', Ext w w' → Calls Try.prog 28 #[.agg #[.int .i64 P, .slice q m c2, .slice q2 m2 d2]] w' fun e w'' => ∃ q5 c5 q6 c6, e = .returned (.agg #[.int .i64 P, .slice q5 m c5, .slice q6 m2 c6]) ∧ Mem w' w'' [ownI w'.heap.size TBk 4 (q5) (m) (c5) (T.flatMap visitCells), ownI w'.heap.size TBk 4 (q6) (m2) (c6) (R.flatMap visitCells)])) :
    Calls Try.prog 23 #[.agg #[.int .i64 P, .slice q m c2, .slice q2 m2 d2], .slice q3 n3 c3] w (RetRun (bs.foldl runStep ⟨P, T, R⟩) w) := by
  unfold RetRun
  go_enter Try.func23, Try.ntmps23
  go_wp2_with fail
  refine (HV.out _ (((((Mem.start w).blkNew TDk #[.int .i64 P, .slice q m c2, .slice q2 m2 d2] (w.heap.size) (by simp))).blkNew TDk #[.int .i64 0, .slice none 0 0, .slice none 0 0] (w.heap.size + 1) (by simp))).ext).mono ?_
  rintro e w1 ⟨rfl, hx1⟩
  have M1 := Lib.hid ((((((Mem.start w).blkNew TDk #[.int .i64 P, .slice q m c2, .slice q2 m2 d2] (w.heap.size) (by simp))).blkNew TDk #[.int .i64 0, .slice none 0 0, .slice none 0 0] (w.heap.size + 1) (by simp))).adv hx1)
  have lt1_0 : w.heap.size + 1 < w1.heap.size := (M1.out.lt (i := 0) rfl rfl).2
  have lt1_1 : w.heap.size < w1.heap.size := (M1.out.lt (i := 1) rfl rfl).2
  clear hx1
  clear HV
  obtain ⟨ca0, ca1, ca2⟩ := (M1.out.blk (i := 1) rfl).tri
  go_wp2_with fail
  clear ca0 ca1 ca2
  refine (HC.out _ (M1.out).ext).mono ?_
  rintro e w2 ⟨q5, c5, q6, c6, rfl, hm2⟩
  have M2 := Lib.hid ((M1.out).call2 hm2)
  clear M1
  clear lt1_0 lt1_1
  have lt2_2 : w.heap.size + 1 < w2.heap.size := (M2.out.lt (i := 2) rfl rfl).2
  have lt2_3 : w.heap.size < w2.heap.size := (M2.out.lt (i := 3) rfl rfl).2
  clear hm2
  clear HC
  go_wp2
  have MS := Lib.hid (show Mem w (w2.alloc (.cells #[.int .i64 P, .slice q5 m c5, .slice q6 m2 c6] TDk)) [ownI w.heap.size TBk 4 (q5) (m) (c5) ((runAt ⟨P, T, R⟩ bs 0).taken.flatMap visitCells), ownI w.heap.size TBk 4 (q6) (m2) (c6) ((runAt ⟨P, T, R⟩ bs 0).row.flatMap visitCells), blkI w.heap.size (w2.heap.size) TDk #[.int .i64 (runAt ⟨P, T, R⟩ bs 0).places, .slice q5 m c5, .slice q6 m2 c6], blkI w.heap.size (w.heap.size + 1) TDk #[.int .i64 0, .slice none 0 0, .slice none 0 0], blkI w.heap.size (w.heap.size) TDk #[.int .i64 P, .slice q m c2, .slice q2 m2 d2]] from by
    rw [runAt_zero]
    exact (((M2.out).blkNew TDk #[.int .i64 P, .slice q5 m c5, .slice q6 m2 c6] (w2.heap.size) (by simp))).pick [1, 2, 0, 3, 4] (by decide) rfl)
  clear M2 lt2_2 lt2_3
  generalize w2.heap.size = a at MS
  go_loopw [6] (fun x wr => ∃ (k : Nat) (q7 : Option Addr) (l7 c7 : Nat) (q8 : Option Addr) (l8 c8 : Nat), k ≤ n3 ∧ x = .int .i64 (k : Int) ∧ l7 = (runAt ⟨P, T, R⟩ bs k).taken.length ∧ l8 = (runAt ⟨P, T, R⟩ bs k).row.length ∧ Mem w wr [ownI w.heap.size TBk 4 (q7) (l7) (c7) ((runAt ⟨P, T, R⟩ bs k).taken.flatMap visitCells), ownI w.heap.size TBk 4 (q8) (l8) (c8) ((runAt ⟨P, T, R⟩ bs k).row.flatMap visitCells), blkI w.heap.size (a) TDk #[.int .i64 (runAt ⟨P, T, R⟩ bs k).places, .slice q7 l7 c7, .slice q8 l8 c8], blkI w.heap.size (w.heap.size + 1) TDk #[.int .i64 0, .slice none 0 0, .slice none 0 0], blkI w.heap.size (w.heap.size) TDk #[.int .i64 P, .slice q m c2, .slice q2 m2 d2]]) (fun x _ => n3 - (intOf x).toNat)
  case atStart => exact ⟨0, q5, m, c5, q6, m2, c6, Nat.zero_le _, rfl, by rw [runAt_zero]; exact hl.out.symm, by rw [runAt_zero]; exact hl2.out.symm, MS.out⟩
  case round =>
    clear MS
    obtain ⟨k, q7, l7, c7, q8, l8, c8, hk, rfl, hl7, hl8, hM⟩ := hrel
    have HM := Lib.hid hM
    have HL7 := Lib.hid hl7
    have HL8 := Lib.hid hl8
    clear hM hl7 hl8
    by_cases hlt : k < n3
    · obtain ⟨b, off, x0, x1, x2, x3, rfl, hv, hb, g0, g1, g2, g3⟩ := visit_at HB.out hlt
      have hst := Lib.hid (runAt_succ (d := ⟨P, T, R⟩) hv)
      clear hv
      have i1 : (0 : Int) ≤ (k : Int) := by omega
      have i2 : (k : Int) < (n3 : Int) := by omega
      by_cases hx2 : 0 < x2
      · have lt20_2 : a < wr.heap.size := (HM.out.lt (i := 2) rfl rfl).2
        have lt20_3 : w.heap.size + 1 < wr.heap.size := (HM.out.lt (i := 3) rfl rfl).2
        have lt20_4 : w.heap.size < wr.heap.size := (HM.out.lt (i := 4) rfl rfl).2
        obtain ⟨ca0, ca1, ca2⟩ := (HM.out.blk (i := 2) rfl).tri
        have e0 := (HM.out.ext.cells.1 _ _ hb).trans g0
        have e1 := (HM.out.ext.cells.1 _ _ hb).trans g1
        have e2 := (HM.out.ext.cells.1 _ _ hb).trans g2
        have e3 := (HM.out.ext.cells.1 _ _ hb).trans g3
        have hb2 := Nat.lt_of_lt_of_le hb HM.out.ext.sz
        have hd : decide (0 < x2) = true := by simp; omega
        have hs3 : Hid ((runAt ⟨P, T, R⟩ bs (k + 1)) = (deskAsk ⟨(runAt ⟨P, T, R⟩ bs k).places, (runAt ⟨P, T, R⟩ bs k).taken, (runAt ⟨P, T, R⟩ bs k).row⟩ (x0, x1, x2, x3)).1) := by show _ = _; rw [hst.out]; unfold runStep; rw [if_pos hx2]
        clear hst hx2
        have HA := Lib.hid (fun w' (h1 : Sl w' q7 l7 c7 4 ((runAt ⟨P, T, R⟩ bs k).taken.flatMap visitCells)) (h2 : Sl w' q8 l8 c8 4 ((runAt ⟨P, T, R⟩ bs k).row.flatMap visitCells)) => specAsk (runAt ⟨P, T, R⟩ bs k).places q7 l7 c7 q8 l8 c8 x0 x1 x2 x3 (runAt ⟨P, T, R⟩ bs k).taken (runAt ⟨P, T, R⟩ bs k).row w' h1 h2)
        have nz1 : ¬ wr.heap.size = a := by omega
        have nz2 : ¬ a = wr.heap.size := by omega
        have nz3 : ¬ wr.heap.size = b := by omega
        have nz4 : ¬ b = wr.heap.size := by omega
        have HMB := Lib.hid (HM.out.blkNew TDk #[.int .i64 0, .slice none 0 0, .slice none 0 0] (wr.heap.size) rfl)
        go_wp2
        go_region_held3 (fun w' => w'.cell? ⟨a, 0, none⟩ = some (.int .i64 (runAt ⟨P, T, R⟩ bs k).places) ∧ w'.cell? ⟨a, 1, none⟩ = some (.slice q7 l7 c7) ∧ w'.cell? ⟨a, 2, none⟩ = some (.slice q8 l8 c8) ∧ w'.cell? ⟨b, off + k * 4, none⟩ = some (.int .i64 x0) ∧ w'.cell? ⟨b, off + k * 4 + 1, none⟩ = some (.int .i64 x1) ∧ w'.cell? ⟨b, off + k * 4 + 2, none⟩ = some (.int .i64 x2) ∧ w'.cell? ⟨b, off + k * 4 + 3, none⟩ = some (.int .i64 x3)) (first | (refine ⟨?_, ?_, ?_, ?_, ?_, ?_, ?_⟩ <;> assumption) | go_keep) (first
          | (go_simp; go_at_call 51
             (with_reducible refine (HA.out _ ((HM.out.sl (i := 0) rfl).ext (by (repeat' (first | exact Ext.refl _ | (with_reducible assumption) | (with_reducible refine Ext.alloc ?_ _) | (with_reducible refine Ext.setCell ?_ (by first | exact Nat.le_refl _ | (dsimp only; omega) | (simp; done) | (simp; omega)) _) | (with_reducible refine Ext.drew ?_) | (with_reducible refine Ext.drewN ?_ _) | (refine Ext.trans ?_ (by with_reducible assumption)))))) ((HM.out.sl (i := 1) rfl).ext (by (repeat' (first | exact Ext.refl _ | (with_reducible assumption) | (with_reducible refine Ext.alloc ?_ _) | (with_reducible refine Ext.setCell ?_ (by first | exact Nat.le_refl _ | (dsimp only; omega) | (simp; done) | (simp; omega)) _) | (with_reducible refine Ext.drew ?_) | (with_reducible refine Ext.drewN ?_ _) | (refine Ext.trans ?_ (by with_reducible assumption))))))).mono ?_)
             rintro e w21 ⟨qa, na, ka, qb, nb, kb, rfl, hna, hnb, hm21⟩
             have HNA := Lib.hid hna
             have HNB := Lib.hid hnb
             clear hna hnb
             (first
              | (have M21 := Lib.hid (HMB.out.call2 hm21)
                 have lt60_2 : wr.heap.size < w21.heap.size := (M21.out.lt (i := 2) rfl rfl).2
                 have lt60_5 : a < w21.heap.size := (M21.out.lt (i := 5) rfl rfl).2
                 have lt60_6 : w.heap.size + 1 < w21.heap.size := (M21.out.lt (i := 6) rfl rfl).2
                 have lt60_7 : w.heap.size < w21.heap.size := (M21.out.lt (i := 7) rfl rfl).2
                 obtain ⟨cn0, cnf0, cn1, cnf1, cn2, cnf2⟩ := (M21.out.blk (i := 2) rfl).trif
                 obtain ⟨cb0, cb1, cb2⟩ := (M21.out.blk (i := 5) rfl).tri
                 have f0 := (M21.out.ext.cells.1 _ _ hb).trans g0
                 have f1 := (M21.out.ext.cells.1 _ _ hb).trans g1
                 have f2 := (M21.out.ext.cells.1 _ _ hb).trans g2
                 have f3 := (M21.out.ext.cells.1 _ _ hb).trans g3
                 have hb3 := Nat.lt_of_lt_of_le hb M21.out.ext.sz)
              | (have M21 := Lib.hid ((HMB.out.adv (Ext.drew (Ext.refl _))).call2 hm21)
                 have lt60_2 : wr.heap.size < w21.heap.size := (M21.out.lt (i := 2) rfl rfl).2
                 have lt60_5 : a < w21.heap.size := (M21.out.lt (i := 5) rfl rfl).2
                 have lt60_6 : w.heap.size + 1 < w21.heap.size := (M21.out.lt (i := 6) rfl rfl).2
                 have lt60_7 : w.heap.size < w21.heap.size := (M21.out.lt (i := 7) rfl rfl).2
                 obtain ⟨cn0, cnf0, cn1, cnf1, cn2, cnf2⟩ := (M21.out.blk (i := 2) rfl).trif
                 obtain ⟨cb0, cb1, cb2⟩ := (M21.out.blk (i := 5) rfl).tri
                 have f0 := (M21.out.ext.cells.1 _ _ hb).trans g0
                 have f1 := (M21.out.ext.cells.1 _ _ hb).trans g1
                 have f2 := (M21.out.ext.cells.1 _ _ hb).trans g2
                 have f3 := (M21.out.ext.cells.1 _ _ hb).trans g3
                 have hb3 := Nat.lt_of_lt_of_le hb M21.out.ext.sz)
              | (have M22 := Lib.hid (HM.out.call2 hm21)
                 have lt60_4 : a < w21.heap.size := (M22.out.lt (i := 4) rfl rfl).2
                 have lt60_5 : w.heap.size + 1 < w21.heap.size := (M22.out.lt (i := 5) rfl rfl).2
                 have lt60_6 : w.heap.size < w21.heap.size := (M22.out.lt (i := 6) rfl rfl).2
                 obtain ⟨cb0, cb1, cb2⟩ := (M22.out.blk (i := 4) rfl).tri
                 have f0 := (M22.out.ext.cells.1 _ _ hb).trans g0
                 have f1 := (M22.out.ext.cells.1 _ _ hb).trans g1
                 have f2 := (M22.out.ext.cells.1 _ _ hb).trans g2
                 have f3 := (M22.out.ext.cells.1 _ _ hb).trans g3
                 have hb3 := Nat.lt_of_lt_of_le hb M22.out.ext.sz)
              | (have M22 := Lib.hid ((HM.out.adv (Ext.drew (Ext.refl _))).call2 hm21)
                 have lt60_4 : a < w21.heap.size := (M22.out.lt (i := 4) rfl rfl).2
                 have lt60_5 : w.heap.size + 1 < w21.heap.size := (M22.out.lt (i := 5) rfl rfl).2
                 have lt60_6 : w.heap.size < w21.heap.size := (M22.out.lt (i := 6) rfl rfl).2
                 obtain ⟨cb0, cb1, cb2⟩ := (M22.out.blk (i := 4) rfl).tri
                 have f0 := (M22.out.ext.cells.1 _ _ hb).trans g0
                 have f1 := (M22.out.ext.cells.1 _ _ hb).trans g1
                 have f2 := (M22.out.ext.cells.1 _ _ hb).trans g2
                 have f3 := (M22.out.ext.cells.1 _ _ hb).trans g3
                 have hb3 := Nat.lt_of_lt_of_le hb M22.out.ext.sz))))
        · clear HM HMB HA ca0 ca1 ca2 e0 e1 e2 e3 cb0 cb1 cb2 f0 f1 f2 f3 hd
          obtain ⟨cy0, cyf0, cy1, cyf1, cy2, cyf2⟩ := (M22.out.blk (i := 4) rfl).trif
          go_wp2
          clear cy0 cyf0 cy1 cyf1 cy2 cyf2
          have M71 := Lib.hid (((((M22.out).put3 (i := 4) rfl (.int .i64 (deskAsk ⟨(runAt ⟨P, T, R⟩ bs k).places, (runAt ⟨P, T, R⟩ bs k).taken, (runAt ⟨P, T, R⟩ bs k).row⟩ (x0, x1, x2, x3)).1.places) (.slice qa na ka) (.slice qb nb kb))).adv ((Ext.refl _).alloc (.cells #[.int .i64 (deskAsk ⟨(runAt ⟨P, T, R⟩ bs k).places, (runAt ⟨P, T, R⟩ bs k).taken, (runAt ⟨P, T, R⟩ bs k).row⟩ (x0, x1, x2, x3)).1.places, .slice qa na ka, .slice qb nb kb] TDk))))
          generalize hwz : World.alloc _ _ = wv
          rw [hwz] at M71
          clear hwz M22
          have MZ := Lib.hid (show Mem w wv [ownI w.heap.size TBk 4 (qa) (na) (ka) ((runAt ⟨P, T, R⟩ bs (k + 1)).taken.flatMap visitCells), ownI w.heap.size TBk 4 (qb) (nb) (kb) ((runAt ⟨P, T, R⟩ bs (k + 1)).row.flatMap visitCells), blkI w.heap.size (a) TDk #[.int .i64 (runAt ⟨P, T, R⟩ bs (k + 1)).places, .slice qa na ka, .slice qb nb kb], blkI w.heap.size (w.heap.size + 1) TDk #[.int .i64 0, .slice none 0 0, .slice none 0 0], blkI w.heap.size (w.heap.size) TDk #[.int .i64 P, .slice q m c2, .slice q2 m2 d2]] from by rw [hs3.out]; exact M71.out.pick [0, 1, 4, 5, 6] (by decide) rfl)
          go_roundw
          case rel => exact ⟨k + 1, qa, na, ka, qb, nb, kb, by omega, by go_num, by rw [hs3.out]; exact HNA.out, by rw [hs3.out]; exact HNB.out, MZ.out⟩
          case measure => simp [intOf]; omega
        · clear HM HMB HA ca0 ca1 ca2 e0 e1 e2 e3 cb0 cb1 cb2 f0 f1 f2 f3 hd
          have M71 := Lib.hid (((M21.out).put3 (i := 2) rfl (.int .i64 (deskAsk ⟨(runAt ⟨P, T, R⟩ bs k).places, (runAt ⟨P, T, R⟩ bs k).taken, (runAt ⟨P, T, R⟩ bs k).row⟩ (x0, x1, x2, x3)).1.places) (.slice qa na ka) (.slice qb nb kb)))
          generalize hwz : World.setCell _ _ _ = wy
          rw [hwz] at M71
          clear hwz M21
          have lt71_2 : wr.heap.size < wy.heap.size := (M71.out.lt (i := 2) rfl rfl).2
          have lt71_5 : a < wy.heap.size := (M71.out.lt (i := 5) rfl rfl).2
          have lt71_6 : w.heap.size + 1 < wy.heap.size := (M71.out.lt (i := 6) rfl rfl).2
          have lt71_7 : w.heap.size < wy.heap.size := (M71.out.lt (i := 7) rfl rfl).2
          obtain ⟨cx0, cx1, cx2⟩ := (M71.out.blk (i := 2) rfl).tri
          obtain ⟨cy0, cyf0, cy1, cyf1, cy2, cyf2⟩ := (M71.out.blk (i := 5) rfl).trif
          go_wp2
          clear cx0 cx1 cx2 cy0 cyf0 cy1 cyf1 cy2 cyf2 lt71_2 lt71_5 lt71_6 lt71_7
          have M72 := Lib.hid (((M71.out).put3 (i := 5) rfl (.int .i64 (deskAsk ⟨(runAt ⟨P, T, R⟩ bs k).places, (runAt ⟨P, T, R⟩ bs k).taken, (runAt ⟨P, T, R⟩ bs k).row⟩ (x0, x1, x2, x3)).1.places) (.slice qa na ka) (.slice qb nb kb)))
          generalize hwz : World.setCell _ _ _ = wv
          rw [hwz] at M72
          clear hwz M71
          have MZ := Lib.hid (show Mem w wv [ownI w.heap.size TBk 4 (qa) (na) (ka) ((runAt ⟨P, T, R⟩ bs (k + 1)).taken.flatMap visitCells), ownI w.heap.size TBk 4 (qb) (nb) (kb) ((runAt ⟨P, T, R⟩ bs (k + 1)).row.flatMap visitCells), blkI w.heap.size (a) TDk #[.int .i64 (runAt ⟨P, T, R⟩ bs (k + 1)).places, .slice qa na ka, .slice qb nb kb], blkI w.heap.size (w.heap.size + 1) TDk #[.int .i64 0, .slice none 0 0, .slice none 0 0], blkI w.heap.size (w.heap.size) TDk #[.int .i64 P, .slice q m c2, .slice q2 m2 d2]] from by rw [hs3.out]; exact M72.out.pick [0, 1, 5, 6, 7] (by decide) rfl)
          go_roundw
          case rel => exact ⟨k + 1, qa, na, ka, qb, nb, kb, by omega, by go_num, by rw [hs3.out]; exact HNA.out, by rw [hs3.out]; exact HNB.out, MZ.out⟩
          case measure => simp [intOf]; omega
      · have lt20_2 : a < wr.heap.size := (HM.out.lt (i := 2) rfl rfl).2
        have lt20_3 : w.heap.size + 1 < wr.heap.size := (HM.out.lt (i := 3) rfl rfl).2
        have lt20_4 : w.heap.size < wr.heap.size := (HM.out.lt (i := 4) rfl rfl).2
        obtain ⟨ca0, ca1, ca2⟩ := (HM.out.blk (i := 2) rfl).tri
        have e0 := (HM.out.ext.cells.1 _ _ hb).trans g0
        have e1 := (HM.out.ext.cells.1 _ _ hb).trans g1
        have e2 := (HM.out.ext.cells.1 _ _ hb).trans g2
        have e3 := (HM.out.ext.cells.1 _ _ hb).trans g3
        have hb2 := Nat.lt_of_lt_of_le hb HM.out.ext.sz
        have hd : decide (0 < x2) = false := by simp; omega
        have hs3 : Hid ((runAt ⟨P, T, R⟩ bs (k + 1)) = (deskFree ⟨(runAt ⟨P, T, R⟩ bs k).places, (runAt ⟨P, T, R⟩ bs k).taken, (runAt ⟨P, T, R⟩ bs k).row⟩ x0).1) := by show _ = _; rw [hst.out]; unfold runStep; rw [if_neg hx2]
        clear hst hx2
        have HA := Lib.hid (fun w' (h1 : Sl w' q7 l7 c7 4 ((runAt ⟨P, T, R⟩ bs k).taken.flatMap visitCells)) (h2 : Sl w' q8 l8 c8 4 ((runAt ⟨P, T, R⟩ bs k).row.flatMap visitCells)) => specFree (runAt ⟨P, T, R⟩ bs k).places q7 l7 c7 q8 l8 c8 x0 (runAt ⟨P, T, R⟩ bs k).taken (runAt ⟨P, T, R⟩ bs k).row w' h1 h2)
        have nz1 : ¬ wr.heap.size = a := by omega
        have nz2 : ¬ a = wr.heap.size := by omega
        have nz3 : ¬ wr.heap.size = b := by omega
        have nz4 : ¬ b = wr.heap.size := by omega
        have HMB := Lib.hid (HM.out.blkNew TDk #[.int .i64 0, .slice none 0 0, .slice none 0 0] (wr.heap.size) rfl)
        go_wp2
        go_region_held3 (fun w' => w'.cell? ⟨a, 0, none⟩ = some (.int .i64 (runAt ⟨P, T, R⟩ bs k).places) ∧ w'.cell? ⟨a, 1, none⟩ = some (.slice q7 l7 c7) ∧ w'.cell? ⟨a, 2, none⟩ = some (.slice q8 l8 c8) ∧ w'.cell? ⟨b, off + k * 4, none⟩ = some (.int .i64 x0) ∧ w'.cell? ⟨b, off + k * 4 + 1, none⟩ = some (.int .i64 x1) ∧ w'.cell? ⟨b, off + k * 4 + 2, none⟩ = some (.int .i64 x2) ∧ w'.cell? ⟨b, off + k * 4 + 3, none⟩ = some (.int .i64 x3)) (first | (refine ⟨?_, ?_, ?_, ?_, ?_, ?_, ?_⟩ <;> assumption) | go_keep) (first
          | (go_simp; go_at_call 8
             (with_reducible refine (HA.out _ ((HM.out.sl (i := 0) rfl).ext (by (repeat' (first | exact Ext.refl _ | (with_reducible assumption) | (with_reducible refine Ext.alloc ?_ _) | (with_reducible refine Ext.setCell ?_ (by first | exact Nat.le_refl _ | (dsimp only; omega) | (simp; done) | (simp; omega)) _) | (with_reducible refine Ext.drew ?_) | (with_reducible refine Ext.drewN ?_ _) | (refine Ext.trans ?_ (by with_reducible assumption)))))) ((HM.out.sl (i := 1) rfl).ext (by (repeat' (first | exact Ext.refl _ | (with_reducible assumption) | (with_reducible refine Ext.alloc ?_ _) | (with_reducible refine Ext.setCell ?_ (by first | exact Nat.le_refl _ | (dsimp only; omega) | (simp; done) | (simp; omega)) _) | (with_reducible refine Ext.drew ?_) | (with_reducible refine Ext.drewN ?_ _) | (refine Ext.trans ?_ (by with_reducible assumption))))))).mono ?_)
             rintro e w21 ⟨qa, na, ka, qb, nb, kb, qc, nc, kc, rfl, hna, hnb, hnc, hm21⟩
             have HNA := Lib.hid hna
             have HNB := Lib.hid hnb
             clear hna hnb
             (first
              | (have M21 := Lib.hid (HMB.out.call3 hm21)
                 have lt60_3 : wr.heap.size < w21.heap.size := (M21.out.lt (i := 3) rfl rfl).2
                 have lt60_6 : a < w21.heap.size := (M21.out.lt (i := 6) rfl rfl).2
                 have lt60_7 : w.heap.size + 1 < w21.heap.size := (M21.out.lt (i := 7) rfl rfl).2
                 have lt60_8 : w.heap.size < w21.heap.size := (M21.out.lt (i := 8) rfl rfl).2
                 obtain ⟨cn0, cnf0, cn1, cnf1, cn2, cnf2⟩ := (M21.out.blk (i := 3) rfl).trif
                 obtain ⟨cb0, cb1, cb2⟩ := (M21.out.blk (i := 6) rfl).tri
                 have f0 := (M21.out.ext.cells.1 _ _ hb).trans g0
                 have f1 := (M21.out.ext.cells.1 _ _ hb).trans g1
                 have f2 := (M21.out.ext.cells.1 _ _ hb).trans g2
                 have f3 := (M21.out.ext.cells.1 _ _ hb).trans g3
                 have hb3 := Nat.lt_of_lt_of_le hb M21.out.ext.sz)
              | (have M21 := Lib.hid ((HMB.out.adv (Ext.drew (Ext.refl _))).call3 hm21)
                 have lt60_3 : wr.heap.size < w21.heap.size := (M21.out.lt (i := 3) rfl rfl).2
                 have lt60_6 : a < w21.heap.size := (M21.out.lt (i := 6) rfl rfl).2
                 have lt60_7 : w.heap.size + 1 < w21.heap.size := (M21.out.lt (i := 7) rfl rfl).2
                 have lt60_8 : w.heap.size < w21.heap.size := (M21.out.lt (i := 8) rfl rfl).2
                 obtain ⟨cn0, cnf0, cn1, cnf1, cn2, cnf2⟩ := (M21.out.blk (i := 3) rfl).trif
                 obtain ⟨cb0, cb1, cb2⟩ := (M21.out.blk (i := 6) rfl).tri
                 have f0 := (M21.out.ext.cells.1 _ _ hb).trans g0
                 have f1 := (M21.out.ext.cells.1 _ _ hb).trans g1
                 have f2 := (M21.out.ext.cells.1 _ _ hb).trans g2
                 have f3 := (M21.out.ext.cells.1 _ _ hb).trans g3
                 have hb3 := Nat.lt_of_lt_of_le hb M21.out.ext.sz)
              | (have M22 := Lib.hid (HM.out.call3 hm21)
                 have lt60_5 : a < w21.heap.size := (M22.out.lt (i := 5) rfl rfl).2
                 have lt60_6 : w.heap.size + 1 < w21.heap.size := (M22.out.lt (i := 6) rfl rfl).2
                 have lt60_7 : w.heap.size < w21.heap.size := (M22.out.lt (i := 7) rfl rfl).2
                 obtain ⟨cb0, cb1, cb2⟩ := (M22.out.blk (i := 5) rfl).tri
                 have f0 := (M22.out.ext.cells.1 _ _ hb).trans g0
                 have f1 := (M22.out.ext.cells.1 _ _ hb).trans g1
                 have f2 := (M22.out.ext.cells.1 _ _ hb).trans g2
                 have f3 := (M22.out.ext.cells.1 _ _ hb).trans g3
                 have hb3 := Nat.lt_of_lt_of_le hb M22.out.ext.sz)
              | (have M22 := Lib.hid ((HM.out.adv (Ext.drew (Ext.refl _))).call3 hm21)
                 have lt60_5 : a < w21.heap.size := (M22.out.lt (i := 5) rfl rfl).2
                 have lt60_6 : w.heap.size + 1 < w21.heap.size := (M22.out.lt (i := 6) rfl rfl).2
                 have lt60_7 : w.heap.size < w21.heap.size := (M22.out.lt (i := 7) rfl rfl).2
                 obtain ⟨cb0, cb1, cb2⟩ := (M22.out.blk (i := 5) rfl).tri
                 have f0 := (M22.out.ext.cells.1 _ _ hb).trans g0
                 have f1 := (M22.out.ext.cells.1 _ _ hb).trans g1
                 have f2 := (M22.out.ext.cells.1 _ _ hb).trans g2
                 have f3 := (M22.out.ext.cells.1 _ _ hb).trans g3
                 have hb3 := Nat.lt_of_lt_of_le hb M22.out.ext.sz))))
        · clear HM HMB HA ca0 ca1 ca2 e0 e1 e2 e3 cb0 cb1 cb2 f0 f1 f2 f3 hd
          obtain ⟨cy0, cyf0, cy1, cyf1, cy2, cyf2⟩ := (M22.out.blk (i := 5) rfl).trif
          go_wp2
          clear cy0 cyf0 cy1 cyf1 cy2 cyf2
          have M71 := Lib.hid (((((M22.out).put3 (i := 5) rfl (.int .i64 (deskFree ⟨(runAt ⟨P, T, R⟩ bs k).places, (runAt ⟨P, T, R⟩ bs k).taken, (runAt ⟨P, T, R⟩ bs k).row⟩ x0).1.places) (.slice qa na ka) (.slice qb nb kb))).adv ((Ext.refl _).alloc (.cells #[.int .i64 (deskFree ⟨(runAt ⟨P, T, R⟩ bs k).places, (runAt ⟨P, T, R⟩ bs k).taken, (runAt ⟨P, T, R⟩ bs k).row⟩ x0).1.places, .slice qa na ka, .slice qb nb kb] TDk))))
          generalize hwz : World.alloc _ _ = wv
          rw [hwz] at M71
          clear hwz M22
          have MZ := Lib.hid (show Mem w wv [ownI w.heap.size TBk 4 (qa) (na) (ka) ((runAt ⟨P, T, R⟩ bs (k + 1)).taken.flatMap visitCells), ownI w.heap.size TBk 4 (qb) (nb) (kb) ((runAt ⟨P, T, R⟩ bs (k + 1)).row.flatMap visitCells), blkI w.heap.size (a) TDk #[.int .i64 (runAt ⟨P, T, R⟩ bs (k + 1)).places, .slice qa na ka, .slice qb nb kb], blkI w.heap.size (w.heap.size + 1) TDk #[.int .i64 0, .slice none 0 0, .slice none 0 0], blkI w.heap.size (w.heap.size) TDk #[.int .i64 P, .slice q m c2, .slice q2 m2 d2]] from by rw [hs3.out]; exact M71.out.pick [0, 1, 5, 6, 7] (by decide) rfl)
          go_roundw
          case rel => exact ⟨k + 1, qa, na, ka, qb, nb, kb, by omega, by go_num, by rw [hs3.out]; exact HNA.out, by rw [hs3.out]; exact HNB.out, MZ.out⟩
          case measure => simp [intOf]; omega
        · clear HM HMB HA ca0 ca1 ca2 e0 e1 e2 e3 cb0 cb1 cb2 f0 f1 f2 f3 hd
          have M71 := Lib.hid (((M21.out).put3 (i := 3) rfl (.int .i64 (deskFree ⟨(runAt ⟨P, T, R⟩ bs k).places, (runAt ⟨P, T, R⟩ bs k).taken, (runAt ⟨P, T, R⟩ bs k).row⟩ x0).1.places) (.slice qa na ka) (.slice qb nb kb)))
          generalize hwz : World.setCell _ _ _ = wy
          rw [hwz] at M71
          clear hwz M21
          have lt71_3 : wr.heap.size < wy.heap.size := (M71.out.lt (i := 3) rfl rfl).2
          have lt71_6 : a < wy.heap.size := (M71.out.lt (i := 6) rfl rfl).2
          have lt71_7 : w.heap.size + 1 < wy.heap.size := (M71.out.lt (i := 7) rfl rfl).2
          have lt71_8 : w.heap.size < wy.heap.size := (M71.out.lt (i := 8) rfl rfl).2
          obtain ⟨cx0, cx1, cx2⟩ := (M71.out.blk (i := 3) rfl).tri
          obtain ⟨cy0, cyf0, cy1, cyf1, cy2, cyf2⟩ := (M71.out.blk (i := 6) rfl).trif
          go_wp2
          clear cx0 cx1 cx2 cy0 cyf0 cy1 cyf1 cy2 cyf2 lt71_3 lt71_6 lt71_7 lt71_8
          have M72 := Lib.hid (((M71.out).put3 (i := 6) rfl (.int .i64 (deskFree ⟨(runAt ⟨P, T, R⟩ bs k).places, (runAt ⟨P, T, R⟩ bs k).taken, (runAt ⟨P, T, R⟩ bs k).row⟩ x0).1.places) (.slice qa na ka) (.slice qb nb kb)))
          generalize hwz : World.setCell _ _ _ = wv
          rw [hwz] at M72
          clear hwz M71
          have MZ := Lib.hid (show Mem w wv [ownI w.heap.size TBk 4 (qa) (na) (ka) ((runAt ⟨P, T, R⟩ bs (k + 1)).taken.flatMap visitCells), ownI w.heap.size TBk 4 (qb) (nb) (kb) ((runAt ⟨P, T, R⟩ bs (k + 1)).row.flatMap visitCells), blkI w.heap.size (a) TDk #[.int .i64 (runAt ⟨P, T, R⟩ bs (k + 1)).places, .slice qa na ka, .slice qb nb kb], blkI w.heap.size (w.heap.size + 1) TDk #[.int .i64 0, .slice none 0 0, .slice none 0 0], blkI w.heap.size (w.heap.size) TDk #[.int .i64 P, .slice q m c2, .slice q2 m2 d2]] from by rw [hs3.out]; exact M72.out.pick [0, 1, 6, 7, 8] (by decide) rfl)
          go_roundw
          case rel => exact ⟨k + 1, qa, na, ka, qb, nb, kb, by omega, by go_num, by rw [hs3.out]; exact HNA.out, by rw [hs3.out]; exact HNB.out, MZ.out⟩
          case measure => simp [intOf]; omega
    · obtain rfl : k = n3 := by omega
      have lt20_2 : a < wr.heap.size := (HM.out.lt (i := 2) rfl rfl).2
      have lt20_3 : w.heap.size + 1 < wr.heap.size := (HM.out.lt (i := 3) rfl rfl).2
      have lt20_4 : w.heap.size < wr.heap.size := (HM.out.lt (i := 4) rfl rfl).2
      obtain ⟨ca0, ca1, ca2⟩ := (HM.out.blk (i := 2) rfl).tri
      obtain ⟨cz0, czf0, cz1, czf1, cz2, czf2⟩ := (HM.out.blk (i := 3) rfl).trif
      have ne0_1a : ¬ (a = w.heap.size + 1) := HM.out.ne (i := 2) (j := 3) (by omega) rfl rfl rfl rfl
      have ne0_1b : ¬ (w.heap.size + 1 = a) := fun h => ne0_1a h.symm
      have hfin := Lib.hid (runAt_end ⟨P, T, R⟩ bs (k := k) (by rw [hl3.out]; exact Nat.le_refl _))
      go_wp2
      clear ca0 ca1 ca2 cz0 czf0 cz1 czf1 cz2 czf2 ne0_1a ne0_1b lt20_2 lt20_3 lt20_4
      have M21 := Lib.hid (((HM.out).put3 (i := 3) rfl (.int .i64 (runAt ⟨P, T, R⟩ bs k).places) (.slice q7 l7 c7) (.slice q8 l8 c8)))
      generalize hwz : World.setCell _ _ _ = wz
      rw [hwz] at M21
      clear hwz HM
      obtain ⟨y0, y1, y2⟩ := (M21.out.blk (i := 3) rfl).tri
      exact bodyPost_ret (v := .agg #[.int .i64 (runAt ⟨P, T, R⟩ bs k).places, .slice q7 l7 c7, .slice q8 l8 c8]) (by simp [results, Try.results23, go_sem, *]) rfl (by rw [← hfin.out]; exact ⟨q7, l7, c7, q8, l8, c8, rfl, HL7.out, HL8.out, M21.out.pick [0, 1] (by decide) rfl⟩)
end Go.Proofs.Ytndcnflchkfaeaa

/-
  DeskRun of both packages is deskRun. Conditions: the slices read as lists.
-/
namespace Go.Proofs.Ytndcnflchkfaeaa
open Go.RowKit
set_option linter.unusedVariables false
set_option linter.unusedSimpArgs false

theorem implRun (P : Int) (q : Option Addr) (m c2 : Nat) (q2 : Option Addr) (m2 d2 : Nat) (q3 : Option Addr) (n3 c3 : Nat) (T R bs : List Visit4) (w : World) (hn3 : n3 ≤ 1099511627776) (hS : Sl w q m c2 4 (T.flatMap visitCells)) (hS2 : Sl w q2 m2 d2 4 (R.flatMap visitCells)) (hB : Sl w q3 n3 c3 4 (bs.flatMap visitCells)) :
    Calls Try.prog 24 #[.agg #[.int .i64 P, .slice q m c2, .slice q2 m2 d2], .slice q3 n3 c3] w (RetRun (deskRun ⟨P, T, R⟩ bs) w) := by
  have hl : T.length = m := by
    have := hS.len; rw [flat_len visitCells 4 (fun _ => rfl)] at this; omega
  have hl2 : R.length = m2 := by
    have := hS2.len; rw [flat_len visitCells 4 (fun _ => rfl)] at this; omega
  have hl3 : bs.length = n3 := by
    have := hB.len; rw [flat_len visitCells 4 (fun _ => rfl)] at this; omega
  cases hv : deskValid ⟨P, T, R⟩ with
  | false =>
    have hf : deskRun ⟨P, T, R⟩ bs = ⟨0, [], []⟩ := by unfold deskRun; rw [if_neg (by rw [hv]; decide)]
    rw [hf]
    refine (implDr_bad P q m c2 q2 m2 d2 q3 n3 c3 T R bs w (Lib.hid (fun w' hx => by have h := implDv P q m c2 q2 m2 d2 T R w' (hS.ext hx) (hS2.ext hx); rw [hv] at h; exact h))).mono ?_
    rintro e w' ⟨rfl, hx⟩
    exact ⟨none, 0, 0, none, 0, 0, rfl, rfl, rfl, (((Mem.start w).adv hx).call (Ext.refl _) (World.ownsRow_nil _ _ TBk 4)).call (Ext.refl _) (World.ownsRow_nil _ _ TBk 4)⟩
  | true =>
    have hlen := desk_len hv
    have hlT : T.length ≤ 7 := hlen.1
    have hlR : R.length ≤ 5 := hlen.2
    have HV : Hid (∀ w', Ext w w' → Calls Try.prog 32 #[.agg #[.int .i64 P, .slice q m c2, .slice q2 m2 d2]] w' fun e w'' => e = .returned (.bool true) ∧ Ext w' w'') := Lib.hid (fun w' hx => by have h := implDv P q m c2 q2 m2 d2 T R w' (hS.ext hx) (hS2.ext hx); rw [hv] at h; exact h)
    have HC : Hid (∀ w', Ext w w' → Calls Try.prog 33 #[.agg #[.int .i64 P, .slice q m c2, .slice q2 m2 d2]] w' fun e w'' => ∃ q5 c5 q6 c6, e = .returned (.agg #[.int .i64 P, .slice q5 m c5, .slice q6 m2 c6]) ∧ Mem w' w'' [ownI w'.heap.size TBk 4 (q5) (m) (c5) (T.flatMap visitCells), ownI w'.heap.size TBk 4 (q6) (m2) (c6) (R.flatMap visitCells)]) := Lib.hid (fun w' hx => copyDesk_o P q m c2 q2 m2 d2 T R w' (Lib.hid (fun w2 hy => clone_any q m c2 _ w2 (by omega) (hS.ext (hx.trans hy)) (books_one _))) (Lib.hid (fun w2 hy => clone_any q2 m2 d2 _ w2 (by omega) (hS2.ext (hx.trans hy)) (books_one _))))
    have hf : deskRun ⟨P, T, R⟩ bs = bs.foldl runStep ⟨P, T, R⟩ := by unfold deskRun; rw [if_pos hv]
    rw [hf]
    exact implDr_ok P q m c2 q2 m2 d2 q3 n3 c3 T R bs w (Lib.hid hl) (Lib.hid hl2) (Lib.hid hl3) hn3 (Lib.hid hB) HV HC
theorem specRun (P : Int) (q : Option Addr) (m c2 : Nat) (q2 : Option Addr) (m2 d2 : Nat) (q3 : Option Addr) (n3 c3 : Nat) (T R bs : List Visit4) (w : World) (hn3 : n3 ≤ 1099511627776) (hS : Sl w q m c2 4 (T.flatMap visitCells)) (hS2 : Sl w q2 m2 d2 4 (R.flatMap visitCells)) (hB : Sl w q3 n3 c3 4 (bs.flatMap visitCells)) :
    Calls Try.prog 23 #[.agg #[.int .i64 P, .slice q m c2, .slice q2 m2 d2], .slice q3 n3 c3] w (RetRun (deskRun ⟨P, T, R⟩ bs) w) := by
  have hl : T.length = m := by
    have := hS.len; rw [flat_len visitCells 4 (fun _ => rfl)] at this; omega
  have hl2 : R.length = m2 := by
    have := hS2.len; rw [flat_len visitCells 4 (fun _ => rfl)] at this; omega
  have hl3 : bs.length = n3 := by
    have := hB.len; rw [flat_len visitCells 4 (fun _ => rfl)] at this; omega
  cases hv : deskValid ⟨P, T, R⟩ with
  | false =>
    have hf : deskRun ⟨P, T, R⟩ bs = ⟨0, [], []⟩ := by unfold deskRun; rw [if_neg (by rw [hv]; decide)]
    rw [hf]
    refine (specDr_bad P q m c2 q2 m2 d2 q3 n3 c3 T R bs w (Lib.hid (fun w' hx => by have h := specDv P q m c2 q2 m2 d2 T R w' (hS.ext hx) (hS2.ext hx); rw [hv] at h; exact h))).mono ?_
    rintro e w' ⟨rfl, hx⟩
    exact ⟨none, 0, 0, none, 0, 0, rfl, rfl, rfl, (((Mem.start w).adv hx).call (Ext.refl _) (World.ownsRow_nil _ _ TBk 4)).call (Ext.refl _) (World.ownsRow_nil _ _ TBk 4)⟩
  | true =>
    have hlen := desk_len hv
    have hlT : T.length ≤ 7 := hlen.1
    have hlR : R.length ≤ 5 := hlen.2
    have HV : Hid (∀ w', Ext w w' → Calls Try.prog 27 #[.agg #[.int .i64 P, .slice q m c2, .slice q2 m2 d2]] w' fun e w'' => e = .returned (.bool true) ∧ Ext w' w'') := Lib.hid (fun w' hx => by have h := specDv P q m c2 q2 m2 d2 T R w' (hS.ext hx) (hS2.ext hx); rw [hv] at h; exact h)
    have HC : Hid (∀ w', Ext w w' → Calls Try.prog 28 #[.agg #[.int .i64 P, .slice q m c2, .slice q2 m2 d2]] w' fun e w'' => ∃ q5 c5 q6 c6, e = .returned (.agg #[.int .i64 P, .slice q5 m c5, .slice q6 m2 c6]) ∧ Mem w' w'' [ownI w'.heap.size TBk 4 (q5) (m) (c5) (T.flatMap visitCells), ownI w'.heap.size TBk 4 (q6) (m2) (c6) (R.flatMap visitCells)]) := Lib.hid (fun w' hx => l6Copy_o P q m c2 q2 m2 d2 T R w' (by omega) (by omega) (Lib.hid (hS.ext hx)) (Lib.hid (hS2.ext hx)))
    have hf : deskRun ⟨P, T, R⟩ bs = bs.foldl runStep ⟨P, T, R⟩ := by unfold deskRun; rw [if_pos hv]
    rw [hf]
    exact specDr_ok P q m c2 q2 m2 d2 q3 n3 c3 T R bs w (Lib.hid hl) (Lib.hid hl2) (Lib.hid hl3) hn3 (Lib.hid hB) HV HC
end Go.Proofs.Ytndcnflchkfaeaa
