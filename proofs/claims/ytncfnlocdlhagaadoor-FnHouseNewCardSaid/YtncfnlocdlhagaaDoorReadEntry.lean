/-
  impl.ReadEntry returns what 'readEntry' says. Conditions: the text is shorter than 2^32 - 15 bytes, the library's table is laid.
-/
import Derived.Test.YtncfnlocdlhagaaDoorParseE
import Derived.Test.YtncfnlocdlhagaaDoorReadDeed2
import Derived.RegionTactic
namespace Go.Proofs.YtncfnlocdlhagaaDoor
open Go.RowKit
set_option linter.unusedVariables false

theorem cutFst_none (c : UInt8) : ∀ l : List UInt8, c ∉ l → cutFst c l = l ∧ cutSnd c l = [] := by
  intro l
  induction l with
  | nil => intro _; exact ⟨rfl, rfl⟩
  | cons x xs ih =>
    intro h
    have hx : x ≠ c := fun q => h (by simp [q])
    obtain ⟨i1, i2⟩ := ih (fun q => h (by simp [q]))
    simp [cutFst, cutSnd, hx, i1, i2]
theorem index_first (c : UInt8) (a b : List UInt8) (h : c ∉ a) : Lib.index (a ++ c :: b) [c] = a.length := by
  rcases index_one c (a ++ c :: b) with ⟨h1, h2, h3⟩ | ⟨i, h1, h2, h3, h4⟩
  · exact absurd (by simp) h3
  · have e := cutL_head c (a ++ c :: b)
    rw [h3, (cutFst_append c a b h).1] at e
    simp only [List.getElem?_cons_zero, Option.some.injEq] at e
    have := congrArg List.length e
    simp at this h2
    rw [h1]; omega
theorem libCut (c : UInt8) (l : List UInt8) : (Lib.cut l [c]).1 = cutFst c l ∧ (Lib.cut l [c]).2.1 = cutSnd c l := by
  by_cases h : c ∈ l
  · obtain ⟨a, b, rfl, ha⟩ := cut_first c l h
    unfold Lib.cut
    rw [index_first c a b ha, if_pos (by omega), (cutFst_append c a b ha).1, (cutFst_append c a b ha).2]
    simp
  · have e : Lib.index l [c] = -1 := by
      rcases index_one c l with ⟨h1, _⟩ | ⟨i, h1, h2, h3, h4⟩
      · exact h1
      · exfalso
        have e2 := cutL_none c l h
        rw [h3] at e2
        have := congrArg List.length e2
        simp at this
        exact absurd this (cutL_ne c _)
    unfold Lib.cut
    rw [e, if_neg (by omega), (cutFst_none c l h).1, (cutFst_none c l h).2]
    exact ⟨rfl, rfl⟩
theorem indexByte_pos (c : UInt8) (l : List UInt8) : Lib.indexByte l c = match posOf c l with | some e => (e : Int) | none => -1 := by
  by_cases h : c ∈ l
  · obtain ⟨a, b, rfl, ha⟩ := cut_first c l h
    rw [posOf_append c a b ha]
    have hg := Lib.indexByte_ge (a ++ c :: b) c
    by_cases h1 : Lib.indexByte (a ++ c :: b) c = -1
    · exact absurd (by simp) (Lib.indexByte_none h1 a.length)
    · obtain ⟨o, ho⟩ := Int.eq_ofNat_of_zero_le (show 0 ≤ Lib.indexByte (a ++ c :: b) c by omega)
      obtain ⟨s1, s2⟩ := Lib.indexByte_some ho
      have : o = a.length := by
        rcases Nat.lt_trichotomy o a.length with q | q | q
        · rw [List.getElem?_append_left q] at s1
          exact absurd (List.mem_of_getElem? s1) ha
        · exact q
        · exact absurd (by simp) (s2 a.length q)
      rw [ho, this]
  · have e : posOf c l = none := by unfold posOf; rw [if_neg h]
    rw [e]
    by_cases h1 : Lib.indexByte l c = -1
    · exact h1
    · have hg := Lib.indexByte_ge l c
      obtain ⟨o, ho⟩ := Int.eq_ofNat_of_zero_le (show 0 ≤ Lib.indexByte l c by omega)
      exact absurd (List.mem_of_getElem? (Lib.indexByte_some ho).1) h

theorem cut_any' (l : List UInt8) (c : UInt8) (w : World) (hs : l.length < 4294967281) (hE : Env w) :
    Calls Tryd.prog 39 #[str l, .string ⟨#[c]⟩] w fun e w' => e = .returned (.tuple #[str (cutFst c l), str (cutSnd c l), .bool (Lib.cut l [c]).2.2]) ∧ Ext w w' := by
  obtain ⟨m, hm⟩ := hE.mx
  refine (Tryd.strings_Cut ⟨l.toArray⟩ ⟨#[c]⟩ m w (by simpa [ByteArray.size] using hs) hm).mono ?_
  rintro e w' ⟨rfl, n, rfl⟩
  obtain ⟨c1, c2⟩ := libCut c l
  refine ⟨?_, (Ext.refl _).drewN _⟩
  show Ending.returned (.tuple #[.string ⟨(Lib.cut l [c]).1.toArray⟩, .string ⟨(Lib.cut l [c]).2.1.toArray⟩, .bool (Lib.cut l [c]).2.2]) = _
  rw [c1, c2]

theorem entryText_len (n k a b : Int) : (entryText n k a b).length ≤ 200 := by
  by_cases h : entryText n k a b = []
  · rw [h]; simp
  · obtain ⟨h1, h2, ho, e⟩ := entryText_form h
    rw [e]
    have e1 := decDigits_len n.toNat (by omega)
    have e2 := deedText_len k a b
    have e3 := sum_len (Lib.decDigits n.toNat ++ [58] ++ deedText k a b)
    simp only [List.length_append, List.length_cons, List.length_nil] at e3 ⊢
    omega

/-- what ReadEntry returns -/
def reV : Option (Int × Deed3 × Nat) → Value
  | some (n, (k, a, b), m) => .tuple #[.int .i64 n, deedV k a b, .int .i64 m]
  | none => .tuple #[.int .i64 0, deedV 0 0 0, .int .i64 0]
def RetRe (o : Option (Int × Deed3 × Nat)) (w : World) (e : Ending) (w' : World) : Prop := e = .returned (reV o) ∧ Ext w w'

set_option maxRecDepth 100000 in
set_option maxHeartbeats 1000000 in
theorem implReadE_none (l : List UInt8) (w : World) (HI : Hid (∀ w, Calls Tryd.prog 38 #[str l, .int .u8 59] w fun e w' => e = .returned (.int .i64 (-1)) ∧ w = w')) :
    Calls Tryd.prog 9 #[str l] w (RetRe none w) := by
  go_enter Tryd.func9, Tryd.ntmps9
  go_wp2_with fail
  refine (HI.out _).mono ?_
  rintro e w1 ⟨rfl, rfl⟩
  go_wp2
  exact bodyPost_ret (v := reV none) (by simp [results, Tryd.results9, go_sem]; rfl) rfl ⟨rfl, by (repeat' (first | exact Ext.refl _ | (with_reducible assumption) | (with_reducible refine Ext.alloc ?_ _) | (with_reducible refine Ext.setCell ?_ (by first | exact Nat.le_refl _ | (dsimp only; omega) | (simp; done) | (simp; omega)) _) | (with_reducible refine Ext.drew ?_) | (with_reducible refine Ext.drewN ?_ _) | (refine Ext.trans ?_ (by with_reducible assumption))))⟩

set_option maxRecDepth 100000 in
set_option maxHeartbeats 1000000 in
theorem implReadE_num (l b b2 f r : List UInt8) (e : Nat) (x y : Bool) (w : World) (hl : l.length ≤ 4294967280) (hel : e < l.length)
    (HI : Hid (∀ w, Calls Tryd.prog 38 #[str l, .int .u8 59] w fun q w' => q = .returned (.int .i64 e) ∧ w = w'))
    (HC : Hid (∀ w, Env w → Calls Tryd.prog 39 #[.string ((⟨l.toArray⟩ : ByteArray).extract 0 e), .string ⟨#[35]⟩] w fun q w' => q = .returned (.tuple #[str b, str b2, .bool x]) ∧ Ext w w'))
    (HC2 : Hid (∀ w, Env w → Calls Tryd.prog 39 #[str b, .string ⟨#[58]⟩] w fun q w' => q = .returned (.tuple #[str f, str r, .bool y]) ∧ Ext w w'))
    (HN : Hid (∀ w, Calls Tryd.prog 40 #[str f, .int .i64 2] w fun q w' => q = .returned (.tuple #[.int .i64 0, .bool false]) ∧ w = w')) (HE : Hid (Env w)) :
    Calls Tryd.prog 9 #[str l] w (RetRe none w) := by
  go_enter Tryd.func9, Tryd.ntmps9
  go_wp2_with fail
  refine (HI.out _).mono ?_
  rintro q w1 ⟨rfl, rfl⟩
  go_wp2_with fail
  refine (HC.out _ (HE.out.ext (by (repeat' (first | exact Ext.refl _ | (with_reducible assumption) | (with_reducible refine Ext.alloc ?_ _) | (with_reducible refine Ext.setCell ?_ (by first | exact Nat.le_refl _ | (dsimp only; omega) | (simp; done) | (simp; omega)) _) | (with_reducible refine Ext.drew ?_) | (with_reducible refine Ext.drewN ?_ _) | (refine Ext.trans ?_ (by with_reducible assumption))))))).mono ?_
  rintro q w1 ⟨rfl, h1⟩
  go_wp2_with fail
  refine (HC2.out _ (HE.out.ext (by (repeat' (first | exact Ext.refl _ | (with_reducible assumption) | (with_reducible refine Ext.alloc ?_ _) | (with_reducible refine Ext.setCell ?_ (by first | exact Nat.le_refl _ | (dsimp only; omega) | (simp; done) | (simp; omega)) _) | (with_reducible refine Ext.drew ?_) | (with_reducible refine Ext.drewN ?_ _) | (refine Ext.trans ?_ (by with_reducible assumption))))))).mono ?_
  rintro q w2 ⟨rfl, h2⟩
  replace h2 := h1.trans h2
  clear h1
  obtain ⟨hc2, hf2⟩ := h2.cells
  go_wp2_with fail
  refine (HN.out _).mono ?_
  rintro q w3 ⟨rfl, rfl⟩
  go_wp2
  exact bodyPost_ret (v := reV none) (by simp [results, Tryd.results9, go_sem, *]; rfl) rfl ⟨rfl, by (repeat' (first | exact Ext.refl _ | (with_reducible assumption) | (with_reducible refine Ext.alloc ?_ _) | (with_reducible refine Ext.setCell ?_ (by first | exact Nat.le_refl _ | (dsimp only; omega) | (simp; done) | (simp; omega)) _) | (with_reducible refine Ext.drew ?_) | (with_reducible refine Ext.drewN ?_ _) | (refine Ext.trans ?_ (by with_reducible assumption))))⟩

set_option maxRecDepth 100000 in
set_option maxHeartbeats 1000000 in
theorem implReadE_deed (l b b2 f r : List UInt8) (e : Nat) (n : Int) (x y : Bool) (w : World) (hl : l.length ≤ 4294967280) (hel : e < l.length)
    (HI : Hid (∀ w, Calls Tryd.prog 38 #[str l, .int .u8 59] w fun q w' => q = .returned (.int .i64 e) ∧ w = w'))
    (HC : Hid (∀ w, Env w → Calls Tryd.prog 39 #[.string ((⟨l.toArray⟩ : ByteArray).extract 0 e), .string ⟨#[35]⟩] w fun q w' => q = .returned (.tuple #[str b, str b2, .bool x]) ∧ Ext w w'))
    (HC2 : Hid (∀ w, Env w → Calls Tryd.prog 39 #[str b, .string ⟨#[58]⟩] w fun q w' => q = .returned (.tuple #[str f, str r, .bool y]) ∧ Ext w w'))
    (HN : Hid (∀ w, Calls Tryd.prog 40 #[str f, .int .i64 2] w fun q w' => q = .returned (.tuple #[.int .i64 n, .bool true]) ∧ w = w'))
    (HR : Hid (∀ w, Env w → Calls Tryd.prog 41 #[str r] w fun q w' => q = .returned (.tuple #[deedV 0 0 0, .bool false]) ∧ Ext w w')) (HE : Hid (Env w)) :
    Calls Tryd.prog 9 #[str l] w (RetRe none w) := by
  go_enter Tryd.func9, Tryd.ntmps9
  go_wp2_with fail
  refine (HI.out _).mono ?_
  rintro q w1 ⟨rfl, rfl⟩
  go_wp2_with fail
  refine (HC.out _ (HE.out.ext (by (repeat' (first | exact Ext.refl _ | (with_reducible assumption) | (with_reducible refine Ext.alloc ?_ _) | (with_reducible refine Ext.setCell ?_ (by first | exact Nat.le_refl _ | (dsimp only; omega) | (simp; done) | (simp; omega)) _) | (with_reducible refine Ext.drew ?_) | (with_reducible refine Ext.drewN ?_ _) | (refine Ext.trans ?_ (by with_reducible assumption))))))).mono ?_
  rintro q w1 ⟨rfl, h1⟩
  go_wp2_with fail
  refine (HC2.out _ (HE.out.ext (by (repeat' (first | exact Ext.refl _ | (with_reducible assumption) | (with_reducible refine Ext.alloc ?_ _) | (with_reducible refine Ext.setCell ?_ (by first | exact Nat.le_refl _ | (dsimp only; omega) | (simp; done) | (simp; omega)) _) | (with_reducible refine Ext.drew ?_) | (with_reducible refine Ext.drewN ?_ _) | (refine Ext.trans ?_ (by with_reducible assumption))))))).mono ?_
  rintro q w2 ⟨rfl, h2⟩
  replace h2 := h1.trans h2
  clear h1
  go_wp2_with fail
  refine (HN.out _).mono ?_
  rintro q w3 ⟨rfl, rfl⟩
  go_wp2_with fail
  refine (HR.out _ (HE.out.ext (by (repeat' (first | exact Ext.refl _ | (with_reducible assumption) | (with_reducible refine Ext.alloc ?_ _) | (with_reducible refine Ext.setCell ?_ (by first | exact Nat.le_refl _ | (dsimp only; omega) | (simp; done) | (simp; omega)) _) | (with_reducible refine Ext.drew ?_) | (with_reducible refine Ext.drewN ?_ _) | (refine Ext.trans ?_ (by with_reducible assumption))))))).mono ?_
  rintro q w3 ⟨rfl, h3⟩
  replace h3 := h2.trans h3
  clear h2
  obtain ⟨hc3, hf3⟩ := h3.cells
  have hz3 : w.heap.size < w3.heap.size := Nat.lt_of_lt_of_le (by simp) h3.sz
  go_wp2
  go_quiet (fail)
  go_wp2
  exact bodyPost_ret (v := reV none) (by simp [results, Tryd.results9, go_sem, *]; rfl) rfl ⟨rfl, by (repeat' (first | exact Ext.refl _ | (with_reducible assumption) | (with_reducible refine Ext.alloc ?_ _) | (with_reducible refine Ext.setCell ?_ (by first | exact Nat.le_refl _ | (dsimp only; omega) | (simp; done) | (simp; omega)) _) | (with_reducible refine Ext.drew ?_) | (with_reducible refine Ext.drewN ?_ _) | (refine Ext.trans ?_ (by with_reducible assumption))))⟩
set_option maxRecDepth 100000 in
set_option maxHeartbeats 1000000 in
theorem implReadE_no (l b b2 f r : List UInt8) (e : Nat) (n k a b0 : Int) (t : List UInt8) (x y : Bool) (w : World) (hl : l.length ≤ 4294967280) (hel : e < l.length)
    (HI : Hid (∀ w, Calls Tryd.prog 38 #[str l, .int .u8 59] w fun q w' => q = .returned (.int .i64 e) ∧ w = w'))
    (HC : Hid (∀ w, Env w → Calls Tryd.prog 39 #[.string ((⟨l.toArray⟩ : ByteArray).extract 0 e), .string ⟨#[35]⟩] w fun q w' => q = .returned (.tuple #[str b, str b2, .bool x]) ∧ Ext w w'))
    (HC2 : Hid (∀ w, Env w → Calls Tryd.prog 39 #[str b, .string ⟨#[58]⟩] w fun q w' => q = .returned (.tuple #[str f, str r, .bool y]) ∧ Ext w w'))
    (HN : Hid (∀ w, Calls Tryd.prog 40 #[str f, .int .i64 2] w fun q w' => q = .returned (.tuple #[.int .i64 n, .bool true]) ∧ w = w'))
    (HR : Hid (∀ w, Env w → Calls Tryd.prog 41 #[str r] w fun q w' => q = .returned (.tuple #[deedV k a b0, .bool true]) ∧ Ext w w')) (HE : Hid (Env w))
    (HT : Hid (∀ w, Env w → Calls Tryd.prog 12 #[.int .i64 n, deedV k a b0] w fun q w' => q = .returned (str t) ∧ Ext w w')) (htl : t.length ≤ 200) (hcmp : (t == ((⟨l.toArray⟩ : ByteArray).extract 0 (e + 1)).toList) = false) :
    Calls Tryd.prog 9 #[str l] w (RetRe none w) := by
  go_enter Tryd.func9, Tryd.ntmps9
  go_wp2_with fail
  refine (HI.out _).mono ?_
  rintro q w1 ⟨rfl, rfl⟩
  go_wp2_with fail
  refine (HC.out _ (HE.out.ext (by (repeat' (first | exact Ext.refl _ | (with_reducible assumption) | (with_reducible refine Ext.alloc ?_ _) | (with_reducible refine Ext.setCell ?_ (by first | exact Nat.le_refl _ | (dsimp only; omega) | (simp; done) | (simp; omega)) _) | (with_reducible refine Ext.drew ?_) | (with_reducible refine Ext.drewN ?_ _) | (refine Ext.trans ?_ (by with_reducible assumption))))))).mono ?_
  rintro q w1 ⟨rfl, h1⟩
  go_wp2_with fail
  refine (HC2.out _ (HE.out.ext (by (repeat' (first | exact Ext.refl _ | (with_reducible assumption) | (with_reducible refine Ext.alloc ?_ _) | (with_reducible refine Ext.setCell ?_ (by first | exact Nat.le_refl _ | (dsimp only; omega) | (simp; done) | (simp; omega)) _) | (with_reducible refine Ext.drew ?_) | (with_reducible refine Ext.drewN ?_ _) | (refine Ext.trans ?_ (by with_reducible assumption))))))).mono ?_
  rintro q w2 ⟨rfl, h2⟩
  replace h2 := h1.trans h2
  clear h1
  go_wp2_with fail
  refine (HN.out _).mono ?_
  rintro q w3 ⟨rfl, rfl⟩
  go_wp2_with fail
  refine (HR.out _ (HE.out.ext (by (repeat' (first | exact Ext.refl _ | (with_reducible assumption) | (with_reducible refine Ext.alloc ?_ _) | (with_reducible refine Ext.setCell ?_ (by first | exact Nat.le_refl _ | (dsimp only; omega) | (simp; done) | (simp; omega)) _) | (with_reducible refine Ext.drew ?_) | (with_reducible refine Ext.drewN ?_ _) | (refine Ext.trans ?_ (by with_reducible assumption))))))).mono ?_
  rintro q w3 ⟨rfl, h3⟩
  replace h3 := h2.trans h3
  clear h2
  obtain ⟨hc3, hf3⟩ := h3.cells
  have hz3 : w.heap.size < w3.heap.size := Nat.lt_of_lt_of_le (by simp) h3.sz
  go_wp2
  have q1 : IntKind.i64.wrap ((e : Int) + 1) = (e : Int) + 1 := IntWalk.i64_in _ (by omega)
  have q2 : 0 ≤ (e : Int) + 1 := by omega
  have q3 : ((e : Int) + 1).toNat = e + 1 := by omega
  have q4 : (e : Int) + 1 ≤ (l.length : Int) := by omega
  have q5 : e + 1 ≤ l.length := by omega
  go_region_held3 (fun w' => w'.cell? ⟨w3.heap.size, 0, none⟩ = some (.int .i64 k) ∧ w'.cell? ⟨w3.heap.size, 1, none⟩ = some (.int .i64 a) ∧ w'.cell? ⟨w3.heap.size, 2, none⟩ = some (.int .i64 b0)) (go_keep)
    ((go_at_call 12; refine (HT.out _ (HE.out.ext (by (repeat' (first | exact Ext.refl _ | (with_reducible assumption) | (with_reducible refine Ext.alloc ?_ _) | (with_reducible refine Ext.setCell ?_ (by first | exact Nat.le_refl _ | (dsimp only; omega) | (simp; done) | (simp; omega)) _) | (with_reducible refine Ext.drew ?_) | (with_reducible refine Ext.drewN ?_ _) | (refine Ext.trans ?_ (by with_reducible assumption))))))).mono ?_; rintro q w4 ⟨rfl, h4⟩; (try replace h4 := h4.of_drew); have hce := h4.cells.1))
  clear q1 q2 q3 q4 q5
  replace h4 := (h3.alloc (.cells #[.int .i64 k, .int .i64 a, .int .i64 b0] 25)).trans h4
  obtain ⟨hc4, hf4⟩ := h4.cells
  have hz4 : w.heap.size < w4.heap.size := Nat.lt_of_lt_of_le (by simp) h4.sz
  go_wp2
  exact bodyPost_ret (v := reV none) (by simp [results, Tryd.results9, go_sem, *]; rfl) rfl ⟨rfl, by (repeat' (first | exact Ext.refl _ | (with_reducible assumption) | (with_reducible refine Ext.alloc ?_ _) | (with_reducible refine Ext.setCell ?_ (by first | exact Nat.le_refl _ | (dsimp only; omega) | (simp; done) | (simp; omega)) _) | (with_reducible refine Ext.drew ?_) | (with_reducible refine Ext.drewN ?_ _) | (refine Ext.trans ?_ (by with_reducible assumption))))⟩

set_option maxRecDepth 100000 in
set_option maxHeartbeats 1000000 in
theorem implReadE_ok (l b b2 f r : List UInt8) (e : Nat) (n k a b0 : Int) (t : List UInt8) (x y : Bool) (w : World) (hl : l.length ≤ 4294967280) (hel : e < l.length)
    (HI : Hid (∀ w, Calls Tryd.prog 38 #[str l, .int .u8 59] w fun q w' => q = .returned (.int .i64 e) ∧ w = w'))
    (HC : Hid (∀ w, Env w → Calls Tryd.prog 39 #[.string ((⟨l.toArray⟩ : ByteArray).extract 0 e), .string ⟨#[35]⟩] w fun q w' => q = .returned (.tuple #[str b, str b2, .bool x]) ∧ Ext w w'))
    (HC2 : Hid (∀ w, Env w → Calls Tryd.prog 39 #[str b, .string ⟨#[58]⟩] w fun q w' => q = .returned (.tuple #[str f, str r, .bool y]) ∧ Ext w w'))
    (HN : Hid (∀ w, Calls Tryd.prog 40 #[str f, .int .i64 2] w fun q w' => q = .returned (.tuple #[.int .i64 n, .bool true]) ∧ w = w'))
    (HR : Hid (∀ w, Env w → Calls Tryd.prog 41 #[str r] w fun q w' => q = .returned (.tuple #[deedV k a b0, .bool true]) ∧ Ext w w')) (HE : Hid (Env w))
    (HT : Hid (∀ w, Env w → Calls Tryd.prog 12 #[.int .i64 n, deedV k a b0] w fun q w' => q = .returned (str t) ∧ Ext w w')) (htl : t.length ≤ 200) (hcmp : (t == ((⟨l.toArray⟩ : ByteArray).extract 0 (e + 1)).toList) = true) :
    Calls Tryd.prog 9 #[str l] w (RetRe (some (n, (k, a, b0), e + 1)) w) := by
  go_enter Tryd.func9, Tryd.ntmps9
  go_wp2_with fail
  refine (HI.out _).mono ?_
  rintro q w1 ⟨rfl, rfl⟩
  go_wp2_with fail
  refine (HC.out _ (HE.out.ext (by (repeat' (first | exact Ext.refl _ | (with_reducible assumption) | (with_reducible refine Ext.alloc ?_ _) | (with_reducible refine Ext.setCell ?_ (by first | exact Nat.le_refl _ | (dsimp only; omega) | (simp; done) | (simp; omega)) _) | (with_reducible refine Ext.drew ?_) | (with_reducible refine Ext.drewN ?_ _) | (refine Ext.trans ?_ (by with_reducible assumption))))))).mono ?_
  rintro q w1 ⟨rfl, h1⟩
  go_wp2_with fail
  refine (HC2.out _ (HE.out.ext (by (repeat' (first | exact Ext.refl _ | (with_reducible assumption) | (with_reducible refine Ext.alloc ?_ _) | (with_reducible refine Ext.setCell ?_ (by first | exact Nat.le_refl _ | (dsimp only; omega) | (simp; done) | (simp; omega)) _) | (with_reducible refine Ext.drew ?_) | (with_reducible refine Ext.drewN ?_ _) | (refine Ext.trans ?_ (by with_reducible assumption))))))).mono ?_
  rintro q w2 ⟨rfl, h2⟩
  replace h2 := h1.trans h2
  clear h1
  go_wp2_with fail
  refine (HN.out _).mono ?_
  rintro q w3 ⟨rfl, rfl⟩
  go_wp2_with fail
  refine (HR.out _ (HE.out.ext (by (repeat' (first | exact Ext.refl _ | (with_reducible assumption) | (with_reducible refine Ext.alloc ?_ _) | (with_reducible refine Ext.setCell ?_ (by first | exact Nat.le_refl _ | (dsimp only; omega) | (simp; done) | (simp; omega)) _) | (with_reducible refine Ext.drew ?_) | (with_reducible refine Ext.drewN ?_ _) | (refine Ext.trans ?_ (by with_reducible assumption))))))).mono ?_
  rintro q w3 ⟨rfl, h3⟩
  replace h3 := h2.trans h3
  clear h2
  obtain ⟨hc3, hf3⟩ := h3.cells
  have hz3 : w.heap.size < w3.heap.size := Nat.lt_of_lt_of_le (by simp) h3.sz
  go_wp2
  have q1 : IntKind.i64.wrap ((e : Int) + 1) = (e : Int) + 1 := IntWalk.i64_in _ (by omega)
  have q2 : 0 ≤ (e : Int) + 1 := by omega
  have q3 : ((e : Int) + 1).toNat = e + 1 := by omega
  have q4 : (e : Int) + 1 ≤ (l.length : Int) := by omega
  have q5 : e + 1 ≤ l.length := by omega
  go_region_held3 (fun w' => w'.cell? ⟨w3.heap.size, 0, none⟩ = some (.int .i64 k) ∧ w'.cell? ⟨w3.heap.size, 1, none⟩ = some (.int .i64 a) ∧ w'.cell? ⟨w3.heap.size, 2, none⟩ = some (.int .i64 b0)) (go_keep)
    ((go_at_call 12; refine (HT.out _ (HE.out.ext (by (repeat' (first | exact Ext.refl _ | (with_reducible assumption) | (with_reducible refine Ext.alloc ?_ _) | (with_reducible refine Ext.setCell ?_ (by first | exact Nat.le_refl _ | (dsimp only; omega) | (simp; done) | (simp; omega)) _) | (with_reducible refine Ext.drew ?_) | (with_reducible refine Ext.drewN ?_ _) | (refine Ext.trans ?_ (by with_reducible assumption))))))).mono ?_; rintro q w4 ⟨rfl, h4⟩; (try replace h4 := h4.of_drew); have hce := h4.cells.1))
  clear q1 q2 q3 q4 q5
  replace h4 := (h3.alloc (.cells #[.int .i64 k, .int .i64 a, .int .i64 b0] 25)).trans h4
  obtain ⟨hc4, hf4⟩ := h4.cells
  have hz4 : w.heap.size < w4.heap.size := Nat.lt_of_lt_of_le (by simp) h4.sz
  go_wp2
  go_region
  all_goals go_wp2
  all_goals exact bodyPost_ret (v := reV (some (n, (k, a, b0), e + 1))) (by simp [results, Tryd.results9, go_sem, *]; rfl) rfl ⟨rfl, by (repeat' (first | exact Ext.refl _ | (with_reducible assumption) | (with_reducible refine Ext.alloc ?_ _) | (with_reducible refine Ext.setCell ?_ (by first | exact Nat.le_refl _ | (dsimp only; omega) | (simp; done) | (simp; omega)) _) | (with_reducible refine Ext.drew ?_) | (with_reducible refine Ext.drewN ?_ _) | (refine Ext.trans ?_ (by with_reducible assumption))))⟩

theorem extract_take (l : List UInt8) (n : Nat) : (((⟨l.toArray⟩ : ByteArray).extract 0 n).toList) = l.take n := by
  rw [Lib.toList_data, Lib.extract_data]; simp
theorem extract_str0 (l : List UInt8) (n : Nat) : Value.string ((⟨l.toArray⟩ : ByteArray).extract 0 n) = str (l.take n) := by
  rw [string_str, ← Lib.toList_data, extract_take]

/-- impl.ReadEntry -/
theorem implReadEntry (l : List UInt8) (w : World) (hs : l.length ≤ 4294967280) (hE : Env w) : Calls Tryd.prog 9 #[str l] w (RetRe (readEntry l) w) := by
  have hI : ∀ w, Calls Tryd.prog 38 #[str l, .int .u8 59] w fun q w' => q = .returned (.int .i64 (match posOf 59 l with | some e => (e : Int) | none => -1)) ∧ w = w' := by
    intro w
    refine (Tryd.strings_IndexByte ⟨l.toArray⟩ 59 w).mono ?_
    rintro q w' ⟨rfl, rfl⟩
    exact ⟨by rw [← indexByte_pos]; rfl, rfl⟩
  unfold readEntry
  cases hp : posOf 59 l with
  | none => rw [hp] at hI; exact implReadE_none l w hI
  | some e =>
    rw [hp] at hI
    have hel := (posOf_lt hp).1
    simp only
    have hb1 := (cutFst_len 35 (l.take e)).1
    have htk : (l.take e).length ≤ l.length := List.length_take_le' _ _
    obtain ⟨x, hC⟩ : ∃ x, ∀ w, Env w → Calls Tryd.prog 39 #[.string ((⟨l.toArray⟩ : ByteArray).extract 0 e), .string ⟨#[35]⟩] w fun q w' => q = .returned (.tuple #[str (cutFst 35 (l.take e)), str (cutSnd 35 (l.take e)), .bool x]) ∧ Ext w w' := by
      rw [extract_str0]
      refine ⟨(Lib.cut (l.take e) [35]).2.2, fun w hE => cut_any' _ 35 w (by omega) hE⟩
    obtain ⟨y, hC2⟩ : ∃ y, ∀ w, Env w → Calls Tryd.prog 39 #[str (cutFst 35 (l.take e)), .string ⟨#[58]⟩] w fun q w' => q = .returned (.tuple #[str (cutFst 58 (cutFst 35 (l.take e))), str (cutSnd 58 (cutFst 35 (l.take e))), .bool y]) ∧ Ext w w' :=
      ⟨_, fun w hE => cut_any' _ 58 w (by omega) hE⟩
    generalize hb : cutFst 35 (l.take e) = b at *
    have hf1 := (cutFst_len 58 b).1
    have hf2 := (cutFst_len 58 b).2
    have hN : ∀ o, readL 2 (cutFst 58 b) = o → ∀ w, Calls Tryd.prog 40 #[str (cutFst 58 b), .int .i64 2] w fun q w' => q = .returned (.tuple #[.int .i64 (o.getD 0), .bool o.isSome]) ∧ w = w' := by
      intro o ho w; subst ho; exact readNum_str _ 2 (by omega) (by unfold maxLen; omega) w
    have hR : ∀ o, readDeed (cutSnd 58 b) = o → ∀ w, Env w → Calls Tryd.prog 41 #[str (cutSnd 58 b)] w fun q w' => q = .returned (rdV o) ∧ Ext w w' := by
      intro o ho w hE; subst ho; exact implReadDeed _ w (by omega) hE
    cases hn : readL 2 (cutFst 58 b) with
    | none => exact implReadE_num l b _ _ _ e x y w hs hel hI hC hC2 (hN _ hn) hE
    | some n =>
      cases hd : readDeed (cutSnd 58 b) with
      | none => exact implReadE_deed l b _ _ _ e n x y w hs hel hI hC hC2 (hN _ hn) (hR _ hd) hE
      | some d =>
        obtain ⟨k, a, b0⟩ := d
        have hT : ∀ w, Env w → Calls Tryd.prog 12 #[.int .i64 n, deedV k a b0] w fun q w' => q = .returned (str (entryText n k a b0)) ∧ Ext w w' := fun w hE => implEntry n k a b0 w hE
        by_cases ht : entryText n k a b0 = l.take (e + 1)
        · simp only [ht, if_true]
          exact implReadE_ok l b _ _ _ e n k a b0 _ x y w hs hel hI hC hC2 (hN _ hn) (hR _ hd) hE hT (entryText_len n k a b0) (by rw [extract_take, ht]; simp)
        · simp only [ht, if_false]
          exact implReadE_no l b _ _ _ e n k a b0 _ x y w hs hel hI hC hC2 (hN _ hn) (hR _ hd) hE hT (entryText_len n k a b0) (by rw [extract_take]; simpa using ht)
end Go.Proofs.YtncfnlocdlhagaaDoor
