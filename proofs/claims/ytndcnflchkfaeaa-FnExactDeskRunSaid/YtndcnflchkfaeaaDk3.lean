/-
  The places of bookings (plain: nothing of the program): who is placed by ascending beginnings, at the least place that is free, has one of the places, and no two that overlap the same. No condition but that the bookings are valid.
-/
import Derived.Test.YtndcnflchkfaeaaDk2
namespace Go.Proofs.Ytndcnflchkfaeaa
open Go.RowKit
set_option linter.unusedVariables false
set_option linter.unusedSimpArgs false

theorem nodup_sub {α : Type} [DecidableEq α] : ∀ {l m : List α}, l.Nodup → (∀ x ∈ l, x ∈ m) → l.length ≤ m.length
  | [], m, _, _ => by simp
  | a :: l, m, hn, hs => by
    have ha : a ∈ m := hs a (by simp)
    have h1 := List.nodup_cons.1 hn
    have := nodup_sub (l := l) (m := m.erase a) h1.2 (fun x hx => (List.mem_erase_of_ne (by rintro rfl; exact h1.1 hx)).2 (hs x (by simp [hx])))
    rw [List.length_erase_of_mem ha] at this
    have : 0 < m.length := List.length_pos_of_mem ha
    simp; omega
def overlap (a b : Visit4) : Bool := decide (a.2.1 < b.2.2.1 ∧ b.2.1 < a.2.2.1)
theorem overlap_comm (a b : Visit4) : overlap a b = overlap b a := by simp only [overlap]; congr 1; apply propext; constructor <;> rintro ⟨h1, h2⟩ <;> exact ⟨h2, h1⟩
def overAt (bs : List Visit4) (b : Visit4) (j : Nat) : Bool := match bs[j]? with | some c => overlap c b | none => false
/-- a place is that of one that overlaps -/
def usedAt (bs : List Visit4) (out : List Int) (b : Visit4) (p : Int) : Bool := (List.range bs.length).any (fun j => (out[j]? == some p) && overAt bs b j)
theorem used_iff {bs : List Visit4} {out : List Int} {b : Visit4} {p : Int} : usedAt bs out b p = true ↔ ∃ (j : Nat) (c : Visit4), bs[j]? = some c ∧ out[j]? = some p ∧ overlap c b = true := by
  simp only [usedAt, List.any_eq_true, List.mem_range, Bool.and_eq_true, beq_iff_eq, overAt]
  constructor
  · rintro ⟨j, hj, h1, h2⟩
    rw [List.getElem?_eq_getElem hj] at h2
    exact ⟨j, bs[j], List.getElem?_eq_getElem hj, h1, h2⟩
  · rintro ⟨j, c, hc, h1, h2⟩
    exact ⟨j, (List.getElem?_eq_some_iff.1 hc).1, h1, by rw [hc]; exact h2⟩
def leastFree (u : Int → Bool) : Nat → Int → Int
  | 0, p => p
  | f + 1, p => if u p then leastFree u f (p + 1) else p
theorem least_ok (u : Int → Bool) : ∀ (f : Nat) (p q : Int), p ≤ q → q < p + f → u q = false → u (leastFree u f p) = false ∧ p ≤ leastFree u f p ∧ leastFree u f p ≤ q ∧ ∀ r, p ≤ r → r < leastFree u f p → u r = true := by
  intro f
  induction f with
  | zero => intro p q h1 h2 _; omega
  | succ f ih =>
    intro p q h1 h2 hq
    rw [leastFree]
    by_cases h : u p = true
    · rw [if_pos h]
      have hne : p ≠ q := fun e => by subst e; rw [h] at hq; simp at hq
      obtain ⟨a, b, c, d⟩ := ih (p + 1) q (by omega) (by push_cast at h2; omega) hq
      refine ⟨a, by omega, c, fun r hr hr2 => ?_⟩
      by_cases e : r = p
      · subst e; exact h
      · exact d r (by omega) hr2
    · rw [if_neg h]
      exact ⟨by simpa using h, by omega, h1, fun r hr hr2 => by omega⟩
theorem least_eq (u : Int → Bool) {f : Nat} {p x : Int} (h : u x = false) (hp : p ≤ x) (hx : x < p + f) (hd : ∀ r, p ≤ r → r < x → u r = true) : leastFree u f p = x := by
  obtain ⟨a, b, c, d⟩ := least_ok u f p x hp hx h
  by_cases e : leastFree u f p = x
  · exact e
  · have := hd _ b (by omega)
    rw [a] at this; simp at this
def placeStep (bs : List Visit4) (out : List Int) (i : Nat) : List Int := match bs[i]? with | some b => out.set i (leastFree (usedAt bs out b) 7 0) | none => out
def placeRun (bs : List Visit4) (ks : List Nat) : List Int := ks.foldl (placeStep bs) (List.replicate bs.length (-1))
def bookPlaces (bs : List Visit4) : List Int := if booksOk bs = true then placeRun bs (byKey (fromOf bs) bs.length 31) else []
structure PInv (bs : List Visit4) (k : Int) (done : List Nat) (out : List Int) : Prop where
  len : out.length = bs.length
  has : ∀ i ∈ done, ∃ p, out[i]? = some p ∧ 0 ≤ p ∧ p < k
  none : ∀ i, i < bs.length → i ∉ done → out[i]? = some (-1)
  apart : ∀ i ∈ done, ∀ j ∈ done, i ≠ j → ∀ a b, bs[i]? = some a → bs[j]? = some b → overlap a b = true → out[i]? ≠ out[j]?
/-- those in an hour, by their numbers -/
theorem booksAt_idx (bs : List Visit4) (h : Int) : ((List.range bs.length).filter (fun j => match bs[j]? with | some c => inHour h c | none => false)).length = booksAt bs h := by
  have e : booksAt bs h = ((pickOf bs (List.range bs.length)).filter (inHour h)).length := by rw [pick_range]; rfl
  rw [e]
  generalize List.range bs.length = l
  induction l with
  | nil => rfl
  | cons a l ih =>
    cases ha : bs[a]? with
    | none => simp only [List.filter_cons, ha, pickOf, List.filterMap_cons]; simpa using ih
    | some c =>
      simp only [List.filter_cons, ha, pickOf, List.filterMap_cons]
      split <;> simp [ih]
/-- among those that overlap one that begins last not all the places are used -/
theorem free_at {bs : List Visit4} {k : Int} {done : List Nat} {out : List Int} {i : Nat} {b : Visit4} (ho : booksOk bs = true) (hf : Fits k bs) (hI : PInv bs k done out) (hd : done.Nodup) (hi : i ∉ done) (hb : bs[i]? = some b)
    (hlt : ∀ j ∈ done, j < bs.length) (hfrom : ∀ j ∈ done, fromOf bs j ≤ fromOf bs i) : ∃ q : Int, 0 ≤ q ∧ q < k ∧ q < 7 ∧ usedAt bs out b q = false := by
  have hil : i < bs.length := (List.getElem?_eq_some_iff.1 hb).1
  have hbi : fromOf bs i = b.2.1 := by simp [fromOf, hb]
  have hbo := (booksOk_iff bs).1 ho
  have hbok := hbo.2.1 b (List.mem_of_getElem? hb)
  simp only [bookOk, decide_eq_true_eq] at hbok
  let A := done.filter (fun j => overAt bs b j)
  have hin : (i :: A).length ≤ booksAt bs b.2.1 := by
    rw [← booksAt_idx]
    refine nodup_sub (List.nodup_cons.2 ⟨fun h => hi (List.mem_filter.1 h).1, hd.filter _⟩) ?_
    intro j hj
    rw [List.mem_filter, List.mem_range]
    rcases List.mem_cons.1 hj with rfl | hj
    · refine ⟨hil, ?_⟩
      rw [hb]; simp only [inHour, decide_eq_true_eq]; omega
    · obtain ⟨h1, h2⟩ := List.mem_filter.1 hj
      have hjl := hlt j h1
      refine ⟨hjl, ?_⟩
      have hjf := hfrom j h1
      simp only [overAt] at h2
      rw [List.getElem?_eq_getElem hjl] at h2 ⊢
      simp only [overlap, inHour, decide_eq_true_eq] at h2 ⊢
      have e : fromOf bs j = (bs[j]).2.1 := by simp [fromOf, List.getElem?_eq_getElem hjl]
      omega
  have hk : ((i :: A).length : Int) ≤ k := by
    have := hf b.2.1.toNat (by omega)
    have e : ((b.2.1.toNat : Nat) : Int) = b.2.1 := Int.toNat_of_nonneg (by omega)
    rw [e] at this
    omega
  have h7 : (i :: A).length ≤ 7 := Nat.le_trans (nodup_sub (m := List.range bs.length) (List.nodup_cons.2 ⟨fun h => hi (List.mem_filter.1 h).1, hd.filter _⟩) (fun j hj => by
    rw [List.mem_range]
    rcases List.mem_cons.1 hj with rfl | hj
    · exact hil
    · exact hlt j (List.mem_filter.1 hj).1)) (by rw [List.length_range]; exact hbo.1)
  by_cases hall : ∃ q : Nat, q < (i :: A).length ∧ usedAt bs out b (q : Int) = false
  · obtain ⟨q, hq, hu⟩ := hall
    exact ⟨q, by omega, by omega, by omega, hu⟩
  · exfalso
    have hc : (List.range (i :: A).length).length ≤ (A.map (fun j => ((out[j]?).getD 0).toNat)).length := by
      refine nodup_sub List.nodup_range ?_
      intro q hq
      rw [List.mem_range] at hq
      have hu : usedAt bs out b (q : Int) = true := by
        cases h : usedAt bs out b (q : Int) with
        | true => rfl
        | false => exact absurd ⟨q, hq, h⟩ hall
      obtain ⟨j, c, h1, h2, h3⟩ := used_iff.1 hu
      have hjl : j < bs.length := (List.getElem?_eq_some_iff.1 h1).1
      have hjd : j ∈ done := by
        by_cases h : j ∈ done
        · exact h
        · have := hI.none j hjl h
          rw [h2] at this; injection this with this; omega
      refine List.mem_map.2 ⟨j, List.mem_filter.2 ⟨hjd, by rw [overAt, h1]; exact h3⟩, by rw [h2]; simp⟩
    simp at hc
    omega
theorem place_step {bs : List Visit4} {k : Int} {done : List Nat} {out : List Int} {i : Nat} (ho : booksOk bs = true) (hf : Fits k bs) (hI : PInv bs k done out) (hd : done.Nodup) (hi : i ∉ done) (hil : i < bs.length)
    (hlt : ∀ j ∈ done, j < bs.length) (hfrom : ∀ j ∈ done, fromOf bs j ≤ fromOf bs i) : PInv bs k (done ++ [i]) (placeStep bs out i) := by
  have hb : bs[i]? = some bs[i] := List.getElem?_eq_getElem hil
  obtain ⟨q, q0, qk, q7, hu⟩ := free_at ho hf hI hd hi hb hlt hfrom
  obtain ⟨a1, a2, a3, a4⟩ := least_ok (usedAt bs out bs[i]) 7 0 q q0 (by omega) hu
  have hs : placeStep bs out i = out.set i (leastFree (usedAt bs out bs[i]) 7 0) := by simp only [placeStep, hb]
  rw [hs]
  generalize leastFree (usedAt bs out bs[i]) 7 0 = x at a1 a2 a3 a4
  have hiol : i < out.length := by rw [hI.len]; exact hil
  have hset : ∀ j, j ≠ i → (out.set i x)[j]? = out[j]? := fun j hj => List.getElem?_set_ne (by omega)
  have hself : (out.set i x)[i]? = some x := List.getElem?_set_self hiol
  have hfree : ∀ j ∈ done, ∀ c, bs[j]? = some c → overlap c bs[i] = true → out[j]? ≠ some x := by
    intro j hj c hc hov e
    have := used_iff.2 ⟨j, c, hc, e, hov⟩
    rw [a1] at this; simp at this
  refine ⟨by rw [List.length_set]; exact hI.len, ?_, ?_, ?_⟩
  · intro j hj
    by_cases e : j = i
    · subst e; exact ⟨x, hself, a2, by omega⟩
    · rw [hset j e]
      rcases List.mem_append.1 hj with hj | hj
      · exact hI.has j hj
      · exact absurd (List.mem_singleton.1 hj) e
  · intro j hj hjn
    have e : j ≠ i := fun e => hjn (by simp [e])
    rw [hset j e]
    exact hI.none j hj (fun h => hjn (by simp [h]))
  · intro j hj l hl hne a b ha hb2 hov
    by_cases ej : j = i
    · subst ej
      have el : l ≠ j := fun e => hne e.symm
      rw [hself, hset l el]
      have hld : l ∈ done := by
        rcases List.mem_append.1 hl with h | h
        · exact h
        · exact absurd (List.mem_singleton.1 h) el
      intro e
      rw [hb] at ha; injection ha with ha; subst ha
      exact hfree l hld b hb2 (by rw [overlap_comm]; exact hov) e.symm
    · by_cases el : l = i
      · subst el
        rw [hself, hset j ej]
        have hjd : j ∈ done := by
          rcases List.mem_append.1 hj with h | h
          · exact h
          · exact absurd (List.mem_singleton.1 h) ej
        intro e
        rw [hb] at hb2; injection hb2 with hb2; subst hb2
        exact hfree j hjd a ha hov e
      · rw [hset j ej, hset l el]
        have f : ∀ y, y ∈ done ++ [i] → y ≠ i → y ∈ done := fun y hy hne => by
          rcases List.mem_append.1 hy with h | h
          · exact h
          · exact absurd (List.mem_singleton.1 h) hne
        exact hI.apart j (f j hj ej) l (f l hl el) hne a b ha hb2 hov
theorem place_go {bs : List Visit4} {k : Int} (ho : booksOk bs = true) (hf : Fits k bs) : ∀ (ks done : List Nat) (out : List Int), (done ++ ks).Pairwise (lexLt (fromOf bs)) → (∀ j ∈ done ++ ks, j < bs.length) → PInv bs k done out → PInv bs k (done ++ ks) (ks.foldl (placeStep bs) out) := by
  intro ks
  induction ks with
  | nil => intro done out _ _ h; simpa using h
  | cons i ks ih =>
    intro done out hp hl hI
    have hn := lex_nodup hp
    rw [List.foldl_cons]
    have hp2 := List.pairwise_append.1 hp
    have := place_step ho hf hI (lex_nodup hp2.1) (fun h => (List.nodup_append.1 hn).2.2 i h i (by simp) rfl) (hl i (by simp)) (fun j hj => hl j (by simp [hj])) (fun j hj => by
      rcases hp2.2.2 j hj i (by simp) with h | h <;> omega)
    have h2 := ih (done ++ [i]) _ (by simpa using hp) (by simpa using hl) this
    simpa using h2
/-- the places of valid bookings -/
theorem places_ok {bs : List Visit4} {k : Int} (ho : booksOk bs = true) (hf : Fits k bs) : PInv bs k (byKey (fromOf bs) bs.length 31) (bookPlaces bs) := by
  unfold bookPlaces placeRun
  rw [if_pos ho]
  have h0 : PInv bs k [] (List.replicate bs.length (-1)) := ⟨by simp, fun i h => absurd h (by simp), fun i h _ => by simp [List.getElem?_replicate, h], fun i h => absurd h (by simp)⟩
  have := place_go ho hf (byKey (fromOf bs) bs.length 31) [] _ (by simpa using byKey_sorted (fromOf bs) bs.length 31) (fun j hj => by
    rw [List.nil_append, byKey_mem] at hj; exact hj.1) h0
  simpa using this
theorem places_len {bs : List Visit4} (ho : booksOk bs = true) : (bookPlaces bs).length = bs.length :=
  (places_ok (k := 7) ho (fun h hh => by
    have := booksAt_le bs h
    have := ((booksOk_iff bs).1 ho).1
    omega)).len
theorem place_has {bs : List Visit4} {k : Int} (ho : booksOk bs = true) (hf : Fits k bs) {i : Nat} (hi : i < bs.length) : ∃ p, (bookPlaces bs)[i]? = some p ∧ 0 ≤ p ∧ p < k :=
  (places_ok ho hf).has i ((byKey_mem _ _ _ _).2 ⟨hi, from_bd ho i hi⟩)
theorem place_apart {bs : List Visit4} (ho : booksOk bs = true) {i j : Nat} {a b : Visit4} (hij : i ≠ j) (ha : bs[i]? = some a) (hb : bs[j]? = some b) (hov : overlap a b = true) : (bookPlaces bs)[i]? ≠ (bookPlaces bs)[j]? :=
  (places_ok (k := 7) ho (fun h hh => by
    have := booksAt_le bs h
    have := ((booksOk_iff bs).1 ho).1
    omega)).apart i ((byKey_mem _ _ _ _).2 ⟨(List.getElem?_eq_some_iff.1 ha).1, from_bd ho i (List.getElem?_eq_some_iff.1 ha).1⟩) j ((byKey_mem _ _ _ _).2 ⟨(List.getElem?_eq_some_iff.1 hb).1, from_bd ho j (List.getElem?_eq_some_iff.1 hb).1⟩) hij a b ha hb hov
end Go.Proofs.Ytndcnflchkfaeaa
