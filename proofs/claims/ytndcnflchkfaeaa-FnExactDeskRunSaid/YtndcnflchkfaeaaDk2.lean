/-
  Who is kept is as many as ever fit (plain: nothing of the program). No condition but that the bookings are valid.
-/
import Derived.Test.YtndcnflchkfaeaaDk1
namespace Go.Proofs.Ytndcnflchkfaeaa
open Go.RowKit
set_option linter.unusedVariables false
set_option linter.unusedSimpArgs false

theorem mostTo_le {bs : List Visit4} {k : Int} (hk : 0 ≤ k) : ∀ n, mostTo bs n ≤ k ↔ ∀ h : Nat, h < n → (booksAt bs h : Int) ≤ k := by
  intro n
  induction n with
  | zero => simp [mostTo, hk]
  | succ n ih =>
    rw [mostTo]
    constructor
    · intro h t ht
      by_cases e : t = n
      · subst e; omega
      · exact (ih.1 (by omega)) t (by omega)
    · intro h
      have h1 := ih.2 (fun t ht => h t (by omega))
      have h2 := h n (by omega)
      omega
theorem most_fits {bs : List Visit4} {k : Int} (ho : booksOk bs = true) (hk : 0 ≤ k) : booksMost bs ≤ k ↔ Fits k bs := by
  unfold booksMost; rw [if_pos ho]; exact mostTo_le hk 30
theorem booksOk_sub {a b : List Visit4} (h : a.Sublist b) (hb : booksOk b = true) : booksOk a = true := by
  rw [booksOk_iff] at hb ⊢
  exact ⟨Nat.le_trans h.length_le hb.1, fun x hx => hb.2.1 x (h.subset hx), hb.2.2.sublist (h.map _)⟩
abbrev pickOf (bs : List Visit4) (ks : List Nat) : List Visit4 := ks.filterMap (fun k => bs[k]?)
theorem keep_greedy (bs : List Visit4) (p : Int) (hp : 0 ≤ p) : ∀ (ks : List Nat) (kept : List Visit4), booksOk (kept ++ pickOf bs ks) = true →
    ks.foldl (keepStep bs p) (kept, kept.map (·.1)) = (greedy p kept (pickOf bs ks), (greedy p kept (pickOf bs ks)).map (·.1)) := by
  intro ks
  induction ks with
  | nil => intro kept _; simp [greedy, pickOf]
  | cons k ks ih =>
    intro kept hb
    rw [List.foldl_cons]
    cases hk : bs[k]? with
    | none =>
      have e1 : pickOf bs (k :: ks) = pickOf bs ks := by simp [pickOf, hk]
      rw [e1] at hb ⊢
      rw [show keepStep bs p (kept, kept.map (·.1)) k = (kept, kept.map (·.1)) by simp [keepStep, hk]]
      exact ih kept hb
    | some b =>
      have e1 : pickOf bs (k :: ks) = b :: pickOf bs ks := by simp [pickOf, hk]
      rw [e1] at hb ⊢
      have hb1 : booksOk (kept ++ [b]) = true := booksOk_sub ((List.append_sublist_append_left kept).2 (List.cons_sublist_cons.2 (List.nil_sublist _))) hb
      rw [greedy]
      by_cases hf : Fits p (kept ++ [b])
      · rw [if_pos hf, show keepStep bs p (kept, kept.map (·.1)) k = (kept ++ [b], (kept ++ [b]).map (·.1)) by simp [keepStep, hk, (most_fits hb1 hp).2 hf]]
        exact ih _ (by simpa using hb)
      · rw [if_neg hf, show keepStep bs p (kept, kept.map (·.1)) k = (kept, kept.map (·.1)) by
          simp only [keepStep, hk]
          rw [if_neg (fun h => hf ((most_fits hb1 hp).1 h))]]
        exact ih kept (booksOk_sub ((List.append_sublist_append_left kept).2 (List.sublist_cons_self _ _)) hb)
theorem pick_take (bs : List Visit4) : ∀ n, pickOf bs (List.range n) = bs.take n := by
  intro n
  induction n with
  | zero => simp [pickOf]
  | succ n ih =>
    rw [pickOf, List.range_succ, List.filterMap_append]
    show pickOf bs (List.range n) ++ _ = _
    rw [ih]
    cases hk : bs[n]? with
    | none =>
      have : bs.length ≤ n := List.getElem?_eq_none_iff.1 hk
      simp [hk]
      omega
    | some b => rw [take_snocL hk]; simp [hk]
theorem pick_range (bs : List Visit4) : pickOf bs (List.range bs.length) = bs := by rw [pick_take, List.take_length]
/-- the bookings by ascending ends -/
abbrev byTo (bs : List Visit4) : List Visit4 := pickOf bs (byKey (toOf bs) bs.length 31)
theorem to_bd {bs : List Visit4} (ho : booksOk bs = true) : ∀ k, k < bs.length → 0 ≤ toOf bs k ∧ toOf bs k < (31 : Nat) := by
  intro k hk
  have hb := (booksOk_iff bs).1 ho |>.2.1 bs[k] (List.getElem_mem hk)
  simp only [bookOk, decide_eq_true_eq] at hb
  simp only [toOf, List.getElem?_eq_getElem hk]
  omega
theorem from_bd {bs : List Visit4} (ho : booksOk bs = true) : ∀ k, k < bs.length → 0 ≤ fromOf bs k ∧ fromOf bs k < (31 : Nat) := by
  intro k hk
  have hb := (booksOk_iff bs).1 ho |>.2.1 bs[k] (List.getElem_mem hk)
  simp only [bookOk, decide_eq_true_eq] at hb
  simp only [fromOf, List.getElem?_eq_getElem hk]
  omega
theorem byTo_perm {bs : List Visit4} (ho : booksOk bs = true) : (byTo bs).Perm bs := by
  have h := (byKey_perm (toOf bs) bs.length 31 (to_bd ho)).filterMap (fun k => bs[k]?)
  have e := pick_range bs
  exact h.trans (by rw [show (List.range bs.length).filterMap (fun k => bs[k]?) = bs from e])
theorem byTo_sorted (bs : List Visit4) : (byTo bs).Pairwise (fun a b => a.2.2.1 ≤ b.2.2.1) := by
  refine List.pairwise_filterMap.2 ((byKey_sorted (toOf bs) bs.length 31).imp ?_)
  intro a a' h b hb b' hb'
  have e1 : toOf bs a = b.2.2.1 := by simp [toOf, hb]
  have e2 : toOf bs a' = b'.2.2.1 := by simp [toOf, hb']
  rcases h with h | h <;> omega
theorem books_nodup {bs : List Visit4} (ho : booksOk bs = true) : bs.Nodup := (List.pairwise_map.1 ((booksOk_iff bs).1 ho).2.2).imp (fun h e => h (congrArg _ e))
/-- who is kept -/
theorem keep_eq {bs : List Visit4} {p : Int} (ho : booksOk bs = true) (hp : 0 ≤ p) : booksKeep bs p = sortL ((greedy p [] (byTo bs)).map (·.1)) := by
  unfold booksKeep keepRun
  rw [if_pos ⟨ho, hp⟩]
  have := keep_greedy bs p hp (byKey (toOf bs) bs.length 31) [] (by rw [List.nil_append, booksOk_perm (byTo_perm ho)]; exact ho)
  simp only [List.map_nil] at this
  rw [this]
theorem fits_nil {p : Int} (hp : 0 ≤ p) : Fits p [] := fun h _ => by simp [booksAt]; exact hp
theorem fits_perm {p : Int} {a b : List Visit4} (h : a.Perm b) (hf : Fits p a) : Fits p b := fun t ht => by rw [← booksAt_perm h]; exact hf t ht
/-- no more could be kept -/
theorem keep_best {bs S : List Visit4} {p : Int} (ho : booksOk bs = true) (hp : 0 ≤ p) (hS : S.Sublist bs) (hf : booksMost S ≤ p) : S.length ≤ (booksKeep bs p).length := by
  rw [keep_eq ho hp, sortL_len, List.length_map]
  have hSo := booksOk_sub hS ho
  have hP : ((byTo bs).filter (fun b => decide (b ∈ S))).Perm S := by
    rw [List.perm_ext_iff_of_nodup (((byTo_perm ho).nodup_iff.2 (books_nodup ho)).filter _) (books_nodup hSo)]
    intro b
    simp only [List.mem_filter, decide_eq_true_eq, (byTo_perm ho).mem_iff]
    exact ⟨fun h => h.2, fun h => ⟨hS.subset h, h⟩⟩
  have := greedy_best p (byTo bs) [] _ (byTo_sorted bs) (List.filter_sublist (p := fun b => decide (b ∈ S))) (by
    rw [List.nil_append]
    exact fits_perm hP.symm ((most_fits hSo hp).1 hf))
  rw [hP.length_eq] at this
  simpa using this
/-- who is kept, in the bookings' own order -/
theorem keep_own {bs : List Visit4} {p : Int} (ho : booksOk bs = true) (hp : 0 ≤ p) :
    (bs.filter (fun b => (booksKeep bs p).contains b.1)).length = (booksKeep bs p).length ∧ booksMost (bs.filter (fun b => (booksKeep bs p).contains b.1)) ≤ p ∧ (booksKeep bs p).Pairwise (· < ·) := by
  obtain ⟨S, hS, hG⟩ := greedy_sub p (byTo bs) []
  rw [List.nil_append] at hG
  have hK := keep_eq ho hp
  rw [hG] at hK
  have hSo : booksOk S = true := booksOk_sub hS (by rw [booksOk_perm (byTo_perm ho)]; exact ho)
  have hmem : ∀ x, x ∈ booksKeep bs p ↔ x ∈ S.map (·.1) := fun x => by rw [hK]; exact (sortL_perm _).mem_iff
  have hP : (bs.filter (fun b => (booksKeep bs p).contains b.1)).Perm S := by
    rw [List.perm_ext_iff_of_nodup ((books_nodup ho).filter _) (books_nodup hSo)]
    intro b
    rw [List.mem_filter]
    simp only [List.contains_iff_mem, hmem, List.mem_map]
    constructor
    · rintro ⟨hb, c, hc, e⟩
      have hcb : c ∈ bs := (byTo_perm ho).mem_iff.1 (hS.subset hc)
      obtain ⟨i, hi, rfl⟩ := List.getElem_of_mem hb
      obtain ⟨j, hj, rfl⟩ := List.getElem_of_mem hcb
      have hn := ((booksOk_iff bs).1 ho).2.2
      have : j = i := by
        have h1 := (List.getElem_inj (xs := bs.map (·.1)) (i := j) (j := i) (h₀ := by simpa using hj) (h₁ := by simpa using hi) hn).1 (by simpa using e)
        exact h1
      subst this; exact hc
    · intro hb
      exact ⟨(byTo_perm ho).mem_iff.1 (hS.subset hb), b, hb, rfl⟩
  refine ⟨by rw [hP.length_eq, hK, sortL_len, List.length_map], ?_, ?_⟩
  · rw [booksMost_perm hP]
    have := greedy_fits p (byTo bs) [] (fits_nil hp)
    rw [hG] at this
    exact (most_fits hSo hp).2 this
  · have h1 : (booksKeep bs p).Pairwise (· ≤ ·) := by rw [hK]; exact sortL_sorted _
    have h2 : (booksKeep bs p).Nodup := by rw [hK, (sortL_perm _).nodup_iff]; exact ((booksOk_iff S).1 hSo).2.2
    exact (List.Pairwise.and h1 h2).imp (fun h => by have := h.1; have := h.2; omega)
end Go.Proofs.Ytndcnflchkfaeaa
