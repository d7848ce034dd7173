/-
  Who is taken by ascending ends is as many as ever fit (plain: nothing of the program). No condition but the order.
-/
import Derived.Test.YtndcnflchkfaeaaDk0
namespace Go.Proofs.Ytndcnflchkfaeaa
open Go.RowKit
set_option linter.unusedVariables false
set_option linter.unusedSimpArgs false

/-- no hour has more bookings than there are places -/
def Fits (k : Int) (F : List Visit4) : Prop := ∀ h : Nat, h < 30 → (booksAt F h : Int) ≤ k
theorem booksAt_append (a b : List Visit4) (h : Int) : booksAt (a ++ b) h = booksAt a h + booksAt b h := by simp [booksAt]
theorem booksAt_cons (e : Visit4) (b : List Visit4) (h : Int) : booksAt (e :: b) h = (if inHour h e then 1 else 0) + booksAt b h := by
  unfold booksAt; rw [List.filter_cons]; split <;> simp <;> omega
theorem booksAt_sub {a b : List Visit4} (h : a.Sublist b) (t : Int) : booksAt a t ≤ booksAt b t := (h.filter _).length_le
theorem fits_sub {k : Int} {a b : List Visit4} (h : a.Sublist b) (hf : Fits k b) : Fits k a := fun t ht => by
  have := booksAt_sub h (t : Int); have := hf t ht; omega
theorem least_from : ∀ (S : List Visit4), S ≠ [] → ∃ f, f ∈ S ∧ ∀ g ∈ S, f.2.1 ≤ g.2.1
  | [], h => absurd rfl h
  | [a], _ => ⟨a, by simp, by simp⟩
  | a :: b :: r, _ => by
    obtain ⟨f, hf, hm⟩ := least_from (b :: r) (by simp)
    by_cases h : a.2.1 ≤ f.2.1
    · refine ⟨a, by simp, fun g hg => ?_⟩
      rcases List.mem_cons.1 hg with rfl | hg
      · omega
      · have := hm g hg; omega
    · refine ⟨f, by simp [hf], fun g hg => ?_⟩
      rcases List.mem_cons.1 hg with rfl | hg
      · omega
      · exact hm g hg
theorem booksAt_erase {S : List Visit4} {f : Visit4} (hf : f ∈ S) (h : Int) : booksAt S h = (if inHour h f then 1 else 0) + booksAt (S.erase f) h := by
  rw [← booksAt_cons]
  exact ((List.perm_cons_erase hf).filter _).length_eq
open Classical in
noncomputable def greedy (k : Int) : List Visit4 → List Visit4 → List Visit4
  | kept, [] => kept
  | kept, e :: r => greedy k (if Fits k (kept ++ [e]) then kept ++ [e] else kept) r
/-- who is taken by ascending ends is as many as ever fit -/
theorem greedy_best (k : Int) : ∀ (L kept S : List Visit4), L.Pairwise (fun a b => a.2.2.1 ≤ b.2.2.1) → S.Sublist L → Fits k (kept ++ S) → kept.length + S.length ≤ (greedy k kept L).length := by
  intro L
  induction L with
  | nil =>
    intro kept S _ hs _
    have := List.sublist_nil.1 hs
    subst this; simp [greedy]
  | cons e r ih =>
    intro kept S hp hs hf
    have hp2 := List.pairwise_cons.1 hp
    rw [greedy]
    by_cases hx : Fits k (kept ++ [e])
    · rw [if_pos hx]
      rcases List.sublist_cons_iff.1 hs with hs | ⟨S', rfl, hs'⟩
      · by_cases hne : S = []
        · subst hne
          have := ih (kept ++ [e]) [] hp2.2 (List.nil_sublist _) (by simpa using hx)
          simp at this ⊢; omega
        · obtain ⟨f, hfS, hm⟩ := least_from S hne
          have hfr : f ∈ r := hs.subset hfS
          have hto := hp2.1 f hfr
          have := ih (kept ++ [e]) (S.erase f) hp2.2 (List.erase_sublist.trans hs) (fun h hh => by
            have h1 := hf h hh
            have h2 := hx h hh
            rw [booksAt_append] at h1 h2 ⊢
            rw [booksAt_append, booksAt_cons e []]
            rw [booksAt_cons e []] at h2
            have h3 := booksAt_erase hfS (h : Int)
            have h0 : booksAt [] (h : Int) = 0 := rfl
            rw [h0] at h2 ⊢
            by_cases he : inHour h e = true
            · rw [if_pos he] at h2 ⊢
              by_cases hfh : inHour h f = true
              · rw [if_pos hfh] at h3; omega
              · have hz : booksAt S h = 0 := by
                  unfold booksAt
                  rw [List.length_eq_zero_iff, List.filter_eq_nil_iff]
                  intro g hg hgh
                  apply hfh
                  have := hm g hg
                  simp only [inHour, decide_eq_true_eq] at he hgh ⊢
                  omega
                rw [hz] at h3; omega
            · rw [if_neg he] at h2 ⊢; omega)
          rw [List.length_erase_of_mem hfS] at this
          have hpos : 0 < S.length := List.length_pos_of_mem hfS
          simp at this; omega
      · have := ih (kept ++ [e]) S' hp2.2 hs' (by simpa using hf)
        simp at this ⊢; omega
    · rw [if_neg hx]
      rcases List.sublist_cons_iff.1 hs with hs | ⟨S', rfl, hs'⟩
      · exact ih kept S hp2.2 hs hf
      · exact absurd (fits_sub (List.append_sublist_append_left kept |>.2 (List.cons_sublist_cons.2 (List.nil_sublist S'))) hf) hx
theorem greedy_fits (k : Int) : ∀ (L kept : List Visit4), Fits k kept → Fits k (greedy k kept L)
  | [], kept, h => h
  | e :: r, kept, h => by
    rw [greedy]; split
    · exact greedy_fits k r _ ‹_›
    · exact greedy_fits k r _ h
theorem greedy_sub (k : Int) : ∀ (L kept : List Visit4), ∃ S, S.Sublist L ∧ greedy k kept L = kept ++ S
  | [], kept => ⟨[], List.Sublist.refl _, by simp [greedy]⟩
  | e :: r, kept => by
    rw [greedy]; split
    · obtain ⟨S, h1, h2⟩ := greedy_sub k r (kept ++ [e])
      exact ⟨e :: S, List.cons_sublist_cons.2 h1, by simp [h2]⟩
    · obtain ⟨S, h1, h2⟩ := greedy_sub k r kept
      exact ⟨S, h1.cons _, h2⟩
end Go.Proofs.Ytndcnflchkfaeaa
