/-
  Plain words for the walks over bookings: the numbers in an hour, who is found, the insertion sort (plain: nothing of the program). No condition.
-/
import Derived.Test.YtndcnflchkfaeaaDk4
namespace Go.Proofs.Ytndcnflchkfaeaa
open Go.RowKit
set_option linter.unusedVariables false
set_option linter.unusedSimpArgs false

theorem booksAt_snoc {bs : List Visit4} {k : Nat} {b : Visit4} (h : bs[k]? = some b) (t : Int) : booksAt (bs.take (k + 1)) t = booksAt (bs.take k) t + (if inHour t b then 1 else 0) := by
  rw [take_snocL h, booksAt_append, booksAt_cons]
  have : booksAt [] t = 0 := rfl
  omega
theorem noBook_any {id : Int} {bs : List Visit4} : noBook id bs = true ↔ bs.any (fun v => v.1 == id) = false := by simp [noBook]
theorem vix_neg {id : Int} {bs : List Visit4} (h : noBook id bs = true) : vix id bs = -1 := vix_miss (noBook_any.1 h)
theorem vix_pos {id : Int} {bs : List Visit4} (h : noBook id bs = false) : ∃ k : Nat, k < bs.length ∧ vix id bs = k ∧ idxOf id bs = some k := by
  have ha : bs.any (fun v => v.1 == id) = true := by simpa [noBook] using h
  have hlt : bs.findIdx (fun v => v.1 == id) < bs.length := List.findIdx_lt_length.2 (by simpa using ha)
  exact ⟨bs.findIdx (fun v => v.1 == id), hlt, by unfold vix; rw [if_pos ha], by unfold idxOf; rw [List.findIdx?_eq_some_iff_findIdx_eq]; exact ⟨hlt, rfl⟩⟩
theorem idx_none {id : Int} {bs : List Visit4} (h : noBook id bs = true) : idxOf id bs = none := by
  unfold idxOf
  rw [List.findIdx?_eq_none_iff]
  intro x hx
  have := List.any_eq_false.1 (noBook_any.1 h) x hx
  simpa using this
theorem vix_self {bs : List Visit4} {k : Nat} {b : Visit4} (h : bs[k]? = some b) (hn : noBook b.1 (bs.take k) = true) : vix b.1 bs = k := vix_hit h rfl (noBook_any.1 hn)
theorem vix_early {bs : List Visit4} {k : Nat} {id : Int} (hn : noBook id (bs.take k) = false) : vix id bs < k ∧ 0 ≤ vix id bs := by
  have ha : (bs.take k).any (fun v => v.1 == id) = true := by simpa [noBook] using hn
  obtain ⟨x, hx, hq⟩ := List.any_eq_true.1 ha
  have ha2 : bs.any (fun v => v.1 == id) = true := List.any_eq_true.2 ⟨x, List.mem_of_mem_take hx, hq⟩
  obtain ⟨j, hj, e⟩ := List.mem_take_iff_getElem.1 hx
  have hlt : bs.findIdx (fun v => v.1 == id) < k := by
    apply Decidable.byContradiction
    intro hc
    have := List.not_of_lt_findIdx (p := fun v : Visit4 => v.1 == id) (xs := bs) (i := j) (by omega)
    rw [e] at this
    simp [this] at hq
  unfold vix
  rw [if_pos ha2]
  omega
theorem keep_lenle {α : Type} (p : α → Bool) (l : List α) : (l.filter p).length ≤ l.length := List.length_filter_le p l

/-- the insertion of number i among those ahead of it, at its end -/
theorem ins_exit {f : Nat → Int} {i : Nat} {A B : List Nat} (hp : (A ++ B).Perm (List.range i)) (hs : (A ++ B).Pairwise (lexLt f)) (hb : ∀ b ∈ B, f i < f b) (ha : A = [] ∨ ∃ A2 x, A = A2 ++ [x] ∧ f x ≤ f i) :
    (A ++ i :: B).Perm (List.range (i + 1)) ∧ (A ++ i :: B).Pairwise (lexLt f) := by
  constructor
  · rw [List.range_succ]
    exact List.perm_middle.trans ((hp.cons i).trans (List.perm_append_singleton i _).symm)
  · have hs2 := List.pairwise_append.1 hs
    rw [List.pairwise_append, List.pairwise_cons]
    refine ⟨hs2.1, ⟨fun b hb' => .inl (hb b hb'), hs2.2.1⟩, ?_⟩
    intro a haA y hy
    rcases List.mem_cons.1 hy with rfl | hy
    · have hai : a < y := List.mem_range.1 (hp.mem_iff.1 (List.mem_append_left _ haA))
      rcases ha with rfl | ⟨A2, x, rfl, hx⟩
      · simp at haA
      · rcases List.mem_append.1 haA with h | h
        · have := (List.pairwise_append.1 hs2.1).2.2 a h x (by simp)
          rcases this with h1 | ⟨h1, h2⟩
          · exact .inl (by omega)
          · by_cases h3 : f x = f y
            · exact .inr ⟨by omega, hai⟩
            · exact .inl (by omega)
        · obtain rfl := List.mem_singleton.1 h
          by_cases h3 : f a = f y
          · exact .inr ⟨h3, hai⟩
          · exact .inl (by omega)
    · exact hs2.2.2 a haA y hy
theorem ins_done {f : Nat → Int} {n H : Nat} {A : List Nat} (hf : ∀ k, k < n → 0 ≤ f k ∧ f k < H) (hp : A.Perm (List.range n)) (hs : A.Pairwise (lexLt f)) : A = byKey f n H := byKey_uniq f n H hf hp hs
/-- bookings, those ahead sorted by their numbers -/
theorem insb_exit {A B : List Visit4} {x : Visit4} {L : List Visit4} (hp : (A ++ B).Perm L) (hs : (A ++ B).Pairwise (fun a b => a.1 < b.1)) (hne : ∀ y ∈ L, y.1 ≠ x.1) (hb : ∀ b ∈ B, x.1 < b.1) (ha : A = [] ∨ ∃ A2 y, A = A2 ++ [y] ∧ y.1 ≤ x.1) :
    (A ++ x :: B).Perm (L ++ [x]) ∧ (A ++ x :: B).Pairwise (fun a b => a.1 < b.1) := by
  constructor
  · exact List.perm_middle.trans ((hp.cons x).trans (List.perm_append_singleton x _).symm)
  · have hs2 := List.pairwise_append.1 hs
    rw [List.pairwise_append, List.pairwise_cons]
    refine ⟨hs2.1, ⟨hb, hs2.2.1⟩, ?_⟩
    intro a haA y hy
    rcases List.mem_cons.1 hy with rfl | hy
    · have hna := hne a (hp.mem_iff.1 (List.mem_append_left _ haA))
      rcases ha with rfl | ⟨A2, z, rfl, hz⟩
      · simp at haA
      · rcases List.mem_append.1 haA with h | h
        · have := (List.pairwise_append.1 hs2.1).2.2 a h z (by simp)
          omega
        · obtain rfl := List.mem_singleton.1 h
          omega
    · exact hs2.2.2 a haA y hy
theorem insb_done {A T : List Visit4} {b : Visit4} (hp : A.Perm (T ++ [b])) (hs : A.Pairwise (fun a b => a.1 < b.1)) (hup : (T.map (·.1)).Pairwise (· < ·)) (hne : ∀ c ∈ T, b.1 ≠ c.1) : A = putBook T b := by
  have h2 := List.pairwise_map.1 (put_up hup hne)
  exact List.Perm.eq_of_pairwise (fun a b _ _ h1 h2 => by omega) hs h2 (hp.trans (put_perm T b).symm)
theorem range'_step {i n : Nat} (h : i < n) : List.range' i (n - i) = i :: List.range' (i + 1) (n - (i + 1)) := by
  obtain ⟨d, rfl⟩ : ∃ d, n = i + (d + 1) := ⟨n - i - 1, by omega⟩
  rw [show i + (d + 1) - i = d + 1 by omega, show i + (d + 1) - (i + 1) = d by omega, List.range'_succ]
theorem swap_at {α : Type} (A B : List α) (x y : α) : ((A ++ x :: y :: B).set (A.length + 1) x).set A.length y = A ++ y :: x :: B := by
  induction A with
  | nil => rfl
  | cons a A ih => simp
theorem swap_at' {α : Type} (A B : List α) (x y : α) : ((A ++ x :: y :: B).set A.length y).set (A.length + 1) x = A ++ y :: x :: B := by
  induction A with
  | nil => rfl
  | cons a A ih => simp
theorem list_end {α : Type} (A : List α) : A = [] ∨ ∃ A2 x, A = A2 ++ [x] := by
  rcases List.eq_nil_or_concat A with h | ⟨A2, x, h⟩
  · exact .inl h
  · exact .inr ⟨A2, x, by simpa using h⟩
end Go.Proofs.Ytndcnflchkfaeaa
