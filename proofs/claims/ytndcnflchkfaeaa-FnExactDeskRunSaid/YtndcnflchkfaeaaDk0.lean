/-
  What bookings say (plain: nothing of the program). No condition.
-/
import Derived.Test.YtndcnflchkfaeaaHouseP
import Derived.Test.YtndcnflchkfaeaaVix
namespace Go.Proofs.Ytndcnflchkfaeaa
open Go.RowKit
set_option linter.unusedVariables false
set_option linter.unusedSimpArgs false

/-- a booking: its number, its first hour, the hour behind its last one, its value -/
def bookOk (b : Visit4) : Bool := decide (1 ≤ b.1 ∧ b.1 ≤ 99 ∧ 0 ≤ b.2.1 ∧ b.2.1 ≤ 29 ∧ b.2.1 + 1 ≤ b.2.2.1 ∧ b.2.2.1 ≤ 30 ∧ 0 ≤ b.2.2.2 ∧ b.2.2.2 ≤ 99)
def noBook (id : Int) (bs : List Visit4) : Bool := !bs.any (fun v => v.1 == id)
/-- the bookings from number k on are fine -/
def booksGo (bs : List Visit4) : Nat → Bool
  | 0 => true
  | k + 1 => booksGo bs k && (match bs[k]? with | some b => bookOk b && noBook b.1 (bs.take k) | none => true)
def booksOk (bs : List Visit4) : Bool := decide (bs.length ≤ 7) && booksGo bs bs.length
theorem booksGo_le {bs : List Visit4} {j : Nat} : ∀ {k : Nat}, j ≤ k → booksGo bs k = true → booksGo bs j = true := by
  intro k
  induction k with
  | zero =>
    intro h1 h2
    obtain rfl : j = 0 := by omega
    exact h2
  | succ k ih =>
    intro h1 h2
    by_cases h : j = k + 1
    · subst h; exact h2
    · simp only [booksGo, Bool.and_eq_true] at h2
      exact ih (by omega) h2.1
theorem booksGo_no {bs : List Visit4} {k : Nat} {b : Visit4} (hk : bs[k]? = some b) (h : bookOk b = false ∨ noBook b.1 (bs.take k) = false) : booksOk bs = false := by
  cases hq : booksOk bs with
  | false => rfl
  | true =>
    have hlt : k < bs.length := (List.getElem?_eq_some_iff.1 hk).1
    simp only [booksOk, Bool.and_eq_true] at hq
    have := booksGo_le (j := k + 1) (by omega) hq.2
    simp only [booksGo, hk, Bool.and_eq_true] at this
    rcases h with h | h
    · rw [this.2.1] at h; simp at h
    · rw [this.2.2] at h; simp at h
theorem booksGo_step {bs : List Visit4} {k : Nat} {b : Visit4} (hk : bs[k]? = some b) (hg : booksGo bs k = true) (h1 : bookOk b = true) (h2 : noBook b.1 (bs.take k) = true) : booksGo bs (k + 1) = true := by
  simp [booksGo, hk, hg, h1, h2]
theorem booksGo_iff (bs : List Visit4) : ∀ k, k ≤ bs.length → (booksGo bs k = true ↔ (∀ b ∈ bs.take k, bookOk b = true) ∧ ((bs.take k).map (·.1)).Nodup) := by
  intro k
  induction k with
  | zero => intro _; simp [booksGo]
  | succ k ih =>
    intro hk
    have hb : bs[k]? = some bs[k] := List.getElem?_eq_getElem (by omega)
    rw [take_snocL hb]
    simp only [booksGo, hb, Bool.and_eq_true, ih (by omega), List.map_append, List.map_cons, List.map_nil, List.nodup_append, List.mem_append, List.mem_singleton]
    constructor
    · rintro ⟨⟨h1, h2⟩, h3, h4⟩
      refine ⟨?_, h2, by simp, ?_⟩
      · rintro b (hb | rfl)
        · exact h1 b hb
        · exact h3
      · intro x hx y hy e
        subst hy; subst e
        obtain ⟨v, hv, hv1⟩ := List.mem_map.1 hx
        simp only [noBook, Bool.not_eq_true', List.any_eq_false] at h4
        exact absurd (by simpa using hv1) (h4 v hv)
    · rintro ⟨h1, h2, _, h4⟩
      refine ⟨⟨fun b hb => h1 b (.inl hb), h2⟩, h1 _ (.inr rfl), ?_⟩
      simp only [noBook, Bool.not_eq_true', List.any_eq_false]
      intro v hv
      have := h4 v.1 (List.mem_map_of_mem hv) bs[k].1 rfl
      simpa using this
theorem booksOk_iff (bs : List Visit4) : booksOk bs = true ↔ bs.length ≤ 7 ∧ (∀ b ∈ bs, bookOk b = true) ∧ (bs.map (·.1)).Nodup := by
  simp only [booksOk, Bool.and_eq_true, decide_eq_true_eq]
  rw [booksGo_iff bs bs.length (Nat.le_refl _), List.take_length]
theorem booksOk_perm {a b : List Visit4} (h : a.Perm b) : booksOk a = booksOk b := by
  apply Bool.eq_iff_iff.2
  rw [booksOk_iff, booksOk_iff, h.length_eq, (h.map _).nodup_iff]
  constructor
  · rintro ⟨q1, q2, q3⟩; exact ⟨q1, fun x hx => q2 x (h.mem_iff.2 hx), q3⟩
  · rintro ⟨q1, q2, q3⟩; exact ⟨q1, fun x hx => q2 x (h.mem_iff.1 hx), q3⟩

def inHour (h : Int) (b : Visit4) : Bool := decide (b.2.1 ≤ h ∧ h < b.2.2.1)
def booksAt (bs : List Visit4) (h : Int) : Nat := (bs.filter (inHour h)).length
def mostTo (bs : List Visit4) : Nat → Int
  | 0 => 0
  | k + 1 => max (mostTo bs k) (booksAt bs k : Int)
def booksMost (bs : List Visit4) : Int := if booksOk bs then mostTo bs 30 else -1
theorem booksAt_perm {a b : List Visit4} (h : a.Perm b) (t : Int) : booksAt a t = booksAt b t := (h.filter _).length_eq
theorem mostTo_perm {a b : List Visit4} (h : a.Perm b) : ∀ k, mostTo a k = mostTo b k := by
  intro k
  induction k with
  | zero => rfl
  | succ k ih => rw [mostTo, mostTo, ih, booksAt_perm h]
theorem booksMost_perm {a b : List Visit4} (h : a.Perm b) : booksMost a = booksMost b := by
  unfold booksMost; rw [booksOk_perm h, mostTo_perm h]
theorem booksAt_le (bs : List Visit4) (h : Int) : booksAt bs h ≤ bs.length := List.length_filter_le _ _
theorem mostTo_bd (bs : List Visit4) : ∀ k, 0 ≤ mostTo bs k ∧ mostTo bs k ≤ bs.length := by
  intro k
  induction k with
  | zero => simp [mostTo]
  | succ k ih => have := booksAt_le bs k; simp only [mostTo]; omega

/-- the places by ascending keys, those with the same in their order -/
def byKey (f : Nat → Int) (n : Nat) : Nat → List Nat
  | 0 => []
  | h + 1 => byKey f n h ++ (List.range n).filter (fun k => f k == (h : Int))
def lexLt (f : Nat → Int) (a b : Nat) : Prop := f a < f b ∨ f a = f b ∧ a < b
theorem byKey_mem (f : Nat → Int) (n : Nat) : ∀ h k, k ∈ byKey f n h ↔ k < n ∧ 0 ≤ f k ∧ f k < h := by
  intro h
  induction h with
  | zero => intro k; simp only [byKey, List.not_mem_nil, false_iff]; omega
  | succ h ih => intro k; simp only [byKey, List.mem_append, ih, List.mem_filter, List.mem_range, beq_iff_eq]; omega
theorem byKey_sorted (f : Nat → Int) (n : Nat) : ∀ h, (byKey f n h).Pairwise (lexLt f) := by
  intro h
  induction h with
  | zero => simp [byKey]
  | succ h ih =>
    simp only [byKey, List.pairwise_append]
    refine ⟨ih, ?_, ?_⟩
    · have := (List.pairwise_lt_range (n := n)).filter (fun k => f k == (h : Int))
      refine List.Pairwise.imp_of_mem ?_ this
      intro a b ha hb hab
      simp only [List.mem_filter, beq_iff_eq] at ha hb
      exact .inr ⟨by omega, hab⟩
    · intro a ha b hb
      rw [byKey_mem] at ha
      simp only [List.mem_filter, beq_iff_eq] at hb
      exact .inl (by omega)
theorem lex_nodup {f : Nat → Int} {l : List Nat} (h : l.Pairwise (lexLt f)) : l.Nodup := by
  refine List.Pairwise.imp ?_ h
  intro a b hab e
  subst e
  rcases hab with h | ⟨_, h⟩ <;> omega
theorem byKey_perm (f : Nat → Int) (n H : Nat) (hf : ∀ k, k < n → 0 ≤ f k ∧ f k < H) : (byKey f n H).Perm (List.range n) := by
  rw [List.perm_ext_iff_of_nodup (lex_nodup (byKey_sorted f n H)) List.nodup_range]
  intro k
  rw [byKey_mem, List.mem_range]
  exact ⟨fun h => h.1, fun h => ⟨h, hf k h⟩⟩
/-- whatever is a list of the places in this order is that one -/
theorem byKey_uniq (f : Nat → Int) (n H : Nat) (hf : ∀ k, k < n → 0 ≤ f k ∧ f k < H) {l : List Nat} (hp : l.Perm (List.range n)) (hs : l.Pairwise (lexLt f)) : l = byKey f n H :=
  List.Perm.eq_of_pairwise (fun a b _ _ h1 h2 => by rcases h1 with h1 | ⟨h1, h3⟩ <;> rcases h2 with h2 | ⟨h2, h4⟩ <;> omega) hs (byKey_sorted f n H) (hp.trans (byKey_perm f n H hf).symm)

def keepStep (bs : List Visit4) (places : Int) (s : List Visit4 × List Int) (k : Nat) : List Visit4 × List Int :=
  match bs[k]? with
  | some b => if booksMost (s.1 ++ [b]) ≤ places then (s.1 ++ [b], s.2 ++ [b.1]) else s
  | none => s
def toOf (bs : List Visit4) (k : Nat) : Int := match bs[k]? with | some b => b.2.2.1 | none => 0
def fromOf (bs : List Visit4) (k : Nat) : Int := match bs[k]? with | some b => b.2.1 | none => 0
def keepRun (bs : List Visit4) (places : Int) (ks : List Nat) : List Visit4 × List Int := ks.foldl (keepStep bs places) ([], [])
def booksKeep (bs : List Visit4) (places : Int) : List Int := if booksOk bs = true ∧ 0 ≤ places then sortL (keepRun bs places (byKey (toOf bs) bs.length 31)).2 else []
end Go.Proofs.Ytndcnflchkfaeaa
