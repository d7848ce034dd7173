/-
  Plain words on houses: the cars of a hall by ascending ids, valid houses, what is due, the order of the end, texts. Nothing of the program.
-/
import Derived.Test.YtndcnflchkfaeaaMoney2
import Derived.Test.YtndcnflchkfaeaaHs
namespace Go.Proofs.Ytndcnflchkfaeaa
open Go.RowKit
set_option linter.unusedVariables false

/-- a number at its place in an ascending list -/
def insL (x : Int) : List Int → List Int
  | [] => [x]
  | y :: ys => if y < x then y :: insL x ys else x :: y :: ys
def sortL (xs : List Int) : List Int := xs.foldl (fun acc x => insL x acc) []
def posOfL (xs : List Int) : List Int := xs.filter (fun x => decide (0 < x))
def carsOf (xs : List Int) : List Int := sortL (posOfL xs)

theorem insL_perm (x : Int) : ∀ xs, List.Perm (insL x xs) (x :: xs) := by
  intro xs
  induction xs with
  | nil => exact List.Perm.refl _
  | cons y ys ih =>
    unfold insL
    split
    · exact (List.Perm.cons y ih).trans (List.Perm.swap x y ys)
    · exact List.Perm.refl _
theorem insL_sorted (x : Int) : ∀ xs, xs.Pairwise (· ≤ ·) → (insL x xs).Pairwise (· ≤ ·) := by
  intro xs
  induction xs with
  | nil => intro _; simp [insL]
  | cons y ys ih =>
    intro h
    rw [List.pairwise_cons] at h
    unfold insL
    split
    · rename_i hlt
      rw [List.pairwise_cons]
      refine ⟨fun z hz => ?_, ih h.2⟩
      rcases List.mem_cons.1 ((insL_perm x ys).mem_iff.1 hz) with rfl | hz
      · omega
      · exact h.1 z hz
    · rename_i hge
      rw [List.pairwise_cons, List.pairwise_cons]
      refine ⟨fun z hz => ?_, h⟩
      rcases List.mem_cons.1 hz with rfl | hz
      · omega
      · have := h.1 z hz; omega
theorem sortL_snoc (xs : List Int) (x : Int) : sortL (xs ++ [x]) = insL x (sortL xs) := by simp [sortL, List.foldl_append]
theorem sortL_go (xs : List Int) : List.Perm (sortL xs) xs ∧ (sortL xs).Pairwise (· ≤ ·) := by
  suffices h : ∀ (n : Nat) (xs : List Int), xs.length = n → List.Perm (sortL xs) xs ∧ (sortL xs).Pairwise (· ≤ ·) from h _ xs rfl
  intro n
  induction n with
  | zero => intro xs h; obtain rfl := List.eq_nil_of_length_eq_zero h; simp [sortL]
  | succ n ih =>
    intro xs h
    have hne : xs ≠ [] := by intro e; rw [e] at h; simp at h
    rw [← List.dropLast_concat_getLast hne, sortL_snoc]
    obtain ⟨h1, h2⟩ := ih xs.dropLast (by simp [h])
    refine ⟨?_, insL_sorted _ _ h2⟩
    exact (insL_perm _ _).trans ((List.Perm.cons _ h1).trans (List.perm_append_singleton _ _).symm)
theorem sortL_perm (xs : List Int) : List.Perm (sortL xs) xs := (sortL_go xs).1
theorem sortL_sorted (xs : List Int) : (sortL xs).Pairwise (· ≤ ·) := (sortL_go xs).2
theorem sortL_len (xs : List Int) : (sortL xs).length = xs.length := (sortL_perm xs).length_eq
theorem posOfL_snoc (xs : List Int) (x : Int) : posOfL (xs ++ [x]) = posOfL xs ++ (if 0 < x then [x] else []) := by
  unfold posOfL; rw [List.filter_append]; congr 1
  by_cases h : 0 < x <;> simp [h]
theorem posOfL_le (xs : List Int) : (posOfL xs).length ≤ xs.length := List.length_filter_le _ _
theorem carsOf_len (xs : List Int) : (carsOf xs).length = (posOfL xs).length := sortL_len _
/-- an ascending list with the same members is the same -/
theorem sortL_uniq {xs ys : List Int} (h : List.Perm ys xs) (hs : ys.Pairwise (· ≤ ·)) : ys = sortL xs :=
  List.Perm.eq_of_pairwise (fun a b _ _ h1 h2 => Int.le_antisymm h1 h2) hs (sortL_sorted xs) (h.trans (sortL_perm xs).symm)

abbrev Visit4 := Int × Int × Int × Int
def visitCells (v : Visit4) : List Value := [.int .i64 v.1, .int .i64 v.2.1, .int .i64 v.2.2.1, .int .i64 v.2.2.2]

structure HouseD where
  wide : Int
  deep : Int
  cells : List Int
  free : Int
  step : Int
  price : Int
  capp : Int
  clock : Int
  bank : Int
  vs : List Visit4

def visitOk (clock : Int) (v : Visit4) : Bool := stayOk v.2.1 v.2.2.1 v.2.2.2 && decide (v.2.2.2 ≤ clock)
/-- the visits that are left are those of the cars that are left -/
def visitsOk (clock : Int) : List Int → List Visit4 → Bool
  | [], [] => true
  | c :: cs, v :: vs => decide (v.1 = c) && visitOk clock v && visitsOk clock cs vs
  | _, _ => false
def numsOk (h : HouseD) : Bool := decide (0 ≤ h.clock ∧ h.clock ≤ 9999 ∧ 0 ≤ h.bank ∧ h.bank ≤ 99999)
def houseOk (h : HouseD) : Bool := hallOk h.wide h.deep h.cells && tariffOk h.free h.step h.price h.capp && numsOk h && visitsOk h.clock (carsOf h.cells) h.vs
def houseZero : HouseD := ⟨0, 0, [], 0, 0, 0, 0, 0, 0, []⟩

theorem visitsOk_at {clock : Int} {cs : List Int} {vs : List Visit4} {k : Nat} {c : Int} {v : Visit4} (hc : cs[k]? = some c) (hv : vs[k]? = some v) :
    visitsOk clock (cs.drop k) (vs.drop k) = (decide (v.1 = c) && visitOk clock v && visitsOk clock (cs.drop (k + 1)) (vs.drop (k + 1))) := by
  rw [drop_cons hc, drop_cons hv]; rfl
theorem visitsOk_len {clock : Int} : ∀ {cs : List Int} {vs : List Visit4}, visitsOk clock cs vs = true → vs.map (·.1) = cs ∧ ∀ v ∈ vs, visitOk clock v = true := by
  intro cs
  induction cs with
  | nil => intro vs h; cases vs with
    | nil => simp
    | cons v vs => simp [visitsOk] at h
  | cons c cs ih =>
    intro vs h
    cases vs with
    | nil => simp [visitsOk] at h
    | cons v vs =>
      simp only [visitsOk, Bool.and_eq_true, decide_eq_true_eq] at h
      obtain ⟨⟨h1, h2⟩, h3⟩ := h
      obtain ⟨i1, i2⟩ := ih h3
      refine ⟨by simp [h1, i1], fun x hx => ?_⟩
      rcases List.mem_cons.1 hx with rfl | hx
      · exact h2
      · exact i2 x hx
theorem visitsOk_ne {clock : Int} {cs : List Int} {vs : List Visit4} (h : cs.length ≠ vs.length) : visitsOk clock cs vs = false := by
  cases hh : visitsOk clock cs vs with
  | false => rfl
  | true =>
    have := congrArg List.length (visitsOk_len hh).1
    simp at this
    omega

/-- the place of a car's visit -/
def visitAt (id : Int) (vs : List Visit4) : Option Visit4 := vs.find? (fun v => v.1 == id)
def houseStay (h : HouseD) (id : Int) : Option (Int × Int × Int) := if houseOk h then (visitAt id h.vs).map (·.2) else none
def houseDue (h : HouseD) (id : Int) : Int := match houseStay h id with
  | some s => stayDue h.free h.step h.price h.capp s.1 s.2.1 s.2.2 h.clock
  | none => -1
def houseMay (h : HouseD) (id : Int) : Bool := match houseStay h id with
  | some s => mayLeave h.free h.step h.price h.capp s.1 s.2.1 s.2.2 h.clock
  | none => false
def dueOf (h : HouseD) (v : Visit4) : Int := stayDue h.free h.step h.price h.capp v.2.1 v.2.2.1 v.2.2.2 h.clock
def owedSum (h : HouseD) (vs : List Visit4) : Int := vs.foldl (fun a v => a + dueOf h v) 0
def houseOwed (h : HouseD) : Int := if houseOk h then owedSum h h.vs else -1
def endOrder (h : HouseD) : List Int := if houseOk h then
    (if (0 : Int) ∈ h.cells then carsOf h.cells else h.cells.headD 0 :: (carsOf h.cells).filter (fun x => x != h.cells.headD 0)) else []
end Go.Proofs.Ytndcnflchkfaeaa
