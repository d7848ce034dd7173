/-
  Texts of halls and houses are read back: what is read out of a text is the one hall or house whose text it is (plain: nothing of the program). No condition.
-/
import Derived.Test.YteejdnmmpmcmeaaGreatDoorQ2
import Derived.Test.YteejdnmmpmcmeaaGreatDoorParse
import Derived.Test.YteejdnmmpmcmeaaGreatDoorReadDeed2
import Derived.Test.YteejdnmmpmcmeaaGreatDoorApp
import Derived.Test.YteejdnmmpmcmeaaGreatDoorAlive
import Derived.Test.YteejdnmmpmcmeaaGreatDoorHc
import Derived.Test.YteejdnmmpmcmeaaGreatDoorLin
import Derived.Test.YteejdnmmpmcmeaaGreatDoorAppS
import Derived.Deep.RegionLaw
import Derived.Test.YteejdnmmpmcmeaaGreatDoorReadEntry
namespace Go.Proofs.YteejdnmmpmcmeaaGreatDoor
open Go.RowKit
set_option linter.unusedVariables false
set_option linter.unusedSimpArgs false

theorem tailB_cons (c : UInt8) (x : List UInt8) (r : List (List UInt8)) : tailB c (x :: r) = c :: (x ++ tailB c r) := by simp [tailB]
theorem cutL_join (c : UInt8) : ∀ ps : List (List UInt8), ps ≠ [] → (∀ p ∈ ps, c ∉ p) → cutL c (joinB c ps) = ps := by
  intro ps
  induction ps with
  | nil => intro h; exact absurd rfl h
  | cons x r ih =>
    intro _ h
    cases r with
    | nil => simp only [joinB, tailB, List.flatMap_nil, List.append_nil]; exact cutL_none c x (h x (by simp))
    | cons y r =>
      have e : joinB c (x :: y :: r) = x ++ c :: joinB c (y :: r) := by simp [joinB, tailB_cons]
      rw [e, cutL_append c x _ (h x (by simp)), ih (by simp) (fun p hp => h p (by simp [hp]))]
theorem join_not (c d : UInt8) (hcd : d ≠ c) : ∀ ps : List (List UInt8), (∀ p ∈ ps, d ∉ p) → d ∉ joinB c ps := by
  intro ps h
  cases ps with
  | nil => simp [joinB]
  | cons x r =>
    simp only [joinB, tailB, List.mem_append, List.mem_flatMap, List.mem_cons, not_or, not_exists, not_and]
    exact ⟨h x (by simp), fun y hy => ⟨hcd, h y (by simp [hy])⟩⟩

def rowsL (wide deep : Nat) (xs : List Int) : List (List Int) := (List.range deep).map (fun r => (xs.drop (r * wide)).take wide)
def rowText (row : List Int) : List UInt8 := joinB 44 (row.map cellTok)

theorem list_of_len {xs : List Int} {n : Nat} (h : xs.length = n) : xs = (List.range n).map (fun i => xs[i]?.getD 0) := by
  subst h
  apply List.ext_getElem
  · simp
  · intro i h1 h2; simp only [List.getElem_map, List.getElem_range]; rw [List.getElem?_eq_getElem h1]; rfl

theorem rows_text {wide deep : Nat} {xs : List Int} (h0 : 2 ≤ wide) (h1 : wide ≤ 4) (h2 : 2 ≤ deep) (h3 : deep ≤ 3) (hn : xs.length = wide * deep) :
    hallTextN wide xs xs.length = joinB 47 ((rowsL wide deep xs).map rowText) := by
  obtain rfl | rfl | rfl : wide = 2 ∨ wide = 3 ∨ wide = 4 := by omega
  all_goals
    obtain rfl | rfl : deep = 2 ∨ deep = 3 := by omega
    all_goals
      simp only [Nat.reduceMul] at hn
      rw [list_of_len hn]
      generalize (fun i : Nat => xs[i]?.getD 0) = f
      simp [List.range_succ, hallTextN, cellSep, rowsL, rowText, joinB, tailB, List.range_zero]
theorem rows_flat {wide deep : Nat} {xs : List Int} (h0 : 2 ≤ wide) (h1 : wide ≤ 4) (h2 : 2 ≤ deep) (h3 : deep ≤ 3) (hn : xs.length = wide * deep) :
    (rowsL wide deep xs).flatten = xs ∧ (rowsL wide deep xs).length = deep ∧ (∀ row ∈ rowsL wide deep xs, row.length = wide) := by
  refine ⟨?_, by simp [rowsL], ?_⟩
  · obtain rfl | rfl | rfl : wide = 2 ∨ wide = 3 ∨ wide = 4 := by omega
    all_goals
      obtain rfl | rfl : deep = 2 ∨ deep = 3 := by omega
      all_goals
        simp only [Nat.reduceMul] at hn
        rw [list_of_len hn]
        generalize (fun i : Nat => xs[i]?.getD 0) = f
        simp [List.range_succ, rowsL, List.range_zero]
  · intro row hr
    simp only [rowsL, List.mem_map, List.mem_range] at hr
    obtain ⟨r, hr, rfl⟩ := hr
    simp only [List.length_take, List.length_drop, hn]
    have : (r + 1) * wide ≤ deep * wide := Nat.mul_le_mul_right _ hr
    rw [Nat.add_mul, Nat.one_mul, Nat.mul_comm deep] at this
    omega

/-- what the rows' cells say -/
def cellI (c : List UInt8) : Option Int := if c = [46] then some 0 else readL 2 c
def cellS (c : List UInt8) : Int := if c = [46] then 0 else (readL 4 c).getD (-1)
def hallWords (l : List UInt8) : List (List (List UInt8)) := (cutL 47 l).map (cutL 44)
def wideOf (ps : List (List (List UInt8))) : Int := ((ps.getLast?.map List.length).getD 0 : Nat)
abbrev Hall3 := Int × Int × List Int
def hallParse (l : List UInt8) : Hall3 := (wideOf (hallWords l), ((cutL 47 l).length : Int), (hallWords l).flatten.map cellS)
def rowFine (row : List (List UInt8)) : Bool := decide (row.length ≤ 4) && row.all (fun c => (cellI c).isSome)
def hallFine (l : List UInt8) : Bool := decide ((cutL 47 l).length ≤ 3) && (hallWords l).all rowFine
def readHall (l : List UInt8) : Option Hall3 := if hallOk (hallParse l).1 (hallParse l).2.1 (hallParse l).2.2 = true ∧ hallText (hallParse l).1 (hallParse l).2.1 (hallParse l).2.2 = l then some (hallParse l) else none

theorem readL_24 {c : List UInt8} {x : Int} (h : readL 2 c = some x) : readL 4 c = some x := by
  unfold readL at h ⊢
  split at h
  · rename_i hc; rw [if_pos ⟨hc.1, by omega, hc.2.2⟩]; exact h
  · simp at h
theorem cellI_S {c : List UInt8} {x : Int} (h : cellI c = some x) : cellS c = x := by
  unfold cellI at h; unfold cellS
  split
  · rename_i e; rw [if_pos e] at h; exact (Option.some.inj h)
  · rename_i e; rw [if_neg e] at h; rw [readL_24 h]; rfl
theorem cellI_tok {x : Int} (h0 : 0 ≤ x) (h1 : x ≤ 99) : cellI (cellTok x) = some x := by
  unfold cellI cellTok
  by_cases hx : x = 0
  · subst hx; simp
  · rw [if_neg hx, if_neg]
    · rw [readL_digits 2 x.toNat (by omega) (by omega) (by omega)]; simp; omega
    · intro e
      exact dig_not x.toNat 46 (by decide) (by rw [e]; simp)
theorem cellTok_not {x : Int} {c : UInt8} (hc : isDig c = false) (h46 : c ≠ 46) : c ∉ cellTok x := by
  unfold cellTok
  split
  · simpa using h46
  · exact dig_not _ _ hc

/-- the text of a hall that is fine is read back -/
theorem hall_back {wide deep : Int} {xs : List Int} (hok : hallOk wide deep xs = true) : hallFine (hallText wide deep xs) = true ∧ hallParse (hallText wide deep xs) = (wide, deep, xs) := by
  have hs : shapeOk wide deep xs.length = true ∧ cellsOk [] xs = true := by simpa [hallOk] using hok
  obtain ⟨a0, a1, a2, a3, a4, a5, a6⟩ := shape_bd hs.1
  have hc := ((cellsOk_iff xs []).1 hs.2).1
  obtain ⟨wd, rfl⟩ : ∃ k : Nat, wide = k := ⟨wide.toNat, by omega⟩
  obtain ⟨dp, rfl⟩ : ∃ k : Nat, deep = k := ⟨deep.toNat, by omega⟩
  have hn : xs.length = wd * dp := by exact_mod_cast a6
  have r1 := rows_text (wide := wd) (deep := dp) (xs := xs) (by omega) (by omega) (by omega) (by omega) hn
  obtain ⟨r2, r3, r4⟩ := rows_flat (wide := wd) (deep := dp) (xs := xs) (by omega) (by omega) (by omega) (by omega) hn
  have ht : hallText wd dp xs = joinB 47 ((rowsL wd dp xs).map rowText) := by rw [hallText, if_pos hok, r1]
  have hne : rowsL wd dp xs ≠ [] := by intro e; rw [e] at r3; simp at r3; omega
  have hin : ∀ row ∈ rowsL wd dp xs, ∀ x ∈ row, 0 ≤ x ∧ x ≤ 99 := fun row hr x hx => hc x (by rw [← r2]; exact List.mem_flatten.2 ⟨row, hr, hx⟩)
  have hcut : cutL 47 (hallText wd dp xs) = (rowsL wd dp xs).map rowText := by
    rw [ht]
    refine cutL_join 47 _ (by simpa using hne) ?_
    intro p hp
    simp only [List.mem_map] at hp
    obtain ⟨row, hr, rfl⟩ := hp
    refine join_not 44 47 (by decide) _ ?_
    intro q hq
    simp only [List.mem_map] at hq
    obtain ⟨x, hx, rfl⟩ := hq
    exact cellTok_not (by decide) (by decide)
  have hw : hallWords (hallText wd dp xs) = (rowsL wd dp xs).map (fun row => row.map cellTok) := by
    rw [hallWords, hcut, List.map_map]
    refine List.map_congr_left ?_
    intro row hr
    refine cutL_join 44 _ ?_ ?_
    · intro e
      have := r4 row hr
      rw [List.map_eq_nil_iff.1 e] at this
      simp at this; omega
    · intro q hq
      simp only [List.mem_map] at hq
      obtain ⟨x, hx, rfl⟩ := hq
      exact cellTok_not (by decide) (by decide)
  constructor
  · unfold hallFine
    rw [hcut, hw]
    simp only [List.length_map, r3, Bool.and_eq_true, decide_eq_true_eq, List.all_eq_true, List.mem_map]
    refine ⟨by omega, ?_⟩
    rintro _ ⟨row, hr, rfl⟩
    unfold rowFine
    simp only [List.length_map, r4 row hr, Bool.and_eq_true, decide_eq_true_eq, List.all_eq_true, List.mem_map]
    refine ⟨by omega, ?_⟩
    rintro _ ⟨x, hx, rfl⟩
    rw [cellI_tok (hin row hr x hx).1 (hin row hr x hx).2]; rfl
  · unfold hallParse
    rw [hcut, hw]
    have e1 : wideOf ((rowsL wd dp xs).map (fun row => row.map cellTok)) = wd := by
      unfold wideOf
      rw [List.getLast?_map]
      cases hl : (rowsL wd dp xs).getLast? with
      | none => exact absurd (List.getLast?_eq_none_iff.1 hl) hne
      | some row => simp [r4 row (List.mem_of_getLast? hl)]
    have e2 : ((rowsL wd dp xs).map (fun row => row.map cellTok)).flatten.map cellS = xs := by
      rw [← List.map_flatten, r2, List.map_map]
      refine (List.map_congr_left (g := id) ?_).trans (List.map_id _)
      intro x hx
      exact cellI_S (cellI_tok (hc x hx).1 (hc x hx).2)
    rw [e1, e2]
    simp [r3]
theorem readHall_text {wide deep : Int} {xs : List Int} (hok : hallOk wide deep xs = true) : readHall (hallText wide deep xs) = some (wide, deep, xs) := by
  unfold readHall
  rw [(hall_back hok).2]
  simp [hok]
theorem readHall_fine {l : List UInt8} (h : hallFine l = false) : readHall l = none := by
  unfold readHall
  rw [if_neg]
  rintro ⟨a, b⟩
  rw [← b, (hall_back a).1] at h
  simp at h
theorem readHall_some {l : List UInt8} {h : Hall3} (e : readHall l = some h) : hallOk h.1 h.2.1 h.2.2 = true ∧ hallText h.1 h.2.1 h.2.2 = l := by
  unfold readHall at e
  split at e
  · rename_i hc; cases e; exact hc
  · simp at e

/-- the numbers of a text with commas between them -/
def readNums (many : Nat) (l : List UInt8) : Option (List Int) :=
  if (cutL 44 l).length = many ∧ (cutL 44 l).all (fun c => (readL 5 c).isSome) = true then some ((cutL 44 l).map (fun c => (readL 5 c).getD 0)) else none
def wholeS (l : List UInt8) : Int := (readL 5 l).getD (-1)

theorem nums_cut {xs : List Int} (hne : xs ≠ []) : cutL 44 (numsText xs) = xs.map dec := by
  refine cutL_join 44 _ (by simpa using hne) ?_
  intro p hp
  simp only [List.mem_map] at hp
  obtain ⟨x, _, rfl⟩ := hp
  exact dig_not _ _ (by decide)
theorem read_dec {x : Int} (h0 : 0 ≤ x) (h1 : x ≤ 99999) : readL 5 (dec x) = some x := by
  rw [readL_digits 5 x.toNat (by omega) (by omega) (by omega)]; simp; omega
theorem nums_back {xs : List Int} {many : Nat} (hne : xs ≠ []) (hl : xs.length = many) (h : ∀ x ∈ xs, 0 ≤ x ∧ x ≤ 99999) : readNums many (numsText xs) = some xs := by
  unfold readNums
  rw [nums_cut hne, if_pos]
  · rw [List.map_map]
    congr 1
    refine (List.map_congr_left (g := id) ?_).trans (List.map_id _)
    intro x hx
    show (readL 5 (dec x)).getD 0 = x
    rw [read_dec (h x hx).1 (h x hx).2]; rfl
  · refine ⟨by simpa using hl, ?_⟩
    simp only [List.all_eq_true, List.mem_map]
    rintro _ ⟨x, hx, rfl⟩
    rw [read_dec (h x hx).1 (h x hx).2]; rfl

/-- what the parts of a house's text say -/
def at4 (l : List Int) (k : Nat) : Int := l[k]?.getD 0
def visitOf (l : List Int) : Visit4 := (at4 l 0, at4 l 1, at4 l 2, at4 l 3)
def fourS (l : List UInt8) : List Int := (cutL 44 l).map wholeS
def part (ps : List (List UInt8)) (k : Nat) : List UInt8 := ps[k]?.getD []
/-- the reference's reading -/
def houseFineS (ps : List (List UInt8)) : Bool := decide (4 ≤ ps.length) && (readHall (part ps 0)).isSome && decide ((cutL 44 (part ps 1)).length = 4) && (ps.drop 4).all (fun p => decide ((cutL 44 p).length = 4))
def houseFineI (ps : List (List UInt8)) : Bool := decide (4 ≤ ps.length) && (readHall (part ps 0)).isSome && (readNums 4 (part ps 1)).isSome && (readNums 1 (part ps 2)).isSome && (readNums 1 (part ps 3)).isSome && (ps.drop 4).all (fun p => (readNums 4 p).isSome)
def houseParse (ps : List (List UInt8)) : HouseD :=
  let s := (readHall (part ps 0)).getD (0, 0, [])
  let t := fourS (part ps 1)
  ⟨s.1, s.2.1, s.2.2, at4 t 0, at4 t 1, at4 t 2, at4 t 3, wholeS (part ps 2), wholeS (part ps 3), (ps.drop 4).map (fun p => visitOf (fourS p))⟩
def readHouse (l : List UInt8) : Option HouseD :=
  if houseFineI (cutL 59 l) = true ∧ houseOk (houseParse (cutL 59 l)) = true ∧ houseText (houseParse (cutL 59 l)) = l then some (houseParse (cutL 59 l)) else none

theorem four_nums {m : Nat} {p : List UInt8} {xs : List Int} (h : readNums m p = some xs) : fourS p = xs ∧ (cutL 44 p).length = m := by
  unfold readNums at h
  split at h
  · rename_i hc
    cases h
    refine ⟨?_, hc.1⟩
    refine List.map_congr_left ?_
    intro c hcc
    have := List.all_eq_true.1 hc.2 c hcc
    show (readL 5 c).getD (-1) = (readL 5 c).getD 0
    cases hr : readL 5 c with
    | none => rw [hr] at this; simp at this
    | some x => rfl
  · simp at h
theorem nums_not (c : UInt8) (hc : isDig c = false) (h44 : c ≠ 44) (xs : List Int) : c ∉ numsText xs := by
  refine join_not 44 c h44 _ ?_
  intro p hp
  simp only [List.mem_map] at hp
  obtain ⟨x, _, rfl⟩ := hp
  exact dig_not _ _ hc
theorem hall_not59 {wide deep : Int} {xs : List Int} : (59 : UInt8) ∉ hallText wide deep xs := by
  unfold hallText
  split
  · suffices h : ∀ k, (59 : UInt8) ∉ hallTextN wide xs k from h _
    intro k
    induction k with
    | zero => simp [hallTextN]
    | succ k ih =>
      simp only [hallTextN, List.mem_append, not_or]
      refine ⟨⟨ih, ?_⟩, cellTok_not (by decide) (by decide)⟩
      unfold cellSep
      split
      · simp
      · split <;> simp
  · simp
theorem cut_house {h : HouseD} (hok : houseOk h = true) : cutL 59 (houseText h) = houseParts h := by
  rw [houseText, if_pos hok]
  refine cutL_join 59 _ (by simp [houseParts]) ?_
  intro p hp
  simp only [houseParts, List.mem_cons, List.mem_map] at hp
  rcases hp with rfl | rfl | rfl | rfl | ⟨v, _, rfl⟩
  · exact hall_not59
  · exact nums_not 59 (by decide) (by decide) _
  · exact dig_not _ _ (by decide)
  · exact dig_not _ _ (by decide)
  · exact nums_not 59 (by decide) (by decide) _
theorem house_back {h : HouseD} (hok : houseOk h = true) : houseFineI (cutL 59 (houseText h)) = true ∧ houseParse (cutL 59 (houseText h)) = h := by
  obtain ⟨hh, f0, f1, s0, s1, p0, p1, c0, c1, k0, k1, b0, b1, vl, hv⟩ := house_nums hok
  rw [cut_house hok]
  have n4 : readNums 4 (numsText [h.free, h.step, h.price, h.capp]) = some [h.free, h.step, h.price, h.capp] := nums_back (by simp) rfl (by intro x hx; simp at hx; omega)
  have one : ∀ x : Int, 0 ≤ x → x ≤ 99999 → readNums 1 (dec x) = some [x] := by
    intro x a b
    have := nums_back (xs := [x]) (many := 1) (by simp) rfl (by intro y hy; simp at hy; omega)
    simpa [numsText, joinB, tailB] using this
  have nv : ∀ v ∈ h.vs, readNums 4 (numsText (visitNums v)) = some (visitNums v) := by
    intro v hvv
    have := hv v hvv
    exact nums_back (by simp [visitNums]) rfl (by intro x hx; simp [visitNums] at hx; omega)
  have p0 : part (houseParts h) 0 = hallText h.wide h.deep h.cells := rfl
  have p1 : part (houseParts h) 1 = numsText [h.free, h.step, h.price, h.capp] := rfl
  have p2 : part (houseParts h) 2 = dec h.clock := rfl
  have p3 : part (houseParts h) 3 = dec h.bank := rfl
  have p4 : (houseParts h).drop 4 = h.vs.map (fun v => numsText (visitNums v)) := rfl
  have w : ∀ x : Int, 0 ≤ x → x ≤ 99999 → wholeS (dec x) = x := by
    intro x a b; unfold wholeS; rw [read_dec a b]; rfl
  constructor
  · unfold houseFineI
    rw [p0, p1, p2, p3, p4, readHall_text hh, n4, one _ k0 (by omega), one _ b0 b1]
    have hp : 4 ≤ (houseParts h).length := by simp [houseParts]
    simp only [hp, decide_true, Option.isSome_some, Bool.and_true, Bool.true_and, List.all_eq_true, List.mem_map]
    rintro _ ⟨v, hvv, rfl⟩
    rw [nv v hvv]; rfl
  · unfold houseParse
    rw [p0, p1, p2, p3, p4, readHall_text hh, (four_nums n4).1, w _ k0 (by omega), w _ b0 b1]
    have e : (h.vs.map (fun v => numsText (visitNums v))).map (fun p => visitOf (fourS p)) = h.vs := by
      rw [List.map_map]
      refine (List.map_congr_left (g := id) ?_).trans (List.map_id _)
      intro v hvv
      show visitOf (fourS (numsText (visitNums v))) = v
      rw [(four_nums (nv v hvv)).1]
      rfl
    rw [e]
    rfl
theorem readHouse_text {h : HouseD} (hok : houseOk h = true) : readHouse (houseText h) = some h := by
  obtain ⟨a, b⟩ := house_back hok
  unfold readHouse
  rw [b]
  exact if_pos ⟨a, hok, rfl⟩
theorem readHouse_some {l : List UInt8} {h : HouseD} (e : readHouse l = some h) : houseOk h = true ∧ houseText h = l := by
  unfold readHouse at e
  split at e
  · rename_i hc; cases e; exact hc.2
  · simp at e
/-- what is fine for the program is fine for the reference -/
theorem fine_S {ps : List (List UInt8)} (h : houseFineI ps = true) : houseFineS ps = true := by
  simp only [houseFineI, Bool.and_eq_true, decide_eq_true_eq, List.all_eq_true] at h
  obtain ⟨⟨⟨⟨⟨h0, h1⟩, h2⟩, h3⟩, h4⟩, h5⟩ := h
  simp only [houseFineS, Bool.and_eq_true, decide_eq_true_eq, List.all_eq_true]
  have q : ∀ p, (readNums 4 p).isSome = true → (cutL 44 p).length = 4 := by
    intro p hp
    obtain ⟨x, hx⟩ := Option.isSome_iff_exists.1 hp
    exact (four_nums hx).2
  exact ⟨⟨⟨h0, h1⟩, q _ h2⟩, fun p hp => q p (h5 p hp)⟩
/-- the reference's reading is the program's -/
theorem readHouse_S (l : List UInt8) : readHouse l = if houseFineS (cutL 59 l) = true ∧ houseOk (houseParse (cutL 59 l)) = true ∧ houseText (houseParse (cutL 59 l)) = l then some (houseParse (cutL 59 l)) else none := by
  unfold readHouse
  by_cases hi : houseFineI (cutL 59 l) = true
  · simp only [hi, fine_S hi, true_and]
  · rw [if_neg (fun hc => hi hc.1), if_neg]
    rintro ⟨_, b, c⟩
    have := (house_back b).1
    rw [c] at this
    exact hi this
end Go.Proofs.YteejdnmmpmcmeaaGreatDoor

/-
  The reference's l8Whole and l8Four, the rewrite's readNumbers: what they read. Conditions: texts shorter than 2^32 - 15 bytes, the library's table is laid.
-/
namespace Go.Proofs.YteejdnmmpmcmeaaGreatDoor
open Go.RowKit
set_option linter.unusedVariables false
set_option linter.unusedSimpArgs false

theorem l1Read_strB (q : List UInt8) (hq : q.length ≤ maxLen) (w : World) : Calls Tryz.prog 95 #[str q] w fun e w' => e = .returned (.int .i64 ((readL 4 q).getD (-1))) ∧ w = w' :=
  l1Read_any ⟨q.toArray⟩ w (by simpa [ByteArray.size] using hq)
theorem numL_bd4 (l : List UInt8) (h : l.all isDig = true) (hl : l.length ≤ 4) : numL l ≤ 9999 := by
  match l, hl with
  | [], _ => simp [numL]
  | [a], _ => simp [numL, isDig] at h ⊢; omega
  | [a, b], _ => simp [numL, isDig] at h ⊢; omega
  | [a, b, c], _ => simp [numL, isDig] at h ⊢; omega
  | [a, b, c, d], _ => simp [numL, isDig] at h ⊢; omega
theorem whole_other {l : List UInt8} (h : ¬ l.length = 5) : wholeS l = (readL 4 l).getD (-1) := by
  unfold wholeS readL
  by_cases hc : 1 ≤ l.length ∧ l.length ≤ 4 ∧ (l.length ≤ 1 ∨ l.head? ≠ some 48) ∧ l.all isDig = true
  · rw [if_pos hc, if_pos ⟨hc.1, by omega, hc.2.2⟩]
  · rw [if_neg hc, if_neg (fun q => hc ⟨q.1, by omega, q.2.2⟩)]
theorem whole_five {l : List UInt8} (h : l.length = 5) : wholeS l = if l.head? = some 48 ∨ (readL 4 (l.take 4)).getD (-1) < 0 ∨ (readL 4 (l.drop 4)).getD (-1) < 0 then -1 else 10 * (readL 4 (l.take 4)).getD (-1) + (readL 4 (l.drop 4)).getD (-1) := by
  match l, h with
  | [a, b, c, d, e], _ =>
    have h1 : readL 4 [e] = if isDig e = true then some ((e.toNat : Int) - 48) else none := by simp [readL, numL]
    have h2 : readL 4 [a, b, c, d] = if a ≠ 48 ∧ [a, b, c, d].all isDig = true then some (numL [a, b, c, d]) else none := by simp [readL]
    have h3 : readL 5 [a, b, c, d, e] = if a ≠ 48 ∧ [a, b, c, d].all isDig = true ∧ isDig e = true then some (10 * numL [a, b, c, d] + ((e.toNat : Int) - 48)) else none := by
      have : numL [a, b, c, d, e] = 10 * numL [a, b, c, d] + ((e.toNat : Int) - 48) := numL_snoc [a, b, c, d] e
      simp [readL, this, and_assoc]
    simp only [List.take_succ_cons, List.take_zero, List.drop_succ_cons, List.drop_zero, List.head?_cons, Option.some.injEq]
    unfold wholeS
    rw [h1, h2, h3]
    by_cases q1 : a = 48
    · simp [q1]
    · by_cases q2 : [a, b, c, d].all isDig = true
      · have hb := numL_bd5 [a, b, c, d] q2 (by simp)
        by_cases q3 : isDig e = true
        · have q4 : 0 ≤ (e.toNat : Int) - 48 := by simp [isDig] at q3; omega
          simp only [q1, q2, q3, not_false_eq_true, ne_eq, and_self, if_true, Option.getD_some]
          rw [if_neg (by simp only [false_or, not_or]; constructor <;> omega)]
        · simp [q1, q3]
      · simp only [q1, q2, not_false_eq_true, ne_eq, and_false, and_true, false_and, if_false, Option.getD_none]
        simp

set_option maxRecDepth 100000 in
set_option maxHeartbeats 1000000 in
theorem l8Whole_other (s : ByteArray) (w : World) (h5 : ¬ s.size = 5) (hs : s.size ≤ maxLen) (v : Int) (HR : Hid (∀ w, Calls Tryz.prog 95 #[.string s] w fun e w' => e = .returned (.int .i64 v) ∧ w = w')) :
    Calls Tryz.prog 84 #[.string s] w fun e w' => e = .returned (.int .i64 (v)) ∧ Ext w w' := by
  have h6 : ¬ (s.size : Int) = 5 := by omega
  go_enter Tryz.func84, Tryz.ntmps84
  go_wp2_with fail
  refine (HR.out _).mono ?_
  rintro e w1 ⟨rfl, rfl⟩
  go_wp2
  exact bodyPost_ret (v := .int .i64 (v)) (by simp [results, Tryz.results84, go_sem, *]) rfl ⟨rfl, by (repeat' (first | exact Ext.refl _ | (with_reducible assumption) | (with_reducible refine Ext.alloc ?_ _) | (with_reducible refine Ext.setCell ?_ (by first | exact Nat.le_refl _ | (dsimp only; omega) | (simp; done) | (simp; omega)) _) | (with_reducible refine Ext.drew ?_) | (with_reducible refine Ext.drewN ?_ _) | (refine Ext.trans ?_ (by with_reducible assumption))))⟩

set_option maxRecDepth 100000 in
set_option maxHeartbeats 1000000 in
theorem l8Whole_zero (s : ByteArray) (w : World) (h5 : s.size = 5) (a b : Int) (hz : ((s[0].toNat : Int) == 48) = true)  :
    Calls Tryz.prog 84 #[.string s] w fun e w' => e = .returned (.int .i64 (-1)) ∧ Ext w w' := by
  go_enter Tryz.func84, Tryz.ntmps84
  go_wp2
  exact bodyPost_ret (v := .int .i64 (-1)) (by simp [results, Tryz.results84, go_sem, *]) rfl ⟨rfl, by (repeat' (first | exact Ext.refl _ | (with_reducible assumption) | (with_reducible refine Ext.alloc ?_ _) | (with_reducible refine Ext.setCell ?_ (by first | exact Nat.le_refl _ | (dsimp only; omega) | (simp; done) | (simp; omega)) _) | (with_reducible refine Ext.drew ?_) | (with_reducible refine Ext.drewN ?_ _) | (refine Ext.trans ?_ (by with_reducible assumption))))⟩

set_option maxRecDepth 100000 in
set_option maxHeartbeats 1000000 in
theorem l8Whole_a (s : ByteArray) (w : World) (h5 : s.size = 5) (a b : Int) (hz : ((s[0].toNat : Int) == 48) = false) (ha : a < 0) (HA : Hid (∀ w, Calls Tryz.prog 95 #[.string (s.extract 0 4)] w fun e w' => e = .returned (.int .i64 a) ∧ w = w')) :
    Calls Tryz.prog 84 #[.string s] w fun e w' => e = .returned (.int .i64 (-1)) ∧ Ext w w' := by
  go_enter Tryz.func84, Tryz.ntmps84
  go_wp2_with fail
  refine (HA.out _).mono ?_
  rintro e w1 ⟨rfl, rfl⟩
  go_wp2
  exact bodyPost_ret (v := .int .i64 (-1)) (by simp [results, Tryz.results84, go_sem, *]) rfl ⟨rfl, by (repeat' (first | exact Ext.refl _ | (with_reducible assumption) | (with_reducible refine Ext.alloc ?_ _) | (with_reducible refine Ext.setCell ?_ (by first | exact Nat.le_refl _ | (dsimp only; omega) | (simp; done) | (simp; omega)) _) | (with_reducible refine Ext.drew ?_) | (with_reducible refine Ext.drewN ?_ _) | (refine Ext.trans ?_ (by with_reducible assumption))))⟩

set_option maxRecDepth 100000 in
set_option maxHeartbeats 1000000 in
theorem l8Whole_b (s : ByteArray) (w : World) (h5 : s.size = 5) (a b : Int) (hz : ((s[0].toNat : Int) == 48) = false) (ha : 0 ≤ a) (hb : b < 0) (HA : Hid (∀ w, Calls Tryz.prog 95 #[.string (s.extract 0 4)] w fun e w' => e = .returned (.int .i64 a) ∧ w = w')) (HB : Hid (∀ w, Calls Tryz.prog 95 #[.string (s.extract 4 5)] w fun e w' => e = .returned (.int .i64 b) ∧ w = w')) :
    Calls Tryz.prog 84 #[.string s] w fun e w' => e = .returned (.int .i64 (-1)) ∧ Ext w w' := by
  go_enter Tryz.func84, Tryz.ntmps84
  go_wp2_with fail
  refine (HA.out _).mono ?_
  rintro e w1 ⟨rfl, rfl⟩
  go_wp2_with fail
  refine (HB.out _).mono ?_
  rintro e w1 ⟨rfl, rfl⟩
  go_wp2
  exact bodyPost_ret (v := .int .i64 (-1)) (by simp [results, Tryz.results84, go_sem, *]) rfl ⟨rfl, by (repeat' (first | exact Ext.refl _ | (with_reducible assumption) | (with_reducible refine Ext.alloc ?_ _) | (with_reducible refine Ext.setCell ?_ (by first | exact Nat.le_refl _ | (dsimp only; omega) | (simp; done) | (simp; omega)) _) | (with_reducible refine Ext.drew ?_) | (with_reducible refine Ext.drewN ?_ _) | (refine Ext.trans ?_ (by with_reducible assumption))))⟩

set_option maxRecDepth 100000 in
set_option maxHeartbeats 1000000 in
theorem l8Whole_ok (s : ByteArray) (w : World) (h5 : s.size = 5) (a b : Int) (hz : ((s[0].toNat : Int) == 48) = false) (ha : 0 ≤ a) (ha2 : a ≤ 9999) (hb : 0 ≤ b) (hb2 : b ≤ 9999) (HA : Hid (∀ w, Calls Tryz.prog 95 #[.string (s.extract 0 4)] w fun e w' => e = .returned (.int .i64 a) ∧ w = w')) (HB : Hid (∀ w, Calls Tryz.prog 95 #[.string (s.extract 4 5)] w fun e w' => e = .returned (.int .i64 b) ∧ w = w')) :
    Calls Tryz.prog 84 #[.string s] w fun e w' => e = .returned (.int .i64 (10 * a + b)) ∧ Ext w w' := by
  have q1 : IntKind.i64.wrap (10 * a) = 10 * a := IntWalk.i64_in _ (by omega)
  have q2 : IntKind.i64.wrap (10 * a + b) = 10 * a + b := IntWalk.i64_in _ (by omega)
  go_enter Tryz.func84, Tryz.ntmps84
  go_wp2_with fail
  refine (HA.out _).mono ?_
  rintro e w1 ⟨rfl, rfl⟩
  go_wp2_with fail
  refine (HB.out _).mono ?_
  rintro e w1 ⟨rfl, rfl⟩
  go_wp2_with fail
  refine region_lin (gl [gEq (.string s), gEq (.string (s.extract 0 4)), gEq (.int .i64 a), gEq (.int .i64 (10 * a)), gEq (.string s), gEq (.string (s.extract 4 5)), gEq (.int .i64 b), gEq (.int .i64 (10 * a + b))]) 8 (by kernel_rfl) rfl (by kernel_rfl) (by kernel_rfl) (by kernel_rfl) (gl_mono (gl_cons (gEq_mono _) (gl_cons (gEq_mono _) (gl_cons (gEq_mono _) (gl_cons (gEq_mono _) (gl_cons (gEq_mono _) (gl_cons (gEq_mono _) (gl_cons (gEq_mono _) (gl_cons (gEq_mono _) (gl_nil)))))))))) (k := 9) (by kernel_rfl) (by decide) (ls := [(0, some 23), (1, some 24), (2, some 25), (3, some 26), (4, some 27), (5, some 28), (6, some 29), (7, some 30)]) (by kernel_rfl) (ir := [0, 1, 2, 3, 4, 5, 6, 7]) (by kernel_rfl) ?steps (tl := #[true, true, true, true, true, true, true, true, false]) (by kernel_rfl) ?fin
  case steps =>
    refine StepsL.cons (ps := []) rfl (by kernel_rfl) (fun wi hx => ?_) ?_
    · intro K hK
      go_simp
      exact hK _ _ ⟨.string s, rfl, rfl, Ext.refl _⟩
    refine StepsL.cons (ps := [(0, some 23)]) rfl (by kernel_rfl) (fun wi hx => ?_) ?_
    · intro v0 h0 K hK
      obtain rfl := h0
      go_simp
      exact hK _ _ ⟨.string (s.extract 0 4), rfl, rfl, Ext.refl _⟩
    refine StepsL.cons (ps := [(1, some 24)]) rfl (by kernel_rfl) (fun wi hx => ?_) ?_
    · intro v1 h1 K hK
      obtain rfl := h1
      go_wp2_with fail
      refine (HA.out _).mono ?_
      rintro e w2 ⟨rfl, rfl⟩
      go_simp
      exact hK _ _ ⟨.int .i64 a, rfl, rfl, Ext.refl _⟩
    refine StepsL.cons (ps := [(2, some 25)]) rfl (by kernel_rfl) (fun wi hx => ?_) ?_
    · intro v2 h2 K hK
      obtain rfl := h2
      go_simp
      exact hK _ _ ⟨.int .i64 (10 * a), rfl, rfl, Ext.refl _⟩
    refine StepsL.cons (ps := []) rfl (by kernel_rfl) (fun wi hx => ?_) ?_
    · intro K hK
      go_simp
      exact hK _ _ ⟨.string s, rfl, rfl, Ext.refl _⟩
    refine StepsL.cons (ps := [(4, some 27)]) rfl (by kernel_rfl) (fun wi hx => ?_) ?_
    · intro v4 h4 K hK
      obtain rfl := h4
      go_simp
      exact hK _ _ ⟨.string (s.extract 4 5), rfl, rfl, Ext.refl _⟩
    refine StepsL.cons (ps := [(5, some 28)]) rfl (by kernel_rfl) (fun wi hx => ?_) ?_
    · intro v5 h5 K hK
      obtain rfl := h5
      go_wp2_with fail
      refine (HB.out _).mono ?_
      rintro e w2 ⟨rfl, rfl⟩
      go_simp
      exact hK _ _ ⟨.int .i64 b, rfl, rfl, Ext.refl _⟩
    refine StepsL.cons (ps := [(3, some 26), (6, some 29)]) rfl (by kernel_rfl) (fun wi hx => ?_) StepsL.nil
    · intro v3 h3 v6 h6 K hK
      obtain rfl := h3
      obtain rfl := h6
      go_simp
      exact hK _ _ ⟨.int .i64 (10 * a + b), rfl, rfl, Ext.refl _⟩
  case fin =>
    intro wi hx v0 h0 v1 h1 v2 h2 v3 h3 v4 h4 v5 h5 v6 h6 v7 h7
    obtain rfl := h0
    obtain rfl := h1
    obtain rfl := h2
    obtain rfl := h3
    obtain rfl := h4
    obtain rfl := h5
    obtain rfl := h6
    obtain rfl := h7
    refine wpAny_ready (rs := [8]) (by kernel_rfl) (by simp) ?_
    refine AllReady.cons rfl (fun K hK => ?_) AllReady.nil
    go_simp
    refine hK _ _ ?_
    clear hK K
    refine wpAny_done (by kernel_rfl) ?_ _
    go_wp2
    exact bodyPost_ret (v := .int .i64 (10 * a + b)) (by simp [results, Tryz.results84, go_sem, *]) rfl ⟨rfl, by (repeat' (first | exact Ext.refl _ | (with_reducible assumption) | (with_reducible refine Ext.alloc ?_ _) | (with_reducible refine Ext.setCell ?_ (by first | exact Nat.le_refl _ | (dsimp only; omega) | (simp; done) | (simp; omega)) _) | (with_reducible refine Ext.drew ?_) | (with_reducible refine Ext.drewN ?_ _) | (refine Ext.trans ?_ (by with_reducible assumption))))⟩

theorem l8Whole_any (l : List UInt8) (w : World) (hs : l.length ≤ maxLen) : Calls Tryz.prog 84 #[str l] w fun e w' => e = .returned (.int .i64 (wholeS l)) ∧ Ext w w' := by
  by_cases h : l.length = 5
  · rw [whole_five h]
    have hsz : (⟨l.toArray⟩ : ByteArray).size = 5 := by simpa [ByteArray.size] using h
    have hz0 : ((⟨l.toArray⟩ : ByteArray)[0]'(by rw [hsz]; omega)) = l[0]'(by omega) := by simp [ByteArray.getElem_eq_getElem_data]
    have hh : l.head? = some (l[0]'(by omega)) := by rw [List.head?_eq_getElem?, List.getElem?_eq_getElem]
    have rd : ∀ (i j : Nat) (q : List UInt8), (l.take j).drop i = q → q.length ≤ maxLen → ∀ w, Calls Tryz.prog 95 #[.string ((⟨l.toArray⟩ : ByteArray).extract i j)] w fun e w' => e = .returned (.int .i64 ((readL 4 q).getD (-1))) ∧ w = w' := by
      intro i j q hq hl w
      rw [extract_str ⟨l.toArray⟩ i j q (by simpa using hq)]
      exact l1Read_strB q hl w
    have rA := rd 0 4 (l.take 4) (by simp) (by simp; unfold maxLen; omega)
    have rB := rd 4 5 (l.drop 4) (by rw [List.take_of_length_le (by omega)]) (by simp; unfold maxLen; omega)
    have bd : ∀ (m : Nat) (q : List UInt8), m ≤ 4 → (readL m q).getD (-1) ≤ 9999 := by
      intro m q hm
      cases hr : readL m q with
      | none => simp
      | some x =>
        unfold readL at hr
        split at hr
        · rename_i hc
          cases hr
          exact numL_bd4 q hc.2.2.2 (by omega)
        · simp at hr
    have bA := bd 4 (l.take 4) (by omega)
    have bB := bd 4 (l.drop 4) (by omega)
    by_cases c0 : l.head? = some 48
    · rw [if_pos (.inl c0)]
      rw [hh] at c0
      injection c0 with c0
      exact l8Whole_zero ⟨l.toArray⟩ w hsz 0 0 (by rw [hz0, c0]; rfl)
    · have c1 : ((((⟨l.toArray⟩ : ByteArray)[0]'(by rw [hsz]; omega)).toNat : Int) == 48) = false := by
        rw [hz0, beq_eq_false_iff_ne]
        intro e
        apply c0
        rw [hh]
        congr 1
        exact UInt8.toNat_inj.1 (by have : (48 : UInt8).toNat = 48 := rfl; omega)
      by_cases cA : (readL 4 (l.take 4)).getD (-1) < 0
      · rw [if_pos (.inr (.inl cA))]
        exact l8Whole_a ⟨l.toArray⟩ w hsz _ 0 c1 cA rA
      · by_cases cB : (readL 4 (l.drop 4)).getD (-1) < 0
        · rw [if_pos (.inr (.inr cB))]
          exact l8Whole_b ⟨l.toArray⟩ w hsz _ _ c1 (by omega) cB rA rB
        · rw [if_neg (by rintro (h | h | h); exact c0 h; exact cA h; exact cB h)]
          exact l8Whole_ok ⟨l.toArray⟩ w hsz _ _ c1 (by omega) bA (by omega) bB rA rB
  · rw [whole_other h]
    exact l8Whole_other ⟨l.toArray⟩ w (by simpa [ByteArray.size] using h) (by simpa [ByteArray.size] using hs) _ (fun w => l1Read_strB l hs w)

end Go.Proofs.YteejdnmmpmcmeaaGreatDoor

/-
  impl.ReadHall returns the hall whose text a text is. Conditions: the text is shorter than 2^32 - 15 bytes, the library's table is laid.
-/
namespace Go.Proofs.YteejdnmmpmcmeaaGreatDoor
open Go.RowKit
set_option linter.unusedVariables false
set_option linter.unusedSimpArgs false

abbrev THall : TypeId := 25
abbrev TStr : TypeId := 9
abbrev Z3 : Array Value := #[.int .i64 0, .int .i64 0, .slice none 0 0]
/-- two slices of the call's own of other types lie in other blocks -/
theorem own_ty {w : World} {b1 b2 s1 s2 n1 n2 : Nat} {e1 e2 : TypeId} {v1 v2 : Value} {xs1 xs2 : List Value} (h1 : w.ownsRow b1 e1 s1 v1 n1 xs1) (h2 : w.ownsRow b2 e2 s2 v2 n2 xs2) (ne : e1 ≠ e2) : v1.ownBlock = none ∨ v1.ownBlock ≠ v2.ownBlock := by
  rcases h1.2 with ⟨rfl, _⟩ | ⟨g, cap, cur, rfl, hb, hg, _⟩
  · exact .inl rfl
  · right
    rcases h2.2 with ⟨rfl, _⟩ | ⟨g2, cap2, cur2, rfl, hb2, hg2, _⟩
    · simp [Value.ownBlock]
    · simp only [Value.ownBlock, ne_eq, Option.some.injEq]
      rintro rfl
      rw [hg] at hg2
      injection hg2 with e; injection e with _ e
      exact ne e
theorem own_ty_blk {w : World} {b1 s1 n1 : Nat} {e1 : TypeId} {v1 : Value} {xs1 : List Value} {g : Nat} {t : TypeId} {cs : Array Value} (h1 : w.ownsRow b1 e1 s1 v1 n1 xs1) (h2 : Blk w g t cs) (ne : e1 ≠ t) : v1.ownBlock ≠ some g := by
  rcases h1.2 with ⟨rfl, _⟩ | ⟨g1, cap, cur, rfl, hb, hg, _⟩
  · simp [Value.ownBlock]
  · simp only [Value.ownBlock, ne_eq, Option.some.injEq]
    rintro rfl
    unfold Blk at h2
    rw [hg] at h2
    injection h2 with e; injection e with _ e
    exact ne e
/-- a number is appended to the slice in cell 2 of a block of the call's own -/
theorem app_mid {w1 wr w' : World} {g n b : Nat} {o : Obj} {t : TypeId} {cs : Array Value} {v : Value} {xs : List Value} (X : Ext w1 wr) (B : Blk wr g t cs) (ht : TI ≠ t) (O : wr.ownsRow b TI 1 v n xs) (hb : w1.heap.size ≤ b) (hgrow : (wr.alloc o).grownBy w' v.ownBlock) :
    Ext w1 w' ∧ Blk w' g t cs :=
  ⟨(X.alloc o).grown hgrow (fun q hq => Nat.le_trans hb (O.lt q hq).1), (B.alloc o).grown hgrow (fun e => own_ty_blk O B ht e.symm)⟩
theorem app_own {wr w' : World} {n b : Nat} {o : Obj} {v : Value} {xs : List Value} (O : wr.ownsRow b TI 1 v n xs) (hgrow : (wr.alloc o).grownBy w' v.ownBlock) {b2 s2 n2 : Nat} {v2 : Value} {xs2 : List Value} {e2 : TypeId} (h2 : wr.ownsRow b2 e2 s2 v2 n2 xs2) (ne : e2 ≠ TI) : w'.ownsRow b2 e2 s2 v2 n2 xs2 :=
  (h2.alloc o).kept hgrow (own_ty h2 O ne)
theorem set_own {w' : World} {g i : Nat} {t : TypeId} {cs : Array Value} (B : Blk w' g t cs) {u : Value} {b2 s2 n2 : Nat} {v2 : Value} {xs2 : List Value} {e2 : TypeId} (h2 : w'.ownsRow b2 e2 s2 v2 n2 xs2) (ne : e2 ≠ t) : (w'.setCell ⟨g, i, none⟩ u).ownsRow b2 e2 s2 v2 n2 xs2 :=
  h2.kept (((ExtR.refl g w').setCell (p := ⟨g, i, none⟩) (.inl rfl) u)) (.inr (own_ty_blk h2 B ne))
theorem words_cell {w : World} {base : Nat} {v : Value} {n : Nat} {ps : List (List UInt8)} (h : w.ownsRow base TStr 1 v n (strs ps)) (k : Nat) (hk : k < n) : ∃ g cap p, v = .slice (some ⟨g, 0, none⟩) n cap ∧ ps[k]? = some p ∧ w.cell? ⟨g, k, none⟩ = some (str p) ∧ g < w.heap.size := by
  obtain ⟨g, cap, rfl⟩ := Joins.ownsRow_form h (by omega)
  have hl : ps.length = n := by have := h.1; simpa [strs] using this
  exact ⟨g, cap, ps[k]'(by omega), rfl, List.getElem?_eq_getElem (by omega), part_cell h k hk _ (List.getElem?_eq_getElem (by omega)), (h.lt g rfl).2⟩
theorem words_form {w : World} {base : Nat} {v : Value} {n : Nat} {ps : List (List UInt8)} (h : w.ownsRow base TStr 1 v n (strs ps)) : ∃ p cap, v = .slice p n cap := by
  rcases h.2 with ⟨rfl, rfl⟩ | ⟨g, cap, cur, rfl, _⟩
  · exact ⟨none, 0, rfl⟩
  · exact ⟨_, cap, rfl⟩

/-- what ReadHall hands back -/
def RetHallB (o : Option Hall3) (w : World) (e : Ending) (w' : World) : Prop :=
  ∃ p n cap, n = (o.getD (0, 0, [])).2.2.length ∧ e = .returned (.tuple #[hallV (o.getD (0, 0, [])).1 (o.getD (0, 0, [])).2.1 p n cap, .bool o.isSome]) ∧ w'.ownsRow w.heap.size TI 1 (.slice p n cap) n (ivs (o.getD (0, 0, [])).2.2) ∧ Ext w w'
theorem ret_hall_no {o : Option Hall3} {w w' : World} (h : o = none) (hx : Ext w w') : RetHallB o w (.returned (.tuple #[hallV 0 0 none 0 0, .bool false])) w' := by
  subst h; exact ⟨none, 0, 0, rfl, rfl, World.ownsRow_nil _ _ _ _, hx⟩
theorem ret_hall_yes {o : Option Hall3} {wd dp : Int} {xs : List Int} {w w' : World} {p : Option Addr} {n cap : Nat} (h : o = some (wd, dp, xs)) (hn : n = xs.length) (ho : w'.ownsRow w.heap.size TI 1 (.slice p n cap) n (ivs xs)) (hx : Ext w w') : RetHallB o w (.returned (.tuple #[hallV wd dp p n cap, .bool true])) w' := by
  subst h; subst hn; exact ⟨p, _, cap, rfl, rfl, ho, hx⟩

/-- the words of the first rows -/
def wordsTo (rows : List (List UInt8)) (k : Nat) : List (List (List UInt8)) := (rows.take k).map (cutL 44)
theorem wordsTo_all (l : List UInt8) {k : Nat} (h : (cutL 47 l).length ≤ k) : wordsTo (cutL 47 l) k = hallWords l := by
  unfold wordsTo hallWords; rw [List.take_of_length_le h]
theorem wordsTo_snoc {rows : List (List UInt8)} {k : Nat} {q : List UInt8} (h : rows[k]? = some q) : wordsTo rows (k + 1) = wordsTo rows k ++ [cutL 44 q] := by
  unfold wordsTo; rw [take_snocL h, List.map_append]; rfl
theorem wideOf_snoc (ps : List (List (List UInt8))) (r : List (List UInt8)) : wideOf (ps ++ [r]) = r.length := by simp [wideOf]
def cellsTo (ps : List (List (List UInt8))) : List Int := ps.flatten.map cellS
theorem cellsTo_snoc (ps : List (List (List UInt8))) (r : List (List UInt8)) : cellsTo (ps ++ [r]) = cellsTo ps ++ r.map cellS := by simp [cellsTo]
theorem fine_row {l : List UInt8} {k : Nat} {q : List UInt8} (h : (cutL 47 l)[k]? = some q) (hf : rowFine (cutL 44 q) = false) : readHall l = none := by
  refine readHall_fine ?_
  unfold hallFine
  rw [Bool.and_eq_false_iff]; right
  rw [List.all_eq_false]
  exact ⟨cutL 44 q, List.mem_map_of_mem (List.mem_of_getElem? h), by simp [hf]⟩
theorem row_long {r : List (List UInt8)} (h : 4 < r.length) : rowFine r = false := by simp [rowFine]; omega
theorem row_bad {r : List (List UInt8)} {j : Nat} {c : List UInt8} (h : r[j]? = some c) (hc : cellI c = none) : rowFine r = false := by
  unfold rowFine
  rw [Bool.and_eq_false_iff]; right
  rw [List.all_eq_false]
  exact ⟨c, List.mem_of_getElem? h, by simp [hc]⟩
theorem sum_zero_cells : ((Value.agg Z3).cells) = Z3 := rfl
theorem readHall_val (l : List UInt8) : readHall l = if hallOk (hallParse l).1 (hallParse l).2.1 (hallParse l).2.2 = true ∧ hallText (hallParse l).1 (hallParse l).2.1 (hallParse l).2.2 = l then some (hallParse l) else none := rfl

set_option maxRecDepth 100000 in
set_option maxHeartbeats 1000000 in
theorem implReadHall (l : List UInt8) (w : World) (hs : l.length < 4294967281) (hE : Env w) : Calls Tryz.prog 86 #[str l] w (RetHallB (readHall l) w) := by
  have HS : Hid (∀ q : List UInt8, q.length < 4294967281 → ∀ c w, Env w → Calls Tryz.prog 85 #[str q, .string ⟨#[c]⟩] w fun e w' => ∃ v, e = .returned v ∧ w'.ownsRow w.heap.size TStr 1 v (cutL c q).length (strs (cutL c q)) ∧ Ext w w') :=
    fun q hq c w hE => split_any ⟨q.toArray⟩ c w (by simpa [ByteArray.size] using hq) hE
  have hlen := cutL_len 47 l
  have HL : Hid (∀ p ∈ cutL 47 l, p.length < 4294967281) := fun p hp => Nat.lt_of_le_of_lt (hlen.1 p hp) hs
  have HR : Hid (∀ (q : List UInt8) (x : Int) (b : Bool), q.length < 4294967281 → (readL 2 q).getD 0 = x → (readL 2 q).isSome = b → ∀ w, Calls Tryz.prog 97 #[str q, .int .i64 2] w fun e w' => e = .returned (.tuple #[.int .i64 x, .bool b]) ∧ w = w') := by
    intro q x b hq hx hb w
    subst hx; subst hb
    exact readNum_str q 2 (by omega) (by unfold maxLen; omega) w
  have HE := Lib.hid hE
  have hlen2 := hlen.2
  have hpos : 0 < (cutL 47 l).length := List.length_pos_iff.2 (cutL_ne 47 l)
  clear hlen hE
  go_enter Tryz.func86, Tryz.ntmps86
  go_wp2_with fail
  refine (HS.out l hs 47 _ (HE.out.ext (by (repeat' (first | exact Ext.refl _ | (with_reducible assumption) | (with_reducible refine Ext.alloc ?_ _) | (with_reducible refine Ext.setCell ?_ (by first | exact Nat.le_refl _ | (dsimp only; omega) | (simp; done) | (simp; omega)) _) | (with_reducible refine Ext.drew ?_) | (with_reducible refine Ext.drewN ?_ _) | (refine Ext.trans ?_ (by with_reducible assumption))))))).mono ?_
  rintro e w1 ⟨v, rfl, hown, h1⟩
  have hown1 := Lib.hid (show w1.ownsRow (w.heap.size + 1) TStr 1 v (cutL 47 l).length (strs (cutL 47 l)) by simpa using hown)
  have hX1 : Ext w w1 := by (repeat' (first | exact Ext.refl _ | (with_reducible assumption) | (with_reducible refine Ext.alloc ?_ _) | (with_reducible refine Ext.setCell ?_ (by first | exact Nat.le_refl _ | (dsimp only; omega) | (simp; done) | (simp; omega)) _) | (with_reducible refine Ext.drew ?_) | (with_reducible refine Ext.drewN ?_ _) | (refine Ext.trans ?_ (by with_reducible assumption))))
  have HZ1 : Hid (Blk w1 w.heap.size THall Z3) := (Blk.new w _ _).ext h1
  have hz1 : w.heap.size < w1.heap.size := HZ1.out.lt
  have HX1 := Lib.hid hX1
  clear hown h1 hX1
  obtain ⟨gr, cr, rfl⟩ := Joins.ownsRow_form hown1.out hpos
  generalize hRq : (cutL 47 l).length = R at *
  have HRq := Lib.hid hRq
  clear hRq
  have hR2 : R ≤ 4294967281 := by omega
  by_cases hR3 : 3 < R
  · have hno : Hid (readHall l = none) := readHall_fine (by unfold hallFine; rw [HRq.out]; simp; omega)
    have hR3' : (3 : Int) < (R : Int) := by omega
    have z0 : w1.cell? ⟨w.heap.size, 0, none⟩ = some (.int .i64 0) := (HZ1.out.ext (Ext.refl w1)).cell 0
    have z1 : w1.cell? ⟨w.heap.size, 1, none⟩ = some (.int .i64 0) := (HZ1.out.ext (Ext.refl w1)).cell 1
    have z2 : w1.cell? ⟨w.heap.size, 2, none⟩ = some (.slice none 0 0) := (HZ1.out.ext (Ext.refl w1)).cell 2
    have zf0 : w1.frozen? ⟨w.heap.size, 0, none⟩ = false := (HZ1.out.ext (Ext.refl w1)).frozen 0
    have zf1 : w1.frozen? ⟨w.heap.size, 1, none⟩ = false := (HZ1.out.ext (Ext.refl w1)).frozen 1
    have zf2 : w1.frozen? ⟨w.heap.size, 2, none⟩ = false := (HZ1.out.ext (Ext.refl w1)).frozen 2
    have hxw : Ext w w1 := HX1.out.trans (Ext.refl w1)
    have hzz : w.heap.size < w1.heap.size := (HZ1.out.ext (Ext.refl w1)).lt
    go_wp2
    exact bodyPost_ret (v := .tuple #[hallV 0 0 none 0 0, .bool false]) (by simp [results, Tryz.results86, go_sem, *]) rfl (ret_hall_no hno.out (by (repeat' (first | exact Ext.refl _ | (with_reducible assumption) | (with_reducible refine Ext.alloc ?_ _) | (with_reducible refine Ext.setCell ?_ (by first | exact Nat.le_refl _ | (dsimp only; omega) | (simp; done) | (simp; omega)) _) | (with_reducible refine Ext.drew ?_) | (with_reducible refine Ext.drewN ?_ _) | (refine Ext.trans ?_ (by with_reducible assumption))))))
  · have hR3' : ¬ (3 : Int) < (R : Int) := by omega
    go_wp2
    go_loopw [25] (fun i wr => ∃ (k n : Nat) (p : Option Addr) (cap : Nat), k ≤ R ∧ i = .int .i64 k ∧ n = (cellsTo (wordsTo (cutL 47 l) k)).length ∧ n ≤ 4 * k ∧ Ext w1 wr ∧ Blk wr w1.heap.size THall #[.int .i64 (wideOf (wordsTo (cutL 47 l) k)), .int .i64 R, .slice p n cap] ∧
      wr.ownsRow (w1.heap.size + 1) TI 1 (.slice p n cap) n (ivs (cellsTo (wordsTo (cutL 47 l) k))) ∧ ∀ r ∈ (wordsTo (cutL 47 l) k), rowFine r = true) (fun i _ => R - (intOf i).toNat)
    case atStart =>
      refine ⟨0, 0, none, 0, Nat.zero_le _, rfl, rfl, Nat.zero_le _, by (repeat' (first | exact Ext.refl _ | (with_reducible assumption) | (with_reducible refine Ext.alloc ?_ _) | (with_reducible refine Ext.setCell ?_ (by first | exact Nat.le_refl _ | (dsimp only; omega) | (simp; done) | (simp; omega)) _) | (with_reducible refine Ext.drew ?_) | (with_reducible refine Ext.drewN ?_ _) | (refine Ext.trans ?_ (by with_reducible assumption)))), ?_, World.ownsRow_nil _ _ _ _, by simp [wordsTo]⟩
      have := Blk.new w1 THall #[.int .i64 0, .int .i64 R, .slice none 0 0]
      simpa [wordsTo, wideOf] using this
    case round =>
      obtain ⟨k, n, p, cap, hk, rfl, hn, hn4, hEr, hB, hO, hfine⟩ := hrel
      have HB := Lib.hid hB
      have HO := Lib.hid hO
      have HN := Lib.hid hn
      have HF := Lib.hid hfine
      clear hB hO hn hfine
      by_cases hlt : k < R
      · obtain ⟨q, hq⟩ : ∃ q, (cutL 47 l)[k]? = some q := ⟨_, List.getElem?_eq_getElem (by rw [HRq.out]; exact hlt)⟩
        have HQ := Lib.hid hq
        have hql : q.length < 4294967281 := HL.out q (List.mem_of_getElem? hq)
        have e1 : wr.cell? ⟨gr, k, none⟩ = some (str q) := part_cell (own_ext hown1.out hEr) k hlt q hq
        clear hq
        have i1 : (0 : Int) ≤ (k : Int) := by omega
        have i2 : (k : Int) < (R : Int) := by omega
        have hzr : w1.heap.size < wr.heap.size := HB.out.lt
        go_wp2_with fail
        refine (HS.out q hql 44 _ (HE.out.ext (HX1.out.trans (by (repeat' (first | exact Ext.refl _ | (with_reducible assumption) | (with_reducible refine Ext.alloc ?_ _) | (with_reducible refine Ext.setCell ?_ (by first | exact Nat.le_refl _ | (dsimp only; omega) | (simp; done) | (simp; omega)) _) | (with_reducible refine Ext.drew ?_) | (with_reducible refine Ext.drewN ?_ _) | (refine Ext.trans ?_ (by with_reducible assumption)))))))).mono ?_
        rintro e w2 ⟨v2, rfl, hown2, h2⟩
        clear e1
        have hlen3 := (cutL_len 44 q).2
        have hpos2 : 0 < (cutL 44 q).length := List.length_pos_iff.2 (cutL_ne 44 q)
        have XM := Lib.hid (hEr.trans h2)
        have BM := Lib.hid (HB.out.ext h2)
        have OM := Lib.hid (own_ext HO.out h2)
        obtain ⟨bW, OW⟩ : ∃ bW, Hid (w2.ownsRow bW TStr 1 v2 (cutL 44 q).length (strs (cutL 44 q))) := ⟨_, hown2⟩
        have hzr2 : wr.heap.size ≤ w2.heap.size := h2.sz
        clear hown2 h2
        obtain ⟨g2, c2, rfl⟩ := Joins.ownsRow_form OW.out hpos2
        have HLR : Hid (∀ c ∈ cutL 44 q, c.length < 4294967281) := fun c hc => Nat.lt_of_le_of_lt ((cutL_len 44 q).1 c hc) hql
        generalize hm : (cutL 44 q).length = m at *
        have HM := Lib.hid hm
        clear hm
        by_cases hm4 : 4 < m
        · have hno : Hid (readHall l = none) := fine_row HQ.out (row_long (by rw [HM.out]; exact hm4))
          have hm4' : (4 : Int) < (m : Int) := by omega
          have z0 : w2.cell? ⟨w.heap.size, 0, none⟩ = some (.int .i64 0) := (HZ1.out.ext XM.out).cell 0
          have z1 : w2.cell? ⟨w.heap.size, 1, none⟩ = some (.int .i64 0) := (HZ1.out.ext XM.out).cell 1
          have z2 : w2.cell? ⟨w.heap.size, 2, none⟩ = some (.slice none 0 0) := (HZ1.out.ext XM.out).cell 2
          have zf0 : w2.frozen? ⟨w.heap.size, 0, none⟩ = false := (HZ1.out.ext XM.out).frozen 0
          have zf1 : w2.frozen? ⟨w.heap.size, 1, none⟩ = false := (HZ1.out.ext XM.out).frozen 1
          have zf2 : w2.frozen? ⟨w.heap.size, 2, none⟩ = false := (HZ1.out.ext XM.out).frozen 2
          have hxw : Ext w w2 := HX1.out.trans XM.out
          have hzz : w.heap.size < w2.heap.size := (HZ1.out.ext XM.out).lt
          go_wp2
          exact bodyPost_ret (v := .tuple #[hallV 0 0 none 0 0, .bool false]) (by simp [results, Tryz.results86, go_sem, *]) rfl (ret_hall_no hno.out (by (repeat' (first | exact Ext.refl _ | (with_reducible assumption) | (with_reducible refine Ext.alloc ?_ _) | (with_reducible refine Ext.setCell ?_ (by first | exact Nat.le_refl _ | (dsimp only; omega) | (simp; done) | (simp; omega)) _) | (with_reducible refine Ext.drew ?_) | (with_reducible refine Ext.drewN ?_ _) | (refine Ext.trans ?_ (by with_reducible assumption))))))
        · have hm4' : ¬ (4 : Int) < (m : Int) := by omega
          have b0 : w2.cell? ⟨w1.heap.size, 0, none⟩ = some (.int .i64 (wideOf (wordsTo (cutL 47 l) k))) := BM.out.cell 0
          have b1 : w2.cell? ⟨w1.heap.size, 1, none⟩ = some (.int .i64 R) := BM.out.cell 1
          have b2 : w2.cell? ⟨w1.heap.size, 2, none⟩ = some (.slice p n cap) := BM.out.cell 2
          have bf0 : w2.frozen? ⟨w1.heap.size, 0, none⟩ = false := BM.out.frozen 0
          have bf1 : w2.frozen? ⟨w1.heap.size, 1, none⟩ = false := BM.out.frozen 1
          have bf2 : w2.frozen? ⟨w1.heap.size, 2, none⟩ = false := BM.out.frozen 2
          go_wp2
          clear b0 b1 b2 bf0 bf1 bf2
          go_loopw [40] (fun i wz => ∃ (j n : Nat) (p : Option Addr) (cap : Nat), j ≤ m ∧ i = .int .i64 j ∧ n = (cellsTo (wordsTo (cutL 47 l) k) ++ ((cutL 44 q).take j).map cellS).length ∧ n ≤ 4 * k + j ∧ Ext w1 wz ∧ Blk wz w1.heap.size THall #[.int .i64 m, .int .i64 R, .slice p n cap] ∧
            wz.ownsRow (w1.heap.size + 1) TI 1 (.slice p n cap) n (ivs (cellsTo (wordsTo (cutL 47 l) k) ++ ((cutL 44 q).take j).map cellS)) ∧ wz.ownsRow bW TStr 1 (.slice (some ⟨g2, 0, none⟩) m c2) m (strs (cutL 44 q)) ∧ ∀ c ∈ (cutL 44 q).take j, (cellI c).isSome = true) (fun i _ => m - (intOf i).toNat)
          case atStart =>
            refine ⟨0, n, p, cap, Nat.zero_le _, rfl, by simpa using HN.out, by omega, XM.out.setCell (Nat.le_refl _) _, ?_, ?_, set_own BM.out OW.out (by decide), by simp⟩
            · have := BM.out.set 0 (.int .i64 m)
              simpa using this
            · have := set_own (i := 0) (u := .int .i64 m) BM.out OM.out (by decide)
              simpa using this
          case round =>
            clear HN HO HB XM BM OM OW hn4 n p cap
            obtain ⟨j, n, p, cap, hj, rfl, hn, hn4, hEz, hB, hO, hW, hfn⟩ := hrel
            have XZ := Lib.hid hEz
            have BZ := Lib.hid hB
            have OZ := Lib.hid hO
            have OWZ := Lib.hid hW
            have HNZ := Lib.hid hn
            have HF2 := Lib.hid hfn
            have hzz2 : w1.heap.size < wr.heap.size := hB.lt
            clear hEz hB hO hW hn hfn
            by_cases hlt2 : j < m
            · obtain ⟨c, hc⟩ : ∃ c, (cutL 44 q)[j]? = some c := ⟨_, List.getElem?_eq_getElem (by rw [HM.out]; exact hlt2)⟩
              have HC := Lib.hid hc
              have hcl : c.length < 4294967281 := HLR.out c (List.mem_of_getElem? hc)
              have e2 : wr.cell? ⟨g2, j, none⟩ = some (str c) := part_cell OWZ.out j hlt2 c hc
              clear hc
              have i3 : (0 : Int) ≤ (j : Int) := by omega
              have i4 : (j : Int) < (m : Int) := by omega
              have b0 : wr.cell? ⟨w1.heap.size, 0, none⟩ = some (.int .i64 m) := BZ.out.cell 0
              have b1 : wr.cell? ⟨w1.heap.size, 1, none⟩ = some (.int .i64 R) := BZ.out.cell 1
              have b2 : wr.cell? ⟨w1.heap.size, 2, none⟩ = some (.slice p n cap) := BZ.out.cell 2
              have bf0 : wr.frozen? ⟨w1.heap.size, 0, none⟩ = false := BZ.out.frozen 0
              have bf1 : wr.frozen? ⟨w1.heap.size, 1, none⟩ = false := BZ.out.frozen 1
              have bf2 : wr.frozen? ⟨w1.heap.size, 2, none⟩ = false := BZ.out.frozen 2
              by_cases hd : c = [46]
              · have hd2 : (c == [46]) = true := by simp [hd]
                have HCS : Hid (cellS c = 0) := by show _ = _; rw [hd]; rfl
                have HFN : Hid (∀ c ∈ (cutL 44 q).take (j + 1), (cellI c).isSome = true) := by
                  rw [Lib.hid (take_snocL HC.out)]
                  intro x hx
                  rcases List.mem_append.1 hx with h | h
                  · exact HF2.out x h
                  · obtain rfl : x = c := by simpa using h
                    rw [hd]; rfl
                clear hd
                go_wp2_with (at_builtin; refine wpList_append_int elInt rfl _ _ rfl (w1.heap.size + 1) (.slice p n cap) n _ rfl (OZ.out.alloc _) _ _ (0) _ rfl (by simp) (by omega) (by simp; omega) ?_; intro p2 cap2 w3 hown3 hgrow3; obtain ⟨X3, B3⟩ := app_mid XZ.out BZ.out (by decide) OZ.out (by omega) hgrow3; have OW3 := app_own OZ.out hgrow3 OWZ.out (by decide); clear hgrow3 b0 b1 b2 bf0 bf1 bf2 e2; (have b0 : w3.cell? ⟨w1.heap.size, 0, none⟩ = some (.int .i64 m) := B3.cell 0); (have b1 : w3.cell? ⟨w1.heap.size, 1, none⟩ = some (.int .i64 R) := B3.cell 1); (have b2 : w3.cell? ⟨w1.heap.size, 2, none⟩ = some (.slice p n cap) := B3.cell 2); (have bf0 : w3.frozen? ⟨w1.heap.size, 0, none⟩ = false := B3.frozen 0); (have bf1 : w3.frozen? ⟨w1.heap.size, 1, none⟩ = false := B3.frozen 1); (have bf2 : w3.frozen? ⟨w1.heap.size, 2, none⟩ = false := B3.frozen 2); have hz3 : w1.heap.size < w3.heap.size := B3.lt)
                have B4 := Lib.hid (show Blk (w3.setCell ⟨w1.heap.size, 2, none⟩ (.slice p2 (n + 1) cap2)) w1.heap.size THall #[.int .i64 m, .int .i64 R, .slice p2 (n + 1) cap2] by have := B3.set 2 (.slice p2 (n + 1) cap2); simpa using this)
                have O4 : Hid ((w3.setCell ⟨w1.heap.size, 2, none⟩ (.slice p2 (n + 1) cap2)).ownsRow (w1.heap.size + 1) TI 1 (.slice p2 (n + 1) cap2) (n + 1) (ivs (cellsTo (wordsTo (cutL 47 l) k) ++ ((cutL 44 q).take (j + 1)).map cellS))) := by
                  have := set_own (i := 2) (u := .slice p2 (n + 1) cap2) B3 hown3 (by decide)
                  rw [List.append_assoc, show ((cutL 44 q).take j).map cellS ++ [0] = ((cutL 44 q).take (j + 1)).map cellS by rw [take_snocL HC.out, List.map_append]; simp [HCS.out]] at this
                  exact this
                have OW4 : Hid ((w3.setCell ⟨w1.heap.size, 2, none⟩ (.slice p2 (n + 1) cap2)).ownsRow bW TStr 1 (.slice (some ⟨g2, 0, none⟩) m c2) m (strs (cutL 44 q))) := set_own B3 OW3 (by decide)
                have X4 : Ext w1 (w3.setCell ⟨w1.heap.size, 2, none⟩ (.slice p2 (n + 1) cap2)) := X3.setCell (Nat.le_refl _) _
                clear hown3 OW3 B3
                go_roundw
                case rel => exact ⟨j + 1, n + 1, p2, cap2, by omega, by go_num, by have hmm := HM.out; rw [HNZ.out]; simp only [List.length_append, List.length_map, List.length_take]; omega, by omega, X4, B4.out, O4.out, OW4.out, HFN.out⟩
                case measure => simp [intOf]; omega
              · have hd2 : (c == [46]) = false := by simp [hd]
                cases hr : readL 2 c with
                | none =>
                  have hno : Hid (readHall l = none) := fine_row HQ.out (row_bad HC.out (by unfold cellI; rw [if_neg hd, hr]))
                  have HRc := Lib.hid (HR.out c 0 false hcl (by rw [hr]; rfl) (by rw [hr]; rfl))
                  clear hr hd
                  go_wp2_with fail
                  refine (HRc.out _).mono ?_
                  rintro e w2 ⟨rfl, rfl⟩
                  clear b0 b1 b2 bf0 bf1 bf2 e2
                  have z0 : wr.cell? ⟨w.heap.size, 0, none⟩ = some (.int .i64 0) := (HZ1.out.ext XZ.out).cell 0
                  have z1 : wr.cell? ⟨w.heap.size, 1, none⟩ = some (.int .i64 0) := (HZ1.out.ext XZ.out).cell 1
                  have z2 : wr.cell? ⟨w.heap.size, 2, none⟩ = some (.slice none 0 0) := (HZ1.out.ext XZ.out).cell 2
                  have zf0 : wr.frozen? ⟨w.heap.size, 0, none⟩ = false := (HZ1.out.ext XZ.out).frozen 0
                  have zf1 : wr.frozen? ⟨w.heap.size, 1, none⟩ = false := (HZ1.out.ext XZ.out).frozen 1
                  have zf2 : wr.frozen? ⟨w.heap.size, 2, none⟩ = false := (HZ1.out.ext XZ.out).frozen 2
                  have hxw : Ext w wr := HX1.out.trans XZ.out
                  have hzz : w.heap.size < wr.heap.size := (HZ1.out.ext XZ.out).lt
                  go_wp2
                  exact bodyPost_ret (v := .tuple #[hallV 0 0 none 0 0, .bool false]) (by simp [results, Tryz.results86, go_sem, *]) rfl (ret_hall_no hno.out (by (repeat' (first | exact Ext.refl _ | (with_reducible assumption) | (with_reducible refine Ext.alloc ?_ _) | (with_reducible refine Ext.setCell ?_ (by first | exact Nat.le_refl _ | (dsimp only; omega) | (simp; done) | (simp; omega)) _) | (with_reducible refine Ext.drew ?_) | (with_reducible refine Ext.drewN ?_ _) | (refine Ext.trans ?_ (by with_reducible assumption))))))
                | some x =>
                  have HCS : Hid (cellS c = x) := cellI_S (by unfold cellI; rw [if_neg hd, hr])
                  have HFN : Hid (∀ c ∈ (cutL 44 q).take (j + 1), (cellI c).isSome = true) := by
                    rw [Lib.hid (take_snocL HC.out)]
                    intro y hy
                    rcases List.mem_append.1 hy with h | h
                    · exact HF2.out y h
                    · obtain rfl : y = c := by simpa using h
                      unfold cellI; rw [if_neg hd, hr]; rfl
                  have HRc := Lib.hid (HR.out c x true hcl (by rw [hr]; rfl) (by rw [hr]; rfl))
                  clear hr hd
                  go_wp2_with fail
                  refine (HRc.out _).mono ?_
                  rintro e w2 ⟨rfl, rfl⟩
                  go_wp2_with (at_builtin; refine wpList_append_int elInt rfl _ _ rfl (w1.heap.size + 1) (.slice p n cap) n _ rfl (OZ.out.alloc _) _ _ (x) _ rfl (by simp) (by omega) (by simp; omega) ?_; intro p2 cap2 w3 hown3 hgrow3; obtain ⟨X3, B3⟩ := app_mid XZ.out BZ.out (by decide) OZ.out (by omega) hgrow3; have OW3 := app_own OZ.out hgrow3 OWZ.out (by decide); clear hgrow3 b0 b1 b2 bf0 bf1 bf2 e2; (have b0 : w3.cell? ⟨w1.heap.size, 0, none⟩ = some (.int .i64 m) := B3.cell 0); (have b1 : w3.cell? ⟨w1.heap.size, 1, none⟩ = some (.int .i64 R) := B3.cell 1); (have b2 : w3.cell? ⟨w1.heap.size, 2, none⟩ = some (.slice p n cap) := B3.cell 2); (have bf0 : w3.frozen? ⟨w1.heap.size, 0, none⟩ = false := B3.frozen 0); (have bf1 : w3.frozen? ⟨w1.heap.size, 1, none⟩ = false := B3.frozen 1); (have bf2 : w3.frozen? ⟨w1.heap.size, 2, none⟩ = false := B3.frozen 2); have hz3 : w1.heap.size < w3.heap.size := B3.lt)
                  have B4 := Lib.hid (show Blk (w3.setCell ⟨w1.heap.size, 2, none⟩ (.slice p2 (n + 1) cap2)) w1.heap.size THall #[.int .i64 m, .int .i64 R, .slice p2 (n + 1) cap2] by have := B3.set 2 (.slice p2 (n + 1) cap2); simpa using this)
                  have O4 : Hid ((w3.setCell ⟨w1.heap.size, 2, none⟩ (.slice p2 (n + 1) cap2)).ownsRow (w1.heap.size + 1) TI 1 (.slice p2 (n + 1) cap2) (n + 1) (ivs (cellsTo (wordsTo (cutL 47 l) k) ++ ((cutL 44 q).take (j + 1)).map cellS))) := by
                    have := set_own (i := 2) (u := .slice p2 (n + 1) cap2) B3 hown3 (by decide)
                    rw [List.append_assoc, show ((cutL 44 q).take j).map cellS ++ [x] = ((cutL 44 q).take (j + 1)).map cellS by rw [take_snocL HC.out, List.map_append]; simp [HCS.out]] at this
                    exact this
                  have OW4 : Hid ((w3.setCell ⟨w1.heap.size, 2, none⟩ (.slice p2 (n + 1) cap2)).ownsRow bW TStr 1 (.slice (some ⟨g2, 0, none⟩) m c2) m (strs (cutL 44 q))) := set_own B3 OW3 (by decide)
                  have X4 : Ext w1 (w3.setCell ⟨w1.heap.size, 2, none⟩ (.slice p2 (n + 1) cap2)) := X3.setCell (Nat.le_refl _) _
                  clear hown3 OW3 B3
                  go_roundw
                  case rel => exact ⟨j + 1, n + 1, p2, cap2, by omega, by go_num, by have hmm := HM.out; rw [HNZ.out]; simp only [List.length_append, List.length_map, List.length_take]; omega, by omega, X4, B4.out, O4.out, OW4.out, HFN.out⟩
                  case measure => simp [intOf]; omega
            · obtain rfl : j = m := by omega
              have HT : Hid ((cutL 44 q).take j = cutL 44 q) := List.take_of_length_le (by rw [HM.out]; exact Nat.le_refl _)
              go_wp2
              go_roundw
              case rel =>
                refine ⟨k + 1, n, p, cap, by omega, by go_num, ?_, by omega, XZ.out, ?_, ?_, ?_⟩
                · rw [wordsTo_snoc HQ.out, cellsTo_snoc, HNZ.out, HT.out]
                · rw [wordsTo_snoc HQ.out, wideOf_snoc, HM.out]; exact BZ.out
                · rw [wordsTo_snoc HQ.out, cellsTo_snoc]; have := OZ.out; rw [HT.out] at this; exact this
                · rw [wordsTo_snoc HQ.out]
                  intro r hr
                  rcases List.mem_append.1 hr with h | h
                  · exact HF.out r h
                  · obtain rfl : r = cutL 44 q := by simpa using h
                    have h2 := HF2.out
                    rw [HT.out] at h2
                    simp only [rowFine, Bool.and_eq_true, decide_eq_true_eq, List.all_eq_true]
                    exact ⟨by rw [HM.out]; omega, h2⟩
              case measure => simp [intOf]; omega
      · obtain rfl : k = R := by omega
        have hWW : Hid (wordsTo (cutL 47 l) k = hallWords l) := wordsTo_all l (by rw [HRq.out]; exact Nat.le_refl _)
        have hHP : Hid (hallParse l = (wideOf (wordsTo (cutL 47 l) k), (k : Int), cellsTo (wordsTo (cutL 47 l) k))) := by show _ = _; unfold hallParse; rw [hWW.out, HRq.out]; rfl
        generalize hwd : wideOf (wordsTo (cutL 47 l) k) = wd at *
        generalize hxs : cellsTo (wordsTo (cutL 47 l) k) = xs at *
        clear hwd hxs
        have hzr : w1.heap.size < wr.heap.size := HB.out.lt
        have b0 : wr.cell? ⟨w1.heap.size, 0, none⟩ = some (.int .i64 wd) := HB.out.cell 0
        have b1 : wr.cell? ⟨w1.heap.size, 1, none⟩ = some (.int .i64 k) := HB.out.cell 1
        have b2 : wr.cell? ⟨w1.heap.size, 2, none⟩ = some (.slice p n cap) := HB.out.cell 2
        have HV := Lib.hid (fun w' (hx : Ext wr w') => implHv wd k p n cap xs w' ((Sl.own HO.out).ext hx))
        cases hok : hallOk wd k xs with
        | false =>
          have hno : Hid (readHall l = none) := by show _ = _; rw [readHall_val, hHP.out]; simp [hok]
          rw [hok] at HV
          clear hok
          go_wp2_with fail
          refine (HV.out _ (by (repeat' (first | exact Ext.refl _ | (with_reducible assumption) | (with_reducible refine Ext.alloc ?_ _) | (with_reducible refine Ext.setCell ?_ (by first | exact Nat.le_refl _ | (dsimp only; omega) | (simp; done) | (simp; omega)) _) | (with_reducible refine Ext.drew ?_) | (with_reducible refine Ext.drewN ?_ _) | (refine Ext.trans ?_ (by with_reducible assumption)))))).mono ?_
          rintro e w2 ⟨rfl, h2⟩
          clear b0 b1 b2
          have XF := Lib.hid (show Ext w1 w2 by (repeat' (first | exact Ext.refl _ | (with_reducible assumption) | (with_reducible refine Ext.alloc ?_ _) | (with_reducible refine Ext.setCell ?_ (by first | exact Nat.le_refl _ | (dsimp only; omega) | (simp; done) | (simp; omega)) _) | (with_reducible refine Ext.drew ?_) | (with_reducible refine Ext.drewN ?_ _) | (refine Ext.trans ?_ (by with_reducible assumption)))))
          clear h2
          have z0 : w2.cell? ⟨w.heap.size, 0, none⟩ = some (.int .i64 0) := (HZ1.out.ext XF.out).cell 0
          have z1 : w2.cell? ⟨w.heap.size, 1, none⟩ = some (.int .i64 0) := (HZ1.out.ext XF.out).cell 1
          have z2 : w2.cell? ⟨w.heap.size, 2, none⟩ = some (.slice none 0 0) := (HZ1.out.ext XF.out).cell 2
          have zf0 : w2.frozen? ⟨w.heap.size, 0, none⟩ = false := (HZ1.out.ext XF.out).frozen 0
          have zf1 : w2.frozen? ⟨w.heap.size, 1, none⟩ = false := (HZ1.out.ext XF.out).frozen 1
          have zf2 : w2.frozen? ⟨w.heap.size, 2, none⟩ = false := (HZ1.out.ext XF.out).frozen 2
          have hxw : Ext w w2 := HX1.out.trans XF.out
          have hzz : w.heap.size < w2.heap.size := (HZ1.out.ext XF.out).lt
          go_wp2
          exact bodyPost_ret (v := .tuple #[hallV 0 0 none 0 0, .bool false]) (by simp [results, Tryz.results86, go_sem, *]) rfl (ret_hall_no hno.out (by (repeat' (first | exact Ext.refl _ | (with_reducible assumption) | (with_reducible refine Ext.alloc ?_ _) | (with_reducible refine Ext.setCell ?_ (by first | exact Nat.le_refl _ | (dsimp only; omega) | (simp; done) | (simp; omega)) _) | (with_reducible refine Ext.drew ?_) | (with_reducible refine Ext.drewN ?_ _) | (refine Ext.trans ?_ (by with_reducible assumption))))))
        | true =>
          rw [hok] at HV
          go_wp2_with fail
          refine (HV.out _ (by (repeat' (first | exact Ext.refl _ | (with_reducible assumption) | (with_reducible refine Ext.alloc ?_ _) | (with_reducible refine Ext.setCell ?_ (by first | exact Nat.le_refl _ | (dsimp only; omega) | (simp; done) | (simp; omega)) _) | (with_reducible refine Ext.drew ?_) | (with_reducible refine Ext.drewN ?_ _) | (refine Ext.trans ?_ (by with_reducible assumption)))))).mono ?_
          rintro e w2 ⟨rfl, h2⟩
          clear b0 b1 b2
          have h2' : Ext wr w2 := by (repeat' (first | exact Ext.refl _ | (with_reducible assumption) | (with_reducible refine Ext.alloc ?_ _) | (with_reducible refine Ext.setCell ?_ (by first | exact Nat.le_refl _ | (dsimp only; omega) | (simp; done) | (simp; omega)) _) | (with_reducible refine Ext.drew ?_) | (with_reducible refine Ext.drewN ?_ _) | (refine Ext.trans ?_ (by with_reducible assumption))))
          have B2 := Lib.hid (HB.out.ext h2')
          have O2 := Lib.hid (own_ext HO.out h2')
          have X2 := Lib.hid (show Ext w1 w2 by (repeat' (first | exact Ext.refl _ | (with_reducible assumption) | (with_reducible refine Ext.alloc ?_ _) | (with_reducible refine Ext.setCell ?_ (by first | exact Nat.le_refl _ | (dsimp only; omega) | (simp; done) | (simp; omega)) _) | (with_reducible refine Ext.drew ?_) | (with_reducible refine Ext.drewN ?_ _) | (refine Ext.trans ?_ (by with_reducible assumption)))))
          have hz2 : w1.heap.size < w2.heap.size := B2.out.lt
          clear h2 h2'
          have HT := Lib.hid (fun w' (hx : Ext w2 w') (hE : Env w') => implHallText wd k p n cap xs w' hE ((Sl.own O2.out).ext hx))
          have b0 : w2.cell? ⟨w1.heap.size, 0, none⟩ = some (.int .i64 wd) := B2.out.cell 0
          have b1 : w2.cell? ⟨w1.heap.size, 1, none⟩ = some (.int .i64 k) := B2.out.cell 1
          have b2 : w2.cell? ⟨w1.heap.size, 2, none⟩ = some (.slice p n cap) := B2.out.cell 2
          go_wp2_with fail
          refine (HT.out _ (by (repeat' (first | exact Ext.refl _ | (with_reducible assumption) | (with_reducible refine Ext.alloc ?_ _) | (with_reducible refine Ext.setCell ?_ (by first | exact Nat.le_refl _ | (dsimp only; omega) | (simp; done) | (simp; omega)) _) | (with_reducible refine Ext.drew ?_) | (with_reducible refine Ext.drewN ?_ _) | (refine Ext.trans ?_ (by with_reducible assumption))))) (HE.out.ext (HX1.out.trans (X2.out.trans (by (repeat' (first | exact Ext.refl _ | (with_reducible assumption) | (with_reducible refine Ext.alloc ?_ _) | (with_reducible refine Ext.setCell ?_ (by first | exact Nat.le_refl _ | (dsimp only; omega) | (simp; done) | (simp; omega)) _) | (with_reducible refine Ext.drew ?_) | (with_reducible refine Ext.drewN ?_ _) | (refine Ext.trans ?_ (by with_reducible assumption))))))))).mono ?_
          rintro e w3 ⟨rfl, h3⟩
          clear b0 b1 b2
          have h3' : Ext w2 w3 := by (repeat' (first | exact Ext.refl _ | (with_reducible assumption) | (with_reducible refine Ext.alloc ?_ _) | (with_reducible refine Ext.setCell ?_ (by first | exact Nat.le_refl _ | (dsimp only; omega) | (simp; done) | (simp; omega)) _) | (with_reducible refine Ext.drew ?_) | (with_reducible refine Ext.drewN ?_ _) | (refine Ext.trans ?_ (by with_reducible assumption))))
          have B3 := Lib.hid (B2.out.ext h3')
          have O3 := Lib.hid (own_ext O2.out h3')
          have X3 := Lib.hid (show Ext w1 w3 by have := X2.out; (repeat' (first | exact Ext.refl _ | (with_reducible assumption) | (with_reducible refine Ext.alloc ?_ _) | (with_reducible refine Ext.setCell ?_ (by first | exact Nat.le_refl _ | (dsimp only; omega) | (simp; done) | (simp; omega)) _) | (with_reducible refine Ext.drew ?_) | (with_reducible refine Ext.drewN ?_ _) | (refine Ext.trans ?_ (by with_reducible assumption)))))
          clear h3 h3'
          by_cases ht : hallText wd k xs = l
          · have hd2 : (hallText wd k xs == l) = true := by simp [ht]
            have hyes : Hid (readHall l = some (wd, (k : Int), xs)) := by show _ = _; rw [readHall_val, hHP.out]; simp [hok, ht]
            clear ht hok
            have b0 : w3.cell? ⟨w1.heap.size, 0, none⟩ = some (.int .i64 wd) := B3.out.cell 0
            have b1 : w3.cell? ⟨w1.heap.size, 1, none⟩ = some (.int .i64 k) := B3.out.cell 1
            have b2 : w3.cell? ⟨w1.heap.size, 2, none⟩ = some (.slice p n cap) := B3.out.cell 2
            have z0 : w3.cell? ⟨w.heap.size, 0, none⟩ = some (.int .i64 0) := (HZ1.out.ext X3.out).cell 0
            have z1 : w3.cell? ⟨w.heap.size, 1, none⟩ = some (.int .i64 0) := (HZ1.out.ext X3.out).cell 1
            have z2 : w3.cell? ⟨w.heap.size, 2, none⟩ = some (.slice none 0 0) := (HZ1.out.ext X3.out).cell 2
            have zf0 : w3.frozen? ⟨w.heap.size, 0, none⟩ = false := (HZ1.out.ext X3.out).frozen 0
            have zf1 : w3.frozen? ⟨w.heap.size, 1, none⟩ = false := (HZ1.out.ext X3.out).frozen 1
            have zf2 : w3.frozen? ⟨w.heap.size, 2, none⟩ = false := (HZ1.out.ext X3.out).frozen 2
            have hzz : w.heap.size < w3.heap.size := (HZ1.out.ext X3.out).lt
            have hne : ¬ w.heap.size = w1.heap.size := by omega
            go_wp2
            generalize hw5 : World.setCell _ _ _ = w5
            have hR5 : ExtR w.heap.size w3 w5 := by rw [← hw5]; exact (((ExtR.refl _ w3).setCell (p := ⟨w.heap.size, 0, none⟩) (.inl rfl) _).setCell (p := ⟨w.heap.size, 1, none⟩) (.inl rfl) _).setCell (p := ⟨w.heap.size, 2, none⟩) (.inl rfl) _
            have Y5 := (((HZ1.out.ext X3.out).set 0 (.int .i64 wd)).set 1 (.int .i64 k)).set 2 (.slice p n cap)
            simp only [Z3, List.setIfInBounds_toArray, List.set_cons_zero, List.set_cons_succ] at Y5
            rw [hw5] at Y5
            have O5 : w5.ownsRow w.heap.size TI 1 (.slice p n cap) n (ivs xs) := own_base (O3.out.kept hR5 (.inr (own_ty_blk O3.out (HZ1.out.ext X3.out) (by decide)))) (by omega)
            have X5 : Ext w w5 := ExtR.new (HX1.out.trans X3.out) hR5 (Nat.le_refl _)
            clear hw5 z0 z1 z2 zf0 zf1 zf2 b0 b1 b2
            have y0 : w5.cell? ⟨w.heap.size, 0, none⟩ = some (.int .i64 wd) := Y5.cell 0
            have y1 : w5.cell? ⟨w.heap.size, 1, none⟩ = some (.int .i64 k) := Y5.cell 1
            have y2 : w5.cell? ⟨w.heap.size, 2, none⟩ = some (.slice p n cap) := Y5.cell 2
            exact bodyPost_ret (v := .tuple #[hallV wd k p n cap, .bool true]) (by simp [results, Tryz.results86, go_sem, *]) rfl (ret_hall_yes hyes.out HN.out O5 X5)
          · have hd2 : (hallText wd k xs == l) = false := by simp [ht]
            have hno : Hid (readHall l = none) := by show _ = _; rw [readHall_val, hHP.out]; simp [ht]
            clear ht hok
            have z0 : w3.cell? ⟨w.heap.size, 0, none⟩ = some (.int .i64 0) := (HZ1.out.ext X3.out).cell 0
            have z1 : w3.cell? ⟨w.heap.size, 1, none⟩ = some (.int .i64 0) := (HZ1.out.ext X3.out).cell 1
            have z2 : w3.cell? ⟨w.heap.size, 2, none⟩ = some (.slice none 0 0) := (HZ1.out.ext X3.out).cell 2
            have zf0 : w3.frozen? ⟨w.heap.size, 0, none⟩ = false := (HZ1.out.ext X3.out).frozen 0
            have zf1 : w3.frozen? ⟨w.heap.size, 1, none⟩ = false := (HZ1.out.ext X3.out).frozen 1
            have zf2 : w3.frozen? ⟨w.heap.size, 2, none⟩ = false := (HZ1.out.ext X3.out).frozen 2
            have hxw : Ext w w3 := HX1.out.trans X3.out
            have hzz : w.heap.size < w3.heap.size := (HZ1.out.ext X3.out).lt
            go_wp2
            exact bodyPost_ret (v := .tuple #[hallV 0 0 none 0 0, .bool false]) (by simp [results, Tryz.results86, go_sem, *]) rfl (ret_hall_no hno.out (by (repeat' (first | exact Ext.refl _ | (with_reducible assumption) | (with_reducible refine Ext.alloc ?_ _) | (with_reducible refine Ext.setCell ?_ (by first | exact Nat.le_refl _ | (dsimp only; omega) | (simp; done) | (simp; omega)) _) | (with_reducible refine Ext.drew ?_) | (with_reducible refine Ext.drewN ?_ _) | (refine Ext.trans ?_ (by with_reducible assumption))))))
end Go.Proofs.YteejdnmmpmcmeaaGreatDoor

/-
  The reference's l8Four and the rewrite's readNumbers. Conditions: texts shorter than 2^32 - 15 bytes, the library's table is laid.
-/
namespace Go.Proofs.YteejdnmmpmcmeaaGreatDoor
open Go.RowKit
set_option linter.unusedVariables false
set_option linter.unusedSimpArgs false

/-- what l8Four hands back -/
def RetFour (l : List UInt8) (w : World) (e : Ending) (w' : World) : Prop :=
  ∃ p n cap, n = (cutL 44 l).length ∧ e = .returned (.tuple #[.slice p n cap, .bool ((n : Int) == 4)]) ∧ w'.ownsRow w.heap.size TI 1 (.slice p n cap) n (ivs (fourS l)) ∧ Ext w w'
set_option maxRecDepth 100000 in
set_option maxHeartbeats 1000000 in
theorem specFour (l : List UInt8) (w : World) (hs : l.length ≤ 1099511627776) : Calls Tryz.prog 83 #[str l] w (RetFour l w) := by
  have HC : Hid (∀ w, Calls Tryz.prog 81 #[str l, .int .u8 44] w fun e w' => ∃ v, e = .returned v ∧ w'.ownsRow w.heap.size TStr 1 v (cutL 44 l).length (strs (cutL 44 l)) ∧ Ext w w') := fun w => l1Cut_any ⟨l.toArray⟩ 44 44 rfl w (by simpa [ByteArray.size] using hs)
  have HLR : Hid (∀ c ∈ cutL 44 l, c.length ≤ maxLen) := fun c hc => by have := (cutL_len 44 l).1 c hc; unfold maxLen; omega
  have HW : Hid (∀ c : List UInt8, c.length ≤ maxLen → ∀ w, Calls Tryz.prog 84 #[str c] w fun e w' => e = .returned (.int .i64 (wholeS c)) ∧ Ext w w') := fun c hc w => l8Whole_any c w hc
  have hlen := (cutL_len 44 l).2
  have hpos : 0 < (cutL 44 l).length := List.length_pos_iff.2 (cutL_ne 44 l)
  have HF : Hid (fourS l = (cutL 44 l).map wholeS) := rfl
  unfold RetFour
  rw [HF.out]
  generalize hm : (cutL 44 l).length = m at *
  have HM := Lib.hid hm
  clear hm
  go_enter Tryz.func83, Tryz.ntmps83
  go_wp2_with fail
  refine (HC.out _).mono ?_
  rintro e w1 ⟨v, rfl, hown, h1⟩
  obtain ⟨g, c, rfl⟩ := Joins.ownsRow_form hown hpos
  have OW := Lib.hid hown
  have X1 := Lib.hid (show Ext w w1 by (repeat' (first | exact Ext.refl _ | (with_reducible assumption) | (with_reducible refine Ext.alloc ?_ _) | (with_reducible refine Ext.setCell ?_ (by first | exact Nat.le_refl _ | (dsimp only; omega) | (simp; done) | (simp; omega)) _) | (with_reducible refine Ext.drew ?_) | (with_reducible refine Ext.drewN ?_ _) | (refine Ext.trans ?_ (by with_reducible assumption)))))
  have hz1 : w.heap.size ≤ w1.heap.size := h1.sz
  clear hown h1
  go_wp2
  go_loopw [5, 6] (fun v i wr => ∃ (k : Nat) (p : Option Addr) (cap : Nat), k ≤ m ∧ i = .int .i64 k ∧ v = .slice p k cap ∧ Ext w1 wr ∧ wr.ownsRow w1.heap.size TI 1 (.slice p k cap) k (ivs (((cutL 44 l).take k).map wholeS))) (fun _ i _ => m - (intOf i).toNat)
  case atStart => exact ⟨0, _, _, Nat.zero_le _, rfl, rfl, by (repeat' (first | exact Ext.refl _ | (with_reducible assumption) | (with_reducible refine Ext.alloc ?_ _) | (with_reducible refine Ext.setCell ?_ (by first | exact Nat.le_refl _ | (dsimp only; omega) | (simp; done) | (simp; omega)) _) | (with_reducible refine Ext.drew ?_) | (with_reducible refine Ext.drewN ?_ _) | (refine Ext.trans ?_ (by with_reducible assumption)))), World.ownsRow_made _ #[] 0 (Nat.le_refl _) (by simp [maxLen]) rfl⟩
  case round =>
    obtain ⟨k, p, cap, hk, rfl, rfl, hE, hO⟩ := hrel
    have HO := Lib.hid hO
    clear hO
    by_cases hlt : k < m
    · obtain ⟨q, hq⟩ : ∃ q, (cutL 44 l)[k]? = some q := ⟨_, List.getElem?_eq_getElem (by rw [HM.out]; exact hlt)⟩
      have HQ := Lib.hid hq
      have hql := HLR.out q (List.mem_of_getElem? hq)
      have e1 : wr.cell? ⟨g, k, none⟩ = some (str q) := part_cell (own_ext OW.out hE) k hlt q hq
      clear hq
      have i1 : (0 : Int) ≤ (k : Int) := by omega
      have i2 : (k : Int) < (m : Int) := by omega
      go_wp2_with fail
      refine (HW.out q hql _).mono ?_
      rintro e w2 ⟨rfl, h2⟩
      have h2' : Ext wr w2 := by (repeat' (first | exact Ext.refl _ | (with_reducible assumption) | (with_reducible refine Ext.alloc ?_ _) | (with_reducible refine Ext.setCell ?_ (by first | exact Nat.le_refl _ | (dsimp only; omega) | (simp; done) | (simp; omega)) _) | (with_reducible refine Ext.drew ?_) | (with_reducible refine Ext.drewN ?_ _) | (refine Ext.trans ?_ (by with_reducible assumption))))
      have O2 := Lib.hid (own_ext HO.out h2')
      have X2 : Ext w1 w2 := hE.trans h2'
      have hsz2 := X2.sz
      clear h2 e1
      go_wp2_with (at_builtin; refine wpList_append_int elInt rfl _ _ rfl w1.heap.size (.slice p k cap) k _ rfl (O2.out.alloc _) _ _ (wholeS q) _ rfl (by simp) (by omega) (by simp; omega) ?_; intro p2 cap2 w3 hown3 hgrow3)
      have X3 : Ext w1 w3 := (X2.alloc _).grown hgrow3 (fun q hq => (O2.out.lt q hq).1)
      have O3 : Hid (w3.ownsRow w1.heap.size TI 1 (.slice p2 (k + 1) cap2) (k + 1) (ivs (((cutL 44 l).take (k + 1)).map wholeS))) := by
        rw [take_snocL HQ.out, List.map_append]; exact hown3
      clear hown3 hgrow3
      go_roundw
      case rel => exact ⟨k + 1, p2, cap2, by omega, by go_num, rfl, X3, O3.out⟩
      case measure => simp [intOf]; omega
    · obtain rfl : k = m := by omega
      go_wp2
      refine bodyPost_ret (v := .tuple #[.slice p k cap, .bool ((k : Int) == 4)]) (by simp [results, Tryz.results83, go_sem, *]) rfl ?_
      refine ⟨p, k, cap, rfl, rfl, ?_, X1.out.trans hE⟩
      have := HO.out
      rw [List.take_of_length_le (by rw [HM.out]; exact Nat.le_refl _)] at this
      exact own_base this hz1

/-- what readNumbers hands back -/
def RetNums (o : Option (List Int)) (w : World) (e : Ending) (w' : World) : Prop :=
  ∃ p n cap, n = (o.getD []).length ∧ e = .returned (.tuple #[.slice p n cap, .bool o.isSome]) ∧ w'.ownsRow w.heap.size TI 1 (.slice p n cap) n (ivs (o.getD [])) ∧ Ext w w'
theorem ret_nums_no {o : Option (List Int)} {w w' : World} (h : o = none) (hx : Ext w w') : RetNums o w (.returned (.tuple #[.slice none 0 0, .bool false])) w' := by
  subst h; exact ⟨none, 0, 0, rfl, rfl, World.ownsRow_nil _ _ _ _, hx⟩
theorem nums_no_len {m : Nat} {l : List UInt8} (h : ¬ (cutL 44 l).length = m) : readNums m l = none := by unfold readNums; rw [if_neg (fun hc => h hc.1)]
theorem nums_no_bad {m k : Nat} {l q : List UInt8} (h : (cutL 44 l)[k]? = some q) (hq : readL 5 q = none) : readNums m l = none := by
  unfold readNums; rw [if_neg]
  rintro ⟨_, h2⟩
  have := List.all_eq_true.1 h2 q (List.mem_of_getElem? h)
  rw [hq] at this; simp at this
abbrev numOf (c : List UInt8) : Int := (readL 5 c).getD 0
theorem nums_yes {m : Nat} {l : List UInt8} (h : (cutL 44 l).length = m) (h2 : ∀ q ∈ cutL 44 l, (readL 5 q).isSome = true) : readNums m l = some ((cutL 44 l).map numOf) := by
  unfold readNums; rw [if_pos ⟨h, List.all_eq_true.2 h2⟩]
theorem ints_next {xs : List (List UInt8)} {k n : Nat} {c : List UInt8} (h : k < n) (hx : xs[k]? = some c) (hl : (xs.take k).length = k) (x : Int) (hc : numOf c = x) : (ivs ((xs.take k).map numOf ++ List.replicate (n - k) 0)).set k (.int .i64 x) = ivs ((xs.take (k + 1)).map numOf ++ List.replicate (n - (k + 1)) 0) := by
  subst hc
  rw [take_snocL hx, show n - k = (n - (k + 1)) + 1 by omega, List.replicate_succ]
  simp only [ivs, List.map_append, List.map_cons, List.map_nil]
  have hl' : (List.map iv (List.map numOf (xs.take k))).length = k := by rw [List.length_map, List.length_map, hl]
  rw [List.set_append_right _ _ (by rw [hl']; exact Nat.le_refl _), hl', Nat.sub_self, List.set_cons_zero, List.append_assoc]
  rfl
theorem ints_get {xs : List (List UInt8)} {k n : Nat} (h : k < n) (hl : (xs.take k).length = k) : (ivs ((xs.take k).map numOf ++ List.replicate (n - k) 0))[k]? = some (.int .i64 0) := by
  rw [show n - k = (n - (k + 1)) + 1 by omega, List.replicate_succ]
  simp only [ivs, List.map_append, List.map_cons]
  have hl' : (List.map iv (List.map numOf (xs.take k))).length = k := by rw [List.length_map, List.length_map, hl]
  rw [List.getElem?_append_right (by rw [hl']; exact Nat.le_refl _), hl', Nat.sub_self]
  rfl

set_option maxRecDepth 100000 in
set_option maxHeartbeats 1000000 in
theorem implNums (l : List UInt8) (n : Nat) (w : World) (hn0 : 1 ≤ n) (hn : n ≤ 10) (hs : l.length < 4294967281) (hE : Env w) : Calls Tryz.prog 87 #[str l, .int .i64 n] w (RetNums (readNums n l) w) := by
  obtain ⟨i0, hi, hz0, hz1, hz2⟩ := info_parts (show (Tryz.prog.info? 3).map (fun i => (i.zero, i.size, i.bytes)) = some (some (.int .i64 0), 1, 8) by kernel_rfl)
  have HS : Hid (∀ w, Env w → Calls Tryz.prog 85 #[str l, .string ⟨#[44]⟩] w fun e w' => ∃ v, e = .returned v ∧ w'.ownsRow w.heap.size TStr 1 v (cutL 44 l).length (strs (cutL 44 l)) ∧ Ext w w') :=
    fun w hE => split_any ⟨l.toArray⟩ 44 w (by simpa [ByteArray.size] using hs) hE
  have hlen := cutL_len 44 l
  have HL : Hid (∀ p ∈ cutL 44 l, p.length < 4294967281) := fun p hp => Nat.lt_of_le_of_lt (hlen.1 p hp) hs
  have HR : Hid (∀ (q : List UInt8) (x : Int) (b : Bool), q.length < 4294967281 → (readL 5 q).getD 0 = x → (readL 5 q).isSome = b → ∀ w, Calls Tryz.prog 97 #[str q, .int .i64 5] w fun e w' => e = .returned (.tuple #[.int .i64 x, .bool b]) ∧ w = w') := by
    intro q x b hq hx hb w
    subst hx; subst hb
    exact readNum_str q 5 (by omega) (by unfold maxLen; omega) w
  have HE := Lib.hid hE
  have hlen2 := hlen.2
  have hpos : 0 < (cutL 44 l).length := List.length_pos_iff.2 (cutL_ne 44 l)
  clear hlen hE
  go_enter Tryz.func87, Tryz.ntmps87
  go_wp2_with fail
  refine (HS.out _ (HE.out.ext (by (repeat' (first | exact Ext.refl _ | (with_reducible assumption) | (with_reducible refine Ext.alloc ?_ _) | (with_reducible refine Ext.setCell ?_ (by first | exact Nat.le_refl _ | (dsimp only; omega) | (simp; done) | (simp; omega)) _) | (with_reducible refine Ext.drew ?_) | (with_reducible refine Ext.drewN ?_ _) | (refine Ext.trans ?_ (by with_reducible assumption))))))).mono ?_
  rintro e w1 ⟨v, rfl, hown, h1⟩
  obtain ⟨g, c, rfl⟩ := Joins.ownsRow_form hown hpos
  have OW := Lib.hid hown
  have X1 := Lib.hid (show Ext w w1 by (repeat' (first | exact Ext.refl _ | (with_reducible assumption) | (with_reducible refine Ext.alloc ?_ _) | (with_reducible refine Ext.setCell ?_ (by first | exact Nat.le_refl _ | (dsimp only; omega) | (simp; done) | (simp; omega)) _) | (with_reducible refine Ext.drew ?_) | (with_reducible refine Ext.drewN ?_ _) | (refine Ext.trans ?_ (by with_reducible assumption)))))
  have hz1' : w.heap.size ≤ w1.heap.size := h1.sz
  clear hown h1
  by_cases hm : (cutL 44 l).length = n
  · have HM := Lib.hid hm
    have hq0 : (((cutL 44 l).length : Int) == (n : Int)) = true := by simp [hm]
    rw [hm] at OW hpos hlen2 hq0 ⊢
    clear hm
    go_wp2_with (at_make; refine wpList_make_full _ rfl _ _ 23 rfl w1.heap.size 3 i0 (.int .i64 0) 1 Tryz.underlying23 hi hz0 hz1 .i64 .i64 _ _ n rfl rfl rfl rfl (by rw [hz2]; omega) (by unfold maxLen; omega) (by simp) ?_; intro w0 hown0 hgrow0)
    have hE0 : Ext w1 w0 := (Ext.refl w1).grown hgrow0 (fun q hq => by cases hq)
    have hg0 := (hown0.lt w1.heap.size rfl).2
    rw [made_zero] at hown0
    have HO0 := Lib.hid hown0
    clear hown0 hgrow0 hi hz0 hz1 hz2
    go_loopw [22] (fun i wr => ∃ k : Nat, k ≤ n ∧ i = .int .i64 k ∧ wr.ownsRow w1.heap.size TI 1 (.slice (some ⟨w1.heap.size, 0, none⟩) n n) n (ivs (((cutL 44 l).take k).map numOf ++ List.replicate (n - k) 0)) ∧ Ext w1 wr ∧ ∀ q ∈ (cutL 44 l).take k, (readL 5 q).isSome = true) (fun i _ => n - (intOf i).toNat)
    case atStart => exact ⟨0, Nat.zero_le _, rfl, by simpa using HO0.out, hE0, by simp⟩
    case round =>
      obtain ⟨k, hk, rfl, hown, hEr, hfn⟩ := hrel
      have HO := Lib.hid hown
      have HF := Lib.hid hfn
      clear hown hfn
      by_cases hlt : k < n
      · obtain ⟨q, hq⟩ : ∃ q, (cutL 44 l)[k]? = some q := ⟨_, List.getElem?_eq_getElem (by rw [HM.out]; exact hlt)⟩
        have HQ := Lib.hid hq
        have hql := HL.out q (List.mem_of_getElem? hq)
        have e1 : wr.cell? ⟨g, k, none⟩ = some (str q) := part_cell (own_ext OW.out hEr) k hlt q hq
        clear hq
        have i1 : (0 : Int) ≤ (k : Int) := by omega
        have i2 : (k : Int) < (n : Int) := by omega
        cases hr : readL 5 q with
        | none =>
          have hno : Hid (readNums n l = none) := nums_no_bad HQ.out hr
          have HRc := Lib.hid (HR.out q 0 false hql (by rw [hr]; rfl) (by rw [hr]; rfl))
          clear hr
          go_wp2_with fail
          refine (HRc.out _).mono ?_
          rintro e w2 ⟨rfl, rfl⟩
          go_wp2
          exact bodyPost_ret (v := .tuple #[.slice none 0 0, .bool false]) (by simp [results, Tryz.results87, go_sem, *]) rfl <| ret_nums_no hno.out (X1.out.trans (by (repeat' (first | exact Ext.refl _ | (with_reducible assumption) | (with_reducible refine Ext.alloc ?_ _) | (with_reducible refine Ext.setCell ?_ (by first | exact Nat.le_refl _ | (dsimp only; omega) | (simp; done) | (simp; omega)) _) | (with_reducible refine Ext.drew ?_) | (with_reducible refine Ext.drewN ?_ _) | (refine Ext.trans ?_ (by with_reducible assumption))))))
        | some x =>
          have HRc := Lib.hid (HR.out q x true hql (by rw [hr]; rfl) (by rw [hr]; rfl))
          have HFN : Hid (∀ q ∈ (cutL 44 l).take (k + 1), (readL 5 q).isSome = true) := by
            rw [Lib.hid (take_snocL HQ.out)]
            intro y hy
            rcases List.mem_append.1 hy with h | h
            · exact HF.out y h
            · obtain rfl : y = q := by simpa using h
              rw [hr]; rfl
          have hxq : Hid (numOf q = x) := by show _ = _; unfold numOf; rw [hr]; rfl
          clear hr
          have hlt' : ((cutL 44 l).take k).length = k := by rw [List.length_take, HM.out]; omega
          have hg1 : w1.heap.size < wr.heap.size := (HO.out.lt w1.heap.size rfl).2
          have o0 : wr.cell? ⟨w1.heap.size, k, none⟩ = some (.int .i64 0) := by
            rw [HO.out.cellAt k (by omega)]
            exact ints_get hlt hlt'
          have f0 : wr.frozen? ⟨w1.heap.size, k, none⟩ = false := HO.out.frozenAt k
          have HN : Hid ((wr.setCell ⟨w1.heap.size, k, none⟩ (.int .i64 x)).ownsRow w1.heap.size TI 1 (.slice (some ⟨w1.heap.size, 0, none⟩) n n) n (ivs (((cutL 44 l).take (k + 1)).map numOf ++ List.replicate (n - (k + 1)) 0))) := by
            have := (HO.out.stored k (.int .i64 x)).1
            rw [ints_next hlt HQ.out hlt' x hxq.out] at this
            exact this
          go_wp2_with fail
          refine (HRc.out _).mono ?_
          rintro e w2 ⟨rfl, rfl⟩
          go_wp2
          go_roundw
          case rel => exact ⟨k + 1, by omega, by go_num, HN.out, by (repeat' (first | exact Ext.refl _ | (with_reducible assumption) | (with_reducible refine Ext.alloc ?_ _) | (with_reducible refine Ext.setCell ?_ (by first | exact Nat.le_refl _ | (dsimp only; omega) | (simp; done) | (simp; omega)) _) | (with_reducible refine Ext.drew ?_) | (with_reducible refine Ext.drewN ?_ _) | (refine Ext.trans ?_ (by with_reducible assumption)))), HFN.out⟩
          case measure => simp [intOf]; omega
      · obtain rfl : k = n := by omega
        have hT : Hid ((cutL 44 l).take k = cutL 44 l) := List.take_of_length_le (by rw [HM.out]; exact Nat.le_refl _)
        have hyes : Hid (readNums k l = some ((cutL 44 l).map numOf)) := nums_yes HM.out (by have := HF.out; rwa [hT.out] at this)
        go_wp2
        refine bodyPost_ret (v := .tuple #[.slice (some ⟨w1.heap.size, 0, none⟩) k k, .bool true]) (by simp [results, Tryz.results87, go_sem, *]) rfl ?_
        rw [hyes.out]
        refine ⟨_, k, _, by simp [HM.out], rfl, ?_, X1.out.trans (by (repeat' (first | exact Ext.refl _ | (with_reducible assumption) | (with_reducible refine Ext.alloc ?_ _) | (with_reducible refine Ext.setCell ?_ (by first | exact Nat.le_refl _ | (dsimp only; omega) | (simp; done) | (simp; omega)) _) | (with_reducible refine Ext.drew ?_) | (with_reducible refine Ext.drewN ?_ _) | (refine Ext.trans ?_ (by with_reducible assumption)))))⟩
        have := HO.out
        rw [hT.out, Nat.sub_self, List.replicate_zero, List.append_nil] at this
        exact own_base this hz1'
  · have hno : Hid (readNums n l = none) := nums_no_len hm
    have hq0 : (((cutL 44 l).length : Int) == (n : Int)) = false := by rw [beq_eq_false_iff_ne]; omega
    generalize (cutL 44 l).length = m at *
    clear hm
    go_wp2
    exact bodyPost_ret (v := .tuple #[.slice none 0 0, .bool false]) (by simp [results, Tryz.results87, go_sem, *]) rfl <| ret_nums_no hno.out (X1.out.trans (by (repeat' (first | exact Ext.refl _ | (with_reducible assumption) | (with_reducible refine Ext.alloc ?_ _) | (with_reducible refine Ext.setCell ?_ (by first | exact Nat.le_refl _ | (dsimp only; omega) | (simp; done) | (simp; omega)) _) | (with_reducible refine Ext.drew ?_) | (with_reducible refine Ext.drewN ?_ _) | (refine Ext.trans ?_ (by with_reducible assumption))))))
end Go.Proofs.YteejdnmmpmcmeaaGreatDoor

/-
  The reference's ReadHall returns the hall whose text a text is. Condition: the text is at most 2^40 bytes long.
-/
namespace Go.Proofs.YteejdnmmpmcmeaaGreatDoor
open Go.RowKit
set_option linter.unusedVariables false
set_option linter.unusedSimpArgs false

theorem app_mid0 {w1 wr w' : World} {g n b : Nat} {t : TypeId} {cs : Array Value} {v : Value} {xs : List Value} {e : TypeId} {sz : Nat} (X : Ext w1 wr) (B : Blk wr g t cs) (ht : e ≠ t) (O : wr.ownsRow b e sz v n xs) (hb : w1.heap.size ≤ b) (hgrow : wr.grownBy w' v.ownBlock) :
    Ext w1 w' ∧ Blk w' g t cs :=
  ⟨X.grown hgrow (fun q hq => Nat.le_trans hb (O.lt q hq).1), B.grown hgrow (fun h => own_ty_blk O B ht h.symm)⟩
theorem app_own0 {wr w' : World} {n b : Nat} {v : Value} {xs : List Value} {e : TypeId} {sz : Nat} (O : wr.ownsRow b e sz v n xs) (hgrow : wr.grownBy w' v.ownBlock) {b2 s2 n2 : Nat} {v2 : Value} {xs2 : List Value} {e2 : TypeId} (h2 : wr.ownsRow b2 e2 s2 v2 n2 xs2) (ne : e2 ≠ e) : w'.ownsRow b2 e2 s2 v2 n2 xs2 :=
  h2.kept hgrow (own_ty h2 O ne)
theorem cutL_sum (c : UInt8) : ∀ l : List UInt8, ((cutL c l).map (fun p => p.length + 1)).sum = l.length + 1 := by
  intro l
  induction l with
  | nil => rfl
  | cons x xs ih =>
    unfold cutL
    split
    · simp [ih]; omega
    · cases hq : cutL c xs with
      | nil => exact absurd hq (cutL_ne c xs)
      | cons p ps => rw [hq] at ih; simp at ih ⊢; omega
theorem cells_sum (rows : List (List UInt8)) : (cellsTo (rows.map (cutL 44))).length ≤ (rows.map (fun p => p.length + 1)).sum := by
  induction rows with
  | nil => simp [cellsTo]
  | cons r rs ih =>
    have := (cutL_len 44 r).2
    simp only [cellsTo, List.map_cons, List.flatten_cons, List.map_append, List.length_append, List.length_map, List.sum_cons] at ih ⊢
    omega
theorem sum_take (rows : List (List UInt8)) (k : Nat) : ((rows.take k).map (fun p => p.length + 1)).sum ≤ (rows.map (fun p => p.length + 1)).sum := by
  conv => rhs; rw [← List.take_append_drop k rows, List.map_append, List.sum_append]
  omega
theorem cells_bd (l : List UInt8) (k : Nat) : (cellsTo (wordsTo (cutL 47 l) k)).length ≤ l.length + 1 := by
  have h1 := cells_sum ((cutL 47 l).take k)
  have h2 := sum_take (cutL 47 l) k
  have h3 := cutL_sum 47 l
  unfold wordsTo
  omega

set_option maxRecDepth 100000 in
set_option maxHeartbeats 2000000 in
theorem specReadHall (l : List UInt8) (w : World) (hs : l.length ≤ 1048576) : Calls Tryz.prog 82 #[str l] w (RetHallB (readHall l) w) := by
  have HS : Hid (∀ q : List UInt8, q.length ≤ 1048576 → ∀ (c : UInt8) (ci : Int), ci = (c.toNat : Int) → ∀ w, Calls Tryz.prog 81 #[str q, .int .u8 ci] w fun e w' => ∃ v, e = .returned v ∧ w'.ownsRow w.heap.size TStr 1 v (cutL c q).length (strs (cutL c q)) ∧ Ext w w') :=
    fun q hq c ci hc w => l1Cut_any ⟨q.toArray⟩ c ci hc w (by simp only [ByteArray.size, List.size_toArray]; omega)
  have hlen := cutL_len 47 l
  have HL : Hid (∀ p ∈ cutL 47 l, p.length ≤ 1048576) := fun p hp => Nat.le_trans (hlen.1 p hp) hs
  have HR : Hid (∀ (q : List UInt8) (x : Int), q.length ≤ 1048576 → (readL 4 q).getD (-1) = x → ∀ w, Calls Tryz.prog 95 #[str q] w fun e w' => e = .returned (.int .i64 x) ∧ w = w') := by
    intro q x hq hx w
    subst hx
    exact l1Read_strB q (by unfold maxLen; omega) w
  have HBD : Hid (∀ k, (cellsTo (wordsTo (cutL 47 l) k)).length ≤ 1048577) := fun k => by have := cells_bd l k; omega
  have hlen2 := hlen.2
  have hpos : 0 < (cutL 47 l).length := List.length_pos_iff.2 (cutL_ne 47 l)
  clear hlen
  go_enter Tryz.func82, Tryz.ntmps82
  go_wp2_with fail
  refine (HS.out l hs 47 _ rfl _).mono ?_
  rintro e w1 ⟨v, rfl, hown, h1⟩
  have hown1 := Lib.hid (show w1.ownsRow (w.heap.size + 1) TStr 1 v (cutL 47 l).length (strs (cutL 47 l)) by simpa using hown)
  have hX1 : Ext w w1 := by (repeat' (first | exact Ext.refl _ | (with_reducible assumption) | (with_reducible refine Ext.alloc ?_ _) | (with_reducible refine Ext.setCell ?_ (by first | exact Nat.le_refl _ | (dsimp only; omega) | (simp; done) | (simp; omega)) _) | (with_reducible refine Ext.drew ?_) | (with_reducible refine Ext.drewN ?_ _) | (refine Ext.trans ?_ (by with_reducible assumption))))
  have HZ1 : Hid (Blk w1 w.heap.size THall Z3) := (Blk.new w _ _).ext h1
  have hz1 : w.heap.size < w1.heap.size := HZ1.out.lt
  have HX1 := Lib.hid hX1
  clear hown h1 hX1
  obtain ⟨gr, cr, rfl⟩ := Joins.ownsRow_form hown1.out hpos
  generalize hRq : (cutL 47 l).length = R at *
  have HRq := Lib.hid hRq
  clear hRq
  have hR2 : R ≤ 4294967281 := by omega
  go_wp2
  go_loopw [6] (fun i wr => ∃ (k n : Nat) (p : Option Addr) (cap : Nat), k ≤ R ∧ i = .int .i64 k ∧ n = (cellsTo (wordsTo (cutL 47 l) k)).length ∧ Ext w1 wr ∧ Blk wr w1.heap.size THall #[.int .i64 (wideOf (wordsTo (cutL 47 l) k)), .int .i64 R, .slice p n cap] ∧
    wr.ownsRow (w1.heap.size + 1) TI 1 (.slice p n cap) n (ivs (cellsTo (wordsTo (cutL 47 l) k)))) (fun i _ => R - (intOf i).toNat)
  case atStart =>
    refine ⟨0, 0, none, 0, Nat.zero_le _, rfl, rfl, by (repeat' (first | exact Ext.refl _ | (with_reducible assumption) | (with_reducible refine Ext.alloc ?_ _) | (with_reducible refine Ext.setCell ?_ (by first | exact Nat.le_refl _ | (dsimp only; omega) | (simp; done) | (simp; omega)) _) | (with_reducible refine Ext.drew ?_) | (with_reducible refine Ext.drewN ?_ _) | (refine Ext.trans ?_ (by with_reducible assumption)))), ?_, World.ownsRow_nil _ _ _ _⟩
    have := Blk.new w1 THall #[.int .i64 0, .int .i64 R, .slice none 0 0]
    simpa [wordsTo, wideOf] using this
  case round =>
    obtain ⟨k, n, p, cap, hk, rfl, hn, hEr, hB, hO⟩ := hrel
    have HB := Lib.hid hB
    have HO := Lib.hid hO
    have HN := Lib.hid hn
    clear hB hO hn
    by_cases hlt : k < R
    · obtain ⟨q, hq⟩ : ∃ q, (cutL 47 l)[k]? = some q := ⟨_, List.getElem?_eq_getElem (by rw [HRq.out]; exact hlt)⟩
      have HQ := Lib.hid hq
      have hql : q.length ≤ 1048576 := HL.out q (List.mem_of_getElem? hq)
      have e1 : wr.cell? ⟨gr, k, none⟩ = some (str q) := part_cell (own_ext hown1.out hEr) k hlt q hq
      clear hq
      have i1 : (0 : Int) ≤ (k : Int) := by omega
      have i2 : (k : Int) < (R : Int) := by omega
      have hzr : w1.heap.size < wr.heap.size := HB.out.lt
      go_wp2_with fail
      refine (HS.out q hql 44 _ rfl _).mono ?_
      rintro e w2 ⟨v2, rfl, hown2, h2⟩
      clear e1
      have hlen3 := (cutL_len 44 q).2
      have hpos2 : 0 < (cutL 44 q).length := List.length_pos_iff.2 (cutL_ne 44 q)
      have XM := Lib.hid (hEr.trans h2)
      have BM := Lib.hid (HB.out.ext h2)
      have OM := Lib.hid (own_ext HO.out h2)
      obtain ⟨bW, OW⟩ : ∃ bW, Hid (w2.ownsRow bW TStr 1 v2 (cutL 44 q).length (strs (cutL 44 q))) := ⟨_, hown2⟩
      have hzr2 : wr.heap.size ≤ w2.heap.size := h2.sz
      clear hown2 h2
      obtain ⟨g2, c2, rfl⟩ := Joins.ownsRow_form OW.out hpos2
      have HLR : Hid (∀ c ∈ cutL 44 q, c.length ≤ 1048576) := fun c hc => Nat.le_trans ((cutL_len 44 q).1 c hc) hql
      generalize hm : (cutL 44 q).length = m at *
      have HM := Lib.hid hm
      clear hm
      have b0 : w2.cell? ⟨w1.heap.size, 0, none⟩ = some (.int .i64 (wideOf (wordsTo (cutL 47 l) k))) := BM.out.cell 0
      have b1 : w2.cell? ⟨w1.heap.size, 1, none⟩ = some (.int .i64 R) := BM.out.cell 1
      have b2 : w2.cell? ⟨w1.heap.size, 2, none⟩ = some (.slice p n cap) := BM.out.cell 2
      have bf0 : w2.frozen? ⟨w1.heap.size, 0, none⟩ = false := BM.out.frozen 0
      have bf1 : w2.frozen? ⟨w1.heap.size, 1, none⟩ = false := BM.out.frozen 1
      have bf2 : w2.frozen? ⟨w1.heap.size, 2, none⟩ = false := BM.out.frozen 2
      go_wp2
      clear b0 b1 b2 bf0 bf1 bf2
      go_loopw [8] (fun i wz => ∃ (j n : Nat) (p : Option Addr) (cap : Nat), j ≤ m ∧ i = .int .i64 j ∧ n = (cellsTo (wordsTo (cutL 47 l) k) ++ ((cutL 44 q).take j).map cellS).length ∧ Ext w1 wz ∧ Blk wz w1.heap.size THall #[.int .i64 m, .int .i64 R, .slice p n cap] ∧
        wz.ownsRow (w1.heap.size + 1) TI 1 (.slice p n cap) n (ivs (cellsTo (wordsTo (cutL 47 l) k) ++ ((cutL 44 q).take j).map cellS)) ∧ wz.ownsRow bW TStr 1 (.slice (some ⟨g2, 0, none⟩) m c2) m (strs (cutL 44 q))) (fun i _ => m - (intOf i).toNat)
      case atStart =>
        refine ⟨0, n, p, cap, Nat.zero_le _, rfl, by simpa using HN.out, XM.out.setCell (Nat.le_refl _) _, ?_, ?_, set_own BM.out OW.out (by decide)⟩
        · have := BM.out.set 0 (.int .i64 m)
          simpa using this
        · have := set_own (i := 0) (u := .int .i64 m) BM.out OM.out (by decide)
          simpa using this
      case round =>
        clear HN HO HB XM BM OM OW n p cap
        obtain ⟨j, n, p, cap, hj, rfl, hn, hEz, hB, hO, hW⟩ := hrel
        have XZ := Lib.hid hEz
        have BZ := Lib.hid hB
        have OZ := Lib.hid hO
        have OWZ := Lib.hid hW
        have HNZ := Lib.hid hn
        have hzz2 : w1.heap.size < wr.heap.size := hB.lt
        have hnbd : n ≤ 1048577 := by
          have h3 := HBD.out (k + 1)
          rw [wordsTo_snoc HQ.out, cellsTo_snoc, List.length_append, List.length_map] at h3
          rw [hn, List.length_append, List.length_map, List.length_take]
          omega
        clear hEz hB hO hW hn
        by_cases hlt2 : j < m
        · obtain ⟨c, hc⟩ : ∃ c, (cutL 44 q)[j]? = some c := ⟨_, List.getElem?_eq_getElem (by rw [HM.out]; exact hlt2)⟩
          have HC := Lib.hid hc
          have hcl : c.length ≤ 1048576 := HLR.out c (List.mem_of_getElem? hc)
          have e2 : wr.cell? ⟨g2, j, none⟩ = some (str c) := part_cell OWZ.out j hlt2 c hc
          clear hc
          have i3 : (0 : Int) ≤ (j : Int) := by omega
          have i4 : (j : Int) < (m : Int) := by omega
          have b0 : wr.cell? ⟨w1.heap.size, 0, none⟩ = some (.int .i64 m) := BZ.out.cell 0
          have b1 : wr.cell? ⟨w1.heap.size, 1, none⟩ = some (.int .i64 R) := BZ.out.cell 1
          have b2 : wr.cell? ⟨w1.heap.size, 2, none⟩ = some (.slice p n cap) := BZ.out.cell 2
          have bf0 : wr.frozen? ⟨w1.heap.size, 0, none⟩ = false := BZ.out.frozen 0
          have bf1 : wr.frozen? ⟨w1.heap.size, 1, none⟩ = false := BZ.out.frozen 1
          have bf2 : wr.frozen? ⟨w1.heap.size, 2, none⟩ = false := BZ.out.frozen 2
          by_cases hd : c = [46]
          · have hd2 : (c == [46]) = true := by simp [hd]
            have HCS : Hid (cellS c = 0) := by show _ = _; rw [hd]; rfl
            clear hd
            go_wp2_with (at_builtin; refine wpList_append_int elInt rfl _ _ rfl (w1.heap.size + 1) (.slice p n cap) n _ rfl (OZ.out.alloc _) _ _ (0) _ rfl (by simp) (by omega) (by simp; omega) ?_; intro p2 cap2 w3 hown3 hgrow3; obtain ⟨X3, B3⟩ := app_mid XZ.out BZ.out (by decide) OZ.out (by omega) hgrow3; have OW3 := app_own OZ.out hgrow3 OWZ.out (by decide); clear hgrow3 b0 b1 b2 bf0 bf1 bf2 e2; (have b0 : w3.cell? ⟨w1.heap.size, 0, none⟩ = some (.int .i64 m) := B3.cell 0); (have b1 : w3.cell? ⟨w1.heap.size, 1, none⟩ = some (.int .i64 R) := B3.cell 1); (have b2 : w3.cell? ⟨w1.heap.size, 2, none⟩ = some (.slice p n cap) := B3.cell 2); (have bf0 : w3.frozen? ⟨w1.heap.size, 0, none⟩ = false := B3.frozen 0); (have bf1 : w3.frozen? ⟨w1.heap.size, 1, none⟩ = false := B3.frozen 1); (have bf2 : w3.frozen? ⟨w1.heap.size, 2, none⟩ = false := B3.frozen 2); have hz3 : w1.heap.size < w3.heap.size := B3.lt)
            have B4 := Lib.hid (show Blk (w3.setCell ⟨w1.heap.size, 2, none⟩ (.slice p2 (n + 1) cap2)) w1.heap.size THall #[.int .i64 m, .int .i64 R, .slice p2 (n + 1) cap2] by have := B3.set 2 (.slice p2 (n + 1) cap2); simpa using this)
            have O4 : Hid ((w3.setCell ⟨w1.heap.size, 2, none⟩ (.slice p2 (n + 1) cap2)).ownsRow (w1.heap.size + 1) TI 1 (.slice p2 (n + 1) cap2) (n + 1) (ivs (cellsTo (wordsTo (cutL 47 l) k) ++ ((cutL 44 q).take (j + 1)).map cellS))) := by
              have := set_own (i := 2) (u := .slice p2 (n + 1) cap2) B3 hown3 (by decide)
              rw [show ivs (cellsTo (wordsTo (cutL 47 l) k) ++ ((cutL 44 q).take j).map cellS ++ [0]) = ivs (cellsTo (wordsTo (cutL 47 l) k) ++ ((cutL 44 q).take (j + 1)).map cellS) by rw [take_snocL HC.out, List.map_append]; simp [HCS.out, ivs]] at this
              exact this
            have OW4 := Lib.hid (set_own (i := 2) (u := .slice p2 (n + 1) cap2) B3 OW3 (by decide))
            have X4 : Ext w1 (w3.setCell ⟨w1.heap.size, 2, none⟩ (.slice p2 (n + 1) cap2)) := X3.setCell (Nat.le_refl _) _
            clear hown3 OW3 B3 X3
            go_roundw
            case rel => exact ⟨j + 1, n + 1, p2, cap2, by omega, by go_num, by have hmm := HM.out; rw [HNZ.out]; simp only [List.length_append, List.length_map, List.length_take]; omega, X4, B4.out, O4.out, OW4.out⟩
            case measure => simp [intOf]; omega
          · have hd2 : (c == [46]) = false := by simp [hd]
            obtain ⟨x, hx⟩ : ∃ x, (readL 4 c).getD (-1) = x := ⟨_, rfl⟩
            have HCS : Hid (cellS c = x) := by show _ = _; unfold cellS; rw [if_neg hd, hx]
            have HRc := Lib.hid (HR.out c x hcl hx)
            clear hx hd
            go_wp2_with fail
            go_region_law (first | (refine step_append_sl _ elInt rfl (.tmp 45) (.tmp 51) rfl (w1.heap.size + 1) (.slice p n cap) n _ (by simp [Act.eval, Act.put]; done) (own_ext OZ.out (by (repeat' (first | exact Ext.refl _ | (with_reducible assumption) | (with_reducible refine Ext.alloc ?_ _) | (with_reducible refine Ext.setCell ?_ (by first | exact Nat.le_refl _ | (dsimp only; omega) | (simp; done) | (simp; omega)) _) | (with_reducible refine Ext.drew ?_) | (with_reducible refine Ext.drewN ?_ _) | (refine Ext.trans ?_ (by with_reducible assumption)))))) _ 1 1 [iv x] (by simp [Act.eval, Act.put]; rfl) ((Sl.new _ #[.int .i64 x] _ 1 rfl (by decide)).ext (by (repeat' (first | exact Ext.refl _ | (with_reducible assumption) | (with_reducible refine Ext.alloc ?_ _) | (with_reducible refine Ext.setCell ?_ (by first | exact Nat.le_refl _ | (dsimp only; omega) | (simp; done) | (simp; omega)) _) | (with_reducible refine Ext.drew ?_) | (with_reducible refine Ext.drewN ?_ _) | (refine Ext.trans ?_ (by with_reducible assumption)))))) (ivs_one [x]) (by omega) (by simp; omega) ?_; intro p2 cap2 w3 hown3 hgrow3; obtain ⟨X3, B3⟩ := app_mid0 (XZ.out.trans (by (repeat' (first | exact Ext.refl _ | (with_reducible assumption) | (with_reducible refine Ext.alloc ?_ _) | (with_reducible refine Ext.setCell ?_ (by first | exact Nat.le_refl _ | (dsimp only; omega) | (simp; done) | (simp; omega)) _) | (with_reducible refine Ext.drew ?_) | (with_reducible refine Ext.drewN ?_ _) | (refine Ext.trans ?_ (by with_reducible assumption)))))) (BZ.out.ext (by (repeat' (first | exact Ext.refl _ | (with_reducible assumption) | (with_reducible refine Ext.alloc ?_ _) | (with_reducible refine Ext.setCell ?_ (by first | exact Nat.le_refl _ | (dsimp only; omega) | (simp; done) | (simp; omega)) _) | (with_reducible refine Ext.drew ?_) | (with_reducible refine Ext.drewN ?_ _) | (refine Ext.trans ?_ (by with_reducible assumption)))))) (by decide) (own_ext OZ.out (by (repeat' (first | exact Ext.refl _ | (with_reducible assumption) | (with_reducible refine Ext.alloc ?_ _) | (with_reducible refine Ext.setCell ?_ (by first | exact Nat.le_refl _ | (dsimp only; omega) | (simp; done) | (simp; omega)) _) | (with_reducible refine Ext.drew ?_) | (with_reducible refine Ext.drewN ?_ _) | (refine Ext.trans ?_ (by with_reducible assumption)))))) (by omega) hgrow3; have OW3 := app_own0 (own_ext OZ.out (by (repeat' (first | exact Ext.refl _ | (with_reducible assumption) | (with_reducible refine Ext.alloc ?_ _) | (with_reducible refine Ext.setCell ?_ (by first | exact Nat.le_refl _ | (dsimp only; omega) | (simp; done) | (simp; omega)) _) | (with_reducible refine Ext.drew ?_) | (with_reducible refine Ext.drewN ?_ _) | (refine Ext.trans ?_ (by with_reducible assumption)))))) hgrow3 (own_ext OWZ.out (by (repeat' (first | exact Ext.refl _ | (with_reducible assumption) | (with_reducible refine Ext.alloc ?_ _) | (with_reducible refine Ext.setCell ?_ (by first | exact Nat.le_refl _ | (dsimp only; omega) | (simp; done) | (simp; omega)) _) | (with_reducible refine Ext.drew ?_) | (with_reducible refine Ext.drewN ?_ _) | (refine Ext.trans ?_ (by with_reducible assumption)))))) (by decide); clear hgrow3; (have c0 : w3.cell? ⟨w1.heap.size, 0, none⟩ = some (.int .i64 m) := B3.cell 0); (have c1 : w3.cell? ⟨w1.heap.size, 1, none⟩ = some (.int .i64 R) := B3.cell 1); (have c2 : w3.cell? ⟨w1.heap.size, 2, none⟩ = some (.slice p n cap) := B3.cell 2); (have cf0 : w3.frozen? ⟨w1.heap.size, 0, none⟩ = false := B3.frozen 0); (have cf1 : w3.frozen? ⟨w1.heap.size, 1, none⟩ = false := B3.frozen 1); (have cf2 : w3.frozen? ⟨w1.heap.size, 2, none⟩ = false := B3.frozen 2); have hz3 : w1.heap.size < w3.heap.size := B3.lt) | (go_simp; go_at_call 95; refine (HRc.out _).mono ?_; rintro e w2 ⟨rfl, rfl⟩))
            all_goals
              clear c0 c1 c2 cf0 cf1 cf2
              have B4 := Lib.hid (show Blk (w3.setCell ⟨w1.heap.size, 2, none⟩ (.slice p2 (n + 1) cap2)) w1.heap.size THall #[.int .i64 m, .int .i64 R, .slice p2 (n + 1) cap2] by have := B3.set 2 (.slice p2 (n + 1) cap2); simpa using this)
              have O4 : Hid ((w3.setCell ⟨w1.heap.size, 2, none⟩ (.slice p2 (n + 1) cap2)).ownsRow (w1.heap.size + 1) TI 1 (.slice p2 (n + 1) cap2) (n + 1) (ivs (cellsTo (wordsTo (cutL 47 l) k) ++ ((cutL 44 q).take (j + 1)).map cellS))) := by
                have := set_own (i := 2) (u := .slice p2 (n + 1) cap2) B3 hown3 (by decide)
                rw [show ivs (cellsTo (wordsTo (cutL 47 l) k) ++ ((cutL 44 q).take j).map cellS) ++ [iv x] = ivs (cellsTo (wordsTo (cutL 47 l) k) ++ ((cutL 44 q).take (j + 1)).map cellS) by rw [take_snocL HC.out, List.map_append]; simp [HCS.out, ivs]] at this
                exact this
              have OW4 := Lib.hid (set_own (i := 2) (u := .slice p2 (n + 1) cap2) B3 OW3 (by decide))
              have X4 : Ext w1 (w3.setCell ⟨w1.heap.size, 2, none⟩ (.slice p2 (n + 1) cap2)) := X3.setCell (Nat.le_refl _) _
              clear hown3 OW3 B3 X3
              go_wp2
              go_roundw
              case rel => exact ⟨j + 1, n + 1, p2, cap2, by omega, by go_num, by have hmm := HM.out; rw [HNZ.out]; simp only [List.length_append, List.length_map, List.length_take]; omega, X4, B4.out, O4.out, OW4.out⟩
              case measure => simp [intOf]; omega
        · obtain rfl : j = m := by omega
          have HT : Hid ((cutL 44 q).take j = cutL 44 q) := List.take_of_length_le (by rw [HM.out]; exact Nat.le_refl _)
          go_wp2
          go_roundw
          case rel =>
            refine ⟨k + 1, n, p, cap, by omega, by go_num, ?_, XZ.out, ?_, ?_⟩
            · rw [wordsTo_snoc HQ.out, cellsTo_snoc, HNZ.out, HT.out]
            · rw [wordsTo_snoc HQ.out, wideOf_snoc, HM.out]; exact BZ.out
            · rw [wordsTo_snoc HQ.out, cellsTo_snoc]; have := OZ.out; rw [HT.out] at this; exact this
          case measure => simp [intOf]; omega
    · obtain rfl : k = R := by omega
      have hWW : Hid (wordsTo (cutL 47 l) k = hallWords l) := wordsTo_all l (by rw [HRq.out]; exact Nat.le_refl _)
      have hHP : Hid (hallParse l = (wideOf (wordsTo (cutL 47 l) k), (k : Int), cellsTo (wordsTo (cutL 47 l) k))) := by show _ = _; unfold hallParse; rw [hWW.out, HRq.out]; rfl
      clear HBD
      generalize hwd : wideOf (wordsTo (cutL 47 l) k) = wd at *
      generalize hxs : cellsTo (wordsTo (cutL 47 l) k) = xs at *
      clear hwd hxs
      have hzr : w1.heap.size < wr.heap.size := HB.out.lt
      have b0 : wr.cell? ⟨w1.heap.size, 0, none⟩ = some (.int .i64 wd) := HB.out.cell 0
      have b1 : wr.cell? ⟨w1.heap.size, 1, none⟩ = some (.int .i64 k) := HB.out.cell 1
      have b2 : wr.cell? ⟨w1.heap.size, 2, none⟩ = some (.slice p n cap) := HB.out.cell 2
      have HV := Lib.hid (fun w' (hx : Ext wr w') => specHv wd k p n cap xs w' ((Sl.own HO.out).ext hx))
      cases hok : hallOk wd k xs with
      | false =>
        have hno : Hid (readHall l = none) := by show _ = _; rw [readHall_val, hHP.out]; simp [hok]
        rw [hok] at HV
        clear hok
        go_wp2_with fail
        refine (HV.out _ (by (repeat' (first | exact Ext.refl _ | (with_reducible assumption) | (with_reducible refine Ext.alloc ?_ _) | (with_reducible refine Ext.setCell ?_ (by first | exact Nat.le_refl _ | (dsimp only; omega) | (simp; done) | (simp; omega)) _) | (with_reducible refine Ext.drew ?_) | (with_reducible refine Ext.drewN ?_ _) | (refine Ext.trans ?_ (by with_reducible assumption)))))).mono ?_
        rintro e w2 ⟨rfl, h2⟩
        clear b0 b1 b2
        have XF := Lib.hid (show Ext w1 w2 by (repeat' (first | exact Ext.refl _ | (with_reducible assumption) | (with_reducible refine Ext.alloc ?_ _) | (with_reducible refine Ext.setCell ?_ (by first | exact Nat.le_refl _ | (dsimp only; omega) | (simp; done) | (simp; omega)) _) | (with_reducible refine Ext.drew ?_) | (with_reducible refine Ext.drewN ?_ _) | (refine Ext.trans ?_ (by with_reducible assumption)))))
        clear h2
        have z0 : w2.cell? ⟨w.heap.size, 0, none⟩ = some (.int .i64 0) := (HZ1.out.ext XF.out).cell 0
        have z1 : w2.cell? ⟨w.heap.size, 1, none⟩ = some (.int .i64 0) := (HZ1.out.ext XF.out).cell 1
        have z2 : w2.cell? ⟨w.heap.size, 2, none⟩ = some (.slice none 0 0) := (HZ1.out.ext XF.out).cell 2
        have zf0 : w2.frozen? ⟨w.heap.size, 0, none⟩ = false := (HZ1.out.ext XF.out).frozen 0
        have zf1 : w2.frozen? ⟨w.heap.size, 1, none⟩ = false := (HZ1.out.ext XF.out).frozen 1
        have zf2 : w2.frozen? ⟨w.heap.size, 2, none⟩ = false := (HZ1.out.ext XF.out).frozen 2
        have hxw : Ext w w2 := HX1.out.trans XF.out
        have hzz : w.heap.size < w2.heap.size := (HZ1.out.ext XF.out).lt
        go_wp2
        exact bodyPost_ret (v := .tuple #[hallV 0 0 none 0 0, .bool false]) (by simp [results, Tryz.results82, go_sem, *]) rfl (ret_hall_no hno.out (by (repeat' (first | exact Ext.refl _ | (with_reducible assumption) | (with_reducible refine Ext.alloc ?_ _) | (with_reducible refine Ext.setCell ?_ (by first | exact Nat.le_refl _ | (dsimp only; omega) | (simp; done) | (simp; omega)) _) | (with_reducible refine Ext.drew ?_) | (with_reducible refine Ext.drewN ?_ _) | (refine Ext.trans ?_ (by with_reducible assumption))))))
      | true =>
        rw [hok] at HV
        go_wp2_with fail
        refine (HV.out _ (by (repeat' (first | exact Ext.refl _ | (with_reducible assumption) | (with_reducible refine Ext.alloc ?_ _) | (with_reducible refine Ext.setCell ?_ (by first | exact Nat.le_refl _ | (dsimp only; omega) | (simp; done) | (simp; omega)) _) | (with_reducible refine Ext.drew ?_) | (with_reducible refine Ext.drewN ?_ _) | (refine Ext.trans ?_ (by with_reducible assumption)))))).mono ?_
        rintro e w2 ⟨rfl, h2⟩
        clear b0 b1 b2
        have h2' : Ext wr w2 := by (repeat' (first | exact Ext.refl _ | (with_reducible assumption) | (with_reducible refine Ext.alloc ?_ _) | (with_reducible refine Ext.setCell ?_ (by first | exact Nat.le_refl _ | (dsimp only; omega) | (simp; done) | (simp; omega)) _) | (with_reducible refine Ext.drew ?_) | (with_reducible refine Ext.drewN ?_ _) | (refine Ext.trans ?_ (by with_reducible assumption))))
        have B2 := Lib.hid (HB.out.ext h2')
        have O2 := Lib.hid (own_ext HO.out h2')
        have X2 := Lib.hid (show Ext w1 w2 by (repeat' (first | exact Ext.refl _ | (with_reducible assumption) | (with_reducible refine Ext.alloc ?_ _) | (with_reducible refine Ext.setCell ?_ (by first | exact Nat.le_refl _ | (dsimp only; omega) | (simp; done) | (simp; omega)) _) | (with_reducible refine Ext.drew ?_) | (with_reducible refine Ext.drewN ?_ _) | (refine Ext.trans ?_ (by with_reducible assumption)))))
        have hz2 : w1.heap.size < w2.heap.size := B2.out.lt
        clear h2 h2'
        have HT := Lib.hid (fun w' (hx : Ext w2 w') => specHallText wd k p n cap xs w' ((Sl.own O2.out).ext hx))
        have b0 : w2.cell? ⟨w1.heap.size, 0, none⟩ = some (.int .i64 wd) := B2.out.cell 0
        have b1 : w2.cell? ⟨w1.heap.size, 1, none⟩ = some (.int .i64 k) := B2.out.cell 1
        have b2 : w2.cell? ⟨w1.heap.size, 2, none⟩ = some (.slice p n cap) := B2.out.cell 2
        go_wp2_with fail
        refine (HT.out _ (by (repeat' (first | exact Ext.refl _ | (with_reducible assumption) | (with_reducible refine Ext.alloc ?_ _) | (with_reducible refine Ext.setCell ?_ (by first | exact Nat.le_refl _ | (dsimp only; omega) | (simp; done) | (simp; omega)) _) | (with_reducible refine Ext.drew ?_) | (with_reducible refine Ext.drewN ?_ _) | (refine Ext.trans ?_ (by with_reducible assumption)))))).mono ?_
        rintro e w3 ⟨rfl, h3⟩
        clear b0 b1 b2
        have h3' : Ext w2 w3 := by (repeat' (first | exact Ext.refl _ | (with_reducible assumption) | (with_reducible refine Ext.alloc ?_ _) | (with_reducible refine Ext.setCell ?_ (by first | exact Nat.le_refl _ | (dsimp only; omega) | (simp; done) | (simp; omega)) _) | (with_reducible refine Ext.drew ?_) | (with_reducible refine Ext.drewN ?_ _) | (refine Ext.trans ?_ (by with_reducible assumption))))
        have B3 := Lib.hid (B2.out.ext h3')
        have O3 := Lib.hid (own_ext O2.out h3')
        have X3 := Lib.hid (show Ext w1 w3 by have := X2.out; (repeat' (first | exact Ext.refl _ | (with_reducible assumption) | (with_reducible refine Ext.alloc ?_ _) | (with_reducible refine Ext.setCell ?_ (by first | exact Nat.le_refl _ | (dsimp only; omega) | (simp; done) | (simp; omega)) _) | (with_reducible refine Ext.drew ?_) | (with_reducible refine Ext.drewN ?_ _) | (refine Ext.trans ?_ (by with_reducible assumption)))))
        clear h3 h3'
        by_cases ht : hallText wd k xs = l
        · have hd2 : (hallText wd k xs == l) = true := by simp [ht]
          have hyes : Hid (readHall l = some (wd, (k : Int), xs)) := by show _ = _; rw [readHall_val, hHP.out]; simp [hok, ht]
          clear ht hok
          have b0 : w3.cell? ⟨w1.heap.size, 0, none⟩ = some (.int .i64 wd) := B3.out.cell 0
          have b1 : w3.cell? ⟨w1.heap.size, 1, none⟩ = some (.int .i64 k) := B3.out.cell 1
          have b2 : w3.cell? ⟨w1.heap.size, 2, none⟩ = some (.slice p n cap) := B3.out.cell 2
          have z0 : w3.cell? ⟨w.heap.size, 0, none⟩ = some (.int .i64 0) := (HZ1.out.ext X3.out).cell 0
          have z1 : w3.cell? ⟨w.heap.size, 1, none⟩ = some (.int .i64 0) := (HZ1.out.ext X3.out).cell 1
          have z2 : w3.cell? ⟨w.heap.size, 2, none⟩ = some (.slice none 0 0) := (HZ1.out.ext X3.out).cell 2
          have zf0 : w3.frozen? ⟨w.heap.size, 0, none⟩ = false := (HZ1.out.ext X3.out).frozen 0
          have zf1 : w3.frozen? ⟨w.heap.size, 1, none⟩ = false := (HZ1.out.ext X3.out).frozen 1
          have zf2 : w3.frozen? ⟨w.heap.size, 2, none⟩ = false := (HZ1.out.ext X3.out).frozen 2
          have hzz : w.heap.size < w3.heap.size := (HZ1.out.ext X3.out).lt
          have hne : ¬ w.heap.size = w1.heap.size := by omega
          go_wp2
          generalize hw5 : World.setCell _ _ _ = w5
          have hR5 : ExtR w.heap.size w3 w5 := by rw [← hw5]; exact (((ExtR.refl _ w3).setCell (p := ⟨w.heap.size, 0, none⟩) (.inl rfl) _).setCell (p := ⟨w.heap.size, 1, none⟩) (.inl rfl) _).setCell (p := ⟨w.heap.size, 2, none⟩) (.inl rfl) _
          have Y5 := (((HZ1.out.ext X3.out).set 0 (.int .i64 wd)).set 1 (.int .i64 k)).set 2 (.slice p n cap)
          simp only [Z3, List.setIfInBounds_toArray, List.set_cons_zero, List.set_cons_succ] at Y5
          rw [hw5] at Y5
          have O5 : w5.ownsRow w.heap.size TI 1 (.slice p n cap) n (ivs xs) := own_base (O3.out.kept hR5 (.inr (own_ty_blk O3.out (HZ1.out.ext X3.out) (by decide)))) (by omega)
          have X5 : Ext w w5 := ExtR.new (HX1.out.trans X3.out) hR5 (Nat.le_refl _)
          clear hw5 z0 z1 z2 zf0 zf1 zf2 b0 b1 b2
          have y0 : w5.cell? ⟨w.heap.size, 0, none⟩ = some (.int .i64 wd) := Y5.cell 0
          have y1 : w5.cell? ⟨w.heap.size, 1, none⟩ = some (.int .i64 k) := Y5.cell 1
          have y2 : w5.cell? ⟨w.heap.size, 2, none⟩ = some (.slice p n cap) := Y5.cell 2
          exact bodyPost_ret (v := .tuple #[hallV wd k p n cap, .bool true]) (by simp [results, Tryz.results82, go_sem, *]) rfl (ret_hall_yes hyes.out HN.out O5 X5)
        · have hd2 : (hallText wd k xs == l) = false := by simp [ht]
          have hno : Hid (readHall l = none) := by show _ = _; rw [readHall_val, hHP.out]; simp [ht]
          clear ht hok
          have z0 : w3.cell? ⟨w.heap.size, 0, none⟩ = some (.int .i64 0) := (HZ1.out.ext X3.out).cell 0
          have z1 : w3.cell? ⟨w.heap.size, 1, none⟩ = some (.int .i64 0) := (HZ1.out.ext X3.out).cell 1
          have z2 : w3.cell? ⟨w.heap.size, 2, none⟩ = some (.slice none 0 0) := (HZ1.out.ext X3.out).cell 2
          have zf0 : w3.frozen? ⟨w.heap.size, 0, none⟩ = false := (HZ1.out.ext X3.out).frozen 0
          have zf1 : w3.frozen? ⟨w.heap.size, 1, none⟩ = false := (HZ1.out.ext X3.out).frozen 1
          have zf2 : w3.frozen? ⟨w.heap.size, 2, none⟩ = false := (HZ1.out.ext X3.out).frozen 2
          have hxw : Ext w w3 := HX1.out.trans X3.out
          have hzz : w.heap.size < w3.heap.size := (HZ1.out.ext X3.out).lt
          go_wp2
          exact bodyPost_ret (v := .tuple #[hallV 0 0 none 0 0, .bool false]) (by simp [results, Tryz.results82, go_sem, *]) rfl (ret_hall_no hno.out (by (repeat' (first | exact Ext.refl _ | (with_reducible assumption) | (with_reducible refine Ext.alloc ?_ _) | (with_reducible refine Ext.setCell ?_ (by first | exact Nat.le_refl _ | (dsimp only; omega) | (simp; done) | (simp; omega)) _) | (with_reducible refine Ext.drew ?_) | (with_reducible refine Ext.drewN ?_ _) | (refine Ext.trans ?_ (by with_reducible assumption))))))
end Go.Proofs.YteejdnmmpmcmeaaGreatDoor

/-
  Words for ReadHouse: what it hands back, the house that is built part by part. No condition.
-/
namespace Go.Proofs.YteejdnmmpmcmeaaGreatDoor
open Go.RowKit
set_option linter.unusedVariables false
set_option linter.unusedSimpArgs false

abbrev THouse : TypeId := 30
abbrev TVis : TypeId := 38
theorem elVis : ElT Tryz.prog 28 TVis 4 :=
  ⟨Tryz.underlying28, by
    obtain ⟨i, hi, h0, h1, h2⟩ := info_parts (show (Tryz.prog.info? TVis).map (fun i => (i.zero, i.size, i.bytes)) = some (some (.agg #[.int .i64 0, .int .i64 0, .int .i64 0, .int .i64 0]), 4, 32) by kernel_rfl)
    exact ⟨i, _, hi, h0, h1, by omega, rfl⟩, by omega⟩
theorem Sl.blkS {w : World} {g : Nat} {t : TypeId} {cs : Array Value} (hb : Blk w g t cs) : Sl w (some ⟨g, 0, none⟩) 1 1 cs.size cs.toList := by
  refine ⟨by simp, Nat.le_refl _, by unfold maxLen; omega, fun _ => ⟨g, 0, rfl, hb.lt, ?_⟩⟩
  intro j hj
  rw [Nat.zero_add, hb.cell]
  simp
theorem vis_one (v : Visit4) : ∀ u ∈ visitCells v, u.oneCell' = true := by
  intro u hu
  simp only [visitCells, List.mem_cons, List.not_mem_nil, or_false] at hu
  rcases hu with rfl | rfl | rfl | rfl <;> rfl
/-- what ReadHouse hands back -/
def RetHB (r : HouseD) (b : Bool) (w : World) (e : Ending) (w' : World) : Prop :=
  ∃ p c q d, e = .returned (.tuple #[houseV r p r.cells.length c q r.vs.length d, .bool b]) ∧ w'.ownsRow w.heap.size TI 1 (.slice p r.cells.length c) r.cells.length (ivs r.cells) ∧
    w'.ownsRow w.heap.size TVis 4 (.slice q r.vs.length d) r.vs.length (r.vs.flatMap visitCells) ∧ Ext w w'
theorem ret_hb_no {o : Option HouseD} {w w' : World} (h : o = none) (hx : Ext w w') : RetHB (o.getD houseZero) o.isSome w (.returned (.tuple #[.agg #[.int .i64 0, .int .i64 0, .slice none 0 0, .int .i64 0, .int .i64 0, .int .i64 0, .int .i64 0, .int .i64 0, .int .i64 0, .slice none 0 0], .bool false])) w' := by
  subst h; exact ⟨none, 0, none, 0, rfl, World.ownsRow_nil _ _ _ _, World.ownsRow_nil _ _ _ _, hx⟩
theorem ret_hb_yes {o : Option HouseD} {W D f s pr cp ck bk : Int} {xs : List Int} {vs : List Visit4} {w w' : World} {p q : Option Addr} {n c m d : Nat} (h : o = some ⟨W, D, xs, f, s, pr, cp, ck, bk, vs⟩) (hn : n = xs.length) (hm : m = vs.length)
    (ho : w'.ownsRow w.heap.size TI 1 (.slice p n c) n (ivs xs)) (hv : w'.ownsRow w.heap.size TVis 4 (.slice q m d) m (vs.flatMap visitCells)) (hx : Ext w w') :
    RetHB (o.getD houseZero) o.isSome w (.returned (.tuple #[.agg #[.int .i64 W, .int .i64 D, .slice p n c, .int .i64 f, .int .i64 s, .int .i64 pr, .int .i64 cp, .int .i64 ck, .int .i64 bk, .slice q m d], .bool true])) w' := by
  subst h; subst hn; subst hm; exact ⟨p, c, q, d, rfl, ho, hv, hx⟩
theorem house_no {l : List UInt8} (h : houseFineI (cutL 59 l) = false) : readHouse l = none := by
  unfold readHouse; rw [if_neg]; rintro ⟨a, _⟩; rw [h] at a; simp at a
def visitsTo (ps : List (List UInt8)) (k : Nat) : List Visit4 := ((ps.drop 4).take k).map (fun p => visitOf (fourS p))
theorem visitsTo_snoc {ps : List (List UInt8)} {k : Nat} {q : List UInt8} (h : ps[4 + k]? = some q) : visitsTo ps (k + 1) = visitsTo ps k ++ [visitOf (fourS q)] := by
  unfold visitsTo; rw [take_snocL (x := q) (by rw [List.getElem?_drop]; exact h), List.map_append]; rfl
theorem visitsTo_len {ps : List (List UInt8)} {k N : Nat} (h : ps.length = N + 4) (hk : k ≤ N) : (visitsTo ps k).length = k := by
  simp only [visitsTo, List.length_map, List.length_take, List.length_drop]; omega
theorem visitsTo_all {ps : List (List UInt8)} {N : Nat} (h : ps.length = N + 4) : visitsTo ps N = (ps.drop 4).map (fun p => visitOf (fourS p)) := by
  unfold visitsTo; rw [List.take_of_length_le (by rw [List.length_drop]; omega)]
theorem one_nums {p : List UInt8} {xs : List Int} (h : readNums 1 p = some xs) : xs = [wholeS p] := by
  unfold readNums at h
  split at h
  · rename_i hc
    cases h
    have h1 : cutL 44 p = [p] := by
      obtain ⟨a, ha⟩ := List.length_eq_one_iff.1 hc.1
      have hj : (44 : UInt8) ∉ p := by
        intro hm
        obtain ⟨x, y, rfl, hx⟩ := cut_first 44 p hm
        rw [cutL_append 44 x y hx] at ha
        simp only [List.cons.injEq] at ha
        exact absurd ha.2 (cutL_ne 44 y)
      exact cutL_none 44 p hj
    rw [h1]
    have h2 := List.all_eq_true.1 hc.2 p (by rw [h1]; simp)
    cases hr : readL 5 p with
    | none => rw [hr] at h2; simp at h2
    | some x => simp [wholeS, hr]
  · simp at h
theorem list_four {xs : List Int} (h : xs.length = 4) : ∃ a b c d, xs = [a, b, c, d] := by
  match xs, h with
  | [a, b, c, d], _ => exact ⟨a, b, c, d, rfl⟩
theorem nums_len {m : Nat} {p : List UInt8} {xs : List Int} (h : readNums m p = some xs) : xs.length = m := by
  have := four_nums h
  rw [← this.1]; simp [fourS, this.2]
theorem ints_cell {w : World} {base n : Nat} {g cap : Nat} {xs : List Int} (h : w.ownsRow base TI 1 (.slice (some ⟨g, 0, none⟩) n cap) n (ivs xs)) (k : Nat) (hk : k < n) (x : Int) (hx : xs[k]? = some x) : w.cell? ⟨g, k, none⟩ = some (.int .i64 x) := by
  rw [h.cellAt k (by omega)]; simp [ivs, iv, hx]
/-- a visit is appended to the house's visits -/
theorem fine_all {ps : List (List UInt8)} (h4 : 4 ≤ ps.length) {o0 : Hall3} {t : List Int} {x y : List Int} (h0 : readHall (part ps 0) = some o0) (h1 : readNums 4 (part ps 1) = some t) (h2 : readNums 1 (part ps 2) = some x) (h3 : readNums 1 (part ps 3) = some y) :
    houseFineI ps = (ps.drop 4).all (fun p => (readNums 4 p).isSome) := by
  simp [houseFineI, h4, h0, h1, h2, h3]
theorem fine_bad {ps : List (List UInt8)} (h : (readHall (part ps 0)).isSome = false ∨ (readNums 4 (part ps 1)).isSome = false ∨ (readNums 1 (part ps 2)).isSome = false ∨ (readNums 1 (part ps 3)).isSome = false) : houseFineI ps = false := by
  unfold houseFineI
  rcases h with h | h | h | h <;> simp [h]
theorem fine_part {ps : List (List UInt8)} {k : Nat} {q : List UInt8} (hk : ps[4 + k]? = some q) (h : readNums 4 q = none) : houseFineI ps = false := by
  unfold houseFineI
  rw [Bool.and_eq_false_iff]; right
  rw [List.all_eq_false]
  refine ⟨q, ?_, by simp [h]⟩
  rw [List.mem_iff_getElem?]
  exact ⟨k, by rw [List.getElem?_drop]; exact hk⟩
theorem parse_four {ps : List (List UInt8)} {N : Nat} (hl : ps.length = N + 4) {W D : Int} {xs : List Int} (h0 : (readHall (part ps 0)).getD (0, 0, []) = (W, D, xs)) {t : List Int} (ht : fourS (part ps 1) = t) :
    houseParse ps = ⟨W, D, xs, at4 t 0, at4 t 1, at4 t 2, at4 t 3, wholeS (part ps 2), wholeS (part ps 3), visitsTo ps N⟩ := by
  unfold houseParse; rw [h0, ht, visitsTo_all hl]
theorem readHouse_valI {l : List UInt8} (h : houseFineI (cutL 59 l) = true) : readHouse l = if houseOk (houseParse (cutL 59 l)) = true ∧ houseText (houseParse (cutL 59 l)) = l then some (houseParse (cutL 59 l)) else none := by
  unfold readHouse; simp [h]
theorem readHouse_valS {l : List UInt8} (h4 : 4 ≤ (cutL 59 l).length) (h : houseFineS (cutL 59 l) = true) : readHouse l = if houseText (houseParse (cutL 59 l)) = l then some (houseParse (cutL 59 l)) else none := by
  rw [readHouse_S]
  by_cases ht : houseText (houseParse (cutL 59 l)) = l
  · have hok : houseOk (houseParse (cutL 59 l)) = true := by
      cases hq : houseOk (houseParse (cutL 59 l)) with
      | true => rfl
      | false =>
        have e : l = [] := by rw [← ht]; unfold houseText; rw [if_neg (by simp [hq])]
        rw [e] at h4; simp [cutL] at h4
    rw [if_pos ⟨h, hok, ht⟩, if_pos ht]
  · rw [if_neg (fun hc => ht hc.2.2), if_neg ht]
theorem house_noS {l : List UInt8} (h : houseFineS (cutL 59 l) = false) : readHouse l = none := by
  rw [readHouse_S, if_neg]; rintro ⟨a, _⟩; rw [h] at a; simp at a
theorem fineS_bad {ps : List (List UInt8)} (h : (readHall (part ps 0)).isSome = false ∨ ¬ (cutL 44 (part ps 1)).length = 4) : houseFineS ps = false := by
  unfold houseFineS
  rcases h with h | h <;> simp [h]
theorem fineS_part {ps : List (List UInt8)} {k : Nat} {q : List UInt8} (hk : ps[4 + k]? = some q) (h : ¬ (cutL 44 q).length = 4) : houseFineS ps = false := by
  unfold houseFineS
  rw [Bool.and_eq_false_iff]; right
  rw [List.all_eq_false]
  refine ⟨q, ?_, by simp [h]⟩
  rw [List.mem_iff_getElem?]
  exact ⟨k, by rw [List.getElem?_drop]; exact hk⟩
theorem part_at {ps : List (List UInt8)} {k : Nat} {q : List UInt8} (h : ps[k]? = some q) : part ps k = q := by simp [part, h]
end Go.Proofs.YteejdnmmpmcmeaaGreatDoor

/-
  Saved texts are read back (plain: nothing of the program). No condition.
-/
namespace Go.Proofs.YteejdnmmpmcmeaaGreatDoor
open Go.RowKit
set_option linter.unusedVariables false
set_option linter.unusedSimpArgs false

/-- the house's text holds digits and , . / ; alone -/
theorem house_not {h : HouseD} {c : UInt8} (hc : isDig c = false) (h44 : c ≠ 44) (h46 : c ≠ 46) (h47 : c ≠ 47) (h59 : c ≠ 59) : c ∉ houseText h := by
  unfold houseText
  split
  · refine join_not 59 c h59 _ ?_
    intro p hp
    simp only [houseParts, List.mem_cons, List.mem_map] at hp
    rcases hp with rfl | rfl | rfl | rfl | ⟨v, _, rfl⟩
    · unfold hallText
      split
      · suffices hh : ∀ k, c ∉ hallTextN h.wide h.cells k from hh _
        intro k
        induction k with
        | zero => simp [hallTextN]
        | succ k ih =>
          simp only [hallTextN, List.mem_append, not_or]
          refine ⟨⟨ih, ?_⟩, cellTok_not hc h46⟩
          unfold cellSep
          split
          · simp
          · split
            · simpa using h47
            · simpa using h44
      · simp
    · exact nums_not c hc h44 _
    · exact dig_not _ _ hc
    · exact dig_not _ _ hc
    · exact nums_not c hc h44 _
  · simp

/-- the program's reading of a saved house -/
def readSave (l : List UInt8) : Option (HouseD × Int) :=
  match readL 2 (cutFst 124 l), readHouse (cutFst 35 (cutSnd 124 l)) with
  | some n, some h => if saveText h n = l then some (h, n) else none
  | _, _ => none
def saveFineS (l : List UInt8) : Bool := decide ((cutL 35 l).length = 2 ∧ (cutL 124 (part (cutL 35 l) 0)).length = 2)
def saveHouseS (l : List UInt8) : Option HouseD := readHouse (part (cutL 124 (part (cutL 35 l) 0)) 1)
def saveNumS (l : List UInt8) : Int := (readL 4 (part (cutL 124 (part (cutL 35 l) 0)) 0)).getD (-1)

theorem save_parts {h : HouseD} {e : Int} {l : List UInt8} (hok : houseOk h = true) (hl : l ≠ []) (hs : saveText h e = l) : 0 ≤ e ∧ e ≤ 99 ∧ ∃ d : Nat, l = dec e ++ 124 :: (houseText h ++ 35 :: Lib.decDigits d) := by
  unfold saveText at hs
  split at hs
  · rename_i hc
    refine ⟨hc.2.1, hc.2.2, (sumL (dec e ++ [124] ++ houseText h)).toNat, ?_⟩
    rw [← hs]; simp [withSum]
  · exact absurd hs.symm hl
theorem houseText_ne {h : HouseD} (hok : houseOk h = true) : houseText h ≠ [] := by
  intro e
  have := cut_house hok
  rw [e] at this
  simp [cutL, houseParts] at this
theorem save_ne {h : HouseD} {e : Int} (hh : houseOk h = true) (h0 : 0 ≤ e ∧ e ≤ 99) : saveText h e ≠ [] := by
  unfold saveText; rw [if_pos ⟨hh, h0⟩]; simp [withSum]
theorem readSave_text {h : HouseD} {e : Int} {l : List UInt8} (hok : houseOk h = true) (hl : l ≠ []) (hs : saveText h e = l) : readSave l = some (h, e) := by
  obtain ⟨h0, h1, d, hd⟩ := save_parts hok hl hs
  have c1 := cutFst_append 124 (dec e) (houseText h ++ 35 :: Lib.decDigits d) (dig_not _ _ (by decide))
  have c2 := cutFst_append 35 (houseText h) (Lib.decDigits d) (house_not (by decide) (by decide) (by decide) (by decide) (by decide))
  unfold readSave
  rw [hd, c1.1, c1.2, c2.1, readHouse_text hok, readL_digits 2 e.toNat (by omega) (by omega) (by omega), ← hd]
  have e2 : ((e.toNat : Nat) : Int) = e := by omega
  simp [e2, hs]
theorem saveS_text {h : HouseD} {e : Int} {l : List UInt8} (hok : houseOk h = true) (hl : l ≠ []) (hs : saveText h e = l) : saveFineS l = true ∧ saveHouseS l = some h ∧ saveNumS l = e := by
  obtain ⟨h0, h1, d, hd⟩ := save_parts hok hl hs
  have n35 : (35 : UInt8) ∉ dec e ++ 124 :: houseText h := by
    simp only [List.mem_append, List.mem_cons, not_or]
    exact ⟨dig_not _ _ (by decide), by decide, house_not (by decide) (by decide) (by decide) (by decide) (by decide)⟩
  have k1 : cutL 35 l = [dec e ++ 124 :: houseText h, Lib.decDigits d] := by
    rw [hd, show dec e ++ 124 :: (houseText h ++ 35 :: Lib.decDigits d) = (dec e ++ 124 :: houseText h) ++ 35 :: Lib.decDigits d by simp, cutL_append 35 _ _ n35, cutL_none 35 _ (dig_not _ _ (by decide))]
  have k2 : cutL 124 (dec e ++ 124 :: houseText h) = [dec e, houseText h] := by
    rw [cutL_append 124 _ _ (dig_not _ _ (by decide)), cutL_none 124 _ (house_not (by decide) (by decide) (by decide) (by decide) (by decide))]
  have k3 : part (cutL 35 l) 0 = dec e ++ 124 :: houseText h := by rw [k1]; rfl
  refine ⟨?_, ?_, ?_⟩
  · unfold saveFineS; rw [k3, k2, k1]; rfl
  · unfold saveHouseS; rw [k3, k2]; exact readHouse_text hok
  · unfold saveNumS; rw [k3, k2]
    show (readL 4 (dec e)).getD (-1) = e
    rw [readL_digits 4 e.toNat (by omega) (by omega) (by omega)]; simp; omega
theorem readSave_some {l : List UInt8} {h : HouseD} {e : Int} (hr : readSave l = some (h, e)) : houseOk h = true ∧ saveText h e = l := by
  unfold readSave at hr
  split at hr
  · rename_i n H hn hh
    split at hr
    · rename_i hs; cases hr; exact ⟨(readHouse_some hh).1, hs⟩
    · simp at hr
  · simp at hr
theorem readHouse_nil : readHouse [] = none := by
  cases h : readHouse [] with
  | none => rfl
  | some x =>
    obtain ⟨a, b⟩ := readHouse_some h
    exact absurd b (houseText_ne a)
/-- the reference's reading is the program's -/
theorem readSave_S (l : List UInt8) : readSave l = if saveFineS l = true then (match saveHouseS l with | some h => if saveText h (saveNumS l) = l then some (h, saveNumS l) else none | none => none) else none := by
  by_cases hl : l = []
  · subst hl
    have a : readSave [] = none := by unfold readSave; simp [cutFst, readL]
    rw [a]; simp [saveFineS, cutL]
  · cases hr : readSave l with
    | some x =>
      obtain ⟨h, e⟩ := x
      obtain ⟨a, b⟩ := readSave_some hr
      obtain ⟨q1, q2, q3⟩ := saveS_text a hl b
      rw [if_pos q1, q2, q3]
      simp [b]
    | none =>
      by_cases hf : saveFineS l = true
      · rw [if_pos hf]
        cases hh : saveHouseS l with
        | none => rfl
        | some h =>
          simp only
          by_cases hs : saveText h (saveNumS l) = l
          · have := readSave_text (readHouse_some hh).1 hl hs
            rw [hr] at this; simp at this
          · rw [if_neg hs]
      · rw [if_neg hf]
end Go.Proofs.YteejdnmmpmcmeaaGreatDoor
