/-
  spec.l1Cut returns what stands between the bytes sep of a text ('cutL'), in a slice of its own. Condition: the text has at most 2^40 bytes.
-/
import Derived.Test.YteejdnmmpmcmeaaGreatDoorSumD
namespace Go.Proofs.YteejdnmmpmcmeaaGreatDoor
open Go.RowKit
set_option linter.unusedVariables false

/-- the parts of a text between the bytes c -/
def cutL (c : UInt8) : List UInt8 → List (List UInt8)
  | [] => [[]]
  | x :: xs => if x = c then [] :: cutL c xs else match cutL c xs with
    | [] => [[x]]
    | p :: ps => (x :: p) :: ps
theorem cutL_ne (c : UInt8) (l : List UInt8) : cutL c l ≠ [] := by
  cases l with
  | nil => simp [cutL]
  | cons x xs => unfold cutL; split
                 · simp
                 · split <;> simp
/-- at the end: the byte sep opens a new part, another byte goes into the last one -/
theorem cutL_snoc_sep (c : UInt8) : ∀ (l : List UInt8), cutL c (l ++ [c]) = cutL c l ++ [[]] := by
  intro l
  induction l with
  | nil => simp [cutL]
  | cons x xs ih =>
    rw [List.cons_append]
    unfold cutL
    by_cases h : x = c
    · rw [if_pos h, if_pos h, ih]; rfl
    · rw [if_neg h, if_neg h, ih]
      cases hq : cutL c xs with
      | nil => exact absurd hq (cutL_ne c xs)
      | cons p ps => rfl
theorem cutL_snoc_other (c : UInt8) (x : UInt8) (hx : x ≠ c) : ∀ (l : List UInt8) (A : List (List UInt8)) (p : List UInt8), cutL c l = A ++ [p] → cutL c (l ++ [x]) = A ++ [p ++ [x]] := by
  intro l
  induction l with
  | nil =>
    intro A p h
    simp only [cutL, List.nil_append] at h ⊢
    have : A = [] ∧ p = [] := by
      cases A with
      | nil => simpa using h.symm
      | cons a A => simp at h
    obtain ⟨rfl, rfl⟩ := this
    simp [hx]
  | cons y ys ih =>
    intro A p h
    rw [List.cons_append]
    unfold cutL at h ⊢
    by_cases hy : y = c
    · rw [if_pos hy] at h ⊢
      cases A with
      | nil =>
        simp at h
        exact absurd h.2 (cutL_ne c ys)
      | cons a A =>
        simp only [List.cons_append, List.cons.injEq] at h
        rw [ih A p h.2, ← h.1]; rfl
    · rw [if_neg hy] at h ⊢
      cases hq : cutL c ys with
      | nil => exact absurd hq (cutL_ne c ys)
      | cons q qs =>
        rw [hq] at h
        simp only at h
        cases A with
        | nil =>
          simp only [List.nil_append, List.cons.injEq] at h
          obtain ⟨rfl, rfl⟩ := h
          rw [ih [] q (by simpa using hq)]; rfl
        | cons a A =>
          simp only [List.cons_append, List.cons.injEq] at h
          obtain ⟨rfl, rfl⟩ := h
          rw [ih (q :: A) p (by simpa using hq)]; rfl

abbrev strs (ls : List (List UInt8)) : List Value := ls.map str

theorem extract_str (s : ByteArray) (a b : Nat) (l : List UInt8) (h : (s.data.toList.take b).drop a = l) : Value.string (s.extract a b) = str l := by
  have : s.extract a b = ⟨l.toArray⟩ := by
    apply ByteArray.ext
    apply Array.toList_inj.1
    rw [Lib.extract_data]
    show _ = l
    rw [← h, List.drop_take]
  rw [this]

theorem infoStr : (Tryz.prog.info? 9).map (fun i => (i.zero, i.size, i.bytes)) = some (some (.string ⟨#[]⟩), 1, 16) := by kernel_rfl

set_option maxRecDepth 100000 in
set_option maxHeartbeats 1000000 in
theorem l1Cut_any (s : ByteArray) (c : UInt8) (ci : Int) (hci : ci = (c.toNat : Int)) (w : World) (hs : s.size ≤ 1099511627776) :
    Calls Tryz.prog 81 #[.string s, .int .u8 ci] w fun e w' => ∃ v, e = .returned v ∧ w'.ownsRow w.heap.size 9 1 v (cutL c s.data.toList).length (strs (cutL c s.data.toList)) ∧ Ext w w' := by
  obtain ⟨i0, hi, hz0, hz1, hz2⟩ := info_parts infoStr
  have HC := Lib.hid hci
  clear hci
  go_enter Tryz.func81, Tryz.ntmps81
  go_wp2
  go_loopw [5, 6, 7] (fun v fr i wr => ∃ (k f : Nat) (A : List (List UInt8)) (p : List UInt8), k ≤ s.size ∧ f ≤ k ∧ A.length ≤ k ∧ fr = .int .i64 f ∧ i = .int .i64 k ∧ cutL c (s.data.toList.take k) = A ++ [p] ∧ p = (s.data.toList.take k).drop f ∧
      wr.ownsRow w.heap.size 9 1 v A.length (strs A) ∧ Ext w wr) (fun _ _ i _ => s.size - (intOf i).toNat)
  case atStart => exact ⟨0, 0, [], [], Nat.zero_le _, Nat.le_refl _, Nat.le_refl _, rfl, rfl, by simp [cutL], by simp, World.ownsRow_made _ #[] 0 (Nat.le_refl _) (by simp [maxLen]) rfl, (Ext.refl _).alloc _⟩
  case round =>
    obtain ⟨k, f, A, p, hk, hf, hAk, rfl, rfl, hcut, hp, hown, hE⟩ := hrel
    have HCUT := Lib.hid hcut
    have HP := Lib.hid hp
    have hsz := hE.sz
    clear hcut hp
    by_cases hlt : k < s.size
    · by_cases hc : s[k] = c
      · have hb : ((s[k].toNat : Int) == ci) = true := by rw [HC.out, hc]; simp
        have HCC := Lib.hid hc
        clear hc
        go_wp2_with (at_builtin; refine wpList_append_own _ rfl _ _ 77 rfl w.heap.size 9 i0 (.string ⟨#[]⟩) 1 16 Tryz.underlying77 hi hz0 hz1 hz2 rfl (by decide) _ _ _ rfl (hown.alloc _) ⟨wr.heap.size, 0, none⟩ 1 1 [.string (s.extract f k)] rfl rfl ?c1 ?c2 ?c3 ?c4 ?c5 ?_)
        case c1 => exact cell_one_new _ _ _
        case c2 => intro u hu; simp at hu; subst hu; rfl
        case c3 => unfold maxLen; omega
        case c4 => omega
        case c5 => simp; omega
        intro v' w1 hown' hgrow _
        have hE' : Ext w w1 := (hE.alloc _).grown hgrow (fun q hq => (hown.lt q hq).1)
        clear hgrow hown
        go_wp2
        go_roundw
        case rel =>
          refine ⟨k + 1, k + 1, A ++ [p], [], by omega, Nat.le_refl _, by simp; omega, by go_num, by go_num, ?_, ?_, ?_, hE'⟩
          · rw [take_snoc s k hlt, HCC.out, cutL_snoc_sep, HCUT.out]
          · rw [List.drop_eq_nil_of_le (by simp; omega)]
          · have := hown'
            rw [extract_str s f k p HP.out.symm] at this
            simpa [strs] using this
        case measure => simp [intOf]; omega
      · have hb : ((s[k].toNat : Int) == ci) = false := by
          rw [HC.out, beq_eq_false_iff_ne]; intro e; exact hc (UInt8.toNat_inj.1 (by omega))
        go_wp2
        go_roundw
        case rel =>
          refine ⟨k + 1, f, A, p ++ [s[k]], by omega, by omega, by omega, by go_num, by go_num, ?_, ?_, hown, hE⟩
          · rw [take_snoc s k hlt]; exact cutL_snoc_other c _ hc _ A p HCUT.out
          · rw [take_snoc s k hlt, HP.out, List.drop_append_of_le_length (by simp; omega)]
        case measure => simp [intOf]; omega
    · obtain rfl : k = s.size := by omega
      have e : s.data.toList.take s.size = s.data.toList := List.take_of_length_le (by simp)
      have HE := Lib.hid e
      clear e
      go_wp2_with (at_builtin; refine wpList_append_own _ rfl _ _ 77 rfl w.heap.size 9 i0 (.string ⟨#[]⟩) 1 16 Tryz.underlying77 hi hz0 hz1 hz2 rfl (by decide) _ _ _ rfl (hown.alloc _) ⟨wr.heap.size, 0, none⟩ 1 1 [.string (s.extract f s.size)] rfl rfl ?d1 ?d2 ?d3 ?d4 ?d5 ?_)
      case d1 => exact cell_one_new _ _ _
      case d2 => intro u hu; simp at hu; subst hu; rfl
      case d3 => unfold maxLen; omega
      case d4 => omega
      case d5 => simp; omega
      intro v' w1 hown' hgrow _
      have hE' : Ext w w1 := (hE.alloc _).grown hgrow (fun q hq => (hown.lt q hq).1)
      clear hgrow hown
      go_wp2
      go_ret
      refine ⟨_, rfl, ?_, hE'⟩
      have := hown'
      rw [extract_str s f s.size p HP.out.symm] at this
      rw [← HE.out, HCUT.out]
      simpa [strs] using this
end Go.Proofs.YteejdnmmpmcmeaaGreatDoor
