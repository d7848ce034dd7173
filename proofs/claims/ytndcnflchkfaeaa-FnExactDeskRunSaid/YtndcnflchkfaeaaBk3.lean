/-
  The reference's l6ByFrom, l6ByTo. Conditions: the slice reads as a list of at most 7.
-/
import Derived.Test.YtndcnflchkfaeaaBk2
import Derived.Test.YtndcnflchkfaeaaDk6
import Derived.Test.YtndcnflchkfaeaaMm
import Derived.Test.YtndcnflchkfaeaaHc
namespace Go.Proofs.Ytndcnflchkfaeaa
open Go.RowKit
set_option linter.unusedVariables false
set_option linter.unusedSimpArgs false

abbrev natI (ks : List Nat) : List Int := ks.map (fun (k : Nat) => (k : Int))
theorem byKey_le (f : Nat → Int) (n : Nat) : ∀ h, (byKey f n h).length ≤ h * n := by
  intro h
  induction h with
  | zero => simp [byKey]
  | succ h ih =>
    simp only [byKey, List.length_append]
    have := List.length_filter_le (fun k => f k == (h : Int)) (List.range n)
    rw [List.length_range] at this
    rw [Nat.succ_mul]; omega
theorem toOf_at {bs : List Visit4} {k : Nat} {a b c d : Int} (h : bs[k]? = some (a, b, c, d)) : toOf bs k = c := by simp [toOf, h]
theorem fromOf_at {bs : List Visit4} {k : Nat} {a b c d : Int} (h : bs[k]? = some (a, b, c, d)) : fromOf bs k = b := by simp [fromOf, h]
/-- those ahead, and of the numbers below k those with key h -/
def keyIn (f : Nat → Int) (n h k : Nat) : List Nat := byKey f n h ++ (List.range k).filter (fun j => f j == (h : Int))
theorem keyIn_zero (f : Nat → Int) (n h : Nat) : keyIn f n h 0 = byKey f n h := by simp [keyIn]
theorem keyIn_end (f : Nat → Int) (n h : Nat) : keyIn f n h n = byKey f n (h + 1) := rfl
theorem keyIn_yes {f : Nat → Int} {n h k : Nat} (e : f k = (h : Int)) : keyIn f n h (k + 1) = keyIn f n h k ++ [k] := by
  simp [keyIn, List.range_succ, List.filter_append, e]
theorem keyIn_no {f : Nat → Int} {n h k : Nat} (e : ¬ f k = (h : Int)) : keyIn f n h (k + 1) = keyIn f n h k := by
  simp [keyIn, List.range_succ, List.filter_append, e]
theorem iv_one (x : Int) : ∀ u ∈ ([iv x] : List Value), u.oneCell' = true := by intro u hu; obtain rfl := List.mem_singleton.1 hu; rfl

set_option maxRecDepth 100000 in
set_option maxHeartbeats 8000000 in
theorem specByFrom (q : Option Addr) (m c2 : Nat) (bs : List Visit4) (w : World) (hm7 : m ≤ 7) (hS : Sl w q m c2 4 (bs.flatMap visitCells)) :
    Calls Try.prog 69 #[.slice q m c2] w (RetInts (natI (byKey (fromOf bs) bs.length 31)) w) := by
  have hn := hS.bd
  have HS := Lib.hid hS
  have hl : Hid (bs.length = m) := by
    have := hS.len; rw [flat_len visitCells 4 (fun _ => rfl)] at this; exact (by omega : bs.length = m)
  clear hS
  have ME := Lib.hid (show Mem w (w.alloc (.cells #[] TI)) [ownI w.heap.size TI 1 (some ⟨w.heap.size, 0, none⟩) (0) (0) ([])] from ((Mem.start w).made0 TI 1 (w.heap.size) (by simp)))
  go_enter Try.func69, Try.ntmps69
  go_wp2
  go_loopw [3, 4] (fun v x wr => ∃ (h : Nat) (q3 : Option Addr) (l c3 : Nat), h ≤ 31 ∧ x = .int .i64 (h : Int) ∧ v = .slice q3 l c3 ∧ l = (byKey (fromOf bs) m h).length ∧ Mem w wr [ownI w.heap.size TI 1 (q3) (l) (c3) (ivs (natI (byKey (fromOf bs) m h)))]) (fun _ x _ => 31 - (intOf x).toNat)
  case atStart => exact ⟨0, some ⟨w.heap.size, 0, none⟩, 0, 0, Nat.zero_le _, rfl, rfl, rfl, ME.out⟩
  case round =>
    clear ME
    obtain ⟨h, q3, l, c3, hh, rfl, rfl, hl3, hM⟩ := hrel
    have HM := Lib.hid hM
    have HL3 := Lib.hid hl3
    have hlb : l ≤ h * 7 := by rw [hl3]; exact Nat.le_trans (byKey_le _ _ _) (Nat.mul_le_mul_left _ hm7)
    clear hM hl3
    by_cases hlt : h < 31
    · have t0 : decide ((h : Int) ≤ 30) = true := by simp; omega
      have t1 : (h : Int) ≤ 30 := by omega
      go_wp2
      go_loopw [3, 5] (fun v x wr => ∃ (k : Nat) (q5 : Option Addr) (l5 c5 : Nat), k ≤ m ∧ x = .int .i64 (k : Int) ∧ v = .slice q5 l5 c5 ∧ l5 ≤ l + k ∧ l5 = (keyIn (fromOf bs) m h k).length ∧ Mem w wr [ownI w.heap.size TI 1 (q5) (l5) (c5) (ivs (natI (keyIn (fromOf bs) m h k)))]) (fun _ x _ => m - (intOf x).toNat)
      case atStart => exact ⟨0, q3, l, c3, Nat.zero_le _, rfl, rfl, by omega, by rw [keyIn_zero]; exact HL3.out, by rw [keyIn_zero]; exact HM.out⟩
      case round =>
        clear HM
        obtain ⟨k, q5, l5, c5, hk, rfl, rfl, hl5, hl6, hM⟩ := hrel
        have HN := Lib.hid hM
        have HL5 := Lib.hid hl6
        clear hM hl6
        by_cases hkt : k < m
        · obtain ⟨b, off, a0, a1, a2, a3, rfl, hv, hb, g0, g1, g2, g3⟩ := visit_at (HS.out.ext HN.out.ext) hkt
          have hf := Lib.hid (fromOf_at hv)
          clear hv
          have i1 : (0 : Int) ≤ (k : Int) := by omega
          have i2 : (k : Int) < (m : Int) := by omega
          by_cases t : a1 = (h : Int)
          · have q0 : (a1 == (h : Int)) = true := by simp [t]
            have hnx : Hid (keyIn (fromOf bs) m h (k + 1) = keyIn (fromOf bs) m h k ++ [k]) := keyIn_yes (by rw [hf.out, t])
            clear t
            go_wp2_with (at_builtin; go_loud (refine wpList_appM elInt rfl _ _ rfl (HN.out.adv ((Ext.refl _).alloc (.cells #[.int .i64 (k : Int)] TI))) 0 rfl rfl [.int .i64 (k : Int)] rfl (sl_lit _ _ _ 1 1 _ (by simp) (by simp) (by simp [maxLen])) (iv_one _) (by omega) ?_; intro q7 c7 w6 M6))
            have M7 := Lib.hid (show Mem w w6 [ownI w.heap.size TI 1 (q7) (l5 + 1) (c7) (ivs (natI (keyIn (fromOf bs) m h (k + 1))))] from by rw [hnx.out]; simpa using M6)
            have hl7 : Hid (l5 + 1 = (keyIn (fromOf bs) m h (k + 1)).length) := by show _ = _; rw [hnx.out, List.length_append, ← HL5.out]; rfl
            clear M6 HN
            go_wp2
            go_roundw
            case rel => exact ⟨k + 1, q7, l5 + 1, c7, by omega, by go_num, rfl, by omega, hl7.out, M7.out⟩
            case measure => simp [intOf]; omega
          · have q0 : (a1 == (h : Int)) = false := by simp [t]
            have hnx : Hid (keyIn (fromOf bs) m h (k + 1) = keyIn (fromOf bs) m h k) := keyIn_no (by rw [hf.out]; exact t)
            clear t
            go_wp2
            go_roundw
            case rel => exact ⟨k + 1, q5, l5, c5, by omega, by go_num, rfl, by omega, by rw [hnx.out]; exact HL5.out, by rw [hnx.out]; exact HN.out⟩
            case measure => simp [intOf]; omega
        · obtain rfl : k = m := by omega
          go_wp2
          go_roundw
          case rel => exact ⟨h + 1, q5, l5, c5, by omega, by go_num, rfl, by rw [← keyIn_end]; exact HL5.out, by rw [← keyIn_end]; exact HN.out⟩
          case measure => simp [intOf]; omega
    · obtain rfl : h = 31 := by omega
      go_wp2
      go_ret
      have h1 := HM.out.own (i := 0) rfl
      have h2 := HL3.out
      have h3 := hl.out
      subst h3
      exact ret_ints (by rw [h2]; simp) h1 HM.out.ext
set_option maxRecDepth 100000 in
set_option maxHeartbeats 8000000 in
theorem specByTo (q : Option Addr) (m c2 : Nat) (bs : List Visit4) (w : World) (hm7 : m ≤ 7) (hS : Sl w q m c2 4 (bs.flatMap visitCells)) :
    Calls Try.prog 40 #[.slice q m c2] w (RetInts (natI (byKey (toOf bs) bs.length 31)) w) := by
  have hn := hS.bd
  have HS := Lib.hid hS
  have hl : Hid (bs.length = m) := by
    have := hS.len; rw [flat_len visitCells 4 (fun _ => rfl)] at this; exact (by omega : bs.length = m)
  clear hS
  have ME := Lib.hid (show Mem w (w.alloc (.cells #[] TI)) [ownI w.heap.size TI 1 (some ⟨w.heap.size, 0, none⟩) (0) (0) ([])] from ((Mem.start w).made0 TI 1 (w.heap.size) (by simp)))
  go_enter Try.func40, Try.ntmps40
  go_wp2
  go_loopw [3, 4] (fun v x wr => ∃ (h : Nat) (q3 : Option Addr) (l c3 : Nat), h ≤ 31 ∧ x = .int .i64 (h : Int) ∧ v = .slice q3 l c3 ∧ l = (byKey (toOf bs) m h).length ∧ Mem w wr [ownI w.heap.size TI 1 (q3) (l) (c3) (ivs (natI (byKey (toOf bs) m h)))]) (fun _ x _ => 31 - (intOf x).toNat)
  case atStart => exact ⟨0, some ⟨w.heap.size, 0, none⟩, 0, 0, Nat.zero_le _, rfl, rfl, rfl, ME.out⟩
  case round =>
    clear ME
    obtain ⟨h, q3, l, c3, hh, rfl, rfl, hl3, hM⟩ := hrel
    have HM := Lib.hid hM
    have HL3 := Lib.hid hl3
    have hlb : l ≤ h * 7 := by rw [hl3]; exact Nat.le_trans (byKey_le _ _ _) (Nat.mul_le_mul_left _ hm7)
    clear hM hl3
    by_cases hlt : h < 31
    · have t0 : decide ((h : Int) ≤ 30) = true := by simp; omega
      have t1 : (h : Int) ≤ 30 := by omega
      go_wp2
      go_loopw [3, 5] (fun v x wr => ∃ (k : Nat) (q5 : Option Addr) (l5 c5 : Nat), k ≤ m ∧ x = .int .i64 (k : Int) ∧ v = .slice q5 l5 c5 ∧ l5 ≤ l + k ∧ l5 = (keyIn (toOf bs) m h k).length ∧ Mem w wr [ownI w.heap.size TI 1 (q5) (l5) (c5) (ivs (natI (keyIn (toOf bs) m h k)))]) (fun _ x _ => m - (intOf x).toNat)
      case atStart => exact ⟨0, q3, l, c3, Nat.zero_le _, rfl, rfl, by omega, by rw [keyIn_zero]; exact HL3.out, by rw [keyIn_zero]; exact HM.out⟩
      case round =>
        clear HM
        obtain ⟨k, q5, l5, c5, hk, rfl, rfl, hl5, hl6, hM⟩ := hrel
        have HN := Lib.hid hM
        have HL5 := Lib.hid hl6
        clear hM hl6
        by_cases hkt : k < m
        · obtain ⟨b, off, a0, a1, a2, a3, rfl, hv, hb, g0, g1, g2, g3⟩ := visit_at (HS.out.ext HN.out.ext) hkt
          have hf := Lib.hid (toOf_at hv)
          clear hv
          have i1 : (0 : Int) ≤ (k : Int) := by omega
          have i2 : (k : Int) < (m : Int) := by omega
          by_cases t : a2 = (h : Int)
          · have q0 : (a2 == (h : Int)) = true := by simp [t]
            have hnx : Hid (keyIn (toOf bs) m h (k + 1) = keyIn (toOf bs) m h k ++ [k]) := keyIn_yes (by rw [hf.out, t])
            clear t
            go_wp2_with (at_builtin; go_loud (refine wpList_appM elInt rfl _ _ rfl (HN.out.adv ((Ext.refl _).alloc (.cells #[.int .i64 (k : Int)] TI))) 0 rfl rfl [.int .i64 (k : Int)] rfl (sl_lit _ _ _ 1 1 _ (by simp) (by simp) (by simp [maxLen])) (iv_one _) (by omega) ?_; intro q7 c7 w6 M6))
            have M7 := Lib.hid (show Mem w w6 [ownI w.heap.size TI 1 (q7) (l5 + 1) (c7) (ivs (natI (keyIn (toOf bs) m h (k + 1))))] from by rw [hnx.out]; simpa using M6)
            have hl7 : Hid (l5 + 1 = (keyIn (toOf bs) m h (k + 1)).length) := by show _ = _; rw [hnx.out, List.length_append, ← HL5.out]; rfl
            clear M6 HN
            go_wp2
            go_roundw
            case rel => exact ⟨k + 1, q7, l5 + 1, c7, by omega, by go_num, rfl, by omega, hl7.out, M7.out⟩
            case measure => simp [intOf]; omega
          · have q0 : (a2 == (h : Int)) = false := by simp [t]
            have hnx : Hid (keyIn (toOf bs) m h (k + 1) = keyIn (toOf bs) m h k) := keyIn_no (by rw [hf.out]; exact t)
            clear t
            go_wp2
            go_roundw
            case rel => exact ⟨k + 1, q5, l5, c5, by omega, by go_num, rfl, by omega, by rw [hnx.out]; exact HL5.out, by rw [hnx.out]; exact HN.out⟩
            case measure => simp [intOf]; omega
        · obtain rfl : k = m := by omega
          go_wp2
          go_roundw
          case rel => exact ⟨h + 1, q5, l5, c5, by omega, by go_num, rfl, by rw [← keyIn_end]; exact HL5.out, by rw [← keyIn_end]; exact HN.out⟩
          case measure => simp [intOf]; omega
    · obtain rfl : h = 31 := by omega
      go_wp2
      go_ret
      have h1 := HM.out.own (i := 0) rfl
      have h2 := HL3.out
      have h3 := hl.out
      subst h3
      exact ret_ints (by rw [h2]; simp) h1 HM.out.ext
end Go.Proofs.Ytndcnflchkfaeaa
