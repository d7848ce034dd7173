/-
  The reference's l7PayAll, and impl.EndDeeds. Conditions: what is due is at most 10000; the slices read as lists.
-/
import Derived.Test.YthhcpcjmolbkdaaEdd
import Derived.Test.YthhcpcjmolbkdaaTen0
namespace Go.Proofs.Ythhcpcjmolbkdaa
open Go.RowKit
set_option linter.unusedVariables false
set_option linter.unusedSimpArgs false

theorem elDd : ElT Try.prog 31 TDd 3 :=
  ⟨Try.underlying31, by
    obtain ⟨i, hi, h0, h1, h2⟩ := info_parts (show (Try.prog.info? TDd).map (fun i => (i.zero, i.size, i.bytes)) = some (some (.agg #[.int .i64 0, .int .i64 0, .int .i64 0]), 3, 24) by kernel_rfl)
    exact ⟨i, _, hi, h0, h1, by omega, rfl⟩, by omega⟩
theorem dds_one (ds : List Dd3) : ∀ u ∈ ds.flatMap ddCells, u.oneCell' = true := by
  intro u hu
  obtain ⟨v, _, hv⟩ := List.mem_flatMap.1 hu
  simp [ddCells] at hv
  rcases hv with rfl | rfl | rfl <;> rfl
set_option maxRecDepth 100000 in
set_option maxHeartbeats 4000000 in
theorem specPayAll (id a : Int) (w : World) (ha : a ≤ 10000) (ha0 : -10000 ≤ a) : Calls Try.prog 16 #[.int .i64 id, .int .i64 a] w (RetDeeds (payTo id a (payCnt a)) w) := by
  have ME := Lib.hid (show Mem w (w.alloc (.cells #[] TDd)) [ownI w.heap.size TDd 3 (some ⟨w.heap.size, 0, none⟩) (0) (0) ([])] from ((Mem.start w).made0 TDd 3 (w.heap.size) (by simp)))
  have hcn : payCnt a ≤ 40 := by unfold payCnt; omega
  go_enter Try.func16, Try.ntmps16
  go_wp2
  go_loopw [1, 5] (fun x v wr => ∃ (k : Nat) (q : Option Addr) (c : Nat) (X : Int), k ≤ payCnt a ∧ x = .int .i64 X ∧ v = .slice q k c ∧ (k < payCnt a → X = a - 300 * (k : Int)) ∧ (payCnt a ≤ k → X ≤ 0) ∧ Mem w wr [ownI w.heap.size TDd 3 (q) (k) (c) ((payTo id a k).flatMap ddCells)]) (fun x _ _ => (intOf x).toNat)
  case atStart => exact ⟨0, some ⟨w.heap.size, 0, none⟩, 0, a, Nat.zero_le _, rfl, rfl, fun _ => by simp, fun h => by have := payCnt_iff a 0; omega, ME.out⟩
  case round =>
    clear ME
    obtain ⟨k, q, c, X, hk, rfl, rfl, hX, hX0, hM⟩ := hrel
    have HM := Lib.hid hM
    clear hM
    by_cases hlt : k < payCnt a
    · have hX1 := hX hlt
      have hpos := (payCnt_iff a k).1 hlt
      clear hX hX0
      have hp : 0 < X := by omega
      have hXb : X ≤ 10000 := by omega
      have hnx : k + 1 < payCnt a → X - min X 300 = a - 300 * ((k + 1 : Nat) : Int) := fun h => by have := (payCnt_iff a (k + 1)).1 h; omega
      have hn0 : payCnt a ≤ k + 1 → X - min X 300 ≤ 0 := fun h => by have := payCnt_iff a (k + 1); omega
      have hpt : Hid (payPart id a k = (1, id, min X 300)) := by show _ = _; unfold payPart; rw [hX1]
      have t0 : decide (0 < X) = true := by simp [hp]
      have hw1 : IntKind.i64.wrap (X - min X 300) = X - min X 300 := IntWalk.i64_in _ (by omega)
      clear hX1 hpos
      go_wp2_with (at_builtin; go_loud (refine wpList_appM elDd rfl _ _ rfl (HM.out.adv ((Ext.refl _).alloc (.cells #[.int .i64 1, .int .i64 id, .int .i64 (min X 300)] TDd))) 0 rfl rfl (ddCells (1, id, min X 300)) rfl (sl_lit _ _ _ 1 3 _ (by simp [ddCells]) (by simp [ddCells]) (by simp [maxLen])) (fun u hu => dds_one [(1, id, min X 300)] u (by simpa using hu)) (by omega) ?_; intro q7 c7 w6 M6))
      have M7 := Lib.hid (show Mem w w6 [ownI w.heap.size TDd 3 (q7) (k + 1) (c7) ((payTo id a (k + 1)).flatMap ddCells)] from by rw [payTo_succ, List.flatMap_append, hpt.out]; simpa using M6)
      clear M6 HM
      go_wp2
      go_roundw
      case rel => exact ⟨k + 1, q7, c7, X - min X 300, by omega, by go_num, rfl, hnx, hn0, M7.out⟩
      case measure => simp [intOf]; omega
    · have hX1 := hX0 (by omega)
      obtain rfl : k = payCnt a := by omega
      have t0 : decide (0 < X) = false := by simp; omega
      go_wp2
      go_ret
      have h1 := HM.out.own (i := 0) rfl
      exact ⟨q, c, by rw [payTo_len]; rfl, by rw [payTo_len]; exact h1, HM.out.ext⟩
set_option maxRecDepth 100000 in
set_option maxHeartbeats 8000000 in
theorem implEd_o (wide deep free step price capp clock bank : Int) (p : Option Addr) (n cap : Nat) (q : Option Addr) (m c2 : Nat) (ids : List Int) (due : Int → Int) (w : World) (hl : ids.length ≤ 1000)
    (HO : Hid (∀ w', Ext w w' → Calls Try.prog 21 #[.agg #[.int .i64 wide, .int .i64 deep, .slice p n cap, .int .i64 free, .int .i64 step, .int .i64 price, .int .i64 capp, .int .i64 clock, .int .i64 bank, .slice q m c2]] w' (RetInts ids w')))
    (HD : Hid (∀ x, x ∈ ids → ∀ w', Ext w w' → Calls Try.prog 22 #[.agg #[.int .i64 wide, .int .i64 deep, .slice p n cap, .int .i64 free, .int .i64 step, .int .i64 price, .int .i64 capp, .int .i64 clock, .int .i64 bank, .slice q m c2], .int .i64 x] w' fun e w'' => e = .returned (.int .i64 (due x)) ∧ Ext w' w''))
    (hb : Hid (∀ x ∈ ids, due x ≤ 10000 ∧ -10000 ≤ due x)) (hdl : Hid (∀ k, (endDeeds due (ids.take k)).length ≤ k * 41)) :
    Calls Try.prog 7 #[.agg #[.int .i64 wide, .int .i64 deep, .slice p n cap, .int .i64 free, .int .i64 step, .int .i64 price, .int .i64 capp, .int .i64 clock, .int .i64 bank, .slice q m c2]] w (RetDeeds (endDeeds due ids) w) := by
  go_enter Try.func7, Try.ntmps7
  have MB := Lib.hid ((Mem.start w).blkNew 37 #[.int .i64 wide, .int .i64 deep, .slice p n cap, .int .i64 free, .int .i64 step, .int .i64 price, .int .i64 capp, .int .i64 clock, .int .i64 bank, .slice q m c2] (w.heap.size) (by simp))
  go_wp2_with fail
  refine (HO.out _ MB.out.ext).mono ?_
  rintro e w1 ⟨q1, c1, rfl, o1, hx1⟩
  have M1 := Lib.hid (show Mem w w1 [ownI w.heap.size TDd 3 (none) (0) (0) ([]), ownI w.heap.size TI 1 (q1) (ids.length) (c1) (ivs ids), blkI w.heap.size (w.heap.size) 37 #[.int .i64 wide, .int .i64 deep, .slice p n cap, .int .i64 free, .int .i64 step, .int .i64 price, .int .i64 capp, .int .i64 clock, .int .i64 bank, .slice q m c2]] from ((MB.out).call hx1 o1).call (Ext.refl _) (World.ownsRow_nil _ _ TDd 3))
  clear MB hx1 o1
  go_wp2
  go_loopw [3, 10] (fun v i wr => ∃ (k : Nat) (q4 : Option Addr) (l c4 : Nat), k ≤ ids.length ∧ i = .int .i64 (k : Int) ∧ v = .slice q4 l c4 ∧ l = (endDeeds due (ids.take k)).length ∧ Mem w wr [ownI w.heap.size TDd 3 (q4) (l) (c4) ((endDeeds due (ids.take k)).flatMap ddCells), ownI w.heap.size TI 1 (q1) (ids.length) (c1) (ivs ids), blkI w.heap.size (w.heap.size) 37 #[.int .i64 wide, .int .i64 deep, .slice p n cap, .int .i64 free, .int .i64 step, .int .i64 price, .int .i64 capp, .int .i64 clock, .int .i64 bank, .slice q m c2]]) (fun _ i _ => ids.length - (intOf i).toNat)
  case atStart => exact ⟨0, none, 0, 0, Nat.zero_le _, rfl, rfl, rfl, M1.out⟩
  case round =>
    clear M1
    obtain ⟨k, q4, l, c4, hk, rfl, rfl, hl4, hM⟩ := hrel
    have HM := Lib.hid hM
    have HL4 := Lib.hid hl4
    clear hM
    have hlb : l ≤ k * 41 := by rw [hl4]; exact hdl.out k
    clear hl4
    by_cases hlt : k < ids.length
    · obtain ⟨b, off, x, rfl, hx, hbw, hc⟩ := Sl.int_at (HM.out.sl (i := 1) rfl) hlt
      have HX := Lib.hid hx
      have hmem := Lib.hid (List.mem_of_getElem? hx)
      have hbd := hb.out x hmem.out
      clear hx
      have i1 : (0 : Int) ≤ (k : Int) := by omega
      have i2 : (k : Int) < (ids.length : Int) := by omega
      obtain ⟨ce0, ce1, ce2, ce3, ce4, ce5, ce6, ce7, ce8, ce9⟩ := (HM.out.blk (i := 2) rfl).ten
      go_wp2_with fail
      clear ce0 ce1 ce2 ce3 ce4 ce5 ce6 ce7 ce8 ce9 hc hbw
      refine (HD.out x hmem.out _ HM.out.ext).mono ?_
      rintro e w3 ⟨rfl, hx3⟩
      have M3 := Lib.hid (HM.out.adv hx3)
      clear HM hx3
      generalize hdx : due x = D at *
      have HDX := Lib.hid hdx
      clear hdx
      have hcn : payCnt D ≤ 40 := by unfold payCnt; omega
      go_wp2
      go_loopw [3, 6] (fun v d wr => ∃ (j : Nat) (q5 : Option Addr) (l5 c5 : Nat) (X : Int), j ≤ payCnt D ∧ d = .int .i64 X ∧ v = .slice q5 l5 c5 ∧ l5 = l + j ∧ X = D - 300 * (j : Int) ∧ Mem w wr [ownI w.heap.size TDd 3 (q5) (l5) (c5) ((endDeeds due (ids.take k)).flatMap ddCells ++ (payTo x D j).flatMap ddCells), ownI w.heap.size TI 1 (some ⟨b, off, none⟩) (ids.length) (c1) (ivs ids), blkI w.heap.size (w.heap.size) 37 #[.int .i64 wide, .int .i64 deep, .slice p n cap, .int .i64 free, .int .i64 step, .int .i64 price, .int .i64 capp, .int .i64 clock, .int .i64 bank, .slice q m c2]]) (fun _ d _ => (intOf d).toNat)
      case atStart => exact ⟨0, q4, l, c4, D, Nat.zero_le _, rfl, rfl, rfl, by simp, by simpa [payTo_zero] using M3.out⟩
      case round =>
        clear M3
        obtain ⟨j, q5, l5, c5, X, hj, rfl, rfl, hl5, hX, hM⟩ := hrel
        have M4 := Lib.hid hM
        have HX5 := Lib.hid hX
        have hiff := payCnt_iff D j
        have hXb : X ≤ 10000 := by omega
        have hXl : -30000 ≤ X := by omega
        have HL5 := Lib.hid hl5
        have hl5b : l5 ≤ l + 40 := by omega
        clear hM hl5
        by_cases hjt : j < payCnt D
        · have hp : 0 < X := by have := hiff.1 hjt; omega
          have hnx : X - 300 = D - 300 * ((j + 1 : Nat) : Int) := by omega
          have hpt : Hid (payPart x D j = (1, x, min X 300)) := by show _ = _; unfold payPart; rw [← HX5.out]
          have t0 : decide (0 < X) = true := by simp [hp]
          have hw1 : IntKind.i64.wrap (X - 300) = X - 300 := IntWalk.i64_in _ (by omega)
          clear hX hiff
          go_wp2_with (at_builtin; go_loud (refine wpList_appM elDd rfl _ _ rfl (M4.out.adv ((Ext.refl _).alloc (.cells #[.int .i64 1, .int .i64 x, .int .i64 (min X 300)] TDd))) 0 rfl rfl (ddCells (1, x, (min X 300))) rfl (sl_lit _ _ _ 1 3 _ (by simp [ddCells]) (by simp [ddCells]) (by simp [maxLen])) (fun u hu => dds_one [(1, x, (min X 300))] u (by simpa using hu)) (by omega) ?_; intro q7 c7 w6 M6))
          have M7 := Lib.hid (show Mem w w6 [ownI w.heap.size TDd 3 (q7) (l5 + 1) (c7) ((endDeeds due (ids.take k)).flatMap ddCells ++ (payTo x D (j + 1)).flatMap ddCells), ownI w.heap.size TI 1 (some ⟨b, off, none⟩) (ids.length) (c1) (ivs ids), blkI w.heap.size (w.heap.size) 37 #[.int .i64 wide, .int .i64 deep, .slice p n cap, .int .i64 free, .int .i64 step, .int .i64 price, .int .i64 capp, .int .i64 clock, .int .i64 bank, .slice q m c2]] from by rw [payTo_succ, List.flatMap_append, hpt.out]; simpa [List.append_assoc] using M6)
          clear M6 M4
          go_wp2
          go_roundw
          case rel => exact ⟨j + 1, q7, l5 + 1, c7, X - 300, by omega, by go_num, rfl, by have := HL5.out; omega, hnx, M7.out⟩
          case measure => simp [intOf]; omega
        · obtain rfl : j = payCnt D := by omega
          have t0 : decide (0 < X) = false := by have : ¬ 0 < X := fun h => hjt (hiff.2 (by omega)); simp; omega
          clear hX hiff hjt
          go_wp2_with (at_builtin; go_loud (refine wpList_appM elDd rfl _ _ rfl (M4.out.adv ((Ext.refl _).alloc (.cells #[.int .i64 2, .int .i64 x, .int .i64 0] TDd))) 0 rfl rfl (ddCells (2, x, 0)) rfl (sl_lit _ _ _ 1 3 _ (by simp [ddCells]) (by simp [ddCells]) (by simp [maxLen])) (fun u hu => dds_one [(2, x, 0)] u (by simpa using hu)) (by omega) ?_; intro q7 c7 w6 M6))
          have hsn : Hid (endDeeds due (ids.take (k + 1)) = endDeeds due (ids.take k) ++ payTo x D (payCnt D) ++ [(2, x, 0)]) := by show _ = _; rw [endDeeds_snoc due HX.out, HDX.out]
          have M7 := Lib.hid (show Mem w w6 [ownI w.heap.size TDd 3 (q7) (l5 + 1) (c7) ((endDeeds due (ids.take (k + 1))).flatMap ddCells), ownI w.heap.size TI 1 (some ⟨b, off, none⟩) (ids.length) (c1) (ivs ids), blkI w.heap.size (w.heap.size) 37 #[.int .i64 wide, .int .i64 deep, .slice p n cap, .int .i64 free, .int .i64 step, .int .i64 price, .int .i64 capp, .int .i64 clock, .int .i64 bank, .slice q m c2]] from by rw [hsn.out]; simpa [List.flatMap_append, List.append_assoc] using M6)
          have hln : Hid (l5 + 1 = (endDeeds due (ids.take (k + 1))).length) := by show _ = _; rw [hsn.out, List.length_append, List.length_append, payTo_len, ← HL4.out, HL5.out]; rfl
          clear M6 M4
          go_wp2
          go_roundw
          case rel => exact ⟨k + 1, q7, l5 + 1, c7, by omega, by go_num, rfl, hln.out, M7.out⟩
          case measure => simp [intOf]; omega
    · obtain rfl : k = ids.length := by omega
      go_wp2
      go_ret
      have h1 := HM.out.own (i := 0) rfl
      have h2 := HL4.out
      rw [List.take_length] at h1 h2
      subst h2
      exact ⟨q4, c4, rfl, h1, HM.out.ext⟩
set_option maxRecDepth 100000 in
set_option maxHeartbeats 8000000 in
theorem specEd_o (wide deep free step price capp clock bank : Int) (p : Option Addr) (n cap : Nat) (q : Option Addr) (m c2 : Nat) (ids : List Int) (due : Int → Int) (w : World) (hl : ids.length ≤ 1000)
    (HO : Hid (∀ w', Ext w w' → Calls Try.prog 15 #[.agg #[.int .i64 wide, .int .i64 deep, .slice p n cap, .int .i64 free, .int .i64 step, .int .i64 price, .int .i64 capp, .int .i64 clock, .int .i64 bank, .slice q m c2]] w' (RetInts ids w')))
    (HD : Hid (∀ x, x ∈ ids → ∀ w', Ext w w' → Calls Try.prog 17 #[.agg #[.int .i64 wide, .int .i64 deep, .slice p n cap, .int .i64 free, .int .i64 step, .int .i64 price, .int .i64 capp, .int .i64 clock, .int .i64 bank, .slice q m c2], .int .i64 x] w' fun e w'' => e = .returned (.int .i64 (due x)) ∧ Ext w' w''))
    (HPA : Hid (∀ x, x ∈ ids → ∀ w', Calls Try.prog 16 #[.int .i64 x, .int .i64 (due x)] w' fun e w'' => ∃ q c, e = .returned (.slice q (payCnt (due x)) c) ∧ w''.ownsRow w'.heap.size TDd 3 (.slice q (payCnt (due x)) c) (payCnt (due x)) ((payTo x (due x) (payCnt (due x))).flatMap ddCells) ∧ Ext w' w''))
    (hb : Hid (∀ x ∈ ids, due x ≤ 10000 ∧ -10000 ≤ due x)) (hdl : Hid (∀ k, (endDeeds due (ids.take k)).length ≤ k * 41)) :
    Calls Try.prog 5 #[.agg #[.int .i64 wide, .int .i64 deep, .slice p n cap, .int .i64 free, .int .i64 step, .int .i64 price, .int .i64 capp, .int .i64 clock, .int .i64 bank, .slice q m c2]] w (RetDeeds (endDeeds due ids) w) := by
  go_enter Try.func5, Try.ntmps5
  have MB := Lib.hid (((Mem.start w).blkNew 37 #[.int .i64 wide, .int .i64 deep, .slice p n cap, .int .i64 free, .int .i64 step, .int .i64 price, .int .i64 capp, .int .i64 clock, .int .i64 bank, .slice q m c2] (w.heap.size) (by simp)).made0 TDd 3 (w.heap.size + 1) (by simp))
  go_wp2_with fail
  refine (HO.out _ MB.out.ext).mono ?_
  rintro e w1 ⟨q1, c1, rfl, o1, hx1⟩
  have M0 := Lib.hid ((MB.out).call hx1 o1)
  have M1 := Lib.hid (show Mem w w1 [ownI w.heap.size TDd 3 (some ⟨w.heap.size + 1, 0, none⟩) (0) (0) ([]), ownI w.heap.size TI 1 (q1) (ids.length) (c1) (ivs ids), blkI w.heap.size (w.heap.size) 37 #[.int .i64 wide, .int .i64 deep, .slice p n cap, .int .i64 free, .int .i64 step, .int .i64 price, .int .i64 capp, .int .i64 clock, .int .i64 bank, .slice q m c2]] from (M0.out.pick [1, 0, 2] (by decide) rfl))
  clear MB M0 hx1 o1
  go_wp2
  go_loopw [3, 5] (fun v i wr => ∃ (k : Nat) (q4 : Option Addr) (l c4 : Nat), k ≤ ids.length ∧ i = .int .i64 (k : Int) ∧ v = .slice q4 l c4 ∧ l = (endDeeds due (ids.take k)).length ∧ Mem w wr [ownI w.heap.size TDd 3 (q4) (l) (c4) ((endDeeds due (ids.take k)).flatMap ddCells), ownI w.heap.size TI 1 (q1) (ids.length) (c1) (ivs ids), blkI w.heap.size (w.heap.size) 37 #[.int .i64 wide, .int .i64 deep, .slice p n cap, .int .i64 free, .int .i64 step, .int .i64 price, .int .i64 capp, .int .i64 clock, .int .i64 bank, .slice q m c2]]) (fun _ i _ => ids.length - (intOf i).toNat)
  case atStart => exact ⟨0, some ⟨w.heap.size + 1, 0, none⟩, 0, 0, Nat.zero_le _, rfl, rfl, rfl, M1.out⟩
  case round =>
    clear M1
    obtain ⟨k, q4, l, c4, hk, rfl, rfl, hl4, hM⟩ := hrel
    have HM := Lib.hid hM
    have HL4 := Lib.hid hl4
    clear hM
    have hlb : l ≤ k * 41 := by rw [hl4]; exact hdl.out k
    clear hl4
    by_cases hlt : k < ids.length
    · obtain ⟨b, off, x, rfl, hx, hbw, hc⟩ := Sl.int_at (HM.out.sl (i := 1) rfl) hlt
      have HX := Lib.hid hx
      have hmem := Lib.hid (List.mem_of_getElem? hx)
      have hbd := hb.out x hmem.out
      clear hx
      have i1 : (0 : Int) ≤ (k : Int) := by omega
      have i2 : (k : Int) < (ids.length : Int) := by omega
      obtain ⟨ce0, ce1, ce2, ce3, ce4, ce5, ce6, ce7, ce8, ce9⟩ := (HM.out.blk (i := 2) rfl).ten
      have HD1 := Lib.hid (HD.out x hmem.out)
      have HP1 := Lib.hid (HPA.out x hmem.out)
      generalize hdx : due x = D at *
      have HDX := Lib.hid hdx
      clear hdx
      have hcn : payCnt D ≤ 40 := by unfold payCnt; omega
      generalize hpc : payCnt D = C at *
      have HPC := Lib.hid hpc
      clear hpc
      go_wp2
      go_region_law ((first
        | (go_simp; go_at_call 17
           refine (HD1.out _ (HM.out.ext.trans (by (repeat' (first | exact Ext.refl _ | (with_reducible assumption) | (with_reducible refine Ext.alloc ?_ _) | (with_reducible refine Ext.setCell ?_ (by first | exact Nat.le_refl _ | (dsimp only; omega) | (simp; done) | (simp; omega)) _) | (with_reducible refine Ext.drew ?_) | (with_reducible refine Ext.drewN ?_ _) | (refine Ext.trans ?_ (by with_reducible assumption))))))).mono ?_
           rintro e w3 ⟨rfl, hx3⟩
           (try replace hx3 := hx3.of_drew)
           have M3 := Lib.hid (HM.out.adv hx3)
           have hc3 := (hx3.cells.1 _ _ hbw).trans hc
           have hbw3 : b < w3.heap.size := Nat.lt_of_lt_of_le hbw hx3.sz)
        | (go_simp; go_at_call 16
           refine (HP1.out _).mono ?_
           rintro e w4 ⟨q5, c5, rfl, o5, hx5⟩
           (try replace hx5 := hx5.of_drew)
           have M4 := Lib.hid (M3.out.call hx5 o5))
        | (refine step_appM elDd (by rfl) _ _ (by rfl) (M4.out.adv (by (repeat' (first | exact Ext.refl _ | (with_reducible assumption) | (with_reducible refine Ext.alloc ?_ _) | (with_reducible refine Ext.setCell ?_ (by first | exact Nat.le_refl _ | (dsimp only; omega) | (simp; done) | (simp; omega)) _) | (with_reducible refine Ext.drew ?_) | (with_reducible refine Ext.drewN ?_ _) | (refine Ext.trans ?_ (by with_reducible assumption)))))) 1 (by rfl) (by rfl) ((payTo x D C).flatMap ddCells) (by rfl) ((M4.out.sl (i := 0) rfl).ext (by (repeat' (first | exact Ext.refl _ | (with_reducible assumption) | (with_reducible refine Ext.alloc ?_ _) | (with_reducible refine Ext.setCell ?_ (by first | exact Nat.le_refl _ | (dsimp only; omega) | (simp; done) | (simp; omega)) _) | (with_reducible refine Ext.drew ?_) | (with_reducible refine Ext.drewN ?_ _) | (refine Ext.trans ?_ (by with_reducible assumption)))))) (dds_one _) (by omega) ?_
           intro q7 c7 w6 M6)))
      all_goals (
        have hsn : Hid (endDeeds due (ids.take (k + 1)) = endDeeds due (ids.take k) ++ payTo x D C ++ [(2, x, 0)]) := by show _ = _; rw [endDeeds_snoc due HX.out, HDX.out, HPC.out]
        have MA := Lib.hid (show Mem w w6 [ownI w.heap.size TDd 3 (q7) (l + C) (c7) ((endDeeds due (ids.take k)).flatMap ddCells ++ (payTo x D C).flatMap ddCells), ownI w.heap.size TI 1 (some ⟨b, off, none⟩) (ids.length) (c1) (ivs ids), blkI w.heap.size (w.heap.size) 37 #[.int .i64 wide, .int .i64 deep, .slice p n cap, .int .i64 free, .int .i64 step, .int .i64 price, .int .i64 capp, .int .i64 clock, .int .i64 bank, .slice q m c2]] from (M6.pick [1, 2, 3] (by decide) rfl))
        obtain ⟨b', off', x', e1, hx', hb', hc6⟩ := Sl.int_at (MA.out.sl (i := 1) rfl) hlt
        cases e1
        obtain rfl : x = x' := by have := HX.out; rw [hx'] at this; exact (Option.some.inj this).symm
        clear M6 M4 M3 HM hx' hc hbw
        (try clear hc3 hbw3)
        go_wp2_with (at_builtin; go_loud (refine wpList_appM elDd rfl _ _ rfl (MA.out.adv ((Ext.refl _).alloc (.cells #[.int .i64 2, .int .i64 x, .int .i64 0] TDd))) 0 rfl rfl (ddCells (2, x, 0)) rfl (sl_lit _ _ _ 1 3 _ (by simp [ddCells]) (by simp [ddCells]) (by simp [maxLen])) (fun u hu => dds_one [(2, x, 0)] u (by simpa using hu)) (by omega) ?_; intro q8 c8 w8 M8))
        have hln : Hid (l + C + 1 = (endDeeds due (ids.take (k + 1))).length) := by show _ = _; rw [hsn.out, List.length_append, List.length_append, payTo_len, ← HL4.out]; rfl
        have M9 := Lib.hid (show Mem w w8 [ownI w.heap.size TDd 3 (q8) (l + C + 1) (c8) ((endDeeds due (ids.take (k + 1))).flatMap ddCells), ownI w.heap.size TI 1 (some ⟨b, off, none⟩) (ids.length) (c1) (ivs ids), blkI w.heap.size (w.heap.size) 37 #[.int .i64 wide, .int .i64 deep, .slice p n cap, .int .i64 free, .int .i64 step, .int .i64 price, .int .i64 capp, .int .i64 clock, .int .i64 bank, .slice q m c2]] from by rw [hsn.out]; simpa [List.flatMap_append, List.append_assoc] using M8)
        clear M8 MA hc6 hb'
        go_wp2
        go_roundw
        case rel => exact ⟨k + 1, q8, l + C + 1, c8, by omega, by go_num, rfl, hln.out, M9.out⟩
        case measure => simp [intOf]; omega)
    · obtain rfl : k = ids.length := by omega
      go_wp2
      go_ret
      have h1 := HM.out.own (i := 0) rfl
      have h2 := HL4.out
      rw [List.take_length] at h1 h2
      subst h2
      exact ⟨q4, c4, rfl, h1, HM.out.ext⟩
end Go.Proofs.Ythhcpcjmolbkdaa
