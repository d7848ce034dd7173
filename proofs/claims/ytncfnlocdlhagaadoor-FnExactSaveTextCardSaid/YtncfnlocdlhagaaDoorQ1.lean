/-
  Plain words on the texts of houses. Nothing of the program but the library's join.
-/
import Derived.Test.YtncfnlocdlhagaaDoorJoin
import Derived.Test.YtncfnlocdlhagaaDoorHdue
import Derived.Test.YtncfnlocdlhagaaDoorAlive
import Derived.Test.YtncfnlocdlhagaaDoorHs
import Derived.Test.YtncfnlocdlhagaaDoorBlk
import Derived.RegionTactic
import Derived.Deep.RegionHeld3
import Derived.Test.YtncfnlocdlhagaaDoorEntry
namespace Go.Proofs.YtncfnlocdlhagaaDoor
open Go.RowKit
set_option linter.unusedVariables false
set_option linter.unusedSimpArgs false

abbrev dec (x : Int) : List UInt8 := Lib.decDigits x.toNat
def numsText (xs : List Int) : List UInt8 := joinB 44 (xs.map dec)
def visitNums (v : Visit4) : List Int := [v.1, v.2.1, v.2.2.1, v.2.2.2]
def houseParts (h : HouseD) : List (List UInt8) := hallText h.wide h.deep h.cells :: numsText [h.free, h.step, h.price, h.capp] :: dec h.clock :: dec h.bank :: h.vs.map (fun v => numsText (visitNums v))
def houseText (h : HouseD) : List UInt8 := if houseOk h then joinB 59 (houseParts h) else []
theorem numsText_four (a b c d : Int) : numsText [a, b, c, d] = dec a ++ 44 :: dec b ++ 44 :: dec c ++ 44 :: dec d := by
  simp [numsText, joinB, tailB]
theorem numsText_one (a : Int) : numsText [a] = dec a := by simp [numsText, joinB, tailB]
theorem dec_len (x : Int) (h : x ≤ 9223372036854775807) : (dec x).length ≤ 21 := decDigits_len _ (by omega)
theorem nums_len4 (a b c d : Int) (h1 : a ≤ 9223372036854775807) (h2 : b ≤ 9223372036854775807) (h3 : c ≤ 9223372036854775807) (h4 : d ≤ 9223372036854775807) : (numsText [a, b, c, d]).length ≤ 90 := by
  rw [numsText_four]
  have := dec_len a h1; have := dec_len b h2; have := dec_len c h3; have := dec_len d h4
  simp only [List.length_append, List.length_cons]
  omega
theorem tail_len (c : UInt8) (M : Nat) : ∀ r : List (List UInt8), (∀ x ∈ r, x.length ≤ M) → (tailB c r).length ≤ (M + 1) * r.length := by
  intro r
  induction r with
  | nil => intro _; simp [tailB]
  | cons x r ih =>
    intro h
    have h1 := h x (by simp)
    have h2 := ih (fun y hy => h y (by simp [hy]))
    simp only [tailB, List.flatMap_cons, List.length_append, List.length_cons] at h2 ⊢
    rw [Nat.mul_succ]
    omega

end Go.Proofs.YtncfnlocdlhagaaDoor

/-
  The reference's HallText. Condition: the slice of cells reads as a list.
-/
namespace Go.Proofs.YtncfnlocdlhagaaDoor
open Go.RowKit
set_option linter.unusedVariables false
set_option linter.unusedSimpArgs false

theorem strL (l : List UInt8) (m : Nat) (h : l.length ≤ m) : ∃ s : ByteArray, s = ⟨l.toArray⟩ ∧ s.size ≤ m := ⟨_, rfl, by simpa [ByteArray.size] using h⟩
theorem strApp (a b : ByteArray) (x y : List UInt8) (h1 : a = ⟨x.toArray⟩) (h2 : b = ⟨y.toArray⟩) : a ++ b = ⟨(x ++ y).toArray⟩ := by
  rw [h1, h2]; exact Go.WideShapes.bytes_inj (by simp [ByteArray.data_append])
theorem retB {a : ByteArray} {l : List UInt8} (h : a = ⟨l.toArray⟩) : Ending.returned (.string a) = .returned (str l) := by rw [h]
theorem bsz (c : UInt8) : (⟨#[c]⟩ : ByteArray).size = 1 := rfl

set_option maxRecDepth 100000 in
set_option maxHeartbeats 1000000 in
theorem specHallText_bad (wide deep : Int) (p : Option Addr) (n cap : Nat) (w : World) (hn : n ≤ 9223372036854775807) (HV : Hid (∀ w', Ext w w' → Calls Tryd.prog 73 #[hallV wide deep p n cap] w' fun e w'' => e = .returned (.bool false) ∧ Ext w' w'')) :
    Calls Tryd.prog 56 #[hallV wide deep p n cap] w fun e w' => e = .returned (str []) ∧ Ext w w' := by
  by_cases h0 : 0 < n
  · have u1 : (0 : Int) < (n : Int) := by omega
    go_enter Tryd.func56, Tryd.ntmps56
    go_wp2
    refine wp_loop_rounds 1 ?_
    rw [rounds_succ]
    go_wp2_with fail
    refine (HV.out _ (by (repeat' (first | exact Ext.refl _ | (with_reducible assumption) | (with_reducible refine Ext.alloc ?_ _) | (with_reducible refine Ext.setCell ?_ (by first | exact Nat.le_refl _ | (dsimp only; omega) | (simp; done) | (simp; omega)) _) | (with_reducible refine Ext.drew ?_) | (with_reducible refine Ext.drewN ?_ _) | (refine Ext.trans ?_ (by with_reducible assumption)))))).mono ?_
    rintro e w1 ⟨rfl, h1⟩
    go_wp2
    go_ret
    exact ⟨rfl, by (repeat' (first | exact Ext.refl _ | (with_reducible assumption) | (with_reducible refine Ext.alloc ?_ _) | (with_reducible refine Ext.setCell ?_ (by first | exact Nat.le_refl _ | (dsimp only; omega) | (simp; done) | (simp; omega)) _) | (with_reducible refine Ext.drew ?_) | (with_reducible refine Ext.drewN ?_ _) | (refine Ext.trans ?_ (by with_reducible assumption))))⟩
  · obtain rfl : n = 0 := by omega
    go_enter Tryd.func56, Tryd.ntmps56
    go_wp2
    go_rounds 1
    go_ret
    exact ⟨rfl, by (repeat' (first | exact Ext.refl _ | (with_reducible assumption) | (with_reducible refine Ext.alloc ?_ _) | (with_reducible refine Ext.setCell ?_ (by first | exact Nat.le_refl _ | (dsimp only; omega) | (simp; done) | (simp; omega)) _) | (with_reducible refine Ext.drew ?_) | (with_reducible refine Ext.drewN ?_ _) | (refine Ext.trans ?_ (by with_reducible assumption))))⟩

set_option maxRecDepth 100000 in
set_option maxHeartbeats 1000000 in
theorem specHallText_ok (wide deep : Int) (p : Option Addr) (n cap : Nat) (xs : List Int) (w : World) (h0 : 2 ≤ wide) (h1 : wide ≤ 4) (hn : n ≤ 12) (hc : ∀ x ∈ xs, 0 ≤ x ∧ x ≤ 99) (HS : Hid (Sl w p n cap 1 (ivs xs)))
    (HV : Hid (∀ w', Ext w w' → Calls Tryd.prog 73 #[hallV wide deep p n cap] w' fun e w'' => e = .returned (.bool true) ∧ Ext w' w'')) :
    Calls Tryd.prog 56 #[hallV wide deep p n cap] w fun e w' => e = .returned (str (hallTextN wide xs n)) ∧ Ext w w' := by
  have HCC := Lib.hid hc
  clear hc
  go_enter Tryd.func56, Tryd.ntmps56
  go_wp2
  go_loopw [3, 4] (fun o i wr => ∃ (k : Nat) (S : ByteArray), k ≤ n ∧ i = .int .i64 k ∧ o = .string S ∧ S = ⟨(hallTextN wide xs k).toArray⟩ ∧ Ext w wr ∧ Blk wr w.heap.size 48 #[.int .i64 wide, .int .i64 deep, .slice p n cap]) (fun _ i _ => n - (intOf i).toNat)
  case atStart => exact ⟨0, _, Nat.zero_le _, rfl, rfl, rfl, by (repeat' (first | exact Ext.refl _ | (with_reducible assumption) | (with_reducible refine Ext.alloc ?_ _) | (with_reducible refine Ext.setCell ?_ (by first | exact Nat.le_refl _ | (dsimp only; omega) | (simp; done) | (simp; omega)) _) | (with_reducible refine Ext.drew ?_) | (with_reducible refine Ext.drewN ?_ _) | (refine Ext.trans ?_ (by with_reducible assumption)))), Blk.new _ _ _⟩
  case round =>
    obtain ⟨k, S, hk, rfl, rfl, hS, hE, hB⟩ := hrel
    have hSz : S.size ≤ 300 := by
      have := hallTextN_len wide xs (fun x hx => (HCC.out x hx).2) k
      rw [hS]; simp [ByteArray.size]; omega
    have HSt := Lib.hid hS
    have HBr := Lib.hid hB
    have hszr : w.heap.size < wr.heap.size := hB.lt
    clear hS hB
    by_cases hlt : k < n
    · obtain ⟨b, off, x, rfl, hx, hbs, hcell⟩ := (HS.out.ext hE).int_at hlt
      obtain ⟨hx0, hx1⟩ := HCC.out x (List.mem_of_getElem? hx)
      have HX := Lib.hid hx
      have hfin := Lib.hid (hallTextN_step (wide := wide) hx)
      clear hx
      have i1 : (0 : Int) ≤ (k : Int) := by omega
      have i2 : (k : Int) < (n : Int) := by omega
      have r0 : wr.cell? ⟨w.heap.size, 0, none⟩ = some (.int .i64 wide) := HBr.out.cell 0
      have r1 : wr.cell? ⟨w.heap.size, 1, none⟩ = some (.int .i64 deep) := HBr.out.cell 1
      have r2 : wr.cell? ⟨w.heap.size, 2, none⟩ = some (.slice (some ⟨b, off, none⟩) n cap) := HBr.out.cell 2
      have HNum : Hid (∀ w, Calls Tryd.prog 58 #[.int .i64 x] w fun e w' => e = .returned (str (Lib.decDigits x.toNat)) ∧ Ext w w') := fun w => l1Num x w hx0 (by omega)
      obtain ⟨tx, ex, mx⟩ := strL (Lib.decDigits x.toNat) 21 (decDigits_len _ (by omega))
      have HNum2 : Hid (∀ w, Calls Tryd.prog 58 #[.int .i64 x] w fun e w' => e = .returned (.string tx) ∧ Ext w w') := by rw [ex]; exact HNum.out
      have HEx := Lib.hid ex
      clear ex HNum
      go_wp2_with fail
      refine (HV.out _ (by (repeat' (first | exact Ext.refl _ | (with_reducible assumption) | (with_reducible refine Ext.alloc ?_ _) | (with_reducible refine Ext.setCell ?_ (by first | exact Nat.le_refl _ | (dsimp only; omega) | (simp; done) | (simp; omega)) _) | (with_reducible refine Ext.drew ?_) | (with_reducible refine Ext.drewN ?_ _) | (refine Ext.trans ?_ (by with_reducible assumption)))))).mono ?_
      rintro e w1 ⟨rfl, hh1⟩
      have HB1 := Lib.hid (HBr.out.ext hh1)
      have X1 : Ext w w1 := hE.trans hh1
      have hcell1 : w1.cell? ⟨b, off + k, none⟩ = some (iv x) := by rw [hh1.cells.1 _ _ hbs]; exact hcell
      have hbs1 : b < w1.heap.size := Nat.lt_of_lt_of_le hbs hh1.sz
      clear hh1 r0 r1 r2 HBr hcell hbs
      have a0 : w1.cell? ⟨w.heap.size, 0, none⟩ = some (.int .i64 wide) := HB1.out.cell 0
      have a1 : w1.cell? ⟨w.heap.size, 1, none⟩ = some (.int .i64 deep) := HB1.out.cell 1
      have a2 : w1.cell? ⟨w.heap.size, 2, none⟩ = some (.slice (some ⟨b, off, none⟩) n cap) := HB1.out.cell 2
      by_cases hk0 : k = 0
      · by_cases hz : x = 0
        · have hsep : Hid (cellSep wide k = []) := by show _ = _; simp [cellSep, hk0]
          have S1 : Hid (S = ⟨(hallTextN wide xs k ++ cellSep wide k).toArray⟩) := by show _ = _; rw [hsep.out, List.append_nil]; exact HSt.out
          have f1 : decide ((0 : Int) < (k : Int)) = false := by simp [hk0]
          have f2 : decide (0 < k) = false := by simp [hk0]
          have f3 : ¬ 0 < k := by omega
          have z1 : (x == 0) = true := by simp [hz]
          have hacc : Hid (S ++ ⟨#[46]⟩ = ⟨(hallTextN wide xs (k + 1)).toArray⟩) := by show _ = _; rw [hfin.out]; exact strApp _ _ _ _ S1.out (by simp [cellTok, hz])
          have q2 : ¬ 9223372036854775807 < S.size + 1 := by omega
          clear hk0 hz
          go_wp2
          go_roundw
          case rel => exact ⟨k + 1, _, by omega, by go_num, rfl, hacc.out, by (repeat' (first | exact Ext.refl _ | (with_reducible assumption) | (with_reducible refine Ext.alloc ?_ _) | (with_reducible refine Ext.setCell ?_ (by first | exact Nat.le_refl _ | (dsimp only; omega) | (simp; done) | (simp; omega)) _) | (with_reducible refine Ext.drew ?_) | (with_reducible refine Ext.drewN ?_ _) | (refine Ext.trans ?_ (by with_reducible assumption)))), HB1.out.ext (by (repeat' (first | exact Ext.refl _ | (with_reducible assumption) | (with_reducible refine Ext.alloc ?_ _) | (with_reducible refine Ext.setCell ?_ (by first | exact Nat.le_refl _ | (dsimp only; omega) | (simp; done) | (simp; omega)) _) | (with_reducible refine Ext.drew ?_) | (with_reducible refine Ext.drewN ?_ _) | (refine Ext.trans ?_ (by with_reducible assumption)))))⟩
          case measure => simp [intOf]; omega
        · have hsep : Hid (cellSep wide k = []) := by show _ = _; simp [cellSep, hk0]
          have S1 : Hid (S = ⟨(hallTextN wide xs k ++ cellSep wide k).toArray⟩) := by show _ = _; rw [hsep.out, List.append_nil]; exact HSt.out
          have f1 : decide ((0 : Int) < (k : Int)) = false := by simp [hk0]
          have f2 : decide (0 < k) = false := by simp [hk0]
          have f3 : ¬ 0 < k := by omega
          have z1 : (x == 0) = false := by simp [hz]
          have hacc : Hid (S ++ tx = ⟨(hallTextN wide xs (k + 1)).toArray⟩) := by show _ = _; rw [hfin.out]; exact strApp _ _ _ _ S1.out (by rw [HEx.out]; simp [cellTok, hz])
          have q2 : ¬ 9223372036854775807 < S.size + tx.size := by omega
          clear hk0 hz
          go_wp2_with fail
          refine (HNum2.out _).mono ?_
          rintro e w2 ⟨rfl, hh2⟩
          have HB2 := Lib.hid (HB1.out.ext hh2)
          go_wp2
          go_roundw
          case rel => exact ⟨k + 1, _, by omega, by go_num, rfl, hacc.out, by (repeat' (first | exact Ext.refl _ | (with_reducible assumption) | (with_reducible refine Ext.alloc ?_ _) | (with_reducible refine Ext.setCell ?_ (by first | exact Nat.le_refl _ | (dsimp only; omega) | (simp; done) | (simp; omega)) _) | (with_reducible refine Ext.drew ?_) | (with_reducible refine Ext.drewN ?_ _) | (refine Ext.trans ?_ (by with_reducible assumption)))), HB2.out⟩
          case measure => simp [intOf]; omega
      · by_cases hmod : (k : Int) % wide = 0
        · by_cases hz : x = 0
          · have hsep : Hid (cellSep wide k = [47]) := by show _ = _; simp [cellSep, hk0, hmod]
            have S1 : Hid (S ++ ⟨#[47]⟩ = ⟨(hallTextN wide xs k ++ cellSep wide k).toArray⟩) := by show _ = _; rw [hsep.out]; exact strApp _ _ _ _ HSt.out rfl
            have q1 : ¬ 9223372036854775807 < S.size + 1 := by omega
            have f1 : 0 < k := by omega
            have f3 : (0 : Int) < (k : Int) := by omega
            have f2 : ((k : Int) % wide == 0) = true := by simp [hmod]
            have z1 : (x == 0) = true := by simp [hz]
            have hacc : Hid (S ++ ⟨#[47]⟩ ++ ⟨#[46]⟩ = ⟨(hallTextN wide xs (k + 1)).toArray⟩) := by show _ = _; rw [hfin.out]; exact strApp _ _ _ _ S1.out (by simp [cellTok, hz])
            have q2 : ¬ 9223372036854775807 < S.size + 1 + 1 := by omega
            clear hk0 hz hmod
            go_wp2
            go_roundw
            case rel => exact ⟨k + 1, _, by omega, by go_num, rfl, hacc.out, by (repeat' (first | exact Ext.refl _ | (with_reducible assumption) | (with_reducible refine Ext.alloc ?_ _) | (with_reducible refine Ext.setCell ?_ (by first | exact Nat.le_refl _ | (dsimp only; omega) | (simp; done) | (simp; omega)) _) | (with_reducible refine Ext.drew ?_) | (with_reducible refine Ext.drewN ?_ _) | (refine Ext.trans ?_ (by with_reducible assumption)))), HB1.out.ext (by (repeat' (first | exact Ext.refl _ | (with_reducible assumption) | (with_reducible refine Ext.alloc ?_ _) | (with_reducible refine Ext.setCell ?_ (by first | exact Nat.le_refl _ | (dsimp only; omega) | (simp; done) | (simp; omega)) _) | (with_reducible refine Ext.drew ?_) | (with_reducible refine Ext.drewN ?_ _) | (refine Ext.trans ?_ (by with_reducible assumption)))))⟩
            case measure => simp [intOf]; omega
          · have hsep : Hid (cellSep wide k = [47]) := by show _ = _; simp [cellSep, hk0, hmod]
            have S1 : Hid (S ++ ⟨#[47]⟩ = ⟨(hallTextN wide xs k ++ cellSep wide k).toArray⟩) := by show _ = _; rw [hsep.out]; exact strApp _ _ _ _ HSt.out rfl
            have q1 : ¬ 9223372036854775807 < S.size + 1 := by omega
            have f1 : 0 < k := by omega
            have f3 : (0 : Int) < (k : Int) := by omega
            have f2 : ((k : Int) % wide == 0) = true := by simp [hmod]
            have z1 : (x == 0) = false := by simp [hz]
            have hacc : Hid (S ++ ⟨#[47]⟩ ++ tx = ⟨(hallTextN wide xs (k + 1)).toArray⟩) := by show _ = _; rw [hfin.out]; exact strApp _ _ _ _ S1.out (by rw [HEx.out]; simp [cellTok, hz])
            have q2 : ¬ 9223372036854775807 < S.size + 1 + tx.size := by omega
            clear hk0 hz hmod
            go_wp2_with fail
            refine (HNum2.out _).mono ?_
            rintro e w2 ⟨rfl, hh2⟩
            have HB2 := Lib.hid (HB1.out.ext hh2)
            go_wp2
            go_roundw
            case rel => exact ⟨k + 1, _, by omega, by go_num, rfl, hacc.out, by (repeat' (first | exact Ext.refl _ | (with_reducible assumption) | (with_reducible refine Ext.alloc ?_ _) | (with_reducible refine Ext.setCell ?_ (by first | exact Nat.le_refl _ | (dsimp only; omega) | (simp; done) | (simp; omega)) _) | (with_reducible refine Ext.drew ?_) | (with_reducible refine Ext.drewN ?_ _) | (refine Ext.trans ?_ (by with_reducible assumption)))), HB2.out⟩
            case measure => simp [intOf]; omega
        · by_cases hz : x = 0
          · have hsep : Hid (cellSep wide k = [44]) := by show _ = _; simp [cellSep, hk0, hmod]
            have S1 : Hid (S ++ ⟨#[44]⟩ = ⟨(hallTextN wide xs k ++ cellSep wide k).toArray⟩) := by show _ = _; rw [hsep.out]; exact strApp _ _ _ _ HSt.out rfl
            have q1 : ¬ 9223372036854775807 < S.size + 1 := by omega
            have f1 : 0 < k := by omega
            have f3 : (0 : Int) < (k : Int) := by omega
            have f2 : ((k : Int) % wide == 0) = false := by simp [hmod]
            have z1 : (x == 0) = true := by simp [hz]
            have hacc : Hid (S ++ ⟨#[44]⟩ ++ ⟨#[46]⟩ = ⟨(hallTextN wide xs (k + 1)).toArray⟩) := by show _ = _; rw [hfin.out]; exact strApp _ _ _ _ S1.out (by simp [cellTok, hz])
            have q2 : ¬ 9223372036854775807 < S.size + 1 + 1 := by omega
            clear hk0 hz hmod
            go_wp2
            go_roundw
            case rel => exact ⟨k + 1, _, by omega, by go_num, rfl, hacc.out, by (repeat' (first | exact Ext.refl _ | (with_reducible assumption) | (with_reducible refine Ext.alloc ?_ _) | (with_reducible refine Ext.setCell ?_ (by first | exact Nat.le_refl _ | (dsimp only; omega) | (simp; done) | (simp; omega)) _) | (with_reducible refine Ext.drew ?_) | (with_reducible refine Ext.drewN ?_ _) | (refine Ext.trans ?_ (by with_reducible assumption)))), HB1.out.ext (by (repeat' (first | exact Ext.refl _ | (with_reducible assumption) | (with_reducible refine Ext.alloc ?_ _) | (with_reducible refine Ext.setCell ?_ (by first | exact Nat.le_refl _ | (dsimp only; omega) | (simp; done) | (simp; omega)) _) | (with_reducible refine Ext.drew ?_) | (with_reducible refine Ext.drewN ?_ _) | (refine Ext.trans ?_ (by with_reducible assumption)))))⟩
            case measure => simp [intOf]; omega
          · have hsep : Hid (cellSep wide k = [44]) := by show _ = _; simp [cellSep, hk0, hmod]
            have S1 : Hid (S ++ ⟨#[44]⟩ = ⟨(hallTextN wide xs k ++ cellSep wide k).toArray⟩) := by show _ = _; rw [hsep.out]; exact strApp _ _ _ _ HSt.out rfl
            have q1 : ¬ 9223372036854775807 < S.size + 1 := by omega
            have f1 : 0 < k := by omega
            have f3 : (0 : Int) < (k : Int) := by omega
            have f2 : ((k : Int) % wide == 0) = false := by simp [hmod]
            have z1 : (x == 0) = false := by simp [hz]
            have hacc : Hid (S ++ ⟨#[44]⟩ ++ tx = ⟨(hallTextN wide xs (k + 1)).toArray⟩) := by show _ = _; rw [hfin.out]; exact strApp _ _ _ _ S1.out (by rw [HEx.out]; simp [cellTok, hz])
            have q2 : ¬ 9223372036854775807 < S.size + 1 + tx.size := by omega
            clear hk0 hz hmod
            go_wp2_with fail
            refine (HNum2.out _).mono ?_
            rintro e w2 ⟨rfl, hh2⟩
            have HB2 := Lib.hid (HB1.out.ext hh2)
            go_wp2
            go_roundw
            case rel => exact ⟨k + 1, _, by omega, by go_num, rfl, hacc.out, by (repeat' (first | exact Ext.refl _ | (with_reducible assumption) | (with_reducible refine Ext.alloc ?_ _) | (with_reducible refine Ext.setCell ?_ (by first | exact Nat.le_refl _ | (dsimp only; omega) | (simp; done) | (simp; omega)) _) | (with_reducible refine Ext.drew ?_) | (with_reducible refine Ext.drewN ?_ _) | (refine Ext.trans ?_ (by with_reducible assumption)))), HB2.out⟩
            case measure => simp [intOf]; omega
    · have hkn : k = n := by omega
      have hfin : Hid (S = ⟨(hallTextN wide xs n).toArray⟩) := by show _ = _; rw [← hkn]; exact HSt.out
      have r0 : wr.cell? ⟨w.heap.size, 0, none⟩ = some (.int .i64 wide) := HBr.out.cell 0
      have r1 : wr.cell? ⟨w.heap.size, 1, none⟩ = some (.int .i64 deep) := HBr.out.cell 1
      have r2 : wr.cell? ⟨w.heap.size, 2, none⟩ = some (.slice p n cap) := HBr.out.cell 2
      go_wp2
      go_ret
      exact ⟨retB hfin.out, hE⟩

theorem specHallText (wide deep : Int) (p : Option Addr) (n cap : Nat) (xs : List Int) (w : World) (hS : Sl w p n cap 1 (ivs xs)) :
    Calls Tryd.prog 56 #[hallV wide deep p n cap] w fun e w' => e = .returned (str (hallText wide deep xs)) ∧ Ext w w' := by
  have hl := hS.ilen
  cases h : hallOk wide deep xs with
  | true =>
    obtain ⟨h1, h2, h3, h4, h5, h6, h7, h8, h9⟩ := hallOk_parts h
    unfold hallText
    rw [if_pos h, hl]
    exact specHallText_ok wide deep p n cap xs w h1 h2 (by omega) h8 hS (fun w' hx => by rw [← h]; exact specHv wide deep p n cap xs w' (hS.ext hx))
  | false =>
    unfold hallText
    rw [if_neg (by simp [h])]
    exact specHallText_bad wide deep p n cap w hS.bd (fun w' hx => by rw [← h]; exact specHv wide deep p n cap xs w' (hS.ext hx))
end Go.Proofs.YtncfnlocdlhagaaDoor

/-
  Both packages' HouseOwed return the sum of what is due for all stays; -1 for other houses. Condition: the house's slices read as lists.
-/
namespace Go.Proofs.YtncfnlocdlhagaaDoor
open Go.RowKit
set_option linter.unusedVariables false
set_option linter.unusedSimpArgs false

def sumD (D : Visit4 → Int) (vs : List Visit4) : Int := vs.foldl (fun a v => a + D v) 0
theorem sumD_snoc (D : Visit4 → Int) {vs : List Visit4} {k : Nat} {v : Visit4} (h : vs[k]? = some v) : sumD D (vs.take (k + 1)) = sumD D (vs.take k) + D v := by
  unfold sumD; rw [take_snocL h, List.foldl_append]; rfl
theorem sumD_bd (D : Visit4 → Int) : ∀ (vs : List Visit4) (a : Int), (∀ v ∈ vs, 0 ≤ D v ∧ D v ≤ 693) → a ≤ vs.foldl (fun a v => a + D v) a ∧ vs.foldl (fun a v => a + D v) a ≤ a + 693 * vs.length := by
  intro vs
  induction vs with
  | nil => intro a _; simp
  | cons v vs ih =>
    intro a h
    obtain ⟨h0, h1⟩ := h v (by simp)
    have := ih (a + D v) (fun x hx => h x (by simp [hx]))
    simp only [List.foldl_cons, List.length_cons]
    omega

set_option maxRecDepth 100000 in
set_option maxHeartbeats 1000000 in
theorem implHw_bad (wide deep free step price capp clock bank : Int) (p : Option Addr) (n cap : Nat) (q : Option Addr) (m c2 : Nat) (w : World) (HV : Hid (∀ w', Ext w w' → Calls Tryd.prog 30 #[.agg #[.int .i64 wide, .int .i64 deep, .slice p n cap, .int .i64 free, .int .i64 step, .int .i64 price, .int .i64 capp, .int .i64 clock, .int .i64 bank, .slice q m c2]] w' fun e w'' => e = .returned (.bool false) ∧ Ext w' w'')) :
    Calls Tryd.prog 32 #[.agg #[.int .i64 wide, .int .i64 deep, .slice p n cap, .int .i64 free, .int .i64 step, .int .i64 price, .int .i64 capp, .int .i64 clock, .int .i64 bank, .slice q m c2]] w fun e w' => e = .returned (.int .i64 (-1)) ∧ Ext w w' := by
  go_enter Tryd.func32, Tryd.ntmps32
  go_wp2_with fail
  refine (HV.out _ (by (repeat' (first | exact Ext.refl _ | (with_reducible assumption) | (with_reducible refine Ext.alloc ?_ _) | (with_reducible refine Ext.setCell ?_ (by first | exact Nat.le_refl _ | (dsimp only; omega) | (simp; done) | (simp; omega)) _) | (with_reducible refine Ext.drew ?_) | (with_reducible refine Ext.drewN ?_ _) | (refine Ext.trans ?_ (by with_reducible assumption)))))).mono ?_
  rintro e w1 ⟨rfl, hh1⟩
  go_wp2
  go_ret
  exact ⟨rfl, by (repeat' (first | exact Ext.refl _ | (with_reducible assumption) | (with_reducible refine Ext.alloc ?_ _) | (with_reducible refine Ext.setCell ?_ (by first | exact Nat.le_refl _ | (dsimp only; omega) | (simp; done) | (simp; omega)) _) | (with_reducible refine Ext.drew ?_) | (with_reducible refine Ext.drewN ?_ _) | (refine Ext.trans ?_ (by with_reducible assumption))))⟩

set_option maxRecDepth 100000 in
set_option maxHeartbeats 1000000 in
theorem implHw_main (wide deep free step price capp clock bank : Int) (p : Option Addr) (n cap : Nat) (q : Option Addr) (m c2 : Nat) (w : World) (vs : List Visit4) (D : Visit4 → Int) (hm : m ≤ 12) (HB : Hid (∀ v ∈ vs, 0 ≤ D v ∧ D v ≤ 693)) (HS : Hid (Sl w q m c2 4 (vs.flatMap visitCells)))
    (HV : Hid (∀ w', Ext w w' → Calls Tryd.prog 30 #[.agg #[.int .i64 wide, .int .i64 deep, .slice p n cap, .int .i64 free, .int .i64 step, .int .i64 price, .int .i64 capp, .int .i64 clock, .int .i64 bank, .slice q m c2]] w' fun e w'' => e = .returned (.bool true) ∧ Ext w' w''))
    (HD : Hid (∀ w' (k : Nat) a0 a1 a2 a3, vs[k]? = some (a0, a1, a2, a3) → Calls Tryd.prog 79 #[tariffV free step price capp, stayV a1 a2 a3, .int .i64 clock] w' fun e w'' => e = .returned (.int .i64 (D (a0, a1, a2, a3))) ∧ Ext w' w'')) :
    Calls Tryd.prog 32 #[.agg #[.int .i64 wide, .int .i64 deep, .slice p n cap, .int .i64 free, .int .i64 step, .int .i64 price, .int .i64 capp, .int .i64 clock, .int .i64 bank, .slice q m c2]] w fun e w' => e = .returned (.int .i64 (sumD D vs)) ∧ Ext w w' := by
  have hl : Hid (vs.length = m) := by
    have := HS.out.len; rw [flat_len visitCells 4 (fun _ => rfl)] at this; exact (by omega : vs.length = m)
  go_enter Tryd.func32, Tryd.ntmps32
  go_wp2_with fail
  refine (HV.out _ (by (repeat' (first | exact Ext.refl _ | (with_reducible assumption) | (with_reducible refine Ext.alloc ?_ _) | (with_reducible refine Ext.setCell ?_ (by first | exact Nat.le_refl _ | (dsimp only; omega) | (simp; done) | (simp; omega)) _) | (with_reducible refine Ext.drew ?_) | (with_reducible refine Ext.drewN ?_ _) | (refine Ext.trans ?_ (by with_reducible assumption)))))).mono ?_
  rintro e w1 ⟨rfl, hh1⟩
  have BA : Blk w1 w.heap.size 52 #[.int .i64 wide, .int .i64 deep, .slice p n cap, .int .i64 free, .int .i64 step, .int .i64 price, .int .i64 capp, .int .i64 clock, .int .i64 bank, .slice q m c2] := (Blk.new w _ _).ext hh1
  have BAH := Lib.hid BA
  have X1 : Ext w w1 := by (repeat' (first | exact Ext.refl _ | (with_reducible assumption) | (with_reducible refine Ext.alloc ?_ _) | (with_reducible refine Ext.setCell ?_ (by first | exact Nat.le_refl _ | (dsimp only; omega) | (simp; done) | (simp; omega)) _) | (with_reducible refine Ext.drew ?_) | (with_reducible refine Ext.drewN ?_ _) | (refine Ext.trans ?_ (by with_reducible assumption))))
  clear hh1
  have a0 : w1.cell? ⟨w.heap.size, 0, none⟩ = some (.int .i64 wide) := BA.cell 0
  have a1 : w1.cell? ⟨w.heap.size, 1, none⟩ = some (.int .i64 deep) := BA.cell 1
  have a2 : w1.cell? ⟨w.heap.size, 2, none⟩ = some (.slice p n cap) := BA.cell 2
  have a3 : w1.cell? ⟨w.heap.size, 3, none⟩ = some (.int .i64 free) := BA.cell 3
  have a4 : w1.cell? ⟨w.heap.size, 4, none⟩ = some (.int .i64 step) := BA.cell 4
  have a5 : w1.cell? ⟨w.heap.size, 5, none⟩ = some (.int .i64 price) := BA.cell 5
  have a6 : w1.cell? ⟨w.heap.size, 6, none⟩ = some (.int .i64 capp) := BA.cell 6
  have a7 : w1.cell? ⟨w.heap.size, 7, none⟩ = some (.int .i64 clock) := BA.cell 7
  have a8 : w1.cell? ⟨w.heap.size, 8, none⟩ = some (.int .i64 bank) := BA.cell 8
  have a9 : w1.cell? ⟨w.heap.size, 9, none⟩ = some (.slice q m c2) := BA.cell 9
  clear BA
  go_wp2
  clear a0 a1 a2 a3 a4 a5 a6 a7 a8 a9
  go_loopw [3, 12] (fun o i wr => ∃ k : Nat, k ≤ m ∧ i = .int .i64 k ∧ o = .int .i64 (sumD D (vs.take k)) ∧ Ext w wr ∧ Blk wr w.heap.size 52 #[.int .i64 wide, .int .i64 deep, .slice p n cap, .int .i64 free, .int .i64 step, .int .i64 price, .int .i64 capp, .int .i64 clock, .int .i64 bank, .slice q m c2]) (fun _ i _ => m - (intOf i).toNat)
  case atStart => exact ⟨0, Nat.zero_le _, rfl, rfl, X1, BAH.out⟩
  case round =>
    obtain ⟨k, hk, rfl, rfl, hE, hB⟩ := hrel
    have HBk := Lib.hid hB
    clear X1 BAH
    have hsz : w.heap.size < wr.heap.size := hB.lt
    clear hB
    by_cases hlt : k < m
    · obtain ⟨b, off, a0, a1, a2, a3, rfl, hv, hb, g0, g1, g2, g3⟩ := visit_at (HS.out.ext hE) hlt
      have HV2 := Lib.hid hv
      have hsn := Lib.hid (sumD_snoc D hv)
      have hd := HB.out _ (List.mem_of_getElem? hv)
      have hsb := sumD_bd D (vs.take k) 0 (fun x hx => HB.out x (List.mem_of_mem_take hx))
      have hsl : (vs.take k).length ≤ 12 := by rw [List.length_take, hl.out]; omega
      obtain ⟨S, hS⟩ : ∃ S, S = sumD D (vs.take k) := ⟨_, rfl⟩
      obtain ⟨E, hE2⟩ : ∃ E, E = D (a0, a1, a2, a3) := ⟨_, rfl⟩
      change 0 ≤ sumD D (vs.take k) ∧ sumD D (vs.take k) ≤ _ at hsb
      rw [← hS] at hsb ⊢
      rw [← hE2] at hd
      obtain ⟨hd0, hd1⟩ := hd
      obtain ⟨hs0, hs1⟩ := hsb
      have hs2 : S ≤ 8316 := by omega
      have hsn2 : Hid (S + E = sumD D (vs.take (k + 1))) := by show _ = _; rw [hsn.out, hS, hE2]
      have HE2 := Lib.hid hE2
      clear hS hs1 hsl hsn hv hE2
      have e0 : wr.cell? ⟨w.heap.size, 0, none⟩ = some (.int .i64 wide) := HBk.out.cell 0
      have e1 : wr.cell? ⟨w.heap.size, 1, none⟩ = some (.int .i64 deep) := HBk.out.cell 1
      have e2 : wr.cell? ⟨w.heap.size, 2, none⟩ = some (.slice p n cap) := HBk.out.cell 2
      have e3 : wr.cell? ⟨w.heap.size, 3, none⟩ = some (.int .i64 free) := HBk.out.cell 3
      have e4 : wr.cell? ⟨w.heap.size, 4, none⟩ = some (.int .i64 step) := HBk.out.cell 4
      have e5 : wr.cell? ⟨w.heap.size, 5, none⟩ = some (.int .i64 price) := HBk.out.cell 5
      have e6 : wr.cell? ⟨w.heap.size, 6, none⟩ = some (.int .i64 capp) := HBk.out.cell 6
      have e7 : wr.cell? ⟨w.heap.size, 7, none⟩ = some (.int .i64 clock) := HBk.out.cell 7
      have e8 : wr.cell? ⟨w.heap.size, 8, none⟩ = some (.int .i64 bank) := HBk.out.cell 8
      have e9 : wr.cell? ⟨w.heap.size, 9, none⟩ = some (.slice (some ⟨b, off, none⟩) m c2) := HBk.out.cell 9
      go_wp2_with fail
      refine (HD.out _ k a0 a1 a2 a3 HV2.out).mono ?_
      rintro e w2 ⟨rfl, hh2⟩
      rw [← HE2.out]
      have hB2 := Lib.hid ((HBk.out.alloc _).ext hh2)
      go_wp2
      go_roundw
      case rel => exact ⟨k + 1, by omega, by go_num, by rw [← hsn2.out], by (repeat' (first | exact Ext.refl _ | (with_reducible assumption) | (with_reducible refine Ext.alloc ?_ _) | (with_reducible refine Ext.setCell ?_ (by first | exact Nat.le_refl _ | (dsimp only; omega) | (simp; done) | (simp; omega)) _) | (with_reducible refine Ext.drew ?_) | (with_reducible refine Ext.drewN ?_ _) | (refine Ext.trans ?_ (by with_reducible assumption)))), hB2.out⟩
      case measure => simp [intOf]; omega
    · have hfin : Hid (sumD D (vs.take k) = sumD D vs) := by show _ = _; rw [List.take_of_length_le (by rw [hl.out]; omega)]
      have e9 : wr.cell? ⟨w.heap.size, 9, none⟩ = some (.slice q m c2) := HBk.out.cell 9
      go_wp2
      go_ret
      exact ⟨ret_int hfin.out, hE⟩

theorem visits_nodup {h : HouseD} (hok : houseOk h = true) : (h.vs.map (·.1)).Nodup ∧ h.vs.length ≤ 12 ∧ ∀ v ∈ h.vs, visitOk h.clock v = true := by
  unfold houseOk at hok
  simp only [Bool.and_eq_true] at hok
  obtain ⟨⟨⟨h1, h2⟩, h3⟩, h4⟩ := hok
  obtain ⟨q1, q2⟩ := visitsOk_len h4
  unfold hallOk at h1
  rw [Bool.and_eq_true] at h1
  have hc := (cellsOk_iff _ _).1 h1.2
  have hb := shape_bd h1.1
  refine ⟨?_, ?_, q2⟩
  · rw [q1]; exact (sortL_perm _).nodup_iff.2 hc.2.2
  · have := congrArg List.length q1
    rw [List.length_map, carsOf_len] at this
    have := posOfL_le h.cells
    omega
theorem visitAt_of {h : HouseD} (hok : houseOk h = true) {v : Visit4} (hv : v ∈ h.vs) : visitAt v.1 h.vs = some v := by
  have hn := (visits_nodup hok).1
  unfold visitAt
  generalize h.vs = vs at hn hv
  induction vs with
  | nil => simp at hv
  | cons x xs ih =>
    rw [List.map_cons, List.nodup_cons] at hn
    rcases List.mem_cons.1 hv with rfl | hv
    · simp [List.find?_cons]
    · rw [List.find?_cons]
      have : (x.1 == v.1) = false := by
        rw [beq_eq_false_iff_ne]; intro e
        exact hn.1 (by rw [e]; exact List.mem_map_of_mem hv)
      rw [this]
      exact ih hn.2 hv
theorem dueOf_house {h : HouseD} (hok : houseOk h = true) {v : Visit4} (hv : v ∈ h.vs) : houseDue h v.1 = dueOf h v := by
  unfold houseDue houseStay dueOf
  rw [if_pos hok, visitAt_of hok hv]; rfl
theorem dueOf_parts {h : HouseD} (hok : houseOk h = true) {v : Visit4} (hv : v ∈ h.vs) : tariffOk h.free h.step h.price h.capp = true ∧ stayOk v.2.1 v.2.2.1 v.2.2.2 = true ∧ v.2.2.2 ≤ h.clock ∧ h.clock ≤ 9999 := by
  have hv2 := (visits_nodup hok).2.2 v hv
  unfold houseOk at hok
  simp only [Bool.and_eq_true] at hok
  obtain ⟨⟨⟨h1, h2⟩, h3⟩, h4⟩ := hok
  unfold visitOk at hv2
  unfold numsOk at h3
  simp at hv2 h3
  exact ⟨h2, hv2.1, hv2.2, h3.2.1⟩
theorem dueOf_bd {h : HouseD} (hok : houseOk h = true) {v : Visit4} (hv : v ∈ h.vs) : 0 ≤ dueOf h v ∧ dueOf h v ≤ 693 := by
  obtain ⟨a, b, c, d⟩ := dueOf_parts hok hv
  have e := stay_parts b
  unfold dueOf stayDue
  rw [a, b]
  have hf := feeOf_bd a (m := h.clock - v.2.1) (by omega) (by omega)
  simp only [Bool.and_self, Bool.true_and, decide_eq_true_eq]
  rw [if_pos ⟨c, d⟩]
  omega
theorem owed_bd {h : HouseD} (hok : houseOk h = true) : 0 ≤ owedSum h h.vs ∧ owedSum h h.vs ≤ 8316 := by
  have := sumD_bd (dueOf h) h.vs 0 (fun v hv => dueOf_bd hok hv)
  have hl := (visits_nodup hok).2.1
  unfold owedSum
  omega

theorem implHouseOwed (h : HouseD) (p : Option Addr) (n cap : Nat) (q : Option Addr) (m c2 : Nat) (w : World) (hi : IsHouse w h p n cap q m c2) :
    Calls Tryd.prog 32 #[houseV h p n cap q m c2] w fun e w' => e = .returned (.int .i64 (houseOwed h)) ∧ Ext w w' := by
  have HV := fun (w' : World) (hx : Ext w w') => implHouse h p n cap q m c2 w' (hi.ext hx)
  have hvl := hi.vlen
  unfold houseOwed
  cases hok : houseOk h with
  | false =>
    rw [hok] at HV
    obtain ⟨wide, deep, cells, free, step, price, capp, clock, bank, vs⟩ := h
    exact implHw_bad wide deep free step price capp clock bank p n cap q m c2 w HV
  | true =>
    rw [hok] at HV
    have hn := (visits_nodup hok).2.1
    have hbd := fun v (hv : v ∈ h.vs) => dueOf_bd hok hv
    rw [if_pos rfl]
    obtain ⟨wide, deep, cells, free, step, price, capp, clock, bank, vs⟩ := h
    simp only at hvl hn
    exact implHw_main wide deep free step price capp clock bank p n cap q m c2 w vs (dueOf ⟨wide, deep, cells, free, step, price, capp, clock, bank, vs⟩) (by omega) hbd hi.vs HV (fun w' k a0 a1 a2 a3 hv => by
        obtain ⟨x1, x2, x3, x4⟩ := dueOf_parts hok (List.mem_of_getElem? hv)
        exact implSd _ _ _ _ _ _ _ _ w' x1 x2 x3 x4)

end Go.Proofs.YtncfnlocdlhagaaDoor

/-
  The reference's l8Tariff and HouseText. Condition: the house's slices read as lists.
-/
namespace Go.Proofs.YtncfnlocdlhagaaDoor
open Go.RowKit
set_option linter.unusedVariables false
set_option linter.unusedSimpArgs false

theorem app_str (a b : List UInt8) : (⟨a.toArray⟩ : ByteArray) ++ ⟨b.toArray⟩ = ⟨(a ++ b).toArray⟩ := Go.WideShapes.bytes_inj (by simp [ByteArray.data_append])
theorem str_size (l : List UInt8) : (⟨l.toArray⟩ : ByteArray).size = l.length := by simp [ByteArray.size]
theorem sz59 : (⟨#[59]⟩ : ByteArray).size = 1 := rfl
theorem sz44 : (⟨#[44]⟩ : ByteArray).size = 1 := rfl
theorem ret_strB {a : ByteArray} {l : List UInt8} (h : a = ⟨l.toArray⟩) : Ending.returned (.string a) = .returned (str l) := by rw [h]
/-- a text as a letter -/
theorem str_letter (l : List UInt8) (m : Nat) (h : l.length ≤ m) : ∃ s : ByteArray, s = ⟨l.toArray⟩ ∧ s.size ≤ m := ⟨_, rfl, by rw [str_size]; exact h⟩

set_option maxRecDepth 100000 in
set_option maxHeartbeats 1000000 in
theorem specTariffText (free step price capp : Int) (w : World) (h0 : 0 ≤ free) (h1 : 0 ≤ step) (h2 : 0 ≤ price) (h3 : 0 ≤ capp) (h4 : free ≤ 9223372036854775807) (h5 : step ≤ 9223372036854775807) (h6 : price ≤ 9223372036854775807) (h7 : capp ≤ 9223372036854775807) :
    Calls Tryd.prog 57 #[tariffV free step price capp] w fun e w' => e = .returned (str (numsText [free, step, price, capp])) ∧ Ext w w' := by
  obtain ⟨s1, e1, l1⟩ := str_letter (dec free) 21 (dec_len _ h4)
  obtain ⟨s2, e2, l2⟩ := str_letter (dec step) 21 (dec_len _ h5)
  obtain ⟨s3, e3, l3⟩ := str_letter (dec price) 21 (dec_len _ h6)
  obtain ⟨s4, e4, l4⟩ := str_letter (dec capp) 21 (dec_len _ h7)
  have HN1 : Hid (∀ w, Calls Tryd.prog 58 #[.int .i64 free] w fun e w' => e = .returned (.string s1) ∧ Ext w w') := fun w => by rw [e1]; exact l1Num free w h0 h4
  have HN2 : Hid (∀ w, Calls Tryd.prog 58 #[.int .i64 step] w fun e w' => e = .returned (.string s2) ∧ Ext w w') := fun w => by rw [e2]; exact l1Num step w h1 h5
  have HN3 : Hid (∀ w, Calls Tryd.prog 58 #[.int .i64 price] w fun e w' => e = .returned (.string s3) ∧ Ext w w') := fun w => by rw [e3]; exact l1Num price w h2 h6
  have HN4 : Hid (∀ w, Calls Tryd.prog 58 #[.int .i64 capp] w fun e w' => e = .returned (.string s4) ∧ Ext w w') := fun w => by rw [e4]; exact l1Num capp w h3 h7
  have HF : Hid (s1 ++ ⟨#[44]⟩ ++ s2 ++ ⟨#[44]⟩ ++ s3 ++ ⟨#[44]⟩ ++ s4 = ⟨(numsText [free, step, price, capp]).toArray⟩) := by
    show _ = _
    rw [numsText_four, e1, e2, e3, e4]
    apply Go.WideShapes.bytes_inj
    simp [ByteArray.data_append]
  clear e1 e2 e3 e4 h0 h1 h2 h3 h4 h5 h6 h7
  have q1 : ¬ 9223372036854775807 < s1.size + 1 := by omega
  have q2 : ¬ 9223372036854775807 < s1.size + 1 + s2.size := by omega
  have q3 : ¬ 9223372036854775807 < s1.size + 1 + s2.size + 1 := by omega
  have q4 : ¬ 9223372036854775807 < s1.size + 1 + s2.size + 1 + s3.size := by omega
  have q5 : ¬ 9223372036854775807 < s1.size + 1 + s2.size + 1 + s3.size + 1 := by omega
  have q6 : ¬ 9223372036854775807 < s1.size + 1 + s2.size + 1 + s3.size + 1 + s4.size := by omega
  have B0 : Hid (Blk (w.alloc (.cells #[.int .i64 free, .int .i64 step, .int .i64 price, .int .i64 capp] 49)) w.heap.size 49 #[.int .i64 free, .int .i64 step, .int .i64 price, .int .i64 capp]) := Blk.new w _ _
  have X0 : Hid (Ext w (w.alloc (.cells #[.int .i64 free, .int .i64 step, .int .i64 price, .int .i64 capp] 49))) := (Ext.refl w).alloc _
  go_enter Tryd.func57, Tryd.ntmps57
  go_wp2
  go_region_held3 (fun w' => w'.cell? ⟨w.heap.size, 0, none⟩ = some (.int .i64 free) ∧ w'.cell? ⟨w.heap.size, 1, none⟩ = some (.int .i64 step) ∧ w'.cell? ⟨w.heap.size, 2, none⟩ = some (.int .i64 price) ∧ w'.cell? ⟨w.heap.size, 3, none⟩ = some (.int .i64 capp)) (first | (refine ⟨?_, ?_, ?_, ?_⟩ <;> assumption) | go_keep)
    ((go_at_call 58; (first
        | ((with_reducible refine (HN1.out _).mono ?_)
           rintro e w1 ⟨rfl, hh1⟩
           (try replace hh1 := hh1.of_drew)
           have B1 := Lib.hid (B0.out.ext hh1)
           have X1 := Lib.hid (X0.out.trans hh1)
           skip
           clear hh1
           have c1_0 : w1.cell? ⟨w.heap.size, 0, none⟩ = some (.int .i64 free) := B1.out.cell 0
           have c1_1 : w1.cell? ⟨w.heap.size, 1, none⟩ = some (.int .i64 step) := B1.out.cell 1
           have c1_2 : w1.cell? ⟨w.heap.size, 2, none⟩ = some (.int .i64 price) := B1.out.cell 2
           have c1_3 : w1.cell? ⟨w.heap.size, 3, none⟩ = some (.int .i64 capp) := B1.out.cell 3)
        | ((with_reducible refine (HN2.out _).mono ?_)
           rintro e w2 ⟨rfl, hh2⟩
           (try replace hh2 := hh2.of_drew)
           have B2 := Lib.hid (B1.out.ext hh2)
           have X2 := Lib.hid (X1.out.trans hh2)
           skip
           clear hh2
           have c2_0 : w2.cell? ⟨w.heap.size, 0, none⟩ = some (.int .i64 free) := B2.out.cell 0
           have c2_1 : w2.cell? ⟨w.heap.size, 1, none⟩ = some (.int .i64 step) := B2.out.cell 1
           have c2_2 : w2.cell? ⟨w.heap.size, 2, none⟩ = some (.int .i64 price) := B2.out.cell 2
           have c2_3 : w2.cell? ⟨w.heap.size, 3, none⟩ = some (.int .i64 capp) := B2.out.cell 3)
        | ((with_reducible refine (HN3.out _).mono ?_)
           rintro e w3 ⟨rfl, hh3⟩
           (try replace hh3 := hh3.of_drew)
           have B3 := Lib.hid (B2.out.ext hh3)
           have X3 := Lib.hid (X2.out.trans hh3)
           skip
           clear hh3
           have c3_0 : w3.cell? ⟨w.heap.size, 0, none⟩ = some (.int .i64 free) := B3.out.cell 0
           have c3_1 : w3.cell? ⟨w.heap.size, 1, none⟩ = some (.int .i64 step) := B3.out.cell 1
           have c3_2 : w3.cell? ⟨w.heap.size, 2, none⟩ = some (.int .i64 price) := B3.out.cell 2
           have c3_3 : w3.cell? ⟨w.heap.size, 3, none⟩ = some (.int .i64 capp) := B3.out.cell 3)
        | ((with_reducible refine (HN4.out _).mono ?_)
           rintro e w4 ⟨rfl, hh4⟩
           (try replace hh4 := hh4.of_drew)
           have B4 := Lib.hid (B3.out.ext hh4)
           have X4 := Lib.hid (X3.out.trans hh4)
           skip
           clear hh4
           have c4_0 : w4.cell? ⟨w.heap.size, 0, none⟩ = some (.int .i64 free) := B4.out.cell 0
           have c4_1 : w4.cell? ⟨w.heap.size, 1, none⟩ = some (.int .i64 step) := B4.out.cell 1
           have c4_2 : w4.cell? ⟨w.heap.size, 2, none⟩ = some (.int .i64 price) := B4.out.cell 2
           have c4_3 : w4.cell? ⟨w.heap.size, 3, none⟩ = some (.int .i64 capp) := B4.out.cell 3))))
  all_goals go_wp2
  all_goals go_ret
  all_goals exact ⟨ret_strB HF.out, X4.out⟩

set_option maxRecDepth 100000 in
set_option maxHeartbeats 1000000 in
theorem specHtext_bad (wide deep free step price capp clock bank : Int) (p : Option Addr) (n cap : Nat) (q : Option Addr) (m c2 : Nat) (w : World) (HV : Hid (∀ w', Ext w w' → Calls Tryd.prog 55 #[.agg #[.int .i64 wide, .int .i64 deep, .slice p n cap, .int .i64 free, .int .i64 step, .int .i64 price, .int .i64 capp, .int .i64 clock, .int .i64 bank, .slice q m c2]] w' fun e w'' => e = .returned (.bool false) ∧ Ext w' w'')) :
    Calls Tryd.prog 19 #[.agg #[.int .i64 wide, .int .i64 deep, .slice p n cap, .int .i64 free, .int .i64 step, .int .i64 price, .int .i64 capp, .int .i64 clock, .int .i64 bank, .slice q m c2]] w fun e w' => e = .returned (str []) ∧ Ext w w' := by
  go_enter Tryd.func19, Tryd.ntmps19
  go_wp2_with fail
  refine (HV.out _ (by (repeat' (first | exact Ext.refl _ | (with_reducible assumption) | (with_reducible refine Ext.alloc ?_ _) | (with_reducible refine Ext.setCell ?_ (by first | exact Nat.le_refl _ | (dsimp only; omega) | (simp; done) | (simp; omega)) _) | (with_reducible refine Ext.drew ?_) | (with_reducible refine Ext.drewN ?_ _) | (refine Ext.trans ?_ (by with_reducible assumption)))))).mono ?_
  rintro e w1 ⟨rfl, hh1⟩
  go_wp2
  go_ret
  exact ⟨rfl, by (repeat' (first | exact Ext.refl _ | (with_reducible assumption) | (with_reducible refine Ext.alloc ?_ _) | (with_reducible refine Ext.setCell ?_ (by first | exact Nat.le_refl _ | (dsimp only; omega) | (simp; done) | (simp; omega)) _) | (with_reducible refine Ext.drew ?_) | (with_reducible refine Ext.drewN ?_ _) | (refine Ext.trans ?_ (by with_reducible assumption))))⟩

theorem base_str (s1 s2 s3 s4 : ByteArray) (p1 p2 p3 p4 : List UInt8) (e1 : s1 = ⟨p1.toArray⟩) (e2 : s2 = ⟨p2.toArray⟩) (e3 : s3 = ⟨p3.toArray⟩) (e4 : s4 = ⟨p4.toArray⟩) :
    s1 ++ ⟨#[59]⟩ ++ s2 ++ ⟨#[59]⟩ ++ s3 ++ ⟨#[59]⟩ ++ s4 = ⟨(joinB 59 [p1, p2, p3, p4]).toArray⟩ := by
  rw [e1, e2, e3, e4]
  apply Go.WideShapes.bytes_inj
  simp [ByteArray.data_append, joinB, tailB]
theorem visit_str (S t1 t2 t3 t4 : ByteArray) (a0 a1 a2 a3 : Int) (P : List UInt8) (e0 : S = ⟨P.toArray⟩) (e1 : t1 = ⟨(dec a0).toArray⟩) (e2 : t2 = ⟨(dec a1).toArray⟩) (e3 : t3 = ⟨(dec a2).toArray⟩) (e4 : t4 = ⟨(dec a3).toArray⟩) :
    S ++ ⟨#[59]⟩ ++ t1 ++ ⟨#[44]⟩ ++ t2 ++ ⟨#[44]⟩ ++ t3 ++ ⟨#[44]⟩ ++ t4 = ⟨(P ++ 59 :: numsText [a0, a1, a2, a3]).toArray⟩ := by
  rw [e0, e1, e2, e3, e4, numsText_four]
  apply Go.WideShapes.bytes_inj
  simp [ByteArray.data_append]

set_option maxRecDepth 100000 in
set_option maxHeartbeats 1000000 in
theorem specHtext_ok (wide deep free step price capp clock bank : Int) (p : Option Addr) (n cap : Nat) (q : Option Addr) (m c2 : Nat) (w : World) (vs : List Visit4) (p1 p2 p3 p4 : List UInt8) (l1 : p1.length ≤ 400) (l2 : p2.length ≤ 100) (l3 : p3.length ≤ 30) (l4 : p4.length ≤ 30) (hm : m ≤ 12) (HS : Hid (Sl w q m c2 4 (vs.flatMap visitCells)))
    (HG : Hid (∀ v ∈ vs, 0 ≤ v.1 ∧ v.1 ≤ 99999 ∧ 0 ≤ v.2.1 ∧ v.2.1 ≤ 99999 ∧ 0 ≤ v.2.2.1 ∧ v.2.2.1 ≤ 99999 ∧ 0 ≤ v.2.2.2 ∧ v.2.2.2 ≤ 99999))
    (HV : Hid (∀ w', Ext w w' → Calls Tryd.prog 55 #[.agg #[.int .i64 wide, .int .i64 deep, .slice p n cap, .int .i64 free, .int .i64 step, .int .i64 price, .int .i64 capp, .int .i64 clock, .int .i64 bank, .slice q m c2]] w' fun e w'' => e = .returned (.bool true) ∧ Ext w' w''))
    (H1 : Hid (∀ w', Ext w w' → Calls Tryd.prog 56 #[hallV wide deep p n cap] w' fun e w'' => e = .returned (str p1) ∧ Ext w' w''))
    (H2 : Hid (∀ w', Calls Tryd.prog 57 #[tariffV free step price capp] w' fun e w'' => e = .returned (str p2) ∧ Ext w' w''))
    (H3 : Hid (∀ w', Calls Tryd.prog 58 #[.int .i64 clock] w' fun e w'' => e = .returned (str p3) ∧ Ext w' w''))
    (H4 : Hid (∀ w', Calls Tryd.prog 58 #[.int .i64 bank] w' fun e w'' => e = .returned (str p4) ∧ Ext w' w'')) :
    Calls Tryd.prog 19 #[.agg #[.int .i64 wide, .int .i64 deep, .slice p n cap, .int .i64 free, .int .i64 step, .int .i64 price, .int .i64 capp, .int .i64 clock, .int .i64 bank, .slice q m c2]] w fun e w' => e = .returned (str (joinB 59 ([p1, p2, p3, p4] ++ vs.map (fun v => numsText (visitNums v))))) ∧ Ext w w' := by
  obtain ⟨s1, e1, m1⟩ := str_letter p1 400 l1
  obtain ⟨s2, e2, m2⟩ := str_letter p2 100 l2
  obtain ⟨s3, e3, m3⟩ := str_letter p3 30 l3
  obtain ⟨s4, e4, m4⟩ := str_letter p4 30 l4
  have HN1 : Hid (∀ w', Ext w w' → Calls Tryd.prog 56 #[hallV wide deep p n cap] w' fun e w'' => e = .returned (.string s1) ∧ Ext w' w'') := by rw [e1]; exact H1.out
  have HN2 : Hid (∀ w', Calls Tryd.prog 57 #[tariffV free step price capp] w' fun e w'' => e = .returned (.string s2) ∧ Ext w' w'') := by rw [e2]; exact H2.out
  have HN3 : Hid (∀ w', Calls Tryd.prog 58 #[.int .i64 clock] w' fun e w'' => e = .returned (.string s3) ∧ Ext w' w'') := by rw [e3]; exact H3.out
  have HN4 : Hid (∀ w', Calls Tryd.prog 58 #[.int .i64 bank] w' fun e w'' => e = .returned (.string s4) ∧ Ext w' w'') := by rw [e4]; exact H4.out
  have HF := Lib.hid (base_str s1 s2 s3 s4 p1 p2 p3 p4 e1 e2 e3 e4)
  have hl : Hid (vs.length = m) := by
    have := HS.out.len; rw [flat_len visitCells 4 (fun _ => rfl)] at this; exact (by omega : vs.length = m)
  clear e1 e2 e3 e4 l1 l2 l3 l4 H1 H2 H3 H4
  have q1 : ¬ 9223372036854775807 < s1.size + 1 := by omega
  have q2 : ¬ 9223372036854775807 < s1.size + 1 + s2.size := by omega
  have q3 : ¬ 9223372036854775807 < s1.size + 1 + s2.size + 1 := by omega
  have q4 : ¬ 9223372036854775807 < s1.size + 1 + s2.size + 1 + s3.size := by omega
  have q5 : ¬ 9223372036854775807 < s1.size + 1 + s2.size + 1 + s3.size + 1 := by omega
  have q6 : ¬ 9223372036854775807 < s1.size + 1 + s2.size + 1 + s3.size + 1 + s4.size := by omega
  go_enter Tryd.func19, Tryd.ntmps19
  go_wp2_with fail
  refine (HV.out _ (by (repeat' (first | exact Ext.refl _ | (with_reducible assumption) | (with_reducible refine Ext.alloc ?_ _) | (with_reducible refine Ext.setCell ?_ (by first | exact Nat.le_refl _ | (dsimp only; omega) | (simp; done) | (simp; omega)) _) | (with_reducible refine Ext.drew ?_) | (with_reducible refine Ext.drewN ?_ _) | (refine Ext.trans ?_ (by with_reducible assumption)))))).mono ?_
  rintro e w0 ⟨rfl, hh0⟩
  have B0 : Hid (Blk w0 w.heap.size 52 #[.int .i64 wide, .int .i64 deep, .slice p n cap, .int .i64 free, .int .i64 step, .int .i64 price, .int .i64 capp, .int .i64 clock, .int .i64 bank, .slice q m c2]) := (Blk.new w _ _).ext hh0
  have X0 : Hid (Ext w w0) := by show Ext w w0; (repeat' (first | exact Ext.refl _ | (with_reducible assumption) | (with_reducible refine Ext.alloc ?_ _) | (with_reducible refine Ext.setCell ?_ (by first | exact Nat.le_refl _ | (dsimp only; omega) | (simp; done) | (simp; omega)) _) | (with_reducible refine Ext.drew ?_) | (with_reducible refine Ext.drewN ?_ _) | (refine Ext.trans ?_ (by with_reducible assumption))))
  clear hh0
  have a0 : w0.cell? ⟨w.heap.size, 0, none⟩ = some (.int .i64 wide) := B0.out.cell 0
  have a1 : w0.cell? ⟨w.heap.size, 1, none⟩ = some (.int .i64 deep) := B0.out.cell 1
  have a2 : w0.cell? ⟨w.heap.size, 2, none⟩ = some (.slice p n cap) := B0.out.cell 2
  have a3 : w0.cell? ⟨w.heap.size, 3, none⟩ = some (.int .i64 free) := B0.out.cell 3
  have a4 : w0.cell? ⟨w.heap.size, 4, none⟩ = some (.int .i64 step) := B0.out.cell 4
  have a5 : w0.cell? ⟨w.heap.size, 5, none⟩ = some (.int .i64 price) := B0.out.cell 5
  have a6 : w0.cell? ⟨w.heap.size, 6, none⟩ = some (.int .i64 capp) := B0.out.cell 6
  have a7 : w0.cell? ⟨w.heap.size, 7, none⟩ = some (.int .i64 clock) := B0.out.cell 7
  have a8 : w0.cell? ⟨w.heap.size, 8, none⟩ = some (.int .i64 bank) := B0.out.cell 8
  have a9 : w0.cell? ⟨w.heap.size, 9, none⟩ = some (.slice q m c2) := B0.out.cell 9
  go_wp2
  go_region_held3 (fun w' => w'.cell? ⟨w.heap.size, 0, none⟩ = some (.int .i64 wide) ∧ w'.cell? ⟨w.heap.size, 1, none⟩ = some (.int .i64 deep) ∧ w'.cell? ⟨w.heap.size, 2, none⟩ = some (.slice p n cap) ∧ w'.cell? ⟨w.heap.size, 3, none⟩ = some (.int .i64 free) ∧ w'.cell? ⟨w.heap.size, 4, none⟩ = some (.int .i64 step) ∧ w'.cell? ⟨w.heap.size, 5, none⟩ = some (.int .i64 price) ∧ w'.cell? ⟨w.heap.size, 6, none⟩ = some (.int .i64 capp) ∧ w'.cell? ⟨w.heap.size, 7, none⟩ = some (.int .i64 clock) ∧ w'.cell? ⟨w.heap.size, 8, none⟩ = some (.int .i64 bank) ∧ w'.cell? ⟨w.heap.size, 9, none⟩ = some (.slice q m c2)) (first | (refine ⟨?_, ?_, ?_, ?_, ?_, ?_, ?_, ?_, ?_, ?_⟩ <;> assumption) | go_keep)
    ((first
        | (go_at_call 56; (with_reducible refine (HN1.out _ (by first | exact X0.out | exact X0.out.drew)).mono ?_)
           rintro e w1 ⟨rfl, hh1⟩
           (try replace hh1 := hh1.of_drew)
           have B1 := Lib.hid (B0.out.ext hh1)
           have X1 := Lib.hid (X0.out.trans hh1)
           skip
           clear hh1
           have c1_0 : w1.cell? ⟨w.heap.size, 0, none⟩ = some (.int .i64 wide) := B1.out.cell 0
           have c1_1 : w1.cell? ⟨w.heap.size, 1, none⟩ = some (.int .i64 deep) := B1.out.cell 1
           have c1_2 : w1.cell? ⟨w.heap.size, 2, none⟩ = some (.slice p n cap) := B1.out.cell 2
           have c1_3 : w1.cell? ⟨w.heap.size, 3, none⟩ = some (.int .i64 free) := B1.out.cell 3
           have c1_4 : w1.cell? ⟨w.heap.size, 4, none⟩ = some (.int .i64 step) := B1.out.cell 4
           have c1_5 : w1.cell? ⟨w.heap.size, 5, none⟩ = some (.int .i64 price) := B1.out.cell 5
           have c1_6 : w1.cell? ⟨w.heap.size, 6, none⟩ = some (.int .i64 capp) := B1.out.cell 6
           have c1_7 : w1.cell? ⟨w.heap.size, 7, none⟩ = some (.int .i64 clock) := B1.out.cell 7
           have c1_8 : w1.cell? ⟨w.heap.size, 8, none⟩ = some (.int .i64 bank) := B1.out.cell 8
           have c1_9 : w1.cell? ⟨w.heap.size, 9, none⟩ = some (.slice q m c2) := B1.out.cell 9)
        | (go_at_call 57; (with_reducible refine (HN2.out _).mono ?_)
           rintro e w2 ⟨rfl, hh2⟩
           (try replace hh2 := hh2.of_drew)
           have B2 := Lib.hid (B1.out.ext hh2)
           have X2 := Lib.hid (X1.out.trans hh2)
           skip
           clear hh2
           have c2_0 : w2.cell? ⟨w.heap.size, 0, none⟩ = some (.int .i64 wide) := B2.out.cell 0
           have c2_1 : w2.cell? ⟨w.heap.size, 1, none⟩ = some (.int .i64 deep) := B2.out.cell 1
           have c2_2 : w2.cell? ⟨w.heap.size, 2, none⟩ = some (.slice p n cap) := B2.out.cell 2
           have c2_3 : w2.cell? ⟨w.heap.size, 3, none⟩ = some (.int .i64 free) := B2.out.cell 3
           have c2_4 : w2.cell? ⟨w.heap.size, 4, none⟩ = some (.int .i64 step) := B2.out.cell 4
           have c2_5 : w2.cell? ⟨w.heap.size, 5, none⟩ = some (.int .i64 price) := B2.out.cell 5
           have c2_6 : w2.cell? ⟨w.heap.size, 6, none⟩ = some (.int .i64 capp) := B2.out.cell 6
           have c2_7 : w2.cell? ⟨w.heap.size, 7, none⟩ = some (.int .i64 clock) := B2.out.cell 7
           have c2_8 : w2.cell? ⟨w.heap.size, 8, none⟩ = some (.int .i64 bank) := B2.out.cell 8
           have c2_9 : w2.cell? ⟨w.heap.size, 9, none⟩ = some (.slice q m c2) := B2.out.cell 9)
        | (go_at_call 58; (with_reducible refine (HN3.out _).mono ?_)
           rintro e w3 ⟨rfl, hh3⟩
           (try replace hh3 := hh3.of_drew)
           have B3 := Lib.hid (B2.out.ext hh3)
           have X3 := Lib.hid (X2.out.trans hh3)
           skip
           clear hh3
           have c3_0 : w3.cell? ⟨w.heap.size, 0, none⟩ = some (.int .i64 wide) := B3.out.cell 0
           have c3_1 : w3.cell? ⟨w.heap.size, 1, none⟩ = some (.int .i64 deep) := B3.out.cell 1
           have c3_2 : w3.cell? ⟨w.heap.size, 2, none⟩ = some (.slice p n cap) := B3.out.cell 2
           have c3_3 : w3.cell? ⟨w.heap.size, 3, none⟩ = some (.int .i64 free) := B3.out.cell 3
           have c3_4 : w3.cell? ⟨w.heap.size, 4, none⟩ = some (.int .i64 step) := B3.out.cell 4
           have c3_5 : w3.cell? ⟨w.heap.size, 5, none⟩ = some (.int .i64 price) := B3.out.cell 5
           have c3_6 : w3.cell? ⟨w.heap.size, 6, none⟩ = some (.int .i64 capp) := B3.out.cell 6
           have c3_7 : w3.cell? ⟨w.heap.size, 7, none⟩ = some (.int .i64 clock) := B3.out.cell 7
           have c3_8 : w3.cell? ⟨w.heap.size, 8, none⟩ = some (.int .i64 bank) := B3.out.cell 8
           have c3_9 : w3.cell? ⟨w.heap.size, 9, none⟩ = some (.slice q m c2) := B3.out.cell 9)
        | (go_at_call 58; (with_reducible refine (HN4.out _).mono ?_)
           rintro e w4 ⟨rfl, hh4⟩
           (try replace hh4 := hh4.of_drew)
           have B4 := Lib.hid (B3.out.ext hh4)
           have X4 := Lib.hid (X3.out.trans hh4)
           skip
           clear hh4
           have c4_0 : w4.cell? ⟨w.heap.size, 0, none⟩ = some (.int .i64 wide) := B4.out.cell 0
           have c4_1 : w4.cell? ⟨w.heap.size, 1, none⟩ = some (.int .i64 deep) := B4.out.cell 1
           have c4_2 : w4.cell? ⟨w.heap.size, 2, none⟩ = some (.slice p n cap) := B4.out.cell 2
           have c4_3 : w4.cell? ⟨w.heap.size, 3, none⟩ = some (.int .i64 free) := B4.out.cell 3
           have c4_4 : w4.cell? ⟨w.heap.size, 4, none⟩ = some (.int .i64 step) := B4.out.cell 4
           have c4_5 : w4.cell? ⟨w.heap.size, 5, none⟩ = some (.int .i64 price) := B4.out.cell 5
           have c4_6 : w4.cell? ⟨w.heap.size, 6, none⟩ = some (.int .i64 capp) := B4.out.cell 6
           have c4_7 : w4.cell? ⟨w.heap.size, 7, none⟩ = some (.int .i64 clock) := B4.out.cell 7
           have c4_8 : w4.cell? ⟨w.heap.size, 8, none⟩ = some (.int .i64 bank) := B4.out.cell 8
           have c4_9 : w4.cell? ⟨w.heap.size, 9, none⟩ = some (.slice q m c2) := B4.out.cell 9)))
  clear q1 q2 q3 q4 q5 q6
  clear c1_0 c1_1 c1_2 c1_3 c1_4 c1_5 c1_6 c1_7 c1_8 c1_9 c2_0 c2_1 c2_2 c2_3 c2_4 c2_5 c2_6 c2_7 c2_8 c2_9 c3_0 c3_1 c3_2 c3_3 c3_4 c3_5 c3_6 c3_7 c3_8 c3_9 c4_0 c4_1 c4_2 c4_3 c4_4 c4_5 c4_6 c4_7 c4_8 c4_9 a0 a1 a2 a3 a4 a5 a6 a7 a8 a9
  have b9 : w4.cell? ⟨w.heap.size, 9, none⟩ = some (.slice q m c2) := B4.out.cell 9
  go_wp2
  clear b9
  go_loopw [3, 4] (fun o i wr => ∃ (k : Nat) (S : ByteArray), k ≤ m ∧ i = .int .i64 k ∧ o = .string S ∧ S = ⟨(joinB 59 ([p1, p2, p3, p4] ++ (vs.take k).map (fun v => numsText (visitNums v)))).toArray⟩ ∧ S.size ≤ 700 + 100 * k ∧ Ext w wr ∧ Blk wr w.heap.size 52 #[.int .i64 wide, .int .i64 deep, .slice p n cap, .int .i64 free, .int .i64 step, .int .i64 price, .int .i64 capp, .int .i64 clock, .int .i64 bank, .slice q m c2]) (fun _ i _ => m - (intOf i).toNat)
  case atStart => exact ⟨0, _, Nat.zero_le _, rfl, rfl, by rw [HF.out]; simp, by simp only [ByteArray.size_append, sz59]; omega, X4.out, B4.out⟩
  case round =>
    obtain ⟨k, S, hk, rfl, rfl, hS, hSz, hE, hB⟩ := hrel
    have HSt := Lib.hid hS
    have HBr := Lib.hid hB
    have hszr : w.heap.size < wr.heap.size := hB.lt
    clear X4 B4 hS hB HF
    by_cases hlt : k < m
    · obtain ⟨b, off, a0, a1, a2, a3, rfl, hv, hb, g0, g1, g2, g3⟩ := visit_at (HS.out.ext hE) hlt
      obtain ⟨v0, v0', v1, v1', v2, v2', v3, v3'⟩ := HG.out _ (List.mem_of_getElem? hv)
      dsimp only at v0 v0' v1 v1' v2 v2' v3 v3'
      have hsn : Hid (joinB 59 ([p1, p2, p3, p4] ++ (vs.take (k + 1)).map (fun v => numsText (visitNums v))) = joinB 59 ([p1, p2, p3, p4] ++ (vs.take k).map (fun v => numsText (visitNums v))) ++ 59 :: numsText [a0, a1, a2, a3]) := by
        show _ = _
        rw [take_snocL hv, List.map_append]
        simp [joinB, tailB, visitNums]
      obtain ⟨t1, e1, m1⟩ := str_letter (dec a0) 21 (dec_len _ (by omega))
      obtain ⟨t2, e2, m2⟩ := str_letter (dec a1) 21 (dec_len _ (by omega))
      obtain ⟨t3, e3, m3⟩ := str_letter (dec a2) 21 (dec_len _ (by omega))
      obtain ⟨t4, e4, m4⟩ := str_letter (dec a3) 21 (dec_len _ (by omega))
      have HN5 : Hid (∀ w, Calls Tryd.prog 58 #[.int .i64 a0] w fun e w' => e = .returned (.string t1) ∧ Ext w w') := fun w => by rw [e1]; exact l1Num a0 w v0 (by omega)
      have HN6 : Hid (∀ w, Calls Tryd.prog 58 #[.int .i64 a1] w fun e w' => e = .returned (.string t2) ∧ Ext w w') := fun w => by rw [e2]; exact l1Num a1 w v1 (by omega)
      have HN7 : Hid (∀ w, Calls Tryd.prog 58 #[.int .i64 a2] w fun e w' => e = .returned (.string t3) ∧ Ext w w') := fun w => by rw [e3]; exact l1Num a2 w v2 (by omega)
      have HN8 : Hid (∀ w, Calls Tryd.prog 58 #[.int .i64 a3] w fun e w' => e = .returned (.string t4) ∧ Ext w w') := fun w => by rw [e4]; exact l1Num a3 w v3 (by omega)
      have hk12 : S.size ≤ 1900 := by omega
      have HSz := Lib.hid hSz
      have HV4 := Lib.hid (visit_str S t1 t2 t3 t4 a0 a1 a2 a3 _ HSt.out e1 e2 e3 e4)
      clear e1 e2 e3 e4 v0 v0' v1 v1' v2 v2' v3 v3' hv hSz
      have i1 : (0 : Int) ≤ (k : Int) := by omega
      have i2 : (k : Int) < (m : Int) := by omega
      have r1 : ¬ 9223372036854775807 < S.size + 1 := by omega
      have r2 : ¬ 9223372036854775807 < S.size + 1 + t1.size := by omega
      have r3 : ¬ 9223372036854775807 < S.size + 1 + t1.size + 1 := by omega
      have r4 : ¬ 9223372036854775807 < S.size + 1 + t1.size + 1 + t2.size := by omega
      have r5 : ¬ 9223372036854775807 < S.size + 1 + t1.size + 1 + t2.size + 1 := by omega
      have r6 : ¬ 9223372036854775807 < S.size + 1 + t1.size + 1 + t2.size + 1 + t3.size := by omega
      have r7 : ¬ 9223372036854775807 < S.size + 1 + t1.size + 1 + t2.size + 1 + t3.size + 1 := by omega
      have r8 : ¬ 9223372036854775807 < S.size + 1 + t1.size + 1 + t2.size + 1 + t3.size + 1 + t4.size := by omega
      have B4 : Hid (Blk (wr.alloc (.cells #[.int .i64 a0, .int .i64 a1, .int .i64 a2, .int .i64 a3] 99)) wr.heap.size 99 #[.int .i64 a0, .int .i64 a1, .int .i64 a2, .int .i64 a3]) := Blk.new wr _ _
      have X4 : Hid (Ext w (wr.alloc (.cells #[.int .i64 a0, .int .i64 a1, .int .i64 a2, .int .i64 a3] 99))) := hE.alloc _
      have HB4 := Lib.hid (HBr.out.alloc (.cells #[.int .i64 a0, .int .i64 a1, .int .i64 a2, .int .i64 a3] 99))
      have b9 : wr.cell? ⟨w.heap.size, 9, none⟩ = some (.slice (some ⟨b, off, none⟩) m c2) := HBr.out.cell 9
      go_wp2
      go_region_held3 (fun w' => w'.cell? ⟨wr.heap.size, 0, none⟩ = some (.int .i64 a0) ∧ w'.cell? ⟨wr.heap.size, 1, none⟩ = some (.int .i64 a1) ∧ w'.cell? ⟨wr.heap.size, 2, none⟩ = some (.int .i64 a2) ∧ w'.cell? ⟨wr.heap.size, 3, none⟩ = some (.int .i64 a3)) (first | (refine ⟨?_, ?_, ?_, ?_⟩ <;> assumption) | go_keep)
    ((go_at_call 58; (first
            | ((with_reducible refine (HN5.out _).mono ?_)
               rintro e w5 ⟨rfl, hh5⟩
               (try replace hh5 := hh5.of_drew)
               have B5 := Lib.hid (B4.out.ext hh5)
               have X5 := Lib.hid (X4.out.trans hh5)
               have HB5 := Lib.hid (HB4.out.ext hh5)
               clear hh5
               have d1_0 : w5.cell? ⟨wr.heap.size, 0, none⟩ = some (.int .i64 a0) := B5.out.cell 0
               have d1_1 : w5.cell? ⟨wr.heap.size, 1, none⟩ = some (.int .i64 a1) := B5.out.cell 1
               have d1_2 : w5.cell? ⟨wr.heap.size, 2, none⟩ = some (.int .i64 a2) := B5.out.cell 2
               have d1_3 : w5.cell? ⟨wr.heap.size, 3, none⟩ = some (.int .i64 a3) := B5.out.cell 3)
            | ((with_reducible refine (HN6.out _).mono ?_)
               rintro e w6 ⟨rfl, hh6⟩
               (try replace hh6 := hh6.of_drew)
               have B6 := Lib.hid (B5.out.ext hh6)
               have X6 := Lib.hid (X5.out.trans hh6)
               have HB6 := Lib.hid (HB5.out.ext hh6)
               clear hh6
               have d2_0 : w6.cell? ⟨wr.heap.size, 0, none⟩ = some (.int .i64 a0) := B6.out.cell 0
               have d2_1 : w6.cell? ⟨wr.heap.size, 1, none⟩ = some (.int .i64 a1) := B6.out.cell 1
               have d2_2 : w6.cell? ⟨wr.heap.size, 2, none⟩ = some (.int .i64 a2) := B6.out.cell 2
               have d2_3 : w6.cell? ⟨wr.heap.size, 3, none⟩ = some (.int .i64 a3) := B6.out.cell 3)
            | ((with_reducible refine (HN7.out _).mono ?_)
               rintro e w7 ⟨rfl, hh7⟩
               (try replace hh7 := hh7.of_drew)
               have B7 := Lib.hid (B6.out.ext hh7)
               have X7 := Lib.hid (X6.out.trans hh7)
               have HB7 := Lib.hid (HB6.out.ext hh7)
               clear hh7
               have d3_0 : w7.cell? ⟨wr.heap.size, 0, none⟩ = some (.int .i64 a0) := B7.out.cell 0
               have d3_1 : w7.cell? ⟨wr.heap.size, 1, none⟩ = some (.int .i64 a1) := B7.out.cell 1
               have d3_2 : w7.cell? ⟨wr.heap.size, 2, none⟩ = some (.int .i64 a2) := B7.out.cell 2
               have d3_3 : w7.cell? ⟨wr.heap.size, 3, none⟩ = some (.int .i64 a3) := B7.out.cell 3)
            | ((with_reducible refine (HN8.out _).mono ?_)
               rintro e w8 ⟨rfl, hh8⟩
               (try replace hh8 := hh8.of_drew)
               have B8 := Lib.hid (B7.out.ext hh8)
               have X8 := Lib.hid (X7.out.trans hh8)
               have HB8 := Lib.hid (HB7.out.ext hh8)
               clear hh8
               have d4_0 : w8.cell? ⟨wr.heap.size, 0, none⟩ = some (.int .i64 a0) := B8.out.cell 0
               have d4_1 : w8.cell? ⟨wr.heap.size, 1, none⟩ = some (.int .i64 a1) := B8.out.cell 1
               have d4_2 : w8.cell? ⟨wr.heap.size, 2, none⟩ = some (.int .i64 a2) := B8.out.cell 2
               have d4_3 : w8.cell? ⟨wr.heap.size, 3, none⟩ = some (.int .i64 a3) := B8.out.cell 3))))
      clear d1_0 d1_1 d1_2 d1_3 d2_0 d2_1 d2_2 d2_3 d3_0 d3_1 d3_2 d3_3 d4_0 d4_1 d4_2 d4_3
      clear r1 r2 r3 r4 r5 r6 r7 r8
      go_wp2
      go_roundw
      case rel => exact ⟨k + 1, _, by omega, by go_num, rfl, by rw [HV4.out, hsn.out], by have := HSz.out; simp only [ByteArray.size_append, sz59, sz44]; omega, X8.out, HB8.out⟩
      case measure => simp [intOf]; omega
    · have hfin : Hid (joinB 59 ([p1, p2, p3, p4] ++ (vs.take k).map (fun v => numsText (visitNums v))) = joinB 59 ([p1, p2, p3, p4] ++ vs.map (fun v => numsText (visitNums v)))) := by
        show _ = _; rw [List.take_of_length_le (by rw [hl.out]; omega)]
      have b9 : wr.cell? ⟨w.heap.size, 9, none⟩ = some (.slice q m c2) := HBr.out.cell 9
      go_wp2
      go_ret
      exact ⟨ret_strB (by rw [HSt.out, hfin.out]; rfl), hE⟩

theorem hallText_len {wide deep : Int} {xs : List Int} : (hallText wide deep xs).length ≤ 400 := by
  unfold hallText
  cases h : hallOk wide deep xs with
  | false => simp
  | true =>
    obtain ⟨h1, h2, h3, h4, h5, h6, h7, h8, h9⟩ := hallOk_parts h
    rw [if_pos rfl]
    have := hallTextN_len wide xs (fun x hx => (h8 x hx).2) xs.length
    omega
theorem house_nums {h : HouseD} (hok : houseOk h = true) : hallOk h.wide h.deep h.cells = true ∧ 0 ≤ h.free ∧ h.free ≤ 1440 ∧ 0 ≤ h.step ∧ h.step ≤ 1440 ∧ 0 ≤ h.price ∧ h.price ≤ 99 ∧ 0 ≤ h.capp ∧ h.capp ≤ 99 ∧ 0 ≤ h.clock ∧ h.clock ≤ 9999 ∧ 0 ≤ h.bank ∧ h.bank ≤ 99999 ∧ h.vs.length ≤ 12 ∧
    ∀ v ∈ h.vs, 0 ≤ v.1 ∧ v.1 ≤ 99999 ∧ 0 ≤ v.2.1 ∧ v.2.1 ≤ 99999 ∧ 0 ≤ v.2.2.1 ∧ v.2.2.1 ≤ 99999 ∧ 0 ≤ v.2.2.2 ∧ v.2.2.2 ≤ 99999 := by
  have hv := (visits_nodup hok).2
  unfold houseOk at hok
  simp only [Bool.and_eq_true] at hok
  obtain ⟨⟨⟨h1, h2⟩, h3⟩, h4⟩ := hok
  have ht := tariff_parts h2
  unfold numsOk at h3
  simp at h3
  obtain ⟨q1, q2⟩ := visitsOk_len h4
  obtain ⟨_, _, _, _, _, _, _, hc, _⟩ := hallOk_parts h1
  refine ⟨h1, by omega, by omega, by omega, by omega, by omega, by omega, by omega, by omega, by omega, by omega, by omega, by omega, hv.1, fun v hm => ?_⟩
  have a := q2 v hm
  unfold visitOk at a
  rw [Bool.and_eq_true] at a
  have b := stay_parts a.1
  have c : v.1 ∈ carsOf h.cells := by rw [← q1]; exact List.mem_map_of_mem hm
  have d : v.1 ∈ posOfL h.cells := (sortL_perm _).mem_iff.1 c
  have e := hc v.1 (List.mem_filter.1 d).1
  omega
theorem specHouseText (h : HouseD) (p : Option Addr) (n cap : Nat) (q : Option Addr) (m c2 : Nat) (w : World) (hi : IsHouse w h p n cap q m c2) :
    Calls Tryd.prog 19 #[houseV h p n cap q m c2] w fun e w' => e = .returned (str (houseText h)) ∧ Ext w w' := by
  have HV := fun (w' : World) (hx : Ext w w') => specHouse h p n cap q m c2 w' (hi.ext hx)
  have hvl := hi.vlen
  unfold houseText
  cases hok : houseOk h with
  | false =>
    rw [hok] at HV
    simpa using specHtext_bad h.wide h.deep h.free h.step h.price h.capp h.clock h.bank p n cap q m c2 w HV
  | true =>
    rw [hok] at HV
    obtain ⟨g0, g1, g2, g3, g4, g5, g6, g7, g8, g9, g10, g11, g12, g13, g14⟩ := house_nums hok
    rw [if_pos rfl]
    have l3 := dec_len h.clock (by omega)
    have l4 := dec_len h.bank (by omega)
    have l2 := nums_len4 h.free h.step h.price h.capp (by omega) (by omega) (by omega) (by omega)
    exact specHtext_ok h.wide h.deep h.free h.step h.price h.capp h.clock h.bank p n cap q m c2 w h.vs _ _ _ _ hallText_len (by omega) (by omega) (by omega) (by omega) hi.vs g14 HV
      (fun w' hx => specHallText h.wide h.deep p n cap h.cells w' (hi.cells.ext hx)) (fun w' => specTariffText h.free h.step h.price h.capp w' (by omega) (by omega) (by omega) (by omega) (by omega) (by omega) (by omega) (by omega))
      (fun w' => l1Num h.clock w' (by omega) (by omega)) (fun w' => l1Num h.bank w' (by omega) (by omega))
end Go.Proofs.YtncfnlocdlhagaaDoor

/-
  The rewrite's numbersText. Conditions: the slice reads as a list of at most ten numbers from 0 on; the library's table is laid.
-/
namespace Go.Proofs.YtncfnlocdlhagaaDoor
open Go.RowKit
set_option linter.unusedVariables false
set_option linter.unusedSimpArgs false

theorem made_strs (n : Nat) : (madeCells (Value.string ⟨#[]⟩).cells (n * 1)).toList = List.replicate n (Value.string ⟨#[]⟩) := by
  apply List.ext_getElem <;> simp [madeCells, Value.cells, Nat.mod_one]
theorem strs_len {xs : List Int} {k : Nat} (hl : (xs.take k).length = k) : (strV ((xs.take k).map dec)).length = k := by simp only [strV, List.length_map]; exact hl
theorem strs_next {xs : List Int} {k n : Nat} {x : Int} (h : k < n) (hx : xs[k]? = some x) (hl : (xs.take k).length = k) : (strV ((xs.take k).map dec) ++ List.replicate (n - k) (Value.string ⟨#[]⟩)).set k (str (dec x)) = strV ((xs.take (k + 1)).map dec) ++ List.replicate (n - (k + 1)) (Value.string ⟨#[]⟩) := by
  rw [take_snocL hx, show n - k = (n - (k + 1)) + 1 by omega, List.replicate_succ]
  rw [List.set_append_right _ _ (by rw [strs_len hl]; exact Nat.le_refl _), strs_len hl, Nat.sub_self, List.set_cons_zero]
  simp [strV]
theorem strs_get {xs : List Int} {k n : Nat} (h : k < n) (hl : (xs.take k).length = k) : (strV ((xs.take k).map dec) ++ List.replicate (n - k) (Value.string ⟨#[]⟩))[k]? = some (Value.string ⟨#[]⟩) := by
  rw [List.getElem?_append_right (by rw [strs_len hl]; exact Nat.le_refl _), strs_len hl, Nat.sub_self, show n - k = (n - (k + 1)) + 1 by omega, List.replicate_succ]; rfl

set_option maxRecDepth 100000 in
set_option maxHeartbeats 1000000 in
theorem implNumbers (p : Option Addr) (n cap : Nat) (xs : List Int) (w : World) (hn0 : 0 < n) (hn : n ≤ 10) (hx : ∀ x ∈ xs, 0 ≤ x ∧ x ≤ 9223372036854775807) (hE : Env w) (hS : Sl w p n cap 1 (ivs xs)) :
    Calls Tryd.prog 62 #[.slice p n cap] w fun e w' => e = .returned (str (numsText xs)) ∧ Ext w w' := by
  obtain ⟨i0, hi, hz0, hz1, hz2⟩ := info_parts (show (Tryd.prog.info? 9).map (fun i => (i.zero, i.size, i.bytes)) = some (some (.string ⟨#[]⟩), 1, 16) by kernel_rfl)
  have hl := Lib.hid hS.ilen
  have HS := Lib.hid hS
  have HX := Lib.hid hx
  have HE := Lib.hid hE
  have HL : Hid ((numsText xs).length ≤ 140737488355328) := by
    show _ ≤ _
    have h1 := tail_len 44 21 ((xs.map dec).drop 1) (fun y hy => by
      obtain ⟨z, hz, rfl⟩ := List.mem_map.1 (List.mem_of_mem_drop hy)
      exact dec_len z (hx z hz).2)
    have h2 : xs.length = n := hS.ilen
    unfold numsText
    cases hq : xs.map dec with
    | nil => simp [joinB]
    | cons a r =>
      have ha : a.length ≤ 21 := by
        have : a ∈ xs.map dec := by rw [hq]; simp
        obtain ⟨z, hz, rfl⟩ := List.mem_map.1 this
        exact dec_len z (hx z hz).2
      have hr : r.length + 1 = n := by have := congrArg List.length hq; simp at this; omega
      rw [hq] at h1
      simp only [List.drop_succ_cons, List.drop_zero] at h1
      simp only [joinB, List.length_append]
      omega
  clear hS hx hE
  go_enter Tryd.func62, Tryd.ntmps62
  go_wp2_with (at_make; refine wpList_make_full _ rfl _ _ 68 rfl w.heap.size 9 i0 (.string ⟨#[]⟩) 1 Tryd.underlying68 hi hz0 hz1 .i64 .i64 _ _ n rfl rfl rfl rfl (by rw [hz2]; omega) (by unfold maxLen; omega) (Nat.le_refl _) ?_; intro w0 hown0 hgrow0)
  have hE0 : Ext w w0 := (Ext.refl w).grown hgrow0 (fun q hq => by cases hq)
  have hg0 := (hown0.lt w.heap.size rfl).2
  rw [made_strs] at hown0
  have HO0 := Lib.hid hown0
  clear hown0 hgrow0 hi hz0 hz1 hz2
  go_loopw [11] (fun i wr => ∃ k : Nat, k ≤ n ∧ i = .int .i64 k ∧ wr.ownsRow w.heap.size 9 1 (.slice (some ⟨w.heap.size, 0, none⟩) n n) n (strV ((xs.take k).map dec) ++ List.replicate (n - k) (Value.string ⟨#[]⟩)) ∧ Ext w wr) (fun i _ => n - (intOf i).toNat)
  case atStart => exact ⟨0, Nat.zero_le _, rfl, by simpa [strV] using HO0.out, hE0⟩
  case round =>
    obtain ⟨k, hk, rfl, hown, hEr⟩ := hrel
    have HO := Lib.hid hown
    clear hown
    by_cases hlt : k < n
    · obtain ⟨b, off, x, rfl, hx, hb, hcell⟩ := (HS.out.ext hEr).int_at hlt
      obtain ⟨hx0, hx1⟩ := HX.out x (List.mem_of_getElem? hx)
      have HXk := Lib.hid hx
      clear hx
      have hlt' : (xs.take k).length = k := by rw [List.length_take, hl.out]; omega
      go_wp2_with fail
      refine (itoaI x _ hx0 hx1 (HE.out.ext (by (repeat' (first | exact Ext.refl _ | (with_reducible assumption) | (with_reducible refine Ext.alloc ?_ _) | (with_reducible refine Ext.setCell ?_ (by first | exact Nat.le_refl _ | (dsimp only; omega) | (simp; done) | (simp; omega)) _) | (with_reducible refine Ext.drew ?_) | (with_reducible refine Ext.drewN ?_ _) | (refine Ext.trans ?_ (by with_reducible assumption))))))).mono ?_
      rintro e w1 ⟨rfl, h1⟩
      have hown1 := HO.out.kept h1.gb (by simp [Value.ownBlock])
      have hg1 : w.heap.size < w1.heap.size := (hown1.lt w.heap.size rfl).2
      have o0 : w1.cell? ⟨w.heap.size, k, none⟩ = some (.string ⟨#[]⟩) := by
        rw [hown1.cellAt k (by omega)]
        exact strs_get hlt hlt'
      have f0 : w1.frozen? ⟨w.heap.size, k, none⟩ = false := hown1.frozenAt k
      have HN : Hid ((w1.setCell ⟨w.heap.size, k, none⟩ (str (dec x))).ownsRow w.heap.size 9 1 (.slice (some ⟨w.heap.size, 0, none⟩) n n) n (strV ((xs.take (k + 1)).map dec) ++ List.replicate (n - (k + 1)) (Value.string ⟨#[]⟩))) := by
        have := (hown1.stored k (str (dec x))).1
        rw [strs_next hlt HXk.out hlt'] at this
        exact this
      have hszr := hEr.sz
      clear hown1
      go_wp2
      go_roundw
      case rel => exact ⟨k + 1, by omega, by go_num, HN.out, by (repeat' (first | exact Ext.refl _ | (with_reducible assumption) | (with_reducible refine Ext.alloc ?_ _) | (with_reducible refine Ext.setCell ?_ (by first | exact Nat.le_refl _ | (dsimp only; omega) | (simp; done) | (simp; omega)) _) | (with_reducible refine Ext.drew ?_) | (with_reducible refine Ext.drewN ?_ _) | (refine Ext.trans ?_ (by with_reducible assumption))))⟩
      case measure => simp [intOf]; omega
    · have hfin : Hid (wr.ownsRow w.heap.size 9 1 (.slice (some ⟨w.heap.size, 0, none⟩) n n) n (strV (xs.map dec))) := by
        have := HO.out
        rw [show n - k = 0 by omega, List.replicate_zero, List.append_nil, List.take_of_length_le (by rw [hl.out]; omega)] at this
        exact this
      go_wp2_with fail
      refine (join_any (xs.map dec) 44 _ n n _ (by rw [List.length_map]; exact hl.out) hn0 (Sl.own hfin.out) HL.out (by omega)).mono ?_
      rintro e w1 ⟨rfl, h1⟩
      go_wp2
      go_ret
      exact ⟨rfl, by (repeat' (first | exact Ext.refl _ | (with_reducible assumption) | (with_reducible refine Ext.alloc ?_ _) | (with_reducible refine Ext.setCell ?_ (by first | exact Nat.le_refl _ | (dsimp only; omega) | (simp; done) | (simp; omega)) _) | (with_reducible refine Ext.drew ?_) | (with_reducible refine Ext.drewN ?_ _) | (refine Ext.trans ?_ (by with_reducible assumption))))⟩
end Go.Proofs.YtncfnlocdlhagaaDoor

/-
  A region that draws its order, each operation looked at once: what each one yields holds however the others came up, as long as worlds only grow. Nothing of the program.
-/
namespace Go.Proofs.YtncfnlocdlhagaaDoor
open Go Go.RowKit
set_option linter.unusedVariables false

section
variable {P : Program} {ops : Array Oper} {Q : Exit → Act → World → Prop} {md : Region.Mode} {G : Nat → Value → World → Prop} {R : World → World → Prop}

def dstOf (ops : Array Oper) (i : Nat) : Option Tmp := (ops[i]?).bind (·.dst)
/-- the operations that operation i waits for, with where each yields -/
def predsD (md : Region.Mode) (ops : Array Oper) (i : Nat) : List (Nat × Option Tmp) :=
  match ops[i]? with
  | none => []
  | some o => (o.after.toList.filter (fun e => Region.binds md e)).map (fun e => (e.on, dstOf ops e.on))
def allD (ops : Array Oper) : List (Nat × Option Tmp) := (List.range ops.size).map (fun i => (i, dstOf ops i))

/-- for whatever the operations of a list have yielded -/
def ForV (G : Nat → Value → World → Prop) (w : World) : List (Nat × Option Tmp) → Act → (Act → Prop) → Prop
  | [], a, K => K a
  | p :: ps, a, K => ∀ v, G p.1 v w → ForV G w ps (a.put p.2 v) K

def StepAt (P : Program) (ops : Array Oper) (G : Nat → Value → World → Prop) (R : World → World → Prop) (i : Nat) (o : Oper) (w : World) (a : Act) : Prop :=
  ∀ K' : Act → World → Prop, (∀ a' w'', (∃ v, a' = a.put o.dst v ∧ G i v w'' ∧ R w w'') → K' a' w'') → if Region.wanted o (yielded ops a.tmps) = true then Oper.wp P o a w K' (fun _ _ _ => False) else K' (a.put o.dst undef) w

def StepsL (P : Program) (md : Region.Mode) (ops : Array Oper) (G : Nat → Value → World → Prop) (R : World → World → Prop) (a0 : Act) (W : World) (l : List Nat) : Prop :=
  ∀ i ∈ l, ∀ o, ops[i]? = some o → ∀ w, R W w → ForV G w (predsD md ops i) a0 (StepAt P ops G R i o w)

theorem StepsL.nil {a0 : Act} {W : World} : StepsL P md ops G R a0 W [] := fun _ h => by cases h
theorem StepsL.cons {a0 : Act} {W : World} {i : Nat} {o : Oper} {ps : List (Nat × Option Tmp)} {is : List Nat} (ho : ops[i]? = some o) (hp : predsD md ops i = ps)
    (h : ∀ w, R W w → ForV G w ps a0 (StepAt P ops G R i o w)) (hs : StepsL P md ops G R a0 W is) : StepsL P md ops G R a0 W (i :: is) := by
  intro j hj o' ho' w hw
  rcases List.mem_cons.1 hj with rfl | hj
  · rw [ho] at ho'; cases ho'; rw [hp]; exact h w hw
  · exact hs j hj o' ho' w hw

def linOk (md : Region.Mode) (ops : Array Oper) (n : Nat) : Bool :=
  Region.noSelect ops && (List.range ops.size).all fun i =>
    match ops[i]? with
    | none => true
    | some o =>
      (match o.dst with
       | none => true
       | some d => decide (d < n) && (List.range ops.size).all fun j => j == i || dstOf ops j != some d) &&
      (o.looksAt ops).all fun t => (List.range ops.size).all fun j => dstOf ops j != some t || o.after.any fun e => Region.binds md e && e.on == j

theorem linOk_spec {n : Nat} (h : linOk md ops n = true) :
    Region.noSelect ops = true ∧ ∀ i o, ops[i]? = some o →
      (∀ d, o.dst = some d → d < n ∧ ∀ j, j ≠ i → dstOf ops j ≠ some d) ∧
      (∀ t ∈ o.looksAt ops, ∀ j, dstOf ops j = some t → ∃ e ∈ o.after, Region.binds md e = true ∧ e.on = j) := by
  unfold linOk at h
  rw [Bool.and_eq_true] at h
  refine ⟨h.1, fun i o ho => ?_⟩
  have hlt : i < ops.size := (Array.getElem?_eq_some_iff.1 ho).1
  have h1 := List.all_eq_true.1 h.2 i (List.mem_range.2 hlt)
  simp only [ho, Bool.and_eq_true] at h1
  obtain ⟨h1, h2⟩ := h1
  have jlt : ∀ j t, dstOf ops j = some t → j < ops.size := fun j t hj => by
    rcases Nat.lt_or_ge j ops.size with h' | h'
    · exact h'
    · simp [dstOf, Array.getElem?_eq_none h'] at hj
  refine ⟨fun d hd => ?_, fun t ht j hj => ?_⟩
  · rw [hd] at h1
    simp only [Bool.and_eq_true, decide_eq_true_eq] at h1
    refine ⟨h1.1, fun j hji hj => ?_⟩
    have := List.all_eq_true.1 h1.2 j (List.mem_range.2 (jlt j d hj))
    simp [hji, hj] at this
  · have := List.all_eq_true.1 (List.all_eq_true.1 h2 t ht) j (List.mem_range.2 (jlt j t hj))
    simp only [Bool.or_eq_true, bne_iff_ne, ne_eq] at this
    rcases this with h' | h'
    · exact absurd hj h'
    · obtain ⟨e, he, h3⟩ := Array.any_eq_true'.1 h'
      rw [Bool.and_eq_true] at h3
      exact ⟨e, he, h3.1, by simpa using h3.2⟩

/-- what is known of a frame in which some operations have yielded -/
structure FrI (ops : Array Oper) (a0 : Act) (vals : Nat → Value) (l : Nat → Prop) (a : Act) : Prop where
  defers : a.defers = a0.defers
  size : a.tmps.size = a0.tmps.size
  mem : ∀ i d, dstOf ops i = some d → l i → a.tmps[d]? = some (vals i)
  out : ∀ d, (∀ i, l i → dstOf ops i ≠ some d) → a.tmps[d]? = a0.tmps[d]?

theorem act_ext {a b : Act} (h : a.tmps = b.tmps) (k : a.defers = b.defers) : a = b := by cases a; cases b; simp_all

theorem FrI.put {n : Nat} {a0 a : Act} {vals : Nat → Value} {l : Nat → Prop} (hok : linOk md ops n = true) (hn : a0.tmps.size = n) (h : FrI ops a0 vals l a) {i : Nat} {o : Oper} (ho : ops[i]? = some o) (v : Value) (hv : l i → vals i = v) :
    FrI ops a0 (fun j => if j = i then v else vals j) (fun j => l j ∨ j = i) (a.put o.dst v) := by
  obtain ⟨-, hs⟩ := linOk_spec hok
  have hdi : dstOf ops i = o.dst := by simp [dstOf, ho]
  cases hd : o.dst with
  | none =>
    refine ⟨h.defers, h.size, fun j d hj hl => ?_, fun d hd' => h.out d fun j hj => hd' j (.inl hj)⟩
    have hji : j ≠ i := by rintro rfl; rw [hdi, hd] at hj; cases hj
    simp only [Act.put, hji, if_false]
    exact h.mem j d hj (hl.resolve_right hji)
  | some d0 =>
    obtain ⟨hlt, huniq⟩ := (hs i o ho).1 d0 hd
    refine ⟨h.defers, by simp [Act.put, h.size], fun j d hj hl => ?_, fun d hd' => ?_⟩
    · by_cases hji : j = i
      · subst hji
        rw [hdi, hd] at hj; cases hj
        simp [Act.put, h.size, hn, hlt]
      · have hne : d0 ≠ d := by rintro rfl; exact huniq j hji hj
        simp only [Act.put, hji, if_false]
        rw [Array.getElem?_setIfInBounds_ne hne]
        exact h.mem j d hj (hl.resolve_right hji)
    · have hne : d0 ≠ d := by rintro rfl; exact hd' i (.inr rfl) (by rw [hdi, hd])
      simp only [Act.put]
      rw [Array.getElem?_setIfInBounds_ne hne]
      exact h.out d fun j hj => hd' j (.inl hj)

theorem FrI.congr {a0 a : Act} {vals vals' : Nat → Value} {l l' : Nat → Prop} (h : FrI ops a0 vals l a) (hl : ∀ i, l i ↔ l' i) (hv : ∀ i, l' i → vals i = vals' i) : FrI ops a0 vals' l' a :=
  ⟨h.defers, h.size, fun i d hd hi => by rw [← hv i hi]; exact h.mem i d hd ((hl i).2 hi), fun d hd => h.out d fun i hi => hd i ((hl i).1 hi)⟩

theorem FrI.nil {a0 : Act} {vals : Nat → Value} : FrI ops a0 vals (fun _ => False) a0 := ⟨rfl, rfl, fun _ _ _ h => h.elim, fun _ _ => rfl⟩

/-- two frames in which the same have yielded the same are the same -/
theorem FrI.eq {a0 a b : Act} {vals : Nat → Value} {l : Nat → Prop} (h : FrI ops a0 vals l a) (k : FrI ops a0 vals l b) : a = b := by
  refine act_ext ?_ (h.defers.trans k.defers.symm)
  apply Array.ext_getElem?
  intro d
  by_cases hd : ∃ i, l i ∧ dstOf ops i = some d
  · obtain ⟨i, hi, hd⟩ := hd
    rw [h.mem i d hd hi, k.mem i d hd hi]
  · have hd' : ∀ i, l i → dstOf ops i ≠ some d := fun i hi he => hd ⟨i, hi, he⟩
    rw [h.out d hd', k.out d hd']

/-- ForV at the values that are at hand -/
theorem ForV.get {n : Nat} (hok : linOk md ops n = true) {a0 : Act} (hn : a0.tmps.size = n) {vals : Nat → Value} {w : World} {K : Act → Prop} :
    ∀ (ps : List (Nat × Option Tmp)) (l : Nat → Prop) (a : Act), (∀ p ∈ ps, (∃ o, ops[p.1]? = some o) ∧ p.2 = dstOf ops p.1) → (∀ p ∈ ps, G p.1 (vals p.1) w) → FrI ops a0 vals l a → ForV G w ps a K →
      ∃ b, FrI ops a0 vals (fun j => l j ∨ j ∈ ps.map (·.1)) b ∧ K b
  | [], l, a, _, _, hf, h => ⟨a, hf.congr (fun i => by simp) (fun _ _ => rfl), h⟩
  | p :: ps, l, a, hp, hG, hf, h => by
    obtain ⟨⟨o, ho⟩, hd⟩ := hp p (by simp)
    have hdo : p.2 = o.dst := by rw [hd]; simp [dstOf, ho]
    have h1 := h (vals p.1) (hG p (by simp))
    rw [hdo] at h1
    have hf' := (hf.put hok hn ho (vals p.1) (fun _ => rfl)).congr (l' := fun j => l j ∨ j = p.1) (vals' := vals) (fun _ => Iff.rfl) (fun i _ => by
      by_cases hi : i = p.1
      · simp [hi]
      · simp [hi])
    obtain ⟨b, hb, hK⟩ := ForV.get hok hn ps _ _ (fun q hq => hp q (by simp [hq])) (fun q hq => hG q (by simp [hq])) hf' h1
    refine ⟨b, hb.congr (fun i => ?_) (fun _ _ => rfl), hK⟩
    simp only [List.map_cons, List.mem_cons]
    constructor
    · rintro ((h | h) | h)
      · exact .inl h
      · exact .inr (.inl h)
      · exact .inr (.inr h)
    · rintro (h | h | h)
      · exact .inl (.inl h)
      · exact .inl (.inr h)
      · exact .inr h

theorem predsD_mem {i : Nat} {o : Oper} (ho : ops[i]? = some o) {p : Nat × Option Tmp} (h : p ∈ predsD md ops i) : (∃ e ∈ o.after, Region.binds md e = true ∧ e.on = p.1) ∧ p.2 = dstOf ops p.1 := by
  unfold predsD at h
  rw [ho] at h
  obtain ⟨e, he, rfl⟩ := List.mem_map.1 h
  rw [List.mem_filter] at he
  exact ⟨⟨e, by simpa using he.1, he.2, rfl⟩, rfl⟩
theorem predsD_of {i : Nat} {o : Oper} (ho : ops[i]? = some o) {e : Edge} (he : e ∈ o.after) (hb : Region.binds md e = true) : e.on ∈ (predsD md ops i).map (·.1) := by
  unfold predsD
  rw [ho]
  simp only [List.map_map, List.mem_map, List.mem_filter]
  exact ⟨e, ⟨by simpa using he, hb⟩, rfl⟩

/-- a step in the frame that is at hand, out of the step in the frame of what it waits for -/
theorem step_of {n : Nat} (hok : linOk md ops n = true) {a0 : Act} (hn : a0.tmps.size = n) {vals : Nat → Value} {w : World} {l : Nat → Prop} {a b : Act} {i : Nat} {o : Oper} (ho : ops[i]? = some o)
    (hpl : ∀ e ∈ o.after, Region.binds md e = true → l e.on) (hni : ¬ l i)
    (ha : FrI ops a0 vals l a) (hb : FrI ops a0 vals (fun j => j ∈ (predsD md ops i).map (·.1)) b) (h : StepAt P ops G R i o w b) {K : Act → World → Prop}
    (hK : ∀ v w'', G i v w'' → R w w'' → K (a.put o.dst v) w'') : wpOp P ops Q i K a w := by
  obtain ⟨hsel, hs⟩ := linOk_spec hok
  obtain ⟨h1, h2⟩ := hs i o ho
  have hsel' : ∀ cs x, o.op ≠ .select cs x := fun cs x => Region.noSelect_spec hsel i o cs x ho
  have hlook : ∀ t ∈ o.looksAt ops, a.tmps[t]? = b.tmps[t]? := fun t ht => by
    by_cases hd : ∃ j, dstOf ops j = some t
    · obtain ⟨j, hj⟩ := hd
      obtain ⟨e, he, hbi, rfl⟩ := h2 t ht j hj
      rw [ha.mem _ _ hj (hpl e he hbi), hb.mem _ _ hj (predsD_of ho he hbi)]
    · rw [ha.out t fun j _ hj => hd ⟨j, hj⟩, hb.out t fun j _ hj => hd ⟨j, hj⟩]
  have hev : execOp a.eval o = execOp b.eval o := execOp_congr o hsel' fun x hx => by
    cases x with
    | tmp t =>
      have := hlook t (List.mem_append_left _ (List.mem_filterMap.2 ⟨.tmp t, by simpa using hx, rfl⟩))
      simp only [Act.eval, Array.getD_eq_getD_getElem?, this]
    | _ => rfl
  have hwa : Region.wanted o (yielded ops a.tmps) = Region.wanted o (yielded ops b.tmps) := by
    unfold Region.wanted
    cases hg : o.guard with
    | none => rfl
    | some gw =>
      obtain ⟨g, want⟩ := gw
      have : yielded ops a.tmps g = yielded ops b.tmps g := by
        unfold yielded
        cases ht : (ops[g]?).bind (·.dst) with
        | none => rfl
        | some t =>
          have := hlook t (by simp [Oper.looksAt, hg, ht])
          simp [this]
      simp only [this]
  have hst := h (fun a' w' => ∃ v, a' = b.put o.dst v ∧ G i v w' ∧ R w w') (fun a' w'' h => h)
  have back : ∀ u v : Value, b.put o.dst u = b.put o.dst v → a.put o.dst u = a.put o.dst v := fun u v he => by
    cases hd : o.dst with
    | none => rfl
    | some d =>
      rw [hd] at he
      obtain ⟨hlt, -⟩ := h1 d hd
      have e1 : (b.tmps.setIfInBounds d u)[d]? = (b.tmps.setIfInBounds d v)[d]? := by
        have := congrArg Act.tmps he
        simp only [Act.put] at this
        rw [this]
      have hbs : d < b.tmps.size := by rw [hb.size, hn]; exact hlt
      simp [hbs] at e1
      rw [e1]
  refine wpOp_step ho fun K' hK' => ?_
  rw [hwa]
  split
  · rename_i hw
    rw [if_pos hw] at hst
    unfold Oper.wp at *
    rw [hev]
    generalize (execOp b.eval o).run P w = r at *
    cases r with
    | ok m w' =>
      cases m <;> simp only [Oper.upon] at hst ⊢
      case value u =>
        obtain ⟨v, he, hg, hr⟩ := hst
        rw [back _ _ he]; exact hK' _ _ (hK v _ hg hr)
      case skip =>
        obtain ⟨v, he, hg, hr⟩ := hst
        rw [back _ _ he]; exact hK' _ _ (hK v _ hg hr)
      case defer d =>
        obtain ⟨v, he, hg, hr⟩ := hst
        have := congrArg Act.defers he
        cases hd : o.dst <;> simp [Act.put, hd] at this
      case enter f args =>
        refine Calls.mono hst fun e w'' he => ?_
        cases e with
        | returned u =>
          obtain ⟨v, he, hg, hr⟩ := he
          show K' _ _
          rw [back _ _ he]; exact hK' _ _ (hK v _ hg hr)
        | panicked c => exact he.elim
        | outgrown => obtain ⟨_, _, h⟩ := he; exact h.elim
      case row row args =>
        refine Rows.mono hst fun u w'' he => ?_
        obtain ⟨v, he, hg, hr⟩ := he
        rw [back _ _ he]; exact hK' _ _ (hK v _ hg hr)
    | halt x w' =>
      cases x <;> simp only [Oper.upon] at hst
  · rename_i hw
    rw [if_neg hw] at hst
    obtain ⟨v, he, hg, hr⟩ := hst
    rw [back _ _ he]; exact hK' _ _ (hK v _ hg hr)

/-- every operation comes up in the end: nothing waits in a ring (each waits for ones with lesser numbers) -/
def linUp (md : Region.Mode) (ops : Array Oper) : Bool := (List.range ops.size).all fun i => match ops[i]? with
  | none => true
  | some o => o.after.all fun e => !Region.binds md e || decide (e.on < i)

theorem linUp_all (h : linUp md ops = true) (listed : Array Bool) (hsz : listed.size = ops.size) (hr : Region.ready md ops listed = []) : ∀ i, i < ops.size → listed.getD i false = true := by
  intro i
  induction i using Nat.strongRecOn with
  | _ i ih =>
    intro hi
    cases hl : listed.getD i false with
    | true => rfl
    | false =>
      have ho : ops[i]? = some ops[i] := Array.getElem?_eq_getElem hi
      have hi' : i < listed.size := by omega
      have hmem : i ∈ Region.ready md ops listed := by
        rw [mem_ready]
        refine ⟨by simp [hi'] at hl ⊢; exact hl, _, ho, fun e he hb => ?_⟩
        have h1 := List.all_eq_true.1 h i (List.mem_range.2 hi)
        simp only [ho] at h1
        have h2 := Array.all_eq_true_iff_forall_mem.1 h1 e he
        simp [hb] at h2
        exact ih e.on h2 (by omega)
      rw [hr] at hmem; cases hmem


/-- the operations from m on wait for all before m -/
def tailOk (md : Region.Mode) (ops : Array Oper) (m : Nat) : Bool := (List.range ops.size).all fun i => decide (i < m) || match ops[i]? with
  | none => true
  | some o => (o.after.any fun e => Region.binds md e && decide (m ≤ e.on)) || (List.range m).all fun j =>
      (o.after.any fun e => Region.binds md e && e.on == j) || (List.range m).any fun k => match ops[k]? with
        | none => false
        | some ok => ok.after.any fun e => Region.binds md e && e.on == j
theorem tail_all {m : Nat} (hup : linUp md ops = true) (ht : tailOk md ops m = true) (listed : Array Bool) (hm : m ≤ ops.size)
    (hcl : ∀ i o, ops[i]? = some o → listed.getD i false = true → ∀ e ∈ o.after, Region.binds md e = true → listed.getD e.on false = true)
    (hnt : ∀ i, m ≤ i → listed.getD i false = false) {i : Nat} (hi : i ∈ Region.ready md ops listed) (him : m ≤ i) : ∀ j, j < m → listed.getD j false = true := by
  obtain ⟨h0, o, ho, hpre⟩ := mem_ready.1 hi
  have hlt : i < ops.size := (Array.getElem?_eq_some_iff.1 ho).1
  have h1 := List.all_eq_true.1 ht i (List.mem_range.2 hlt)
  have hnot : ¬ i < m := by omega
  simp only [ho, hnot, decide_false, Bool.false_or, Bool.or_eq_true] at h1
  rcases h1 with h1 | h1
  · obtain ⟨e, he, h2⟩ := Array.any_eq_true'.1 h1
    rw [Bool.and_eq_true] at h2
    have h3 := hpre e he h2.1
    rw [hnt e.on (by simpa using h2.2)] at h3
    cases h3
  · have key : ∀ d j, m - j ≤ d → j < m → listed.getD j false = true := by
      intro d
      induction d with
      | zero => intro j h h'; omega
      | succ d ih =>
        intro j hd hj
        have h2 := List.all_eq_true.1 h1 j (List.mem_range.2 hj)
        rw [Bool.or_eq_true] at h2
        rcases h2 with h2 | h2
        · obtain ⟨e, he, h3⟩ := Array.any_eq_true'.1 h2
          rw [Bool.and_eq_true] at h3
          have h4 := hpre e he h3.1
          rwa [show e.on = j by simpa using h3.2] at h4
        · obtain ⟨k, hk, h3⟩ := List.any_eq_true.1 h2
          have hk' := List.mem_range.1 hk
          have hok : ops[k]? = some ops[k] := Array.getElem?_eq_getElem (by omega)
          simp only [hok] at h3
          obtain ⟨e, he, h4⟩ := Array.any_eq_true'.1 h3
          rw [Bool.and_eq_true] at h4
          have hej : e.on = j := by simpa using h4.2
          have h5 := List.all_eq_true.1 hup k (List.mem_range.2 (by omega))
          simp only [hok] at h5
          have h6 := Array.all_eq_true_iff_forall_mem.1 h5 e he
          simp [h4.1] at h6
          have := hcl k _ hok (ih k (by omega) hk') e he h4.1
          rwa [hej] at this
    exact fun j hj => key m j (by omega) hj

def tailListed (m n : Nat) : Array Bool := (List.replicate m true ++ List.replicate n false).toArray
def headD (ops : Array Oper) (m : Nat) : List (Nat × Option Tmp) := (List.range m).map (fun i => (i, dstOf ops i))

theorem lin_any {n m : Nat} (hok : linOk md ops n = true) (hup : linUp md ops = true) (ht : tailOk md ops m = true) (hm : m ≤ ops.size) {a0 : Act} (hn : a0.tmps.size = n) {W : World} (htr : ∀ a b c, R a b → R b c → R a c) (hG : ∀ i v w w', G i v w → R w w' → G i v w')
    (hs : StepsL P md ops G R a0 W (List.range m)) (he : ∀ w, R W w → ForV G w (headD ops m) a0 (fun a => wpAny P md ops Q (ops.size - m) (tailListed m (ops.size - m)) a w)) :
    ∀ (fuel : Nat) (listed : Array Bool) (a : Act) (w : World) (vals : Nat → Value), listed.size = ops.size → (∀ i o, ops[i]? = some o → listed.getD i false = true → ∀ e ∈ o.after, Region.binds md e = true → listed.getD e.on false = true) →
      (∀ i, m ≤ i → listed.getD i false = false) →
      R W w → FrI ops a0 vals (fun j => listed.getD j false = true) a → (∀ i, listed.getD i false = true → G i (vals i) w) →
      List.count false listed.toList = fuel → wpAny P md ops Q fuel listed a w := by
  intro fuel
  -- all of the head have come up
  have fin : ∀ (fuel : Nat) (listed : Array Bool) (a : Act) (w : World) (vals : Nat → Value), listed.size = ops.size → (∀ i, m ≤ i → listed.getD i false = false) → R W w → FrI ops a0 vals (fun j => listed.getD j false = true) a → (∀ i, listed.getD i false = true → G i (vals i) w) →
      List.count false listed.toList = fuel → (∀ i, i < m → listed.getD i false = true) → wpAny P md ops Q fuel listed a w := by
    intro fuel listed a w vals hsz hnt hR hF hGv hcnt hall
    have h := he w hR
    obtain ⟨b, hb, hq⟩ := ForV.get hok hn (G := G) (vals := vals) (headD ops m) (fun _ => False) a0 (fun p hp => by
      unfold headD at hp
      obtain ⟨i, hi, rfl⟩ := List.mem_map.1 hp
      have := List.mem_range.1 hi
      exact ⟨⟨ops[i]'(by omega), Array.getElem?_eq_getElem _⟩, rfl⟩) (fun p hp => by
      unfold headD at hp
      obtain ⟨i, hi, rfl⟩ := List.mem_map.1 hp
      exact hGv i (hall i (List.mem_range.1 hi))) FrI.nil h
    have e1 : a = b := hF.eq (hb.congr (fun i => by
      simp only [false_or, headD, List.map_map, List.mem_map, List.mem_range]
      constructor
      · rintro ⟨j, hj, rfl⟩; exact hall j hj
      · intro hl
        refine ⟨i, ?_, rfl⟩
        rcases Nat.lt_or_ge i m with h' | h'
        · exact h'
        · rw [hnt i h'] at hl; cases hl) (fun _ _ => rfl))
    have e2l : listed.toList = List.replicate m true ++ List.replicate (ops.size - m) false := by
      apply List.ext_getElem?
      intro i
      rw [Array.getElem?_toList]
      by_cases him : i < m
      · have h1 := hall i him
        have h2 : i < listed.size := by omega
        simp [h2] at h1
        simp [h2, h1, List.getElem?_append, him]
      · by_cases hio : i < listed.size
        · have h1 := hnt i (by omega)
          simp [hio] at h1
          have h2 : i - m < ops.size - m := by omega
          rw [List.getElem?_append_right (by simp; omega)]
          simp [hio, h1, h2]
        · rw [Array.getElem?_eq_none (by omega), List.getElem?_eq_none (by simp; omega)]
    have e2 : listed = tailListed m (ops.size - m) := by
      unfold tailListed
      rw [← e2l]
    have e3 : fuel = ops.size - m := by
      rw [← hcnt, e2]
      simp [tailListed, List.count_append, List.count_replicate]
    rw [e1, e2, e3]; exact hq
  induction fuel with
  | zero =>
    intro listed a w vals hsz hcl hnt hR hF hGv hcnt
    refine fin 0 listed a w vals hsz hnt hR hF hGv hcnt fun i hi => ?_
    have hi' : i < listed.size := by omega
    cases hb : listed[i] with
    | true => simp [hb, hi']
    | false =>
      have hmem : false ∈ listed.toList := by
        rw [← hb]; simp
      have := List.count_pos_iff.2 hmem
      omega
  | succ fuel ih =>
    intro listed a w vals hsz hcl hnt hR hF hGv hcnt
    by_cases hall : ∀ i, i < m → listed.getD i false = true
    · exact fin _ listed a w vals hsz hnt hR hF hGv hcnt hall
    refine ⟨fun h => ?_, fun i hi => ?_⟩
    · exact absurd (fun i hi => linUp_all hup listed hsz h i (by omega)) hall
    have him : i < m := by
      rcases Nat.lt_or_ge i m with h | h
      · exact h
      · exact absurd (tail_all hup ht listed hm hcl hnt hi h) hall
    obtain ⟨h0, o, ho, hpre⟩ := mem_ready.1 hi
    have hilt : i < ops.size := (Array.getElem?_eq_some_iff.1 ho).1
    have hilt' : i < listed.size := by rw [hsz]; exact hilt
    have hni : ¬ listed.getD i false = true := by
      intro h
      simp [hilt'] at h h0
      rw [h0] at h; cases h
    have hstep := hs i (List.mem_range.2 him) o ho w hR
    obtain ⟨b, hb, hst⟩ := ForV.get hok hn (G := G) (vals := vals) (predsD md ops i) (fun _ => False) a0 (fun p hp => by
      obtain ⟨⟨e, he, hbd, hpe⟩, h2⟩ := predsD_mem ho hp
      have h3 := hpre e he hbd
      rw [hpe] at h3
      refine ⟨⟨ops[p.1]'?_, Array.getElem?_eq_getElem _⟩, h2⟩
      rcases Nat.lt_or_ge p.1 ops.size with h' | h'
      · exact h'
      · rw [← hsz] at h'
        simp [Array.getElem?_eq_none h'] at h3) (fun p hp => by
      obtain ⟨⟨e, he, hbd, hpe⟩, h2⟩ := predsD_mem ho hp
      have h3 := hpre e he hbd
      rw [hpe] at h3
      exact hGv _ h3) FrI.nil hstep
    refine step_of (vals := vals) hok hn ho (fun e he hbd => hpre e he hbd) hni hF (hb.congr (fun j => by simp) (fun _ _ => rfl)) hst fun v w'' hg hr => ?_
    refine ih (listed.setIfInBounds i true) _ w'' (fun j => if j = i then v else vals j) (by simpa using hsz) ?_ ?_ (htr _ _ _ hR hr) ?_ ?_ ?_
    · intro j oj hoj hj e he hbd
      by_cases hji : j = i
      · subst hji
        rw [ho] at hoj; cases hoj
        exact getD_set_true (hpre e he hbd)
      · rw [getD_set_ne false (Ne.symm hji)] at hj
        exact getD_set_true (hcl j oj hoj hj e he hbd)
    · intro j hj
      rw [getD_set_ne false (by omega)]
      exact hnt j hj
    · refine (hF.put hok hn ho v (fun h => absurd h hni)).congr (fun j => ?_) (fun _ _ => rfl)
      by_cases hji : j = i
      · subst hji; simp [hilt']
      · rw [getD_set_ne false (Ne.symm hji)]; simp [hji]
    · intro j hj
      by_cases hji : j = i
      · subst hji; simp only [if_true]; exact hg
      · rw [getD_set_ne false (Ne.symm hji)] at hj
        simp only [hji, if_false]
        exact hG _ _ _ _ (hGv j hj) hr
    · have hli : listed[i] = false := by
        cases hb' : listed[i] with
        | false => rfl
        | true => exact absurd (by simp [hilt', hb']) hni
      have e1 : (listed.setIfInBounds i true).toList = listed.toList.set i true := by simp
      rw [e1]
      have hil : i < listed.toList.length := by simpa using hilt'
      have hget : listed.toList[i] = false := by simpa using hli
      rw [List.count_set hil]
      rw [hget]
      have e2 : ((false == false) = true) := rfl
      have e3 : ¬ ((true == false) = true) := by decide
      rw [if_pos e2, if_neg e3]
      omega

theorem wp_region_lin {id n : Nat} {a0 : Act} {w W : World} (G : Nat → Value → World → Prop) (R : World → World → Prop) (m : Nat) (hm : P.follows .mixedOrders = true) (hn : a0.tmps.size = n) (hok : linOk .any ops n = true) (hup : linUp .any ops = true) (ht : tailOk .any ops m = true)
    (hrefl : ∀ w, R w w) (htr : ∀ a b c, R a b → R b c → R a c) (hG : ∀ i v w w', G i v w → R w w' → G i v w') (hW : W = w.drew) {k : Nat} (hsz : ops.size = k) (hmk : m ≤ k) {ls : List (Nat × Option Tmp)} (hls : headD ops m = ls) {ir : List Nat} (hir : List.range m = ir)
    (hs : StepsL P .any ops G R a0 W ir) {tl : Array Bool} (htl : tailListed m (k - m) = tl) (he : ∀ w, R W w → ForV G w ls a0 (fun a => wpAny P .any ops Q (k - m) tl a w)) :
    (Code.region id ops true).wp P Q a0 w := by
  subst hsz hls hir htl
  refine wp_region_any hm ?_
  have hW' : W = { w with drawn := w.drawn + 1 } := hW
  rw [← hW']
  refine lin_any hok hup ht hmk hn htr hG hs he ops.size (Array.replicate ops.size false) a0 W (fun _ => undef) (by simp) ?_ ?_ (hrefl _) ?_ ?_ ?_
  · intro i o ho hl
    have hi := (Array.getElem?_eq_some_iff.1 ho).1
    simp [hi] at hl
  · intro i _
    by_cases hi : i < ops.size <;> simp [hi]
  · refine FrI.nil.congr (fun i => ?_) (fun _ _ => rfl)
    constructor
    · exact False.elim
    · intro h
      by_cases hi : i < ops.size
      · simp [hi] at h
      · simp [hi] at h
  · intro i h
    by_cases hi : i < ops.size
    · simp [hi] at h
    · simp [hi] at h
  · simp

/-- with worlds that only grow -/
theorem region_lin {id n : Nat} {a0 : Act} {w : World} (G : Nat → Value → World → Prop) (m : Nat) (hm : P.follows .mixedOrders = true) (hn : a0.tmps.size = n) (hok : linOk .any ops n = true) (hup : linUp .any ops = true) (ht : tailOk .any ops m = true)
    (hG : ∀ i v w w', G i v w → Ext w w' → G i v w') {k : Nat} (hsz : ops.size = k) (hmk : m ≤ k) {ls : List (Nat × Option Tmp)} (hls : headD ops m = ls) {ir : List Nat} (hir : List.range m = ir)
    (hs : StepsL P .any ops G Ext a0 w.drew ir) {tl : Array Bool} (htl : tailListed m (k - m) = tl) (he : ∀ w', Ext w.drew w' → ForV G w' ls a0 (fun a => wpAny P .any ops Q (k - m) tl a w')) :
    (Code.region id ops true).wp P Q a0 w :=
  wp_region_lin G Ext m hm hn hok hup ht Ext.refl (fun _ _ _ => Ext.trans) hG rfl hsz hmk hls hir hs htl he
end
/-- what the operations yield, as a list -/
def gl (l : List (Value → World → Prop)) (i : Nat) : Value → World → Prop := l.getD i (fun _ _ => True)
def GMono (g : Value → World → Prop) : Prop := ∀ v w w', g v w → Ext w w' → g v w'
theorem gl_mono {l : List (Value → World → Prop)} (h : ∀ g ∈ l, GMono g) : ∀ i v w w', gl l i v w → Ext w w' → gl l i v w' := by
  intro i v w w' hg hx
  unfold gl at *
  rw [List.getD_eq_getElem?_getD] at *
  cases hi : l[i]? with
  | none => rw [hi] at hg; exact hg
  | some g =>
    rw [hi] at hg
    simp only [Option.getD_some] at *
    exact h g (List.mem_of_getElem? hi) _ _ _ hg hx
def gEq (u : Value) : Value → World → Prop := fun v _ => v = u
theorem gEq_mono (u : Value) : GMono (gEq u) := fun _ _ _ h _ => h
/-- a block of the call's own that is known whole -/
def gBlk (lo : Nat) (t : TypeId) (cs : Array Value) : Value → World → Prop := fun v w => ∃ g, v = .pointer (some ⟨g, 0, none⟩) ∧ lo ≤ g ∧ Blk w g t cs
theorem gBlk_mono (lo : Nat) (t : TypeId) (cs : Array Value) : GMono (gBlk lo t cs) := fun _ _ _ ⟨g, h1, h2, h3⟩ hx => ⟨g, h1, h2, h3.ext hx⟩
/-- a slice that a literal made -/
def gLit (lo : Nat) (t : TypeId) (cs : Array Value) (n : Nat) : Value → World → Prop := fun v w => ∃ g, v = .slice (some ⟨g, 0, none⟩) n n ∧ lo ≤ g ∧ Blk w g t cs
theorem gLit_mono (lo : Nat) (t : TypeId) (cs : Array Value) (n : Nat) : GMono (gLit lo t cs n) := fun _ _ _ ⟨g, h1, h2, h3⟩ hx => ⟨g, h1, h2, h3.ext hx⟩
theorem gl_nil : ∀ g ∈ ([] : List (Value → World → Prop)), GMono g := fun _ h => by cases h
theorem gl_cons {g : Value → World → Prop} {l : List (Value → World → Prop)} (h : GMono g) (k : ∀ g ∈ l, GMono g) : ∀ g' ∈ g :: l, GMono g' := fun g' h' => by
  rcases List.mem_cons.1 h' with rfl | h'
  · exact h
  · exact k g' h'
end Go.Proofs.YtncfnlocdlhagaaDoor

/-
  impl.HouseText. Conditions: the house's slices read as lists; the library's table is laid.
-/
namespace Go.Proofs.YtncfnlocdlhagaaDoor
open Go.RowKit
set_option linter.unusedVariables false
set_option linter.unusedSimpArgs false

theorem elStr : ElT Tryd.prog 68 9 1 :=
  ⟨Tryd.underlying68, by
    obtain ⟨i, hi, h0, h1, h2⟩ := info_parts (show (Tryd.prog.info? 9).map (fun i => (i.zero, i.size, i.bytes)) = some (some (.string ⟨#[]⟩), 1, 16) by kernel_rfl)
    exact ⟨i, _, hi, h0, h1, by omega, rfl⟩, Nat.one_pos⟩
theorem strV_flat (xs : List (List UInt8)) : xs.flatMap (fun s => [str s]) = strV xs := by induction xs with | nil => rfl | cons x xs ih => simp_all [strV]
theorem wpList_append_str {w : World} {ops : Array Oper} {rest : List Oper} {o : Oper} {a : Act} {Q : Exit → Act → World → Prop} (hgd : o.guard = none) (s x : Operand)
    (ho : o.op = .call { callee := .builtin .append, args := #[s, x], argTypes := #[68, 68] })
    (base : Nat) (v : Value) (n : Nat) (xs : List (List UInt8)) (hs : a.eval s = v) (hown : w.ownsRow base 9 1 v n (strV xs))
    (b off : Nat) (y : List UInt8) (c : Nat) (hx : a.eval x = .slice (some ⟨b, off, none⟩) 1 c) (hc : w.cell? ⟨b, off, none⟩ = some (str y))
    (hn : n ≤ 1099511627776) (hbase : base ≤ w.heap.size)
    (h : ∀ p' cap' w', w'.ownsRow base 9 1 (.slice p' (n + 1) cap') (n + 1) (strV (xs ++ [y])) → w.grownBy w' v.ownBlock → wpList Tryd.prog ops Q rest (a.put o.dst (.slice p' (n + 1) cap')) w') : wpList Tryd.prog ops Q (o :: rest) a w := by
  refine wpList_append_el elStr (f := fun x => [str x]) (fun _ => rfl) (fun _ u hu => by simp at hu; subst hu; rfl) hgd s x ho base v n xs hs (by rw [strV_flat]; exact hown) b off y c hx (fun j u hu => ?_) hn hbase (fun p' cap' w' h2 h3 => h p' cap' w' (by rw [strV_flat] at h2; exact h2) h3)
  match j, hu with
  | 0, hu => simp at hu; subst hu; exact hc
theorem Blk.sl {w : World} {g n : Nat} {t : TypeId} {cs : Array Value} (h : Blk w g t cs) (hn : cs.size = n) (hm : n ≤ maxLen) : Sl w (some ⟨g, 0, none⟩) n n 1 cs.toList :=
  ⟨by simpa using hn, Nat.le_refl _, hm, fun _ => ⟨g, 0, rfl, h.lt, fun k hk => by rw [Nat.zero_add, h.cell k]; simp⟩⟩
theorem Blk.own {w : World} {g n base : Nat} {t : TypeId} {cs : Array Value} (h : Blk w g t cs) (hn : cs.size = n) (hm : n ≤ maxLen) (hb : base ≤ g) : w.ownsRow base t 1 (.slice (some ⟨g, 0, none⟩) n n) n cs.toList :=
  ⟨by simpa using hn, .inr ⟨g, n, cs, rfl, hb, h, Nat.le_refl _, hm, by omega, by rw [Nat.mul_one, List.take_of_length_le (by simp; omega)]⟩⟩

set_option maxRecDepth 100000 in
set_option maxHeartbeats 1000000 in
theorem implHtext_ok (wide deep free step price capp clock bank : Int) (p : Option Addr) (n cap : Nat) (q : Option Addr) (m c2 : Nat) (w : World) (vs : List Visit4) (p1 p2 p3 p4 : List UInt8) (hm12 : m ≤ 12) (hl : Hid (vs.length = m)) (HS : Hid (Sl w q m c2 4 (vs.flatMap visitCells)))
    (HL : Hid ((joinB 59 ([p1, p2, p3, p4] ++ vs.map (fun v => numsText (visitNums v)))).length ≤ 140737488355328))
    (HN : Hid (∀ v ∈ vs, ∀ w' g, Ext w w' → Sl w' (some g) 4 4 1 (ivs (visitNums v)) → Calls Tryd.prog 62 #[.slice (some g) 4 4] w' fun e w'' => e = .returned (str (numsText (visitNums v))) ∧ Ext w' w''))
    (HV : Hid (∀ w', Ext w w' → Calls Tryd.prog 30 #[.agg #[.int .i64 wide, .int .i64 deep, .slice p n cap, .int .i64 free, .int .i64 step, .int .i64 price, .int .i64 capp, .int .i64 clock, .int .i64 bank, .slice q m c2]] w' fun e w'' => e = .returned (.bool true) ∧ Ext w' w''))
    (H1 : Hid (∀ w', Ext w w' → Calls Tryd.prog 45 #[hallV wide deep p n cap] w' fun e w'' => e = .returned (str p1) ∧ Ext w' w''))
    (H2 : Hid (∀ w' g, Ext w w' → Sl w' (some g) 4 4 1 (ivs [free, step, price, capp]) → Calls Tryd.prog 62 #[.slice (some g) 4 4] w' fun e w'' => e = .returned (str p2) ∧ Ext w' w''))
    (H3 : Hid (∀ w' g, Ext w w' → Sl w' (some g) 1 1 1 (ivs [clock]) → Calls Tryd.prog 62 #[.slice (some g) 1 1] w' fun e w'' => e = .returned (str p3) ∧ Ext w' w''))
    (H4 : Hid (∀ w' g, Ext w w' → Sl w' (some g) 1 1 1 (ivs [bank]) → Calls Tryd.prog 62 #[.slice (some g) 1 1] w' fun e w'' => e = .returned (str p4) ∧ Ext w' w'')) :
    Calls Tryd.prog 21 #[.agg #[.int .i64 wide, .int .i64 deep, .slice p n cap, .int .i64 free, .int .i64 step, .int .i64 price, .int .i64 capp, .int .i64 clock, .int .i64 bank, .slice q m c2]] w fun e w' => e = .returned (str (joinB 59 ([p1, p2, p3, p4] ++ vs.map (fun v => numsText (visitNums v))))) ∧ Ext w w' := by
  go_enter Tryd.func21, Tryd.ntmps21
  go_wp2_with fail
  refine (HV.out _ (by (repeat' (first | exact Ext.refl _ | (with_reducible assumption) | (with_reducible refine Ext.alloc ?_ _) | (with_reducible refine Ext.setCell ?_ (by first | exact Nat.le_refl _ | (dsimp only; omega) | (simp; done) | (simp; omega)) _) | (with_reducible refine Ext.drew ?_) | (with_reducible refine Ext.drewN ?_ _) | (refine Ext.trans ?_ (by with_reducible assumption)))))).mono ?_
  rintro e w0 ⟨rfl, hh0⟩
  have B0 := Lib.hid ((Blk.new w 52 #[.int .i64 wide, .int .i64 deep, .slice p n cap, .int .i64 free, .int .i64 step, .int .i64 price, .int .i64 capp, .int .i64 clock, .int .i64 bank, .slice q m c2]).ext hh0)
  have X0 : Hid (Ext w w0) := by show Ext w w0; (repeat' (first | exact Ext.refl _ | (with_reducible assumption) | (with_reducible refine Ext.alloc ?_ _) | (with_reducible refine Ext.setCell ?_ (by first | exact Nat.le_refl _ | (dsimp only; omega) | (simp; done) | (simp; omega)) _) | (with_reducible refine Ext.drew ?_) | (with_reducible refine Ext.drewN ?_ _) | (refine Ext.trans ?_ (by with_reducible assumption))))
  have X0' := X0.out
  have hz0 : w.heap.size < w0.heap.size := B0.out.lt
  clear hh0
  go_wp2
  refine region_lin (gl [gEq (.pointer (some ⟨w.heap.size, 0, none⟩)), gEq (hallV wide deep p n cap), gEq (str p1), gEq (.pointer (some ⟨w.heap.size, 3, none⟩)), gEq (.pointer (some ⟨w.heap.size, 3, none⟩)), gEq (.int .i64 free), gEq (.pointer (some ⟨w.heap.size, 3, none⟩)), gEq (.pointer (some ⟨w.heap.size, 4, none⟩)), gEq (.int .i64 step), gEq (.pointer (some ⟨w.heap.size, 3, none⟩)), gEq (.pointer (some ⟨w.heap.size, 5, none⟩)), gEq (.int .i64 price), gEq (.pointer (some ⟨w.heap.size, 3, none⟩)), gEq (.pointer (some ⟨w.heap.size, 6, none⟩)), gEq (.int .i64 capp), gLit (w.heap.size) TI #[.int .i64 free, .int .i64 step, .int .i64 price, .int .i64 capp] 4, gEq (str p2), gEq (.pointer (some ⟨w.heap.size, 7, none⟩)), gEq (.int .i64 clock), gLit (w.heap.size) TI #[.int .i64 clock] 1, gEq (str p3), gEq (.pointer (some ⟨w.heap.size, 8, none⟩)), gEq (.int .i64 bank), gLit (w.heap.size) TI #[.int .i64 bank] 1, gEq (str p4), gLit (w.heap.size + 1) 9 #[str p1, str p2, str p3, str p4] 4]) 26 (by kernel_rfl) rfl (by kernel_rfl) (by kernel_rfl) (by kernel_rfl) (gl_mono (gl_cons (gEq_mono _) (gl_cons (gEq_mono _) (gl_cons (gEq_mono _) (gl_cons (gEq_mono _) (gl_cons (gEq_mono _) (gl_cons (gEq_mono _) (gl_cons (gEq_mono _) (gl_cons (gEq_mono _) (gl_cons (gEq_mono _) (gl_cons (gEq_mono _) (gl_cons (gEq_mono _) (gl_cons (gEq_mono _) (gl_cons (gEq_mono _) (gl_cons (gEq_mono _) (gl_cons (gEq_mono _) (gl_cons (gLit_mono _ _ _ _) (gl_cons (gEq_mono _) (gl_cons (gEq_mono _) (gl_cons (gEq_mono _) (gl_cons (gLit_mono _ _ _ _) (gl_cons (gEq_mono _) (gl_cons (gEq_mono _) (gl_cons (gEq_mono _) (gl_cons (gLit_mono _ _ _ _) (gl_cons (gEq_mono _) (gl_cons (gLit_mono _ _ _ _) (gl_nil)))))))))))))))))))))))))))) (k := 27) (by kernel_rfl) (by decide) (ls := [(0, some 9), (1, some 10), (2, some 11), (3, some 12), (4, some 13), (5, some 14), (6, some 15), (7, some 16), (8, some 17), (9, some 18), (10, some 19), (11, some 20), (12, some 21), (13, some 22), (14, some 23), (15, some 24), (16, some 25), (17, some 26), (18, some 27), (19, some 28), (20, some 29), (21, some 30), (22, some 31), (23, some 32), (24, some 33), (25, some 34)]) (by kernel_rfl) (ir := [0, 1, 2, 3, 4, 5, 6, 7, 8, 9, 10, 11, 12, 13, 14, 15, 16, 17, 18, 19, 20, 21, 22, 23, 24, 25]) (by kernel_rfl) ?steps (tl := #[true, true, true, true, true, true, true, true, true, true, true, true, true, true, true, true, true, true, true, true, true, true, true, true, true, true, false]) (by kernel_rfl) ?fin
  case steps =>
    refine StepsL.cons (ps := []) rfl (by kernel_rfl) (fun wi hx => ?_) ?_
    · intro K hK
      go_simp
      exact hK _ _ ⟨.pointer (some ⟨w.heap.size, 0, none⟩), rfl, rfl, Ext.refl _⟩
    refine StepsL.cons (ps := [(0, some 9)]) rfl (by kernel_rfl) (fun wi hx => ?_) ?_
    · intro v0 h0 K hK
      obtain rfl := h0
      have B := Lib.hid (B0.out.ext hx.of_drew)
      have c0 : wi.cell? ⟨w.heap.size, 0, none⟩ = some (.int .i64 wide) := B.out.cell 0
      have c1 : wi.cell? ⟨w.heap.size, 1, none⟩ = some (.int .i64 deep) := B.out.cell 1
      have c2 : wi.cell? ⟨w.heap.size, 2, none⟩ = some (.slice p n cap) := B.out.cell 2
      go_simp
      exact hK _ _ ⟨hallV wide deep p n cap, rfl, rfl, Ext.refl _⟩
    refine StepsL.cons (ps := [(1, some 10)]) rfl (by kernel_rfl) (fun wi hx => ?_) ?_
    · intro v1 h1 K hK
      obtain rfl := h1
      go_wp2_with fail
      refine (H1.out _ (by (repeat' (first | exact Ext.refl _ | (with_reducible assumption) | (with_reducible refine Ext.alloc ?_ _) | (with_reducible refine Ext.setCell ?_ (by first | exact Nat.le_refl _ | (dsimp only; omega) | (simp; done) | (simp; omega)) _) | (with_reducible refine Ext.drew ?_) | (with_reducible refine Ext.drewN ?_ _) | (refine Ext.trans ?_ (by with_reducible assumption)))))).mono ?_
      rintro e w2 ⟨rfl, hx2⟩
      go_simp
      exact hK _ _ ⟨str p1, rfl, rfl, hx2⟩
    refine StepsL.cons (ps := []) rfl (by kernel_rfl) (fun wi hx => ?_) ?_
    · intro K hK
      go_simp
      exact hK _ _ ⟨.pointer (some ⟨w.heap.size, 3, none⟩), rfl, rfl, Ext.refl _⟩
    refine StepsL.cons (ps := [(3, some 12)]) rfl (by kernel_rfl) (fun wi hx => ?_) ?_
    · intro v3 h3 K hK
      obtain rfl := h3
      go_simp
      exact hK _ _ ⟨.pointer (some ⟨w.heap.size, 3, none⟩), rfl, rfl, Ext.refl _⟩
    refine StepsL.cons (ps := [(4, some 13)]) rfl (by kernel_rfl) (fun wi hx => ?_) ?_
    · intro v4 h4 K hK
      obtain rfl := h4
      have B := Lib.hid (B0.out.ext hx.of_drew)
      have c3 : wi.cell? ⟨w.heap.size, 3, none⟩ = some (.int .i64 free) := B.out.cell 3
      go_simp
      exact hK _ _ ⟨.int .i64 free, rfl, rfl, Ext.refl _⟩
    refine StepsL.cons (ps := []) rfl (by kernel_rfl) (fun wi hx => ?_) ?_
    · intro K hK
      go_simp
      exact hK _ _ ⟨.pointer (some ⟨w.heap.size, 3, none⟩), rfl, rfl, Ext.refl _⟩
    refine StepsL.cons (ps := [(6, some 15)]) rfl (by kernel_rfl) (fun wi hx => ?_) ?_
    · intro v6 h6 K hK
      obtain rfl := h6
      go_simp
      exact hK _ _ ⟨.pointer (some ⟨w.heap.size, 4, none⟩), rfl, rfl, Ext.refl _⟩
    refine StepsL.cons (ps := [(7, some 16)]) rfl (by kernel_rfl) (fun wi hx => ?_) ?_
    · intro v7 h7 K hK
      obtain rfl := h7
      have B := Lib.hid (B0.out.ext hx.of_drew)
      have c4 : wi.cell? ⟨w.heap.size, 4, none⟩ = some (.int .i64 step) := B.out.cell 4
      go_simp
      exact hK _ _ ⟨.int .i64 step, rfl, rfl, Ext.refl _⟩
    refine StepsL.cons (ps := []) rfl (by kernel_rfl) (fun wi hx => ?_) ?_
    · intro K hK
      go_simp
      exact hK _ _ ⟨.pointer (some ⟨w.heap.size, 3, none⟩), rfl, rfl, Ext.refl _⟩
    refine StepsL.cons (ps := [(9, some 18)]) rfl (by kernel_rfl) (fun wi hx => ?_) ?_
    · intro v9 h9 K hK
      obtain rfl := h9
      go_simp
      exact hK _ _ ⟨.pointer (some ⟨w.heap.size, 5, none⟩), rfl, rfl, Ext.refl _⟩
    refine StepsL.cons (ps := [(10, some 19)]) rfl (by kernel_rfl) (fun wi hx => ?_) ?_
    · intro v10 h10 K hK
      obtain rfl := h10
      have B := Lib.hid (B0.out.ext hx.of_drew)
      have c5 : wi.cell? ⟨w.heap.size, 5, none⟩ = some (.int .i64 price) := B.out.cell 5
      go_simp
      exact hK _ _ ⟨.int .i64 price, rfl, rfl, Ext.refl _⟩
    refine StepsL.cons (ps := []) rfl (by kernel_rfl) (fun wi hx => ?_) ?_
    · intro K hK
      go_simp
      exact hK _ _ ⟨.pointer (some ⟨w.heap.size, 3, none⟩), rfl, rfl, Ext.refl _⟩
    refine StepsL.cons (ps := [(12, some 21)]) rfl (by kernel_rfl) (fun wi hx => ?_) ?_
    · intro v12 h12 K hK
      obtain rfl := h12
      go_simp
      exact hK _ _ ⟨.pointer (some ⟨w.heap.size, 6, none⟩), rfl, rfl, Ext.refl _⟩
    refine StepsL.cons (ps := [(13, some 22)]) rfl (by kernel_rfl) (fun wi hx => ?_) ?_
    · intro v13 h13 K hK
      obtain rfl := h13
      have B := Lib.hid (B0.out.ext hx.of_drew)
      have c6 : wi.cell? ⟨w.heap.size, 6, none⟩ = some (.int .i64 capp) := B.out.cell 6
      go_simp
      exact hK _ _ ⟨.int .i64 capp, rfl, rfl, Ext.refl _⟩
    refine StepsL.cons (ps := [(5, some 14), (8, some 17), (11, some 20), (14, some 23)]) rfl (by kernel_rfl) (fun wi hx => ?_) ?_
    · intro v5 h5 v8 h8 v11 h11 v14 h14 K hK
      obtain rfl := h5
      obtain rfl := h8
      obtain rfl := h11
      obtain rfl := h14
      go_simp
      exact hK _ _ ⟨.slice (some ⟨wi.heap.size, 0, none⟩) 4 4, rfl, ⟨wi.heap.size, rfl, by have := hx.sz; simp at this; omega, Blk.new _ _ _⟩, (Ext.refl _).alloc _⟩
    refine StepsL.cons (ps := [(15, some 24), (2, some 11)]) rfl (by kernel_rfl) (fun wi hx => ?_) ?_
    · intro v15 h15 v2 h2 K hK
      obtain ⟨g15, rfl, hg15, B15⟩ := h15
      obtain rfl := h2
      go_wp2_with fail
      refine (H2.out _ _ (by (repeat' (first | exact Ext.refl _ | (with_reducible assumption) | (with_reducible refine Ext.alloc ?_ _) | (with_reducible refine Ext.setCell ?_ (by first | exact Nat.le_refl _ | (dsimp only; omega) | (simp; done) | (simp; omega)) _) | (with_reducible refine Ext.drew ?_) | (with_reducible refine Ext.drewN ?_ _) | (refine Ext.trans ?_ (by with_reducible assumption))))) (by have := B15.sl (n := 4) rfl (by simp [maxLen]); simpa using this)).mono ?_
      rintro e w2 ⟨rfl, hx2⟩
      go_simp
      exact hK _ _ ⟨str p2, rfl, rfl, hx2⟩
    refine StepsL.cons (ps := []) rfl (by kernel_rfl) (fun wi hx => ?_) ?_
    · intro K hK
      go_simp
      exact hK _ _ ⟨.pointer (some ⟨w.heap.size, 7, none⟩), rfl, rfl, Ext.refl _⟩
    refine StepsL.cons (ps := [(17, some 26)]) rfl (by kernel_rfl) (fun wi hx => ?_) ?_
    · intro v17 h17 K hK
      obtain rfl := h17
      have B := Lib.hid (B0.out.ext hx.of_drew)
      have c7 : wi.cell? ⟨w.heap.size, 7, none⟩ = some (.int .i64 clock) := B.out.cell 7
      go_simp
      exact hK _ _ ⟨.int .i64 clock, rfl, rfl, Ext.refl _⟩
    refine StepsL.cons (ps := [(18, some 27)]) rfl (by kernel_rfl) (fun wi hx => ?_) ?_
    · intro v18 h18 K hK
      obtain rfl := h18
      go_simp
      exact hK _ _ ⟨.slice (some ⟨wi.heap.size, 0, none⟩) 1 1, rfl, ⟨wi.heap.size, rfl, by have := hx.sz; simp at this; omega, Blk.new _ _ _⟩, (Ext.refl _).alloc _⟩
    refine StepsL.cons (ps := [(19, some 28), (16, some 25)]) rfl (by kernel_rfl) (fun wi hx => ?_) ?_
    · intro v19 h19 v16 h16 K hK
      obtain ⟨g19, rfl, hg19, B19⟩ := h19
      obtain rfl := h16
      go_wp2_with fail
      refine (H3.out _ _ (by (repeat' (first | exact Ext.refl _ | (with_reducible assumption) | (with_reducible refine Ext.alloc ?_ _) | (with_reducible refine Ext.setCell ?_ (by first | exact Nat.le_refl _ | (dsimp only; omega) | (simp; done) | (simp; omega)) _) | (with_reducible refine Ext.drew ?_) | (with_reducible refine Ext.drewN ?_ _) | (refine Ext.trans ?_ (by with_reducible assumption))))) (by have := B19.sl (n := 1) rfl (by simp [maxLen]); simpa using this)).mono ?_
      rintro e w2 ⟨rfl, hx2⟩
      go_simp
      exact hK _ _ ⟨str p3, rfl, rfl, hx2⟩
    refine StepsL.cons (ps := []) rfl (by kernel_rfl) (fun wi hx => ?_) ?_
    · intro K hK
      go_simp
      exact hK _ _ ⟨.pointer (some ⟨w.heap.size, 8, none⟩), rfl, rfl, Ext.refl _⟩
    refine StepsL.cons (ps := [(21, some 30)]) rfl (by kernel_rfl) (fun wi hx => ?_) ?_
    · intro v21 h21 K hK
      obtain rfl := h21
      have B := Lib.hid (B0.out.ext hx.of_drew)
      have c8 : wi.cell? ⟨w.heap.size, 8, none⟩ = some (.int .i64 bank) := B.out.cell 8
      go_simp
      exact hK _ _ ⟨.int .i64 bank, rfl, rfl, Ext.refl _⟩
    refine StepsL.cons (ps := [(22, some 31)]) rfl (by kernel_rfl) (fun wi hx => ?_) ?_
    · intro v22 h22 K hK
      obtain rfl := h22
      go_simp
      exact hK _ _ ⟨.slice (some ⟨wi.heap.size, 0, none⟩) 1 1, rfl, ⟨wi.heap.size, rfl, by have := hx.sz; simp at this; omega, Blk.new _ _ _⟩, (Ext.refl _).alloc _⟩
    refine StepsL.cons (ps := [(23, some 32), (20, some 29)]) rfl (by kernel_rfl) (fun wi hx => ?_) ?_
    · intro v23 h23 v20 h20 K hK
      obtain ⟨g23, rfl, hg23, B23⟩ := h23
      obtain rfl := h20
      go_wp2_with fail
      refine (H4.out _ _ (by (repeat' (first | exact Ext.refl _ | (with_reducible assumption) | (with_reducible refine Ext.alloc ?_ _) | (with_reducible refine Ext.setCell ?_ (by first | exact Nat.le_refl _ | (dsimp only; omega) | (simp; done) | (simp; omega)) _) | (with_reducible refine Ext.drew ?_) | (with_reducible refine Ext.drewN ?_ _) | (refine Ext.trans ?_ (by with_reducible assumption))))) (by have := B23.sl (n := 1) rfl (by simp [maxLen]); simpa using this)).mono ?_
      rintro e w2 ⟨rfl, hx2⟩
      go_simp
      exact hK _ _ ⟨str p4, rfl, rfl, hx2⟩
    refine StepsL.cons (ps := [(2, some 11), (16, some 25), (20, some 29), (24, some 33)]) rfl (by kernel_rfl) (fun wi hx => ?_) StepsL.nil
    · intro v2 h2 v16 h16 v20 h20 v24 h24 K hK
      obtain rfl := h2
      obtain rfl := h16
      obtain rfl := h20
      obtain rfl := h24
      go_simp
      exact hK _ _ ⟨.slice (some ⟨wi.heap.size, 0, none⟩) 4 4, rfl, ⟨wi.heap.size, rfl, by have := hx.sz; simp at this; omega, Blk.new _ _ _⟩, (Ext.refl _).alloc _⟩
  case fin =>
    intro wi hx v0 h0 v1 h1 v2 h2 v3 h3 v4 h4 v5 h5 v6 h6 v7 h7 v8 h8 v9 h9 v10 h10 v11 h11 v12 h12 v13 h13 v14 h14 v15 h15 v16 h16 v17 h17 v18 h18 v19 h19 v20 h20 v21 h21 v22 h22 v23 h23 v24 h24 v25 h25
    obtain rfl := h0
    obtain rfl := h1
    obtain rfl := h2
    obtain rfl := h3
    obtain rfl := h4
    obtain rfl := h5
    obtain rfl := h6
    obtain rfl := h7
    obtain rfl := h8
    obtain rfl := h9
    obtain rfl := h10
    obtain rfl := h11
    obtain rfl := h12
    obtain rfl := h13
    obtain rfl := h14
    obtain ⟨g15, rfl, hg15, B15⟩ := h15
    obtain rfl := h16
    obtain rfl := h17
    obtain rfl := h18
    obtain ⟨g19, rfl, hg19, B19⟩ := h19
    obtain rfl := h20
    obtain rfl := h21
    obtain rfl := h22
    obtain ⟨g23, rfl, hg23, B23⟩ := h23
    obtain rfl := h24
    obtain ⟨g25, rfl, hg25, B25⟩ := h25
    refine wpAny_ready (rs := [26]) (by kernel_rfl) (by simp) ?_
    refine AllReady.cons rfl (fun K hK => ?_) AllReady.nil
    go_simp
    refine hK _ _ ?_
    clear hK K
    refine wpAny_done (by kernel_rfl) ?_ _
    have B1 := Lib.hid (B0.out.ext hx.of_drew)
    have X1 := Lib.hid (X0.out.trans hx.of_drew)
    have O1 := Lib.hid (B25.own (n := 4) rfl (by simp [maxLen]) hg25)
    have z1 : w.heap.size < wi.heap.size := B1.out.lt
    clear B25 hx B0 X0 X0'
    have b9 : wi.cell? ⟨w.heap.size, 9, none⟩ = some (.slice q m c2) := B1.out.cell 9
    go_wp2
    clear b9
    go_loopw [3, 38] (fun v i wr => ∃ (k : Nat) (p' : Option Addr) (cp : Nat), k ≤ m ∧ i = .int .i64 k ∧ v = .slice p' (4 + k) cp ∧ wr.ownsRow (w.heap.size + 1) 9 1 (.slice p' (4 + k) cp) (4 + k) (strV ([p1, p2, p3, p4] ++ (vs.take k).map (fun v => numsText (visitNums v)))) ∧ Ext w wr ∧ w.heap.size + 1 ≤ wr.heap.size) (fun _ i _ => m - (intOf i).toNat)
    case atStart => exact ⟨0, some ⟨g25, 0, none⟩, 4, Nat.zero_le _, rfl, rfl, by simpa [strV] using O1.out, X1.out, by omega⟩
    case round =>
      clear O1 X1 B1 z1
      obtain ⟨k, p', cp, hk, rfl, rfl, hown, hE, hsz⟩ := hrel
      have HO := Lib.hid hown
      clear hown
      by_cases hlt : k < m
      · obtain ⟨b, off, a0, a1, a2, a3, rfl, hv, hb, d0, d1, d2, d3⟩ := visit_at (HS.out.ext hE) hlt
        have HNk := Lib.hid (HN.out (a0, a1, a2, a3) (List.mem_of_getElem? hv))
        have HT : Hid ((vs.take (k + 1)).map (fun v => numsText (visitNums v)) = (vs.take k).map (fun v => numsText (visitNums v)) ++ [numsText (visitNums (a0, a1, a2, a3))]) := by
          show _ = _
          rw [take_snocL hv]; simp
        clear hv
        go_wp2_with fail
        refine (HNk.out _ _ (hE.trans (by (repeat' (first | exact Ext.refl _ | (with_reducible assumption) | (with_reducible refine Ext.alloc ?_ _) | (with_reducible refine Ext.setCell ?_ (by first | exact Nat.le_refl _ | (dsimp only; omega) | (simp; done) | (simp; omega)) _) | (with_reducible refine Ext.drew ?_) | (with_reducible refine Ext.drewN ?_ _) | (refine Ext.trans ?_ (by with_reducible assumption)))))) (by
          have := (Blk.new (wr.alloc (.cells #[.int .i64 a0, .int .i64 a1, .int .i64 a2, .int .i64 a3] 99)) TI #[.int .i64 a0, .int .i64 a1, .int .i64 a2, .int .i64 a3]).sl (n := 4) rfl (by simp [maxLen])
          simpa [ivs, visitNums] using this)).mono ?_
        rintro e w2 ⟨rfl, hx2⟩
        have hE2 : Ext wr w2 := by (repeat' (first | exact Ext.refl _ | (with_reducible assumption) | (with_reducible refine Ext.alloc ?_ _) | (with_reducible refine Ext.setCell ?_ (by first | exact Nat.le_refl _ | (dsimp only; omega) | (simp; done) | (simp; omega)) _) | (with_reducible refine Ext.drew ?_) | (with_reducible refine Ext.drewN ?_ _) | (refine Ext.trans ?_ (by with_reducible assumption))))
        have HO2 := Lib.hid (own_ext HO.out hE2)
        have hsz2 : wr.heap.size ≤ w2.heap.size := hE2.sz
        have hEw := Lib.hid (hE.trans hE2)
        clear hx2 hE2 HO d0 d1 d2 d3
        go_wp2_with (at_builtin; refine wpList_append_str rfl _ _ rfl (w.heap.size + 1) _ _ _ rfl (HO2.out.alloc _) _ _ (numsText (visitNums (a0, a1, a2, a3))) _ rfl (by simp) (by omega) (by first | (simp; done) | (simp; omega) | omega) ?_; intro p2' cap' w3 hown1 hg1; have HO3 := Lib.hid hown1; have hE3 : Ext w w3 := Ext.own (hEw.out.alloc _) (HO2.out.alloc _) hg1 (by omega); have hsz3 : w2.heap.size ≤ w3.heap.size := Nat.le_trans (by simp) hg1.size; clear hown1 hg1)
        go_roundw
        case rel => exact ⟨k + 1, p2', cap', by omega, by go_num, rfl, by rw [HT.out, ← List.append_assoc]; exact HO3.out, hE3, by omega⟩
        case measure => simp [intOf]; omega
      · have hfin : Hid (wr.ownsRow (w.heap.size + 1) 9 1 (.slice p' (4 + k) cp) (4 + k) (strV ([p1, p2, p3, p4] ++ vs.map (fun v => numsText (visitNums v))))) := by
          have := HO.out
          rw [List.take_of_length_le (by rw [hl.out]; omega)] at this
          exact this
        have hkm : k ≤ 12 := by omega
        have hlen : Hid (([p1, p2, p3, p4] ++ vs.map (fun v => numsText (visitNums v))).length = 4 + k) := by show _ = _; simp [hl.out]; omega
        clear HO
        go_wp2_with fail
        refine (join_any ([p1, p2, p3, p4] ++ vs.map (fun v => numsText (visitNums v))) 59 _ (4 + k) cp _ hlen.out (by omega) (Sl.own hfin.out) HL.out (by omega)).mono ?_
        rintro e w1 ⟨rfl, h1⟩
        go_wp2
        go_ret
        exact ⟨rfl, by (repeat' (first | exact Ext.refl _ | (with_reducible assumption) | (with_reducible refine Ext.alloc ?_ _) | (with_reducible refine Ext.setCell ?_ (by first | exact Nat.le_refl _ | (dsimp only; omega) | (simp; done) | (simp; omega)) _) | (with_reducible refine Ext.drew ?_) | (with_reducible refine Ext.drewN ?_ _) | (refine Ext.trans ?_ (by with_reducible assumption))))⟩

set_option maxRecDepth 100000 in
set_option maxHeartbeats 1000000 in
theorem implHtext_bad (wide deep free step price capp clock bank : Int) (p : Option Addr) (n cap : Nat) (q : Option Addr) (m c2 : Nat) (w : World)
    (HV : Hid (∀ w', Ext w w' → Calls Tryd.prog 30 #[.agg #[.int .i64 wide, .int .i64 deep, .slice p n cap, .int .i64 free, .int .i64 step, .int .i64 price, .int .i64 capp, .int .i64 clock, .int .i64 bank, .slice q m c2]] w' fun e w'' => e = .returned (.bool false) ∧ Ext w' w'')) :
    Calls Tryd.prog 21 #[.agg #[.int .i64 wide, .int .i64 deep, .slice p n cap, .int .i64 free, .int .i64 step, .int .i64 price, .int .i64 capp, .int .i64 clock, .int .i64 bank, .slice q m c2]] w fun e w' => e = .returned (str []) ∧ Ext w w' := by
  go_enter Tryd.func21, Tryd.ntmps21
  go_wp2_with fail
  refine (HV.out _ (by (repeat' (first | exact Ext.refl _ | (with_reducible assumption) | (with_reducible refine Ext.alloc ?_ _) | (with_reducible refine Ext.setCell ?_ (by first | exact Nat.le_refl _ | (dsimp only; omega) | (simp; done) | (simp; omega)) _) | (with_reducible refine Ext.drew ?_) | (with_reducible refine Ext.drewN ?_ _) | (refine Ext.trans ?_ (by with_reducible assumption)))))).mono ?_
  rintro e w0 ⟨rfl, hh0⟩
  go_wp2
  go_ret
  exact ⟨rfl, by (repeat' (first | exact Ext.refl _ | (with_reducible assumption) | (with_reducible refine Ext.alloc ?_ _) | (with_reducible refine Ext.setCell ?_ (by first | exact Nat.le_refl _ | (dsimp only; omega) | (simp; done) | (simp; omega)) _) | (with_reducible refine Ext.drew ?_) | (with_reducible refine Ext.drewN ?_ _) | (refine Ext.trans ?_ (by with_reducible assumption))))⟩
theorem join_len (c : UInt8) (M : Nat) (x : List UInt8) (r : List (List UInt8)) (hx : x.length ≤ M) (h : ∀ y ∈ r, y.length ≤ M) : (joinB c (x :: r)).length ≤ (M + 1) * (r.length + 1) := by
  have := tail_len c M r h
  simp only [joinB, List.length_append]
  rw [Nat.mul_succ]
  unfold tailB at *
  omega
theorem implHouseText (h : HouseD) (p : Option Addr) (n cap : Nat) (q : Option Addr) (m c2 : Nat) (w : World) (hE : Env w) (hi : IsHouse w h p n cap q m c2) :
    Calls Tryd.prog 21 #[houseV h p n cap q m c2] w fun e w' => e = .returned (str (houseText h)) ∧ Ext w w' := by
  have HV := fun (w' : World) (hx : Ext w w') => implHouse h p n cap q m c2 w' (hi.ext hx)
  have hvl := hi.vlen
  unfold houseText
  cases hok : houseOk h with
  | false =>
    rw [hok] at HV
    simpa using implHtext_bad h.wide h.deep h.free h.step h.price h.capp h.clock h.bank p n cap q m c2 w HV
  | true =>
    rw [hok] at HV
    obtain ⟨g0, g1, g2, g3, g4, g5, g6, g7, g8, g9, g10, g11, g12, g13, g14⟩ := house_nums hok
    rw [if_pos rfl]
    have e : houseParts h = [hallText h.wide h.deep h.cells, numsText [h.free, h.step, h.price, h.capp], numsText [h.clock], numsText [h.bank]] ++ h.vs.map (fun v => numsText (visitNums v)) := by
      rw [numsText_one, numsText_one]; rfl
    rw [e]
    have l1 : (hallText h.wide h.deep h.cells).length ≤ 400 := hallText_len
    have l2 := nums_len4 h.free h.step h.price h.capp (by omega) (by omega) (by omega) (by omega)
    have l3 := dec_len h.clock (by omega)
    have l4 := dec_len h.bank (by omega)
    rw [← numsText_one] at l3 l4
    have lv : ∀ v ∈ h.vs, (numsText (visitNums v)).length ≤ 90 := fun v hv => by
      have := g14 v hv
      exact nums_len4 _ _ _ _ (by omega) (by omega) (by omega) (by omega)
    have HL := join_len 59 400 (hallText h.wide h.deep h.cells) ([numsText [h.free, h.step, h.price, h.capp], numsText [h.clock], numsText [h.bank]] ++ h.vs.map (fun v => numsText (visitNums v))) l1 (fun y hy => by
      rcases List.mem_append.1 hy with hy | hy
      · simp only [List.mem_cons, List.not_mem_nil, or_false] at hy
        rcases hy with rfl | rfl | rfl <;> omega
      · obtain ⟨v, hv, rfl⟩ := List.mem_map.1 hy
        have := lv v hv; omega)
    have HL2 : (joinB 59 ([hallText h.wide h.deep h.cells, numsText [h.free, h.step, h.price, h.capp], numsText [h.clock], numsText [h.bank]] ++ h.vs.map (fun v => numsText (visitNums v)))).length ≤ 140737488355328 := by
      refine Nat.le_trans HL ?_
      simp only [List.length_append, List.length_map, List.length_cons, List.length_nil]
      omega
    exact implHtext_ok h.wide h.deep h.free h.step h.price h.capp h.clock h.bank p n cap q m c2 w h.vs _ _ _ _ (by omega) hvl hi.vs HL2
      (fun v hv w' g hx hs => implNumbers (some g) 4 4 (visitNums v) w' (by omega) (by omega) (fun x hx' => by
        have := g14 v hv
        simp only [visitNums, List.mem_cons, List.not_mem_nil, or_false] at hx'
        rcases hx' with rfl | rfl | rfl | rfl <;> omega) (hE.ext hx) hs)
      HV (fun w' hx => implHallText h.wide h.deep p n cap h.cells w' (hE.ext hx) (hi.cells.ext hx))
      (fun w' g hx hs => implNumbers (some g) 4 4 _ w' (by omega) (by omega) (fun x hx' => by
        simp only [List.mem_cons, List.not_mem_nil, or_false] at hx'
        rcases hx' with rfl | rfl | rfl | rfl <;> omega) (hE.ext hx) hs)
      (fun w' g hx hs => implNumbers (some g) 1 1 _ w' (by omega) (by omega) (fun x hx' => by
        simp only [List.mem_cons, List.not_mem_nil, or_false] at hx'
        subst hx'; omega) (hE.ext hx) hs)
      (fun w' g hx hs => implNumbers (some g) 1 1 _ w' (by omega) (by omega) (fun x hx' => by
        simp only [List.mem_cons, List.not_mem_nil, or_false] at hx'
        subst hx'; omega) (hE.ext hx) hs)
end Go.Proofs.YtncfnlocdlhagaaDoor

/-
  Both packages' SaveText. Conditions: the house's slices read as lists; the library's table is laid.
-/
namespace Go.Proofs.YtncfnlocdlhagaaDoor
open Go.RowKit
set_option linter.unusedVariables false
set_option linter.unusedSimpArgs false

theorem bszl (l : List UInt8) : (⟨l.toArray⟩ : ByteArray).size = l.length := by simp [ByteArray.size]
def saveText (h : HouseD) (e : Int) : List UInt8 := if houseOk h = true ∧ 0 ≤ e ∧ e ≤ 99 then withSum (dec e ++ [124] ++ houseText h) else []

theorem str_app3 (a b c : List UInt8) : Value.string (⟨a.toArray⟩ ++ ⟨b.toArray⟩ ++ ⟨c.toArray⟩) = str (a ++ b ++ c) := by
  apply congrArg Value.string
  apply ByteArray.ext
  simp
set_option maxRecDepth 100000 in
set_option maxHeartbeats 1000000 in
theorem implSave_bad (wide deep free step price capp clock bank : Int) (p : Option Addr) (n cap : Nat) (q : Option Addr) (m c2 : Nat) (e : Int) (t r : List UInt8) (w : World)
    (HV : Hid (∀ w', Ext w w' → Calls Tryd.prog 30 #[.agg #[.int .i64 wide, .int .i64 deep, .slice p n cap, .int .i64 free, .int .i64 step, .int .i64 price, .int .i64 capp, .int .i64 clock, .int .i64 bank, .slice q m c2]] w' fun e w'' => e = .returned (.bool false) ∧ Ext w' w'')) :
    Calls Tryd.prog 24 #[.agg #[.int .i64 wide, .int .i64 deep, .slice p n cap, .int .i64 free, .int .i64 step, .int .i64 price, .int .i64 capp, .int .i64 clock, .int .i64 bank, .slice q m c2], .int .i64 e] w fun e' w' => e' = .returned (str []) ∧ Ext w w' := by
  go_enter Tryd.func24, Tryd.ntmps24
  go_wp2_with fail
  refine (HV.out _ (by (repeat' (first | exact Ext.refl _ | (with_reducible assumption) | (with_reducible refine Ext.alloc ?_ _) | (with_reducible refine Ext.setCell ?_ (by first | exact Nat.le_refl _ | (dsimp only; omega) | (simp; done) | (simp; omega)) _) | (with_reducible refine Ext.drew ?_) | (with_reducible refine Ext.drewN ?_ _) | (refine Ext.trans ?_ (by with_reducible assumption)))))).mono ?_
  rintro e' w0 ⟨rfl, hh0⟩
  have B0 := Lib.hid ((Blk.new w 52 #[.int .i64 wide, .int .i64 deep, .slice p n cap, .int .i64 free, .int .i64 step, .int .i64 price, .int .i64 capp, .int .i64 clock, .int .i64 bank, .slice q m c2]).ext hh0)
  have X0 : Hid (Ext w w0) := by show Ext w w0; (repeat' (first | exact Ext.refl _ | (with_reducible assumption) | (with_reducible refine Ext.alloc ?_ _) | (with_reducible refine Ext.setCell ?_ (by first | exact Nat.le_refl _ | (dsimp only; omega) | (simp; done) | (simp; omega)) _) | (with_reducible refine Ext.drew ?_) | (with_reducible refine Ext.drewN ?_ _) | (refine Ext.trans ?_ (by with_reducible assumption))))
  have X0' := X0.out
  have hz0 : w.heap.size < w0.heap.size := B0.out.lt
  clear hh0
  go_wp2
  go_ret
  exact ⟨rfl, X0.out⟩
set_option maxRecDepth 100000 in
set_option maxHeartbeats 1000000 in
theorem implSave_out (wide deep free step price capp clock bank : Int) (p : Option Addr) (n cap : Nat) (q : Option Addr) (m c2 : Nat) (e : Int) (t r : List UInt8) (w : World) (h : e < 0 ∨ 0 ≤ e ∧ 99 < e)
    (HV : Hid (∀ w', Ext w w' → Calls Tryd.prog 30 #[.agg #[.int .i64 wide, .int .i64 deep, .slice p n cap, .int .i64 free, .int .i64 step, .int .i64 price, .int .i64 capp, .int .i64 clock, .int .i64 bank, .slice q m c2]] w' fun e w'' => e = .returned (.bool true) ∧ Ext w' w'')) :
    Calls Tryd.prog 24 #[.agg #[.int .i64 wide, .int .i64 deep, .slice p n cap, .int .i64 free, .int .i64 step, .int .i64 price, .int .i64 capp, .int .i64 clock, .int .i64 bank, .slice q m c2], .int .i64 e] w fun e' w' => e' = .returned (str []) ∧ Ext w w' := by
  rcases h with h | ⟨h, h2⟩
  all_goals
    (try (have hdd : decide (e ≤ 99) = false := by simp; omega))
    go_enter Tryd.func24, Tryd.ntmps24
    go_wp2_with fail
    refine (HV.out _ (by (repeat' (first | exact Ext.refl _ | (with_reducible assumption) | (with_reducible refine Ext.alloc ?_ _) | (with_reducible refine Ext.setCell ?_ (by first | exact Nat.le_refl _ | (dsimp only; omega) | (simp; done) | (simp; omega)) _) | (with_reducible refine Ext.drew ?_) | (with_reducible refine Ext.drewN ?_ _) | (refine Ext.trans ?_ (by with_reducible assumption)))))).mono ?_
    rintro e' w0 ⟨rfl, hh0⟩
    have B0 := Lib.hid ((Blk.new w 52 #[.int .i64 wide, .int .i64 deep, .slice p n cap, .int .i64 free, .int .i64 step, .int .i64 price, .int .i64 capp, .int .i64 clock, .int .i64 bank, .slice q m c2]).ext hh0)
    have X0 : Hid (Ext w w0) := by show Ext w w0; (repeat' (first | exact Ext.refl _ | (with_reducible assumption) | (with_reducible refine Ext.alloc ?_ _) | (with_reducible refine Ext.setCell ?_ (by first | exact Nat.le_refl _ | (dsimp only; omega) | (simp; done) | (simp; omega)) _) | (with_reducible refine Ext.drew ?_) | (with_reducible refine Ext.drewN ?_ _) | (refine Ext.trans ?_ (by with_reducible assumption))))
    have X0' := X0.out
    have hz0 : w.heap.size < w0.heap.size := B0.out.lt
    clear hh0
    go_wp2
    go_ret
    exact ⟨rfl, X0.out⟩
set_option maxRecDepth 100000 in
set_option maxHeartbeats 1000000 in
theorem specSave_bad (wide deep free step price capp clock bank : Int) (p : Option Addr) (n cap : Nat) (q : Option Addr) (m c2 : Nat) (e : Int) (t r : List UInt8) (w : World)
    (HV : Hid (∀ w', Ext w w' → Calls Tryd.prog 55 #[.agg #[.int .i64 wide, .int .i64 deep, .slice p n cap, .int .i64 free, .int .i64 step, .int .i64 price, .int .i64 capp, .int .i64 clock, .int .i64 bank, .slice q m c2]] w' fun e w'' => e = .returned (.bool false) ∧ Ext w' w'')) :
    Calls Tryd.prog 23 #[.agg #[.int .i64 wide, .int .i64 deep, .slice p n cap, .int .i64 free, .int .i64 step, .int .i64 price, .int .i64 capp, .int .i64 clock, .int .i64 bank, .slice q m c2], .int .i64 e] w fun e' w' => e' = .returned (str []) ∧ Ext w w' := by
  go_enter Tryd.func23, Tryd.ntmps23
  go_wp2_with fail
  refine (HV.out _ (by (repeat' (first | exact Ext.refl _ | (with_reducible assumption) | (with_reducible refine Ext.alloc ?_ _) | (with_reducible refine Ext.setCell ?_ (by first | exact Nat.le_refl _ | (dsimp only; omega) | (simp; done) | (simp; omega)) _) | (with_reducible refine Ext.drew ?_) | (with_reducible refine Ext.drewN ?_ _) | (refine Ext.trans ?_ (by with_reducible assumption)))))).mono ?_
  rintro e' w0 ⟨rfl, hh0⟩
  have B0 := Lib.hid ((Blk.new w 52 #[.int .i64 wide, .int .i64 deep, .slice p n cap, .int .i64 free, .int .i64 step, .int .i64 price, .int .i64 capp, .int .i64 clock, .int .i64 bank, .slice q m c2]).ext hh0)
  have X0 : Hid (Ext w w0) := by show Ext w w0; (repeat' (first | exact Ext.refl _ | (with_reducible assumption) | (with_reducible refine Ext.alloc ?_ _) | (with_reducible refine Ext.setCell ?_ (by first | exact Nat.le_refl _ | (dsimp only; omega) | (simp; done) | (simp; omega)) _) | (with_reducible refine Ext.drew ?_) | (with_reducible refine Ext.drewN ?_ _) | (refine Ext.trans ?_ (by with_reducible assumption))))
  have X0' := X0.out
  have hz0 : w.heap.size < w0.heap.size := B0.out.lt
  clear hh0
  go_wp2
  go_ret
  exact ⟨rfl, X0.out⟩
set_option maxRecDepth 100000 in
set_option maxHeartbeats 1000000 in
theorem specSave_out (wide deep free step price capp clock bank : Int) (p : Option Addr) (n cap : Nat) (q : Option Addr) (m c2 : Nat) (e : Int) (t r : List UInt8) (w : World) (h : e < 0 ∨ 0 ≤ e ∧ 99 < e)
    (HV : Hid (∀ w', Ext w w' → Calls Tryd.prog 55 #[.agg #[.int .i64 wide, .int .i64 deep, .slice p n cap, .int .i64 free, .int .i64 step, .int .i64 price, .int .i64 capp, .int .i64 clock, .int .i64 bank, .slice q m c2]] w' fun e w'' => e = .returned (.bool true) ∧ Ext w' w'')) :
    Calls Tryd.prog 23 #[.agg #[.int .i64 wide, .int .i64 deep, .slice p n cap, .int .i64 free, .int .i64 step, .int .i64 price, .int .i64 capp, .int .i64 clock, .int .i64 bank, .slice q m c2], .int .i64 e] w fun e' w' => e' = .returned (str []) ∧ Ext w w' := by
  rcases h with h | ⟨h, h2⟩
  all_goals
    (try (have hdd : decide (e ≤ 99) = false := by simp; omega))
    go_enter Tryd.func23, Tryd.ntmps23
    go_wp2_with fail
    refine (HV.out _ (by (repeat' (first | exact Ext.refl _ | (with_reducible assumption) | (with_reducible refine Ext.alloc ?_ _) | (with_reducible refine Ext.setCell ?_ (by first | exact Nat.le_refl _ | (dsimp only; omega) | (simp; done) | (simp; omega)) _) | (with_reducible refine Ext.drew ?_) | (with_reducible refine Ext.drewN ?_ _) | (refine Ext.trans ?_ (by with_reducible assumption)))))).mono ?_
    rintro e' w0 ⟨rfl, hh0⟩
    have B0 := Lib.hid ((Blk.new w 52 #[.int .i64 wide, .int .i64 deep, .slice p n cap, .int .i64 free, .int .i64 step, .int .i64 price, .int .i64 capp, .int .i64 clock, .int .i64 bank, .slice q m c2]).ext hh0)
    have X0 : Hid (Ext w w0) := by show Ext w w0; (repeat' (first | exact Ext.refl _ | (with_reducible assumption) | (with_reducible refine Ext.alloc ?_ _) | (with_reducible refine Ext.setCell ?_ (by first | exact Nat.le_refl _ | (dsimp only; omega) | (simp; done) | (simp; omega)) _) | (with_reducible refine Ext.drew ?_) | (with_reducible refine Ext.drewN ?_ _) | (refine Ext.trans ?_ (by with_reducible assumption))))
    have X0' := X0.out
    have hz0 : w.heap.size < w0.heap.size := B0.out.lt
    clear hh0
    go_wp2_with go_in
    go_ret
    exact ⟨rfl, X0.out⟩
set_option maxRecDepth 100000 in
set_option maxHeartbeats 1000000 in
theorem implSave_ok (wide deep free step price capp clock bank : Int) (p : Option Addr) (n cap : Nat) (q : Option Addr) (m c2 : Nat) (e : Int) (t r : List UInt8) (w : World) (h0 : 0 ≤ e) (h1 : e ≤ 99) (hd : (dec e).length ≤ 21) (ht : t.length ≤ 100000)
    (HV : Hid (∀ w', Ext w w' → Calls Tryd.prog 30 #[.agg #[.int .i64 wide, .int .i64 deep, .slice p n cap, .int .i64 free, .int .i64 step, .int .i64 price, .int .i64 capp, .int .i64 clock, .int .i64 bank, .slice q m c2]] w' fun e w'' => e = .returned (.bool true) ∧ Ext w' w''))
    (HT : Hid (∀ w', Ext w w' → Calls Tryd.prog 21 #[.agg #[.int .i64 wide, .int .i64 deep, .slice p n cap, .int .i64 free, .int .i64 step, .int .i64 price, .int .i64 capp, .int .i64 clock, .int .i64 bank, .slice q m c2]] w' fun e' w'' => e' = .returned (str t) ∧ Ext w' w''))
    (HN : Hid (∀ w', Ext w w' → Calls Tryd.prog 48 #[.int .i64 e] w' fun e' w'' => e' = .returned (str (dec e)) ∧ Ext w' w''))
    (HW : Hid (∀ w', Ext w w' → Calls Tryd.prog 47 #[.string ((⟨(dec e).toArray⟩ : ByteArray) ++ (⟨#[124]⟩ : ByteArray) ++ (⟨t.toArray⟩ : ByteArray))] w' fun e' w'' => e' = .returned (str r) ∧ Ext w' w'')) :
    Calls Tryd.prog 24 #[.agg #[.int .i64 wide, .int .i64 deep, .slice p n cap, .int .i64 free, .int .i64 step, .int .i64 price, .int .i64 capp, .int .i64 clock, .int .i64 bank, .slice q m c2], .int .i64 e] w fun e' w' => e' = .returned (str r) ∧ Ext w w' := by
  go_enter Tryd.func24, Tryd.ntmps24
  go_wp2_with fail
  refine (HV.out _ (by (repeat' (first | exact Ext.refl _ | (with_reducible assumption) | (with_reducible refine Ext.alloc ?_ _) | (with_reducible refine Ext.setCell ?_ (by first | exact Nat.le_refl _ | (dsimp only; omega) | (simp; done) | (simp; omega)) _) | (with_reducible refine Ext.drew ?_) | (with_reducible refine Ext.drewN ?_ _) | (refine Ext.trans ?_ (by with_reducible assumption)))))).mono ?_
  rintro e' w0 ⟨rfl, hh0⟩
  have B0 := Lib.hid ((Blk.new w 52 #[.int .i64 wide, .int .i64 deep, .slice p n cap, .int .i64 free, .int .i64 step, .int .i64 price, .int .i64 capp, .int .i64 clock, .int .i64 bank, .slice q m c2]).ext hh0)
  have X0 : Hid (Ext w w0) := by show Ext w w0; (repeat' (first | exact Ext.refl _ | (with_reducible assumption) | (with_reducible refine Ext.alloc ?_ _) | (with_reducible refine Ext.setCell ?_ (by first | exact Nat.le_refl _ | (dsimp only; omega) | (simp; done) | (simp; omega)) _) | (with_reducible refine Ext.drew ?_) | (with_reducible refine Ext.drewN ?_ _) | (refine Ext.trans ?_ (by with_reducible assumption))))
  have X0' := X0.out
  have hz0 : w.heap.size < w0.heap.size := B0.out.lt
  clear hh0
  go_wp2
  refine region_lin (gl [gEq (.int .i64 e), gEq (str (dec e)), gEq (.string ((⟨(dec e).toArray⟩ : ByteArray) ++ (⟨#[124]⟩ : ByteArray))), gEq (.agg #[.int .i64 wide, .int .i64 deep, .slice p n cap, .int .i64 free, .int .i64 step, .int .i64 price, .int .i64 capp, .int .i64 clock, .int .i64 bank, .slice q m c2]), gEq (str t), gEq (.string ((⟨(dec e).toArray⟩ : ByteArray) ++ (⟨#[124]⟩ : ByteArray) ++ (⟨t.toArray⟩ : ByteArray))), gEq (str r)]) 7 (by kernel_rfl) rfl (by kernel_rfl) (by kernel_rfl) (by kernel_rfl) (gl_mono (gl_cons (gEq_mono _) (gl_cons (gEq_mono _) (gl_cons (gEq_mono _) (gl_cons (gEq_mono _) (gl_cons (gEq_mono _) (gl_cons (gEq_mono _) (gl_cons (gEq_mono _) (gl_nil))))))))) (k := 8) (by kernel_rfl) (by decide) (ls := [(0, some 16), (1, some 17), (2, some 18), (3, some 19), (4, some 20), (5, some 21), (6, some 22)]) (by kernel_rfl) (ir := [0, 1, 2, 3, 4, 5, 6]) (by kernel_rfl) ?steps (tl := #[true, true, true, true, true, true, true, false]) (by kernel_rfl) ?fin
  case steps =>
    refine StepsL.cons (ps := []) rfl (by kernel_rfl) (fun wi hx => ?_) ?_
    · intro K hK
      go_simp
      exact hK _ _ ⟨.int .i64 e, rfl, rfl, Ext.refl _⟩
    refine StepsL.cons (ps := [(0, some 16)]) rfl (by kernel_rfl) (fun wi hx => ?_) ?_
    · intro v0 h0 K hK
      obtain rfl := h0
      go_wp2_with fail
      refine (HN.out _ (by (repeat' (first | exact Ext.refl _ | (with_reducible assumption) | (with_reducible refine Ext.alloc ?_ _) | (with_reducible refine Ext.setCell ?_ (by first | exact Nat.le_refl _ | (dsimp only; omega) | (simp; done) | (simp; omega)) _) | (with_reducible refine Ext.drew ?_) | (with_reducible refine Ext.drewN ?_ _) | (refine Ext.trans ?_ (by with_reducible assumption)))))).mono ?_
      rintro e2 w2 ⟨rfl, hx2⟩
      go_simp
      exact hK _ _ ⟨str (dec e), rfl, rfl, hx2⟩
    refine StepsL.cons (ps := [(1, some 17)]) rfl (by kernel_rfl) (fun wi hx => ?_) ?_
    · intro v1 h1 K hK
      obtain rfl := h1
      have s1 : ¬ 9223372036854775807 < (dec e).length + 1 := by omega
      go_simp
      exact hK _ _ ⟨.string ((⟨(dec e).toArray⟩ : ByteArray) ++ (⟨#[124]⟩ : ByteArray)), rfl, rfl, Ext.refl _⟩
    refine StepsL.cons (ps := []) rfl (by kernel_rfl) (fun wi hx => ?_) ?_
    · intro K hK
      have B := Lib.hid (B0.out.ext hx.of_drew)
      have cc0 : wi.cell? ⟨w.heap.size, 0, none⟩ = some (.int .i64 wide) := B.out.cell 0
      have cc1 : wi.cell? ⟨w.heap.size, 1, none⟩ = some (.int .i64 deep) := B.out.cell 1
      have cc2 : wi.cell? ⟨w.heap.size, 2, none⟩ = some (.slice p n cap) := B.out.cell 2
      have cc3 : wi.cell? ⟨w.heap.size, 3, none⟩ = some (.int .i64 free) := B.out.cell 3
      have cc4 : wi.cell? ⟨w.heap.size, 4, none⟩ = some (.int .i64 step) := B.out.cell 4
      have cc5 : wi.cell? ⟨w.heap.size, 5, none⟩ = some (.int .i64 price) := B.out.cell 5
      have cc6 : wi.cell? ⟨w.heap.size, 6, none⟩ = some (.int .i64 capp) := B.out.cell 6
      have cc7 : wi.cell? ⟨w.heap.size, 7, none⟩ = some (.int .i64 clock) := B.out.cell 7
      have cc8 : wi.cell? ⟨w.heap.size, 8, none⟩ = some (.int .i64 bank) := B.out.cell 8
      have cc9 : wi.cell? ⟨w.heap.size, 9, none⟩ = some (.slice q m c2) := B.out.cell 9
      go_simp
      exact hK _ _ ⟨.agg #[.int .i64 wide, .int .i64 deep, .slice p n cap, .int .i64 free, .int .i64 step, .int .i64 price, .int .i64 capp, .int .i64 clock, .int .i64 bank, .slice q m c2], rfl, rfl, Ext.refl _⟩
    refine StepsL.cons (ps := [(3, some 19), (1, some 17)]) rfl (by kernel_rfl) (fun wi hx => ?_) ?_
    · intro v3 h3 v1 h1 K hK
      obtain rfl := h3
      obtain rfl := h1
      go_wp2_with fail
      refine (HT.out _ (by (repeat' (first | exact Ext.refl _ | (with_reducible assumption) | (with_reducible refine Ext.alloc ?_ _) | (with_reducible refine Ext.setCell ?_ (by first | exact Nat.le_refl _ | (dsimp only; omega) | (simp; done) | (simp; omega)) _) | (with_reducible refine Ext.drew ?_) | (with_reducible refine Ext.drewN ?_ _) | (refine Ext.trans ?_ (by with_reducible assumption)))))).mono ?_
      rintro e2 w2 ⟨rfl, hx2⟩
      go_simp
      exact hK _ _ ⟨str t, rfl, rfl, hx2⟩
    refine StepsL.cons (ps := [(2, some 18), (4, some 20)]) rfl (by kernel_rfl) (fun wi hx => ?_) ?_
    · intro v2 h2 v4 h4 K hK
      obtain rfl := h2
      obtain rfl := h4
      have s2 : ¬ 9223372036854775807 < (dec e).length + 1 + t.length := by omega
      go_simp
      exact hK _ _ ⟨.string ((⟨(dec e).toArray⟩ : ByteArray) ++ (⟨#[124]⟩ : ByteArray) ++ (⟨t.toArray⟩ : ByteArray)), rfl, rfl, Ext.refl _⟩
    refine StepsL.cons (ps := [(5, some 21), (4, some 20)]) rfl (by kernel_rfl) (fun wi hx => ?_) StepsL.nil
    · intro v5 h5 v4 h4 K hK
      obtain rfl := h5
      obtain rfl := h4
      go_wp2_with fail
      refine (HW.out _ (by (repeat' (first | exact Ext.refl _ | (with_reducible assumption) | (with_reducible refine Ext.alloc ?_ _) | (with_reducible refine Ext.setCell ?_ (by first | exact Nat.le_refl _ | (dsimp only; omega) | (simp; done) | (simp; omega)) _) | (with_reducible refine Ext.drew ?_) | (with_reducible refine Ext.drewN ?_ _) | (refine Ext.trans ?_ (by with_reducible assumption)))))).mono ?_
      rintro e2 w2 ⟨rfl, hx2⟩
      go_simp
      exact hK _ _ ⟨str r, rfl, rfl, hx2⟩
  case fin =>
    intro wi hx v0 h0 v1 h1 v2 h2 v3 h3 v4 h4 v5 h5 v6 h6
    obtain rfl := h0
    obtain rfl := h1
    obtain rfl := h2
    obtain rfl := h3
    obtain rfl := h4
    obtain rfl := h5
    obtain rfl := h6
    refine wpAny_ready (rs := [7]) (by kernel_rfl) (by simp) ?_
    refine AllReady.cons rfl (fun K hK => ?_) AllReady.nil
    go_simp
    refine hK _ _ ?_
    clear hK K
    refine wpAny_done (by kernel_rfl) ?_ _
    have X1 := Lib.hid (X0.out.trans hx.of_drew)
    clear hx
    go_wp2
    go_ret
    exact ⟨rfl, X1.out⟩

set_option maxRecDepth 100000 in
set_option maxHeartbeats 1000000 in
theorem specSave_ok (wide deep free step price capp clock bank : Int) (p : Option Addr) (n cap : Nat) (q : Option Addr) (m c2 : Nat) (e : Int) (t r : List UInt8) (w : World) (h0 : 0 ≤ e) (h1 : e ≤ 99) (hd : (dec e).length ≤ 21) (ht : t.length ≤ 100000)
    (HV : Hid (∀ w', Ext w w' → Calls Tryd.prog 55 #[.agg #[.int .i64 wide, .int .i64 deep, .slice p n cap, .int .i64 free, .int .i64 step, .int .i64 price, .int .i64 capp, .int .i64 clock, .int .i64 bank, .slice q m c2]] w' fun e w'' => e = .returned (.bool true) ∧ Ext w' w''))
    (HT : Hid (∀ w', Ext w w' → Calls Tryd.prog 19 #[.agg #[.int .i64 wide, .int .i64 deep, .slice p n cap, .int .i64 free, .int .i64 step, .int .i64 price, .int .i64 capp, .int .i64 clock, .int .i64 bank, .slice q m c2]] w' fun e' w'' => e' = .returned (str t) ∧ Ext w' w''))
    (HN : Hid (∀ w', Ext w w' → Calls Tryd.prog 58 #[.int .i64 e] w' fun e' w'' => e' = .returned (str (dec e)) ∧ Ext w' w'')) :
    Calls Tryd.prog 23 #[.agg #[.int .i64 wide, .int .i64 deep, .slice p n cap, .int .i64 free, .int .i64 step, .int .i64 price, .int .i64 capp, .int .i64 clock, .int .i64 bank, .slice q m c2], .int .i64 e] w fun e' w' => e' = .returned (str (withSum (dec e ++ [124] ++ t))) ∧ Ext w w' := by
  obtain ⟨u, hu'⟩ : ∃ u, u = dec e ++ [124] ++ t := ⟨_, rfl⟩
  have hul0 : u.length ≤ 200000 := by rw [hu']; simp only [List.length_append, List.length_cons, List.length_nil]; omega
  have hu := Lib.hid hu'
  clear hu'
  have q1 : decide (e ≤ 99) = true := by simp [h1]
  go_enter Tryd.func23, Tryd.ntmps23
  go_wp2_with fail
  refine (HV.out _ (by (repeat' (first | exact Ext.refl _ | (with_reducible assumption) | (with_reducible refine Ext.alloc ?_ _) | (with_reducible refine Ext.setCell ?_ (by first | exact Nat.le_refl _ | (dsimp only; omega) | (simp; done) | (simp; omega)) _) | (with_reducible refine Ext.drew ?_) | (with_reducible refine Ext.drewN ?_ _) | (refine Ext.trans ?_ (by with_reducible assumption)))))).mono ?_
  rintro e' w0 ⟨rfl, hh0⟩
  have B0 := Lib.hid ((Blk.new w 52 #[.int .i64 wide, .int .i64 deep, .slice p n cap, .int .i64 free, .int .i64 step, .int .i64 price, .int .i64 capp, .int .i64 clock, .int .i64 bank, .slice q m c2]).ext hh0)
  have X0 : Hid (Ext w w0) := by show Ext w w0; (repeat' (first | exact Ext.refl _ | (with_reducible assumption) | (with_reducible refine Ext.alloc ?_ _) | (with_reducible refine Ext.setCell ?_ (by first | exact Nat.le_refl _ | (dsimp only; omega) | (simp; done) | (simp; omega)) _) | (with_reducible refine Ext.drew ?_) | (with_reducible refine Ext.drewN ?_ _) | (refine Ext.trans ?_ (by with_reducible assumption))))
  have X0' := X0.out
  have hz0 : w.heap.size < w0.heap.size := B0.out.lt
  clear hh0
  go_wp2_with go_in
  refine region_lin (gl [gEq (.int .i64 e), gEq (str (dec e)), gEq (.string ((⟨(dec e).toArray⟩ : ByteArray) ++ (⟨#[124]⟩ : ByteArray))), gEq (.agg #[.int .i64 wide, .int .i64 deep, .slice p n cap, .int .i64 free, .int .i64 step, .int .i64 price, .int .i64 capp, .int .i64 clock, .int .i64 bank, .slice q m c2]), gEq (str t), gEq (.string ((⟨(dec e).toArray⟩ : ByteArray) ++ (⟨#[124]⟩ : ByteArray) ++ (⟨t.toArray⟩ : ByteArray)))]) 6 (by kernel_rfl) rfl (by kernel_rfl) (by kernel_rfl) (by kernel_rfl) (gl_mono (gl_cons (gEq_mono _) (gl_cons (gEq_mono _) (gl_cons (gEq_mono _) (gl_cons (gEq_mono _) (gl_cons (gEq_mono _) (gl_cons (gEq_mono _) (gl_nil)))))))) (k := 7) (by kernel_rfl) (by decide) (ls := [(0, some 14), (1, some 15), (2, some 16), (3, some 17), (4, some 18), (5, some 19)]) (by kernel_rfl) (ir := [0, 1, 2, 3, 4, 5]) (by kernel_rfl) ?steps (tl := #[true, true, true, true, true, true, false]) (by kernel_rfl) ?fin
  case steps =>
    refine StepsL.cons (ps := []) rfl (by kernel_rfl) (fun wi hx => ?_) ?_
    · intro K hK
      go_simp
      exact hK _ _ ⟨.int .i64 e, rfl, rfl, Ext.refl _⟩
    refine StepsL.cons (ps := [(0, some 14)]) rfl (by kernel_rfl) (fun wi hx => ?_) ?_
    · intro v0 h0 K hK
      obtain rfl := h0
      go_wp2_with fail
      refine (HN.out _ (by (repeat' (first | exact Ext.refl _ | (with_reducible assumption) | (with_reducible refine Ext.alloc ?_ _) | (with_reducible refine Ext.setCell ?_ (by first | exact Nat.le_refl _ | (dsimp only; omega) | (simp; done) | (simp; omega)) _) | (with_reducible refine Ext.drew ?_) | (with_reducible refine Ext.drewN ?_ _) | (refine Ext.trans ?_ (by with_reducible assumption)))))).mono ?_
      rintro e2 w2 ⟨rfl, hx2⟩
      go_simp
      exact hK _ _ ⟨str (dec e), rfl, rfl, hx2⟩
    refine StepsL.cons (ps := [(1, some 15)]) rfl (by kernel_rfl) (fun wi hx => ?_) ?_
    · intro v1 h1 K hK
      obtain rfl := h1
      have s1 : ¬ 9223372036854775807 < (dec e).length + 1 := by omega
      go_simp
      exact hK _ _ ⟨.string ((⟨(dec e).toArray⟩ : ByteArray) ++ (⟨#[124]⟩ : ByteArray)), rfl, rfl, Ext.refl _⟩
    refine StepsL.cons (ps := []) rfl (by kernel_rfl) (fun wi hx => ?_) ?_
    · intro K hK
      have B := Lib.hid (B0.out.ext hx.of_drew)
      have cc0 : wi.cell? ⟨w.heap.size, 0, none⟩ = some (.int .i64 wide) := B.out.cell 0
      have cc1 : wi.cell? ⟨w.heap.size, 1, none⟩ = some (.int .i64 deep) := B.out.cell 1
      have cc2 : wi.cell? ⟨w.heap.size, 2, none⟩ = some (.slice p n cap) := B.out.cell 2
      have cc3 : wi.cell? ⟨w.heap.size, 3, none⟩ = some (.int .i64 free) := B.out.cell 3
      have cc4 : wi.cell? ⟨w.heap.size, 4, none⟩ = some (.int .i64 step) := B.out.cell 4
      have cc5 : wi.cell? ⟨w.heap.size, 5, none⟩ = some (.int .i64 price) := B.out.cell 5
      have cc6 : wi.cell? ⟨w.heap.size, 6, none⟩ = some (.int .i64 capp) := B.out.cell 6
      have cc7 : wi.cell? ⟨w.heap.size, 7, none⟩ = some (.int .i64 clock) := B.out.cell 7
      have cc8 : wi.cell? ⟨w.heap.size, 8, none⟩ = some (.int .i64 bank) := B.out.cell 8
      have cc9 : wi.cell? ⟨w.heap.size, 9, none⟩ = some (.slice q m c2) := B.out.cell 9
      go_simp
      exact hK _ _ ⟨.agg #[.int .i64 wide, .int .i64 deep, .slice p n cap, .int .i64 free, .int .i64 step, .int .i64 price, .int .i64 capp, .int .i64 clock, .int .i64 bank, .slice q m c2], rfl, rfl, Ext.refl _⟩
    refine StepsL.cons (ps := [(3, some 17), (1, some 15)]) rfl (by kernel_rfl) (fun wi hx => ?_) ?_
    · intro v3 h3 v1 h1 K hK
      obtain rfl := h3
      obtain rfl := h1
      go_wp2_with fail
      refine (HT.out _ (by (repeat' (first | exact Ext.refl _ | (with_reducible assumption) | (with_reducible refine Ext.alloc ?_ _) | (with_reducible refine Ext.setCell ?_ (by first | exact Nat.le_refl _ | (dsimp only; omega) | (simp; done) | (simp; omega)) _) | (with_reducible refine Ext.drew ?_) | (with_reducible refine Ext.drewN ?_ _) | (refine Ext.trans ?_ (by with_reducible assumption)))))).mono ?_
      rintro e2 w2 ⟨rfl, hx2⟩
      go_simp
      exact hK _ _ ⟨str t, rfl, rfl, hx2⟩
    refine StepsL.cons (ps := [(2, some 16), (4, some 18)]) rfl (by kernel_rfl) (fun wi hx => ?_) StepsL.nil
    · intro v2 h2 v4 h4 K hK
      obtain rfl := h2
      obtain rfl := h4
      have s2 : ¬ 9223372036854775807 < (dec e).length + 1 + t.length := by omega
      go_simp
      exact hK _ _ ⟨.string ((⟨(dec e).toArray⟩ : ByteArray) ++ (⟨#[124]⟩ : ByteArray) ++ (⟨t.toArray⟩ : ByteArray)), rfl, rfl, Ext.refl _⟩
  case fin =>
    intro wi hx v0 h0 v1 h1 v2 h2 v3 h3 v4 h4 v5 h5
    obtain rfl := h0
    obtain rfl := h1
    obtain rfl := h2
    obtain rfl := h3
    obtain rfl := h4
    obtain rfl := h5
    refine wpAny_ready (rs := [6]) (by kernel_rfl) (by simp) ?_
    refine AllReady.cons rfl (fun K hK => ?_) AllReady.nil
    go_simp
    refine hK _ _ ?_
    clear hK K
    refine wpAny_done (by kernel_rfl) ?_ _
    have X1 := Lib.hid (X0.out.trans hx.of_drew)
    clear hx
    have eq : (Value.string (⟨(dec e).toArray⟩ ++ ⟨#[124]⟩ ++ ⟨t.toArray⟩)) = str u := by rw [hu.out]; exact str_app3 _ _ _
    rw [eq]
    clear eq
    have hul : ¬ 9223372036854775807 < u.length + 1 := by omega
    have hub := sum_len u
    have hul2 : ¬ 9223372036854775807 < u.length + 1 + (Lib.decDigits (sumL u).toNat).length := by omega
    have hb := sumL_bd u
    go_wp2_with fail
    refine (specSumStr u _ (by unfold maxLen; omega)).mono ?_
    rintro e2 w3 ⟨rfl, rfl⟩
    go_wp2_with fail
    refine (l1Num (sumL u) _ (by omega) (by omega)).mono ?_
    rintro e2 w4 ⟨rfl, h4⟩
    go_wp2
    go_ret
    exact ⟨by rw [← hu.out]; exact ret_str rfl, X1.out.trans (by (repeat' (first | exact Ext.refl _ | (with_reducible assumption) | (with_reducible refine Ext.alloc ?_ _) | (with_reducible refine Ext.setCell ?_ (by first | exact Nat.le_refl _ | (dsimp only; omega) | (simp; done) | (simp; omega)) _) | (with_reducible refine Ext.drew ?_) | (with_reducible refine Ext.drewN ?_ _) | (refine Ext.trans ?_ (by with_reducible assumption)))))⟩

theorem houseText_len {h : HouseD} : (houseText h).length ≤ 100000 := by
  unfold houseText
  cases hok : houseOk h with
  | false => simp
  | true =>
    rw [if_pos rfl]
    obtain ⟨g0, g1, g2, g3, g4, g5, g6, g7, g8, g9, g10, g11, g12, g13, g14⟩ := house_nums hok
    have l1 : (hallText h.wide h.deep h.cells).length ≤ 400 := hallText_len
    have l2 := nums_len4 h.free h.step h.price h.capp (by omega) (by omega) (by omega) (by omega)
    have l3 := dec_len h.clock (by omega)
    have l4 := dec_len h.bank (by omega)
    have lv : ∀ v ∈ h.vs, (numsText (visitNums v)).length ≤ 90 := fun v hv => by
      have := g14 v hv
      exact nums_len4 _ _ _ _ (by omega) (by omega) (by omega) (by omega)
    have HL := join_len 59 400 (hallText h.wide h.deep h.cells) (numsText [h.free, h.step, h.price, h.capp] :: dec h.clock :: dec h.bank :: h.vs.map (fun v => numsText (visitNums v))) l1 (fun y hy => by
      simp only [List.mem_cons] at hy
      rcases hy with rfl | rfl | rfl | hy
      · omega
      · omega
      · omega
      · obtain ⟨v, hv, rfl⟩ := List.mem_map.1 hy
        have := lv v hv; omega)
    refine Nat.le_trans HL ?_
    simp only [List.length_cons, List.length_map]
    omega
theorem implSaveText (h : HouseD) (e : Int) (p : Option Addr) (n cap : Nat) (q : Option Addr) (m c2 : Nat) (w : World) (hE : Env w) (hi : IsHouse w h p n cap q m c2) :
    Calls Tryd.prog 24 #[houseV h p n cap q m c2, .int .i64 e] w fun e' w' => e' = .returned (str (saveText h e)) ∧ Ext w w' := by
  have HV := fun (w' : World) (hx : Ext w w') => implHouse h p n cap q m c2 w' (hi.ext hx)
  unfold saveText
  cases hok : houseOk h with
  | false =>
    rw [hok] at HV
    simpa using implSave_bad h.wide h.deep h.free h.step h.price h.capp h.clock h.bank p n cap q m c2 e [] [] w HV
  | true =>
    rw [hok] at HV
    by_cases hr : 0 ≤ e ∧ e ≤ 99
    · rw [if_pos ⟨rfl, hr⟩]
      exact implSave_ok h.wide h.deep h.free h.step h.price h.capp h.clock h.bank p n cap q m c2 e (houseText h) (withSum (dec e ++ [124] ++ houseText h)) w hr.1 hr.2 (dec_len e (by omega)) houseText_len HV (fun w' hx => implHouseText h p n cap q m c2 w' (hE.ext hx) (hi.ext hx)) (fun w' hx => itoaI e w' hr.1 (by omega) (hE.ext hx)) (fun w' hx => by rw [show (Value.string (⟨(dec e).toArray⟩ ++ ⟨#[124]⟩ ++ ⟨(houseText h).toArray⟩)) = str (dec e ++ [124] ++ houseText h) from str_app3 _ _ _]; exact implWithSum _ w' (by have := houseText_len (h := h); have := dec_len e (by omega); simp only [List.length_append, List.length_cons, List.length_nil]; omega) (hE.ext hx))
    · rw [if_neg (fun hh => hr hh.2)]
      exact implSave_out h.wide h.deep h.free h.step h.price h.capp h.clock h.bank p n cap q m c2 e [] [] w (by omega) HV
theorem specSaveText (h : HouseD) (e : Int) (p : Option Addr) (n cap : Nat) (q : Option Addr) (m c2 : Nat) (w : World) (hi : IsHouse w h p n cap q m c2) :
    Calls Tryd.prog 23 #[houseV h p n cap q m c2, .int .i64 e] w fun e' w' => e' = .returned (str (saveText h e)) ∧ Ext w w' := by
  have HV := fun (w' : World) (hx : Ext w w') => specHouse h p n cap q m c2 w' (hi.ext hx)
  unfold saveText
  cases hok : houseOk h with
  | false =>
    rw [hok] at HV
    simpa using specSave_bad h.wide h.deep h.free h.step h.price h.capp h.clock h.bank p n cap q m c2 e [] [] w HV
  | true =>
    rw [hok] at HV
    by_cases hr : 0 ≤ e ∧ e ≤ 99
    · rw [if_pos ⟨rfl, hr⟩]
      exact specSave_ok h.wide h.deep h.free h.step h.price h.capp h.clock h.bank p n cap q m c2 e (houseText h) (withSum (dec e ++ [124] ++ houseText h)) w hr.1 hr.2 (dec_len e (by omega)) houseText_len HV (fun w' hx => specHouseText h p n cap q m c2 w' (hi.ext hx)) (fun w' hx => l1Num e w' hr.1 (by omega))
    · rw [if_neg (fun hh => hr hh.2)]
      exact specSave_out h.wide h.deep h.free h.step h.price h.capp h.clock h.bank p n cap q m c2 e [] [] w (by omega) HV
end Go.Proofs.YtncfnlocdlhagaaDoor
