/-
  strings.Join, laid at this seat's numbers by hand: the texts with the separator between them. Conditions: at most 2^40 bytes in all.
-/
import Derived.Test.YteejdnmmpmcmeaaGreatDoorEnv
import Derived.Test.YteejdnmmpmcmeaaGreatDoorSl
import Derived.Shelf.Strings.OnBuilder
import Derived.KernelRfl
import Derived.Test.YteejdnmmpmcmeaaGreatDoorQ1
import Derived.Test.YteejdnmmpmcmeaaGreatDoorAlive
import Derived.Test.YteejdnmmpmcmeaaGreatDoorHs
import Derived.Test.YteejdnmmpmcmeaaGreatDoorLin
import Derived.Test.YteejdnmmpmcmeaaGreatDoorEntry
namespace Go.Proofs.YteejdnmmpmcmeaaGreatDoor
open Go.RowKit
set_option linter.unusedVariables false

def lays156_ren : Go.Shelf.Ren := ⟨fun | 156 => 99 | 165 => 134 | 166 => 121 | 169 => 122 | 240 => 153 | 241 => 171 | 276 => 190 | 277 => 204 | n => n, fun | 0 => 0 | 3 => 3 | 4 => 4 | 5 => 5 | 9 => 9 | 20 => 20 | 31 => 77 | 37 => 22 | 70 => 116 | 72 => 118 | 75 => 120 | 76 => 122 | 80 => 124 | 127 => 147 | 164 => 174 | n => n, fun | n => n⟩
theorem lays156 : Go.Proofs.Lays.n156 Tryz.prog lays156_ren := {
  mixed := by kernel_rfl,
  f156 := Tryz.func99.trans (congrArg some (by kernel_rfl)),
  f165 := Tryz.func134.trans (congrArg some (by kernel_rfl)),
  f166 := Tryz.func121.trans (congrArg some (by kernel_rfl)),
  f169 := Tryz.func122.trans (congrArg some (by kernel_rfl)),
  f240 := Tryz.func153.trans (congrArg some (by kernel_rfl)),
  f241 := Tryz.func171.trans (congrArg some (by kernel_rfl)),
  f276 := Tryz.func190.trans (congrArg some (by kernel_rfl)),
  f277 := Tryz.func204.trans (congrArg some (by kernel_rfl)),
  t0 := Tryz.underlying0,
  a0 := Tryz.isAgg0,
  z0 := Tryz.sizeOf0,
  v0 := Tryz.zeroValue0,
  t3 := Tryz.underlying3,
  a3 := Tryz.isAgg3,
  z3 := Tryz.sizeOf3,
  v3 := Tryz.zeroValue3,
  t4 := Tryz.underlying4,
  a4 := Tryz.isAgg4,
  z4 := Tryz.sizeOf4,
  v4 := Tryz.zeroValue4,
  t9 := Tryz.underlying9,
  a9 := Tryz.isAgg9,
  z9 := Tryz.sizeOf9,
  v9 := Tryz.zeroValue9,
  t20 := Tryz.underlying20,
  a20 := Tryz.isAgg20,
  z20 := Tryz.sizeOf20,
  v20 := Tryz.zeroValue20,
  t31 := Tryz.underlying77,
  a31 := Tryz.isAgg77,
  z31 := Tryz.sizeOf77,
  v31 := Tryz.zeroValue77,
  t37 := Tryz.underlying22,
  a37 := Tryz.isAgg22,
  z37 := Tryz.sizeOf22,
  v37 := Tryz.zeroValue22,
  t70 := Tryz.underlying116,
  a70 := Tryz.isAgg116,
  z70 := Tryz.sizeOf116,
  v70 := Tryz.zeroValue116,
  t72 := Tryz.underlying118,
  a72 := Tryz.isAgg118,
  z72 := Tryz.sizeOf118,
  v72 := Tryz.zeroValue118,
  t75 := Tryz.underlying120,
  a75 := Tryz.isAgg120,
  z75 := Tryz.sizeOf120,
  v75 := Tryz.zeroValue120,
  t76 := Tryz.underlying122,
  a76 := Tryz.isAgg122,
  z76 := Tryz.sizeOf122,
  v76 := Tryz.zeroValue122,
  t127 := Tryz.underlying147,
  a127 := Tryz.isAgg147,
  z127 := Tryz.sizeOf147,
  v127 := Tryz.zeroValue147,
  t164 := Tryz.underlying174,
  a164 := Tryz.isAgg174,
  z164 := Tryz.sizeOf174,
  v164 := Tryz.zeroValue174 }
theorem extra156 : Go.Proofs.Builder.Extra Tryz.prog lays156_ren := {
  sizeBuilder := by kernel_rfl
  liesBuilder := by kernel_rfl
  t5 := Tryz.underlying5
  a5 := Tryz.isAgg5
  z5 := Tryz.sizeOf5
  v5 := Tryz.zeroValue5
  infoByte := by kernel_rfl
  cellsByte := by kernel_rfl
  sizeByte := by kernel_rfl
  neB5 := by decide }

/-- texts with a byte ahead of each -/
def tailB (c : UInt8) (r : List (List UInt8)) : List UInt8 := r.flatMap (fun y => c :: y)
/-- texts with a byte between them -/
def joinB (c : UInt8) : List (List UInt8) → List UInt8
  | [] => []
  | x :: r => x ++ tailB c r
theorem tailB_snoc (c : UInt8) (r : List (List UInt8)) (y : List UInt8) : tailB c (r ++ [y]) = tailB c r ++ c :: y := by simp [tailB]
theorem joinB_lib (c : UInt8) (xs : List (List UInt8)) : Lib.join xs [c] = joinB c xs := by
  cases xs with
  | nil => rfl
  | cons x r =>
    rw [Lib.join_cons]
    show x ++ (r.map ([c] ++ ·)).flatten = x ++ r.flatMap (fun y => c :: y)
    rw [List.flatMap_def]
    rfl
def strV (ps : List (List UInt8)) : List Value := ps.map str
theorem join_any (ps : List (List UInt8)) (c : UInt8) (p : Option Addr) (n cap : Nat) (w : World) (hn : ps.length = n) (h0 : 0 < n) (hS : Sl w p n cap 1 (strV ps)) (hl : (joinB c ps).length ≤ 140737488355328) (hn2 : n ≤ 1099511627776) :
    Calls Tryz.prog 99 #[.slice p n cap, .string ⟨#[c]⟩] w fun e w' => e = .returned (str (joinB c ps)) ∧ Ext w w' := by
  obtain ⟨b, off, rfl, hb, hc⟩ := hS.rd h0
  subst hn
  have hm : (ps.map (fun l => (⟨l.toArray⟩ : ByteArray))).map (·.data.toList) = ps := by
    rw [List.map_map]; exact (List.map_congr_left (fun x _ => by simp)).trans (List.map_id ps)
  have h := Any.strings_Join lays156 extra156 b off cap (ps.map (fun l => (⟨l.toArray⟩ : ByteArray))) ⟨#[c]⟩ w
    (fun j x hx => by
      rw [List.getElem?_map] at hx
      obtain ⟨y, hy, rfl⟩ := Option.map_eq_some_iff.1 hx
      have hj : j < ps.length := (List.getElem?_eq_some_iff.1 hy).1
      rw [hc j (by omega)]
      simp [strV, hy])
    hb (by rw [List.length_map]; omega) (by rw [List.length_map]; exact hS.le) (by rw [hm]; simpa [joinB_lib] using hl)
  rw [hm, List.length_map] at h
  refine h.mono ?_
  rintro e w' ⟨rfl, hx⟩
  exact ⟨by rw [show (⟨#[c]⟩ : ByteArray).data.toList = [c] from rfl, joinB_lib], hx⟩
end Go.Proofs.YteejdnmmpmcmeaaGreatDoor

/-
  Plain words on the texts of houses. Nothing of the program but the library's join.
-/
namespace Go.Proofs.YteejdnmmpmcmeaaGreatDoor
open Go.RowKit
set_option linter.unusedVariables false
set_option linter.unusedSimpArgs false

abbrev dec (x : Int) : List UInt8 := Lib.decDigits x.toNat
def numsText (xs : List Int) : List UInt8 := joinB 44 (xs.map dec)
def visitNums (v : Visit4) : List Int := [v.1, v.2.1, v.2.2.1, v.2.2.2]
def houseParts (h : HouseD) : List (List UInt8) := hallText h.wide h.deep h.cells :: numsText [h.free, h.step, h.price, h.capp] :: dec h.clock :: dec h.bank :: h.vs.map (fun v => numsText (visitNums v))
def houseText (h : HouseD) : List UInt8 := if houseOk h then joinB 59 (houseParts h) else []
theorem numsText_four (a b c d : Int) : numsText [a, b, c, d] = dec a ++ 44 :: dec b ++ 44 :: dec c ++ 44 :: dec d := by
  simp [numsText, joinB, tailB]
theorem numsText_one (a : Int) : numsText [a] = dec a := by simp [numsText, joinB, tailB]
theorem dec_len (x : Int) (h : x ≤ 9223372036854775807) : (dec x).length ≤ 21 := decDigits_len _ (by omega)
theorem nums_len4 (a b c d : Int) (h1 : a ≤ 9223372036854775807) (h2 : b ≤ 9223372036854775807) (h3 : c ≤ 9223372036854775807) (h4 : d ≤ 9223372036854775807) : (numsText [a, b, c, d]).length ≤ 90 := by
  rw [numsText_four]
  have := dec_len a h1; have := dec_len b h2; have := dec_len c h3; have := dec_len d h4
  simp only [List.length_append, List.length_cons]
  omega
theorem tail_len (c : UInt8) (M : Nat) : ∀ r : List (List UInt8), (∀ x ∈ r, x.length ≤ M) → (tailB c r).length ≤ (M + 1) * r.length := by
  intro r
  induction r with
  | nil => intro _; simp [tailB]
  | cons x r ih =>
    intro h
    have h1 := h x (by simp)
    have h2 := ih (fun y hy => h y (by simp [hy]))
    simp only [tailB, List.flatMap_cons, List.length_append, List.length_cons] at h2 ⊢
    rw [Nat.mul_succ]
    omega

end Go.Proofs.YteejdnmmpmcmeaaGreatDoor

/-
  The reference's HallText. Condition: the slice of cells reads as a list.
-/
namespace Go.Proofs.YteejdnmmpmcmeaaGreatDoor
open Go.RowKit
set_option linter.unusedVariables false
set_option linter.unusedSimpArgs false

theorem strL (l : List UInt8) (m : Nat) (h : l.length ≤ m) : ∃ s : ByteArray, s = ⟨l.toArray⟩ ∧ s.size ≤ m := ⟨_, rfl, by simpa [ByteArray.size] using h⟩
theorem strApp (a b : ByteArray) (x y : List UInt8) (h1 : a = ⟨x.toArray⟩) (h2 : b = ⟨y.toArray⟩) : a ++ b = ⟨(x ++ y).toArray⟩ := by
  rw [h1, h2]; exact Go.WideShapes.bytes_inj (by simp [ByteArray.data_append])
theorem retB {a : ByteArray} {l : List UInt8} (h : a = ⟨l.toArray⟩) : Ending.returned (.string a) = .returned (str l) := by rw [h]
theorem bsz (c : UInt8) : (⟨#[c]⟩ : ByteArray).size = 1 := rfl

set_option maxRecDepth 100000 in
set_option maxHeartbeats 1000000 in
theorem specHallText_bad (wide deep : Int) (p : Option Addr) (n cap : Nat) (w : World) (hn : n ≤ 9223372036854775807) (HV : Hid (∀ w', Ext w w' → Calls Tryz.prog 64 #[hallV wide deep p n cap] w' fun e w'' => e = .returned (.bool false) ∧ Ext w' w'')) :
    Calls Tryz.prog 100 #[hallV wide deep p n cap] w fun e w' => e = .returned (str []) ∧ Ext w w' := by
  by_cases h0 : 0 < n
  · have u1 : (0 : Int) < (n : Int) := by omega
    go_enter Tryz.func100, Tryz.ntmps100
    go_wp2
    refine wp_loop_rounds 1 ?_
    rw [rounds_succ]
    go_wp2_with fail
    refine (HV.out _ (by (repeat' (first | exact Ext.refl _ | (with_reducible assumption) | (with_reducible refine Ext.alloc ?_ _) | (with_reducible refine Ext.setCell ?_ (by first | exact Nat.le_refl _ | (dsimp only; omega) | (simp; done) | (simp; omega)) _) | (with_reducible refine Ext.drew ?_) | (with_reducible refine Ext.drewN ?_ _) | (refine Ext.trans ?_ (by with_reducible assumption)))))).mono ?_
    rintro e w1 ⟨rfl, h1⟩
    go_wp2
    go_ret
    exact ⟨rfl, by (repeat' (first | exact Ext.refl _ | (with_reducible assumption) | (with_reducible refine Ext.alloc ?_ _) | (with_reducible refine Ext.setCell ?_ (by first | exact Nat.le_refl _ | (dsimp only; omega) | (simp; done) | (simp; omega)) _) | (with_reducible refine Ext.drew ?_) | (with_reducible refine Ext.drewN ?_ _) | (refine Ext.trans ?_ (by with_reducible assumption))))⟩
  · obtain rfl : n = 0 := by omega
    go_enter Tryz.func100, Tryz.ntmps100
    go_wp2
    go_rounds 1
    go_ret
    exact ⟨rfl, by (repeat' (first | exact Ext.refl _ | (with_reducible assumption) | (with_reducible refine Ext.alloc ?_ _) | (with_reducible refine Ext.setCell ?_ (by first | exact Nat.le_refl _ | (dsimp only; omega) | (simp; done) | (simp; omega)) _) | (with_reducible refine Ext.drew ?_) | (with_reducible refine Ext.drewN ?_ _) | (refine Ext.trans ?_ (by with_reducible assumption))))⟩

set_option maxRecDepth 100000 in
set_option maxHeartbeats 1000000 in
theorem specHallText_ok (wide deep : Int) (p : Option Addr) (n cap : Nat) (xs : List Int) (w : World) (h0 : 2 ≤ wide) (h1 : wide ≤ 4) (hn : n ≤ 12) (hc : ∀ x ∈ xs, 0 ≤ x ∧ x ≤ 99) (HS : Hid (Sl w p n cap 1 (ivs xs)))
    (HV : Hid (∀ w', Ext w w' → Calls Tryz.prog 64 #[hallV wide deep p n cap] w' fun e w'' => e = .returned (.bool true) ∧ Ext w' w'')) :
    Calls Tryz.prog 100 #[hallV wide deep p n cap] w fun e w' => e = .returned (str (hallTextN wide xs n)) ∧ Ext w w' := by
  have HCC := Lib.hid hc
  clear hc
  go_enter Tryz.func100, Tryz.ntmps100
  go_wp2
  go_loopw [3, 4] (fun o i wr => ∃ (k : Nat) (S : ByteArray), k ≤ n ∧ i = .int .i64 k ∧ o = .string S ∧ S = ⟨(hallTextN wide xs k).toArray⟩ ∧ Ext w wr ∧ Blk wr w.heap.size 25 #[.int .i64 wide, .int .i64 deep, .slice p n cap]) (fun _ i _ => n - (intOf i).toNat)
  case atStart => exact ⟨0, _, Nat.zero_le _, rfl, rfl, rfl, by (repeat' (first | exact Ext.refl _ | (with_reducible assumption) | (with_reducible refine Ext.alloc ?_ _) | (with_reducible refine Ext.setCell ?_ (by first | exact Nat.le_refl _ | (dsimp only; omega) | (simp; done) | (simp; omega)) _) | (with_reducible refine Ext.drew ?_) | (with_reducible refine Ext.drewN ?_ _) | (refine Ext.trans ?_ (by with_reducible assumption)))), Blk.new _ _ _⟩
  case round =>
    obtain ⟨k, S, hk, rfl, rfl, hS, hE, hB⟩ := hrel
    have hSz : S.size ≤ 300 := by
      have := hallTextN_len wide xs (fun x hx => (HCC.out x hx).2) k
      rw [hS]; simp [ByteArray.size]; omega
    have HSt := Lib.hid hS
    have HBr := Lib.hid hB
    have hszr : w.heap.size < wr.heap.size := hB.lt
    clear hS hB
    by_cases hlt : k < n
    · obtain ⟨b, off, x, rfl, hx, hbs, hcell⟩ := (HS.out.ext hE).int_at hlt
      obtain ⟨hx0, hx1⟩ := HCC.out x (List.mem_of_getElem? hx)
      have HX := Lib.hid hx
      have hfin := Lib.hid (hallTextN_step (wide := wide) hx)
      clear hx
      have i1 : (0 : Int) ≤ (k : Int) := by omega
      have i2 : (k : Int) < (n : Int) := by omega
      have r0 : wr.cell? ⟨w.heap.size, 0, none⟩ = some (.int .i64 wide) := HBr.out.cell 0
      have r1 : wr.cell? ⟨w.heap.size, 1, none⟩ = some (.int .i64 deep) := HBr.out.cell 1
      have r2 : wr.cell? ⟨w.heap.size, 2, none⟩ = some (.slice (some ⟨b, off, none⟩) n cap) := HBr.out.cell 2
      have HNum : Hid (∀ w, Calls Tryz.prog 102 #[.int .i64 x] w fun e w' => e = .returned (str (Lib.decDigits x.toNat)) ∧ Ext w w') := fun w => l1Num x w hx0 (by omega)
      obtain ⟨tx, ex, mx⟩ := strL (Lib.decDigits x.toNat) 21 (decDigits_len _ (by omega))
      have HNum2 : Hid (∀ w, Calls Tryz.prog 102 #[.int .i64 x] w fun e w' => e = .returned (.string tx) ∧ Ext w w') := by rw [ex]; exact HNum.out
      have HEx := Lib.hid ex
      clear ex HNum
      go_wp2_with fail
      refine (HV.out _ (by (repeat' (first | exact Ext.refl _ | (with_reducible assumption) | (with_reducible refine Ext.alloc ?_ _) | (with_reducible refine Ext.setCell ?_ (by first | exact Nat.le_refl _ | (dsimp only; omega) | (simp; done) | (simp; omega)) _) | (with_reducible refine Ext.drew ?_) | (with_reducible refine Ext.drewN ?_ _) | (refine Ext.trans ?_ (by with_reducible assumption)))))).mono ?_
      rintro e w1 ⟨rfl, hh1⟩
      have HB1 := Lib.hid (HBr.out.ext hh1)
      have X1 : Ext w w1 := hE.trans hh1
      have hcell1 : w1.cell? ⟨b, off + k, none⟩ = some (iv x) := by rw [hh1.cells.1 _ _ hbs]; exact hcell
      have hbs1 : b < w1.heap.size := Nat.lt_of_lt_of_le hbs hh1.sz
      clear hh1 r0 r1 r2 HBr hcell hbs
      have a0 : w1.cell? ⟨w.heap.size, 0, none⟩ = some (.int .i64 wide) := HB1.out.cell 0
      have a1 : w1.cell? ⟨w.heap.size, 1, none⟩ = some (.int .i64 deep) := HB1.out.cell 1
      have a2 : w1.cell? ⟨w.heap.size, 2, none⟩ = some (.slice (some ⟨b, off, none⟩) n cap) := HB1.out.cell 2
      by_cases hk0 : k = 0
      · by_cases hz : x = 0
        · have hsep : Hid (cellSep wide k = []) := by show _ = _; simp [cellSep, hk0]
          have S1 : Hid (S = ⟨(hallTextN wide xs k ++ cellSep wide k).toArray⟩) := by show _ = _; rw [hsep.out, List.append_nil]; exact HSt.out
          have f1 : decide ((0 : Int) < (k : Int)) = false := by simp [hk0]
          have f2 : decide (0 < k) = false := by simp [hk0]
          have f3 : ¬ 0 < k := by omega
          have z1 : (x == 0) = true := by simp [hz]
          have hacc : Hid (S ++ ⟨#[46]⟩ = ⟨(hallTextN wide xs (k + 1)).toArray⟩) := by show _ = _; rw [hfin.out]; exact strApp _ _ _ _ S1.out (by simp [cellTok, hz])
          have q2 : ¬ 9223372036854775807 < S.size + 1 := by omega
          clear hk0 hz
          go_wp2
          go_roundw
          case rel => exact ⟨k + 1, _, by omega, by go_num, rfl, hacc.out, by (repeat' (first | exact Ext.refl _ | (with_reducible assumption) | (with_reducible refine Ext.alloc ?_ _) | (with_reducible refine Ext.setCell ?_ (by first | exact Nat.le_refl _ | (dsimp only; omega) | (simp; done) | (simp; omega)) _) | (with_reducible refine Ext.drew ?_) | (with_reducible refine Ext.drewN ?_ _) | (refine Ext.trans ?_ (by with_reducible assumption)))), HB1.out.ext (by (repeat' (first | exact Ext.refl _ | (with_reducible assumption) | (with_reducible refine Ext.alloc ?_ _) | (with_reducible refine Ext.setCell ?_ (by first | exact Nat.le_refl _ | (dsimp only; omega) | (simp; done) | (simp; omega)) _) | (with_reducible refine Ext.drew ?_) | (with_reducible refine Ext.drewN ?_ _) | (refine Ext.trans ?_ (by with_reducible assumption)))))⟩
          case measure => simp [intOf]; omega
        · have hsep : Hid (cellSep wide k = []) := by show _ = _; simp [cellSep, hk0]
          have S1 : Hid (S = ⟨(hallTextN wide xs k ++ cellSep wide k).toArray⟩) := by show _ = _; rw [hsep.out, List.append_nil]; exact HSt.out
          have f1 : decide ((0 : Int) < (k : Int)) = false := by simp [hk0]
          have f2 : decide (0 < k) = false := by simp [hk0]
          have f3 : ¬ 0 < k := by omega
          have z1 : (x == 0) = false := by simp [hz]
          have hacc : Hid (S ++ tx = ⟨(hallTextN wide xs (k + 1)).toArray⟩) := by show _ = _; rw [hfin.out]; exact strApp _ _ _ _ S1.out (by rw [HEx.out]; simp [cellTok, hz])
          have q2 : ¬ 9223372036854775807 < S.size + tx.size := by omega
          clear hk0 hz
          go_wp2_with fail
          refine (HNum2.out _).mono ?_
          rintro e w2 ⟨rfl, hh2⟩
          have HB2 := Lib.hid (HB1.out.ext hh2)
          go_wp2
          go_roundw
          case rel => exact ⟨k + 1, _, by omega, by go_num, rfl, hacc.out, by (repeat' (first | exact Ext.refl _ | (with_reducible assumption) | (with_reducible refine Ext.alloc ?_ _) | (with_reducible refine Ext.setCell ?_ (by first | exact Nat.le_refl _ | (dsimp only; omega) | (simp; done) | (simp; omega)) _) | (with_reducible refine Ext.drew ?_) | (with_reducible refine Ext.drewN ?_ _) | (refine Ext.trans ?_ (by with_reducible assumption)))), HB2.out⟩
          case measure => simp [intOf]; omega
      · by_cases hmod : (k : Int) % wide = 0
        · by_cases hz : x = 0
          · have hsep : Hid (cellSep wide k = [47]) := by show _ = _; simp [cellSep, hk0, hmod]
            have S1 : Hid (S ++ ⟨#[47]⟩ = ⟨(hallTextN wide xs k ++ cellSep wide k).toArray⟩) := by show _ = _; rw [hsep.out]; exact strApp _ _ _ _ HSt.out rfl
            have q1 : ¬ 9223372036854775807 < S.size + 1 := by omega
            have f1 : 0 < k := by omega
            have f3 : (0 : Int) < (k : Int) := by omega
            have f2 : ((k : Int) % wide == 0) = true := by simp [hmod]
            have z1 : (x == 0) = true := by simp [hz]
            have hacc : Hid (S ++ ⟨#[47]⟩ ++ ⟨#[46]⟩ = ⟨(hallTextN wide xs (k + 1)).toArray⟩) := by show _ = _; rw [hfin.out]; exact strApp _ _ _ _ S1.out (by simp [cellTok, hz])
            have q2 : ¬ 9223372036854775807 < S.size + 1 + 1 := by omega
            clear hk0 hz hmod
            go_wp2
            go_roundw
            case rel => exact ⟨k + 1, _, by omega, by go_num, rfl, hacc.out, by (repeat' (first | exact Ext.refl _ | (with_reducible assumption) | (with_reducible refine Ext.alloc ?_ _) | (with_reducible refine Ext.setCell ?_ (by first | exact Nat.le_refl _ | (dsimp only; omega) | (simp; done) | (simp; omega)) _) | (with_reducible refine Ext.drew ?_) | (with_reducible refine Ext.drewN ?_ _) | (refine Ext.trans ?_ (by with_reducible assumption)))), HB1.out.ext (by (repeat' (first | exact Ext.refl _ | (with_reducible assumption) | (with_reducible refine Ext.alloc ?_ _) | (with_reducible refine Ext.setCell ?_ (by first | exact Nat.le_refl _ | (dsimp only; omega) | (simp; done) | (simp; omega)) _) | (with_reducible refine Ext.drew ?_) | (with_reducible refine Ext.drewN ?_ _) | (refine Ext.trans ?_ (by with_reducible assumption)))))⟩
            case measure => simp [intOf]; omega
          · have hsep : Hid (cellSep wide k = [47]) := by show _ = _; simp [cellSep, hk0, hmod]
            have S1 : Hid (S ++ ⟨#[47]⟩ = ⟨(hallTextN wide xs k ++ cellSep wide k).toArray⟩) := by show _ = _; rw [hsep.out]; exact strApp _ _ _ _ HSt.out rfl
            have q1 : ¬ 9223372036854775807 < S.size + 1 := by omega
            have f1 : 0 < k := by omega
            have f3 : (0 : Int) < (k : Int) := by omega
            have f2 : ((k : Int) % wide == 0) = true := by simp [hmod]
            have z1 : (x == 0) = false := by simp [hz]
            have hacc : Hid (S ++ ⟨#[47]⟩ ++ tx = ⟨(hallTextN wide xs (k + 1)).toArray⟩) := by show _ = _; rw [hfin.out]; exact strApp _ _ _ _ S1.out (by rw [HEx.out]; simp [cellTok, hz])
            have q2 : ¬ 9223372036854775807 < S.size + 1 + tx.size := by omega
            clear hk0 hz hmod
            go_wp2_with fail
            refine (HNum2.out _).mono ?_
            rintro e w2 ⟨rfl, hh2⟩
            have HB2 := Lib.hid (HB1.out.ext hh2)
            go_wp2
            go_roundw
            case rel => exact ⟨k + 1, _, by omega, by go_num, rfl, hacc.out, by (repeat' (first | exact Ext.refl _ | (with_reducible assumption) | (with_reducible refine Ext.alloc ?_ _) | (with_reducible refine Ext.setCell ?_ (by first | exact Nat.le_refl _ | (dsimp only; omega) | (simp; done) | (simp; omega)) _) | (with_reducible refine Ext.drew ?_) | (with_reducible refine Ext.drewN ?_ _) | (refine Ext.trans ?_ (by with_reducible assumption)))), HB2.out⟩
            case measure => simp [intOf]; omega
        · by_cases hz : x = 0
          · have hsep : Hid (cellSep wide k = [44]) := by show _ = _; simp [cellSep, hk0, hmod]
            have S1 : Hid (S ++ ⟨#[44]⟩ = ⟨(hallTextN wide xs k ++ cellSep wide k).toArray⟩) := by show _ = _; rw [hsep.out]; exact strApp _ _ _ _ HSt.out rfl
            have q1 : ¬ 9223372036854775807 < S.size + 1 := by omega
            have f1 : 0 < k := by omega
            have f3 : (0 : Int) < (k : Int) := by omega
            have f2 : ((k : Int) % wide == 0) = false := by simp [hmod]
            have z1 : (x == 0) = true := by simp [hz]
            have hacc : Hid (S ++ ⟨#[44]⟩ ++ ⟨#[46]⟩ = ⟨(hallTextN wide xs (k + 1)).toArray⟩) := by show _ = _; rw [hfin.out]; exact strApp _ _ _ _ S1.out (by simp [cellTok, hz])
            have q2 : ¬ 9223372036854775807 < S.size + 1 + 1 := by omega
            clear hk0 hz hmod
            go_wp2
            go_roundw
            case rel => exact ⟨k + 1, _, by omega, by go_num, rfl, hacc.out, by (repeat' (first | exact Ext.refl _ | (with_reducible assumption) | (with_reducible refine Ext.alloc ?_ _) | (with_reducible refine Ext.setCell ?_ (by first | exact Nat.le_refl _ | (dsimp only; omega) | (simp; done) | (simp; omega)) _) | (with_reducible refine Ext.drew ?_) | (with_reducible refine Ext.drewN ?_ _) | (refine Ext.trans ?_ (by with_reducible assumption)))), HB1.out.ext (by (repeat' (first | exact Ext.refl _ | (with_reducible assumption) | (with_reducible refine Ext.alloc ?_ _) | (with_reducible refine Ext.setCell ?_ (by first | exact Nat.le_refl _ | (dsimp only; omega) | (simp; done) | (simp; omega)) _) | (with_reducible refine Ext.drew ?_) | (with_reducible refine Ext.drewN ?_ _) | (refine Ext.trans ?_ (by with_reducible assumption)))))⟩
            case measure => simp [intOf]; omega
          · have hsep : Hid (cellSep wide k = [44]) := by show _ = _; simp [cellSep, hk0, hmod]
            have S1 : Hid (S ++ ⟨#[44]⟩ = ⟨(hallTextN wide xs k ++ cellSep wide k).toArray⟩) := by show _ = _; rw [hsep.out]; exact strApp _ _ _ _ HSt.out rfl
            have q1 : ¬ 9223372036854775807 < S.size + 1 := by omega
            have f1 : 0 < k := by omega
            have f3 : (0 : Int) < (k : Int) := by omega
            have f2 : ((k : Int) % wide == 0) = false := by simp [hmod]
            have z1 : (x == 0) = false := by simp [hz]
            have hacc : Hid (S ++ ⟨#[44]⟩ ++ tx = ⟨(hallTextN wide xs (k + 1)).toArray⟩) := by show _ = _; rw [hfin.out]; exact strApp _ _ _ _ S1.out (by rw [HEx.out]; simp [cellTok, hz])
            have q2 : ¬ 9223372036854775807 < S.size + 1 + tx.size := by omega
            clear hk0 hz hmod
            go_wp2_with fail
            refine (HNum2.out _).mono ?_
            rintro e w2 ⟨rfl, hh2⟩
            have HB2 := Lib.hid (HB1.out.ext hh2)
            go_wp2
            go_roundw
            case rel => exact ⟨k + 1, _, by omega, by go_num, rfl, hacc.out, by (repeat' (first | exact Ext.refl _ | (with_reducible assumption) | (with_reducible refine Ext.alloc ?_ _) | (with_reducible refine Ext.setCell ?_ (by first | exact Nat.le_refl _ | (dsimp only; omega) | (simp; done) | (simp; omega)) _) | (with_reducible refine Ext.drew ?_) | (with_reducible refine Ext.drewN ?_ _) | (refine Ext.trans ?_ (by with_reducible assumption)))), HB2.out⟩
            case measure => simp [intOf]; omega
    · have hkn : k = n := by omega
      have hfin : Hid (S = ⟨(hallTextN wide xs n).toArray⟩) := by show _ = _; rw [← hkn]; exact HSt.out
      have r0 : wr.cell? ⟨w.heap.size, 0, none⟩ = some (.int .i64 wide) := HBr.out.cell 0
      have r1 : wr.cell? ⟨w.heap.size, 1, none⟩ = some (.int .i64 deep) := HBr.out.cell 1
      have r2 : wr.cell? ⟨w.heap.size, 2, none⟩ = some (.slice p n cap) := HBr.out.cell 2
      go_wp2
      go_ret
      exact ⟨retB hfin.out, hE⟩

theorem specHallText (wide deep : Int) (p : Option Addr) (n cap : Nat) (xs : List Int) (w : World) (hS : Sl w p n cap 1 (ivs xs)) :
    Calls Tryz.prog 100 #[hallV wide deep p n cap] w fun e w' => e = .returned (str (hallText wide deep xs)) ∧ Ext w w' := by
  have hl := hS.ilen
  cases h : hallOk wide deep xs with
  | true =>
    obtain ⟨h1, h2, h3, h4, h5, h6, h7, h8, h9⟩ := hallOk_parts h
    unfold hallText
    rw [if_pos h, hl]
    exact specHallText_ok wide deep p n cap xs w h1 h2 (by omega) h8 hS (fun w' hx => by rw [← h]; exact specHv wide deep p n cap xs w' (hS.ext hx))
  | false =>
    unfold hallText
    rw [if_neg (by simp [h])]
    exact specHallText_bad wide deep p n cap w hS.bd (fun w' hx => by rw [← h]; exact specHv wide deep p n cap xs w' (hS.ext hx))
end Go.Proofs.YteejdnmmpmcmeaaGreatDoor

/-
  The reference's l8Tariff and HouseText. Condition: the house's slices read as lists.
-/
namespace Go.Proofs.YteejdnmmpmcmeaaGreatDoor
open Go.RowKit
set_option linter.unusedVariables false
set_option linter.unusedSimpArgs false

theorem app_str (a b : List UInt8) : (⟨a.toArray⟩ : ByteArray) ++ ⟨b.toArray⟩ = ⟨(a ++ b).toArray⟩ := Go.WideShapes.bytes_inj (by simp [ByteArray.data_append])
theorem str_size (l : List UInt8) : (⟨l.toArray⟩ : ByteArray).size = l.length := by simp [ByteArray.size]
theorem sz59 : (⟨#[59]⟩ : ByteArray).size = 1 := rfl
theorem sz44 : (⟨#[44]⟩ : ByteArray).size = 1 := rfl
theorem ret_strB {a : ByteArray} {l : List UInt8} (h : a = ⟨l.toArray⟩) : Ending.returned (.string a) = .returned (str l) := by rw [h]
/-- a text as a letter -/
theorem str_letter (l : List UInt8) (m : Nat) (h : l.length ≤ m) : ∃ s : ByteArray, s = ⟨l.toArray⟩ ∧ s.size ≤ m := ⟨_, rfl, by rw [str_size]; exact h⟩

set_option maxRecDepth 100000 in
set_option maxHeartbeats 1000000 in
theorem specTariffText (free step price capp : Int) (w : World) (h0 : 0 ≤ free) (h1 : 0 ≤ step) (h2 : 0 ≤ price) (h3 : 0 ≤ capp) (h4 : free ≤ 9223372036854775807) (h5 : step ≤ 9223372036854775807) (h6 : price ≤ 9223372036854775807) (h7 : capp ≤ 9223372036854775807) :
    Calls Tryz.prog 101 #[tariffV free step price capp] w fun e w' => e = .returned (str (numsText [free, step, price, capp])) ∧ Ext w w' := by
  obtain ⟨s1, e1, l1⟩ := str_letter (dec free) 21 (dec_len _ h4)
  obtain ⟨s2, e2, l2⟩ := str_letter (dec step) 21 (dec_len _ h5)
  obtain ⟨s3, e3, l3⟩ := str_letter (dec price) 21 (dec_len _ h6)
  obtain ⟨s4, e4, l4⟩ := str_letter (dec capp) 21 (dec_len _ h7)
  have HN1 : Hid (∀ w, Calls Tryz.prog 102 #[.int .i64 free] w fun e w' => e = .returned (.string s1) ∧ Ext w w') := fun w => by rw [e1]; exact l1Num free w h0 h4
  have HN2 : Hid (∀ w, Calls Tryz.prog 102 #[.int .i64 step] w fun e w' => e = .returned (.string s2) ∧ Ext w w') := fun w => by rw [e2]; exact l1Num step w h1 h5
  have HN3 : Hid (∀ w, Calls Tryz.prog 102 #[.int .i64 price] w fun e w' => e = .returned (.string s3) ∧ Ext w w') := fun w => by rw [e3]; exact l1Num price w h2 h6
  have HN4 : Hid (∀ w, Calls Tryz.prog 102 #[.int .i64 capp] w fun e w' => e = .returned (.string s4) ∧ Ext w w') := fun w => by rw [e4]; exact l1Num capp w h3 h7
  have HF : Hid (s1 ++ ⟨#[44]⟩ ++ s2 ++ ⟨#[44]⟩ ++ s3 ++ ⟨#[44]⟩ ++ s4 = ⟨(numsText [free, step, price, capp]).toArray⟩) := by
    show _ = _
    rw [numsText_four, e1, e2, e3, e4]
    apply Go.WideShapes.bytes_inj
    simp [ByteArray.data_append]
  clear e1 e2 e3 e4 h0 h1 h2 h3 h4 h5 h6 h7
  have q1 : ¬ 9223372036854775807 < s1.size + 1 := by omega
  have q2 : ¬ 9223372036854775807 < s1.size + 1 + s2.size := by omega
  have q3 : ¬ 9223372036854775807 < s1.size + 1 + s2.size + 1 := by omega
  have q4 : ¬ 9223372036854775807 < s1.size + 1 + s2.size + 1 + s3.size := by omega
  have q5 : ¬ 9223372036854775807 < s1.size + 1 + s2.size + 1 + s3.size + 1 := by omega
  have q6 : ¬ 9223372036854775807 < s1.size + 1 + s2.size + 1 + s3.size + 1 + s4.size := by omega
  have B0 : Hid (Blk (w.alloc (.cells #[.int .i64 free, .int .i64 step, .int .i64 price, .int .i64 capp] 27)) w.heap.size 27 #[.int .i64 free, .int .i64 step, .int .i64 price, .int .i64 capp]) := Blk.new w _ _
  have X0 : Hid (Ext w (w.alloc (.cells #[.int .i64 free, .int .i64 step, .int .i64 price, .int .i64 capp] 27))) := (Ext.refl w).alloc _
  go_enter Tryz.func101, Tryz.ntmps101
  go_wp2
  go_region_held3 (fun w' => w'.cell? ⟨w.heap.size, 0, none⟩ = some (.int .i64 free) ∧ w'.cell? ⟨w.heap.size, 1, none⟩ = some (.int .i64 step) ∧ w'.cell? ⟨w.heap.size, 2, none⟩ = some (.int .i64 price) ∧ w'.cell? ⟨w.heap.size, 3, none⟩ = some (.int .i64 capp)) (first | (refine ⟨?_, ?_, ?_, ?_⟩ <;> assumption) | go_keep)
    ((go_at_call 102; (first
        | ((with_reducible refine (HN1.out _).mono ?_)
           rintro e w1 ⟨rfl, hh1⟩
           (try replace hh1 := hh1.of_drew)
           have B1 := Lib.hid (B0.out.ext hh1)
           have X1 := Lib.hid (X0.out.trans hh1)
           skip
           clear hh1
           have c1_0 : w1.cell? ⟨w.heap.size, 0, none⟩ = some (.int .i64 free) := B1.out.cell 0
           have c1_1 : w1.cell? ⟨w.heap.size, 1, none⟩ = some (.int .i64 step) := B1.out.cell 1
           have c1_2 : w1.cell? ⟨w.heap.size, 2, none⟩ = some (.int .i64 price) := B1.out.cell 2
           have c1_3 : w1.cell? ⟨w.heap.size, 3, none⟩ = some (.int .i64 capp) := B1.out.cell 3)
        | ((with_reducible refine (HN2.out _).mono ?_)
           rintro e w2 ⟨rfl, hh2⟩
           (try replace hh2 := hh2.of_drew)
           have B2 := Lib.hid (B1.out.ext hh2)
           have X2 := Lib.hid (X1.out.trans hh2)
           skip
           clear hh2
           have c2_0 : w2.cell? ⟨w.heap.size, 0, none⟩ = some (.int .i64 free) := B2.out.cell 0
           have c2_1 : w2.cell? ⟨w.heap.size, 1, none⟩ = some (.int .i64 step) := B2.out.cell 1
           have c2_2 : w2.cell? ⟨w.heap.size, 2, none⟩ = some (.int .i64 price) := B2.out.cell 2
           have c2_3 : w2.cell? ⟨w.heap.size, 3, none⟩ = some (.int .i64 capp) := B2.out.cell 3)
        | ((with_reducible refine (HN3.out _).mono ?_)
           rintro e w3 ⟨rfl, hh3⟩
           (try replace hh3 := hh3.of_drew)
           have B3 := Lib.hid (B2.out.ext hh3)
           have X3 := Lib.hid (X2.out.trans hh3)
           skip
           clear hh3
           have c3_0 : w3.cell? ⟨w.heap.size, 0, none⟩ = some (.int .i64 free) := B3.out.cell 0
           have c3_1 : w3.cell? ⟨w.heap.size, 1, none⟩ = some (.int .i64 step) := B3.out.cell 1
           have c3_2 : w3.cell? ⟨w.heap.size, 2, none⟩ = some (.int .i64 price) := B3.out.cell 2
           have c3_3 : w3.cell? ⟨w.heap.size, 3, none⟩ = some (.int .i64 capp) := B3.out.cell 3)
        | ((with_reducible refine (HN4.out _).mono ?_)
           rintro e w4 ⟨rfl, hh4⟩
           (try replace hh4 := hh4.of_drew)
           have B4 := Lib.hid (B3.out.ext hh4)
           have X4 := Lib.hid (X3.out.trans hh4)
           skip
           clear hh4
           have c4_0 : w4.cell? ⟨w.heap.size, 0, none⟩ = some (.int .i64 free) := B4.out.cell 0
           have c4_1 : w4.cell? ⟨w.heap.size, 1, none⟩ = some (.int .i64 step) := B4.out.cell 1
           have c4_2 : w4.cell? ⟨w.heap.size, 2, none⟩ = some (.int .i64 price) := B4.out.cell 2
           have c4_3 : w4.cell? ⟨w.heap.size, 3, none⟩ = some (.int .i64 capp) := B4.out.cell 3))))
  all_goals go_wp2
  all_goals go_ret
  all_goals exact ⟨ret_strB HF.out, X4.out⟩

set_option maxRecDepth 100000 in
set_option maxHeartbeats 1000000 in
theorem specHtext_bad (wide deep free step price capp clock bank : Int) (p : Option Addr) (n cap : Nat) (q : Option Addr) (m c2 : Nat) (w : World) (HV : Hid (∀ w', Ext w w' → Calls Tryz.prog 17 #[.agg #[.int .i64 wide, .int .i64 deep, .slice p n cap, .int .i64 free, .int .i64 step, .int .i64 price, .int .i64 capp, .int .i64 clock, .int .i64 bank, .slice q m c2]] w' fun e w'' => e = .returned (.bool false) ∧ Ext w' w'')) :
    Calls Tryz.prog 47 #[.agg #[.int .i64 wide, .int .i64 deep, .slice p n cap, .int .i64 free, .int .i64 step, .int .i64 price, .int .i64 capp, .int .i64 clock, .int .i64 bank, .slice q m c2]] w fun e w' => e = .returned (str []) ∧ Ext w w' := by
  go_enter Tryz.func47, Tryz.ntmps47
  go_wp2_with fail
  refine (HV.out _ (by (repeat' (first | exact Ext.refl _ | (with_reducible assumption) | (with_reducible refine Ext.alloc ?_ _) | (with_reducible refine Ext.setCell ?_ (by first | exact Nat.le_refl _ | (dsimp only; omega) | (simp; done) | (simp; omega)) _) | (with_reducible refine Ext.drew ?_) | (with_reducible refine Ext.drewN ?_ _) | (refine Ext.trans ?_ (by with_reducible assumption)))))).mono ?_
  rintro e w1 ⟨rfl, hh1⟩
  go_wp2
  go_ret
  exact ⟨rfl, by (repeat' (first | exact Ext.refl _ | (with_reducible assumption) | (with_reducible refine Ext.alloc ?_ _) | (with_reducible refine Ext.setCell ?_ (by first | exact Nat.le_refl _ | (dsimp only; omega) | (simp; done) | (simp; omega)) _) | (with_reducible refine Ext.drew ?_) | (with_reducible refine Ext.drewN ?_ _) | (refine Ext.trans ?_ (by with_reducible assumption))))⟩

theorem base_str (s1 s2 s3 s4 : ByteArray) (p1 p2 p3 p4 : List UInt8) (e1 : s1 = ⟨p1.toArray⟩) (e2 : s2 = ⟨p2.toArray⟩) (e3 : s3 = ⟨p3.toArray⟩) (e4 : s4 = ⟨p4.toArray⟩) :
    s1 ++ ⟨#[59]⟩ ++ s2 ++ ⟨#[59]⟩ ++ s3 ++ ⟨#[59]⟩ ++ s4 = ⟨(joinB 59 [p1, p2, p3, p4]).toArray⟩ := by
  rw [e1, e2, e3, e4]
  apply Go.WideShapes.bytes_inj
  simp [ByteArray.data_append, joinB, tailB]
theorem visit_str (S t1 t2 t3 t4 : ByteArray) (a0 a1 a2 a3 : Int) (P : List UInt8) (e0 : S = ⟨P.toArray⟩) (e1 : t1 = ⟨(dec a0).toArray⟩) (e2 : t2 = ⟨(dec a1).toArray⟩) (e3 : t3 = ⟨(dec a2).toArray⟩) (e4 : t4 = ⟨(dec a3).toArray⟩) :
    S ++ ⟨#[59]⟩ ++ t1 ++ ⟨#[44]⟩ ++ t2 ++ ⟨#[44]⟩ ++ t3 ++ ⟨#[44]⟩ ++ t4 = ⟨(P ++ 59 :: numsText [a0, a1, a2, a3]).toArray⟩ := by
  rw [e0, e1, e2, e3, e4, numsText_four]
  apply Go.WideShapes.bytes_inj
  simp [ByteArray.data_append]

set_option maxRecDepth 100000 in
set_option maxHeartbeats 1000000 in
theorem specHtext_ok (wide deep free step price capp clock bank : Int) (p : Option Addr) (n cap : Nat) (q : Option Addr) (m c2 : Nat) (w : World) (vs : List Visit4) (p1 p2 p3 p4 : List UInt8) (l1 : p1.length ≤ 400) (l2 : p2.length ≤ 100) (l3 : p3.length ≤ 30) (l4 : p4.length ≤ 30) (hm : m ≤ 12) (HS : Hid (Sl w q m c2 4 (vs.flatMap visitCells)))
    (HG : Hid (∀ v ∈ vs, 0 ≤ v.1 ∧ v.1 ≤ 99999 ∧ 0 ≤ v.2.1 ∧ v.2.1 ≤ 99999 ∧ 0 ≤ v.2.2.1 ∧ v.2.2.1 ≤ 99999 ∧ 0 ≤ v.2.2.2 ∧ v.2.2.2 ≤ 99999))
    (HV : Hid (∀ w', Ext w w' → Calls Tryz.prog 17 #[.agg #[.int .i64 wide, .int .i64 deep, .slice p n cap, .int .i64 free, .int .i64 step, .int .i64 price, .int .i64 capp, .int .i64 clock, .int .i64 bank, .slice q m c2]] w' fun e w'' => e = .returned (.bool true) ∧ Ext w' w''))
    (H1 : Hid (∀ w', Ext w w' → Calls Tryz.prog 100 #[hallV wide deep p n cap] w' fun e w'' => e = .returned (str p1) ∧ Ext w' w''))
    (H2 : Hid (∀ w', Calls Tryz.prog 101 #[tariffV free step price capp] w' fun e w'' => e = .returned (str p2) ∧ Ext w' w''))
    (H3 : Hid (∀ w', Calls Tryz.prog 102 #[.int .i64 clock] w' fun e w'' => e = .returned (str p3) ∧ Ext w' w''))
    (H4 : Hid (∀ w', Calls Tryz.prog 102 #[.int .i64 bank] w' fun e w'' => e = .returned (str p4) ∧ Ext w' w'')) :
    Calls Tryz.prog 47 #[.agg #[.int .i64 wide, .int .i64 deep, .slice p n cap, .int .i64 free, .int .i64 step, .int .i64 price, .int .i64 capp, .int .i64 clock, .int .i64 bank, .slice q m c2]] w fun e w' => e = .returned (str (joinB 59 ([p1, p2, p3, p4] ++ vs.map (fun v => numsText (visitNums v))))) ∧ Ext w w' := by
  obtain ⟨s1, e1, m1⟩ := str_letter p1 400 l1
  obtain ⟨s2, e2, m2⟩ := str_letter p2 100 l2
  obtain ⟨s3, e3, m3⟩ := str_letter p3 30 l3
  obtain ⟨s4, e4, m4⟩ := str_letter p4 30 l4
  have HN1 : Hid (∀ w', Ext w w' → Calls Tryz.prog 100 #[hallV wide deep p n cap] w' fun e w'' => e = .returned (.string s1) ∧ Ext w' w'') := by rw [e1]; exact H1.out
  have HN2 : Hid (∀ w', Calls Tryz.prog 101 #[tariffV free step price capp] w' fun e w'' => e = .returned (.string s2) ∧ Ext w' w'') := by rw [e2]; exact H2.out
  have HN3 : Hid (∀ w', Calls Tryz.prog 102 #[.int .i64 clock] w' fun e w'' => e = .returned (.string s3) ∧ Ext w' w'') := by rw [e3]; exact H3.out
  have HN4 : Hid (∀ w', Calls Tryz.prog 102 #[.int .i64 bank] w' fun e w'' => e = .returned (.string s4) ∧ Ext w' w'') := by rw [e4]; exact H4.out
  have HF := Lib.hid (base_str s1 s2 s3 s4 p1 p2 p3 p4 e1 e2 e3 e4)
  have hl : Hid (vs.length = m) := by
    have := HS.out.len; rw [flat_len visitCells 4 (fun _ => rfl)] at this; exact (by omega : vs.length = m)
  clear e1 e2 e3 e4 l1 l2 l3 l4 H1 H2 H3 H4
  have q1 : ¬ 9223372036854775807 < s1.size + 1 := by omega
  have q2 : ¬ 9223372036854775807 < s1.size + 1 + s2.size := by omega
  have q3 : ¬ 9223372036854775807 < s1.size + 1 + s2.size + 1 := by omega
  have q4 : ¬ 9223372036854775807 < s1.size + 1 + s2.size + 1 + s3.size := by omega
  have q5 : ¬ 9223372036854775807 < s1.size + 1 + s2.size + 1 + s3.size + 1 := by omega
  have q6 : ¬ 9223372036854775807 < s1.size + 1 + s2.size + 1 + s3.size + 1 + s4.size := by omega
  go_enter Tryz.func47, Tryz.ntmps47
  go_wp2_with fail
  refine (HV.out _ (by (repeat' (first | exact Ext.refl _ | (with_reducible assumption) | (with_reducible refine Ext.alloc ?_ _) | (with_reducible refine Ext.setCell ?_ (by first | exact Nat.le_refl _ | (dsimp only; omega) | (simp; done) | (simp; omega)) _) | (with_reducible refine Ext.drew ?_) | (with_reducible refine Ext.drewN ?_ _) | (refine Ext.trans ?_ (by with_reducible assumption)))))).mono ?_
  rintro e w0 ⟨rfl, hh0⟩
  have B0 : Hid (Blk w0 w.heap.size 30 #[.int .i64 wide, .int .i64 deep, .slice p n cap, .int .i64 free, .int .i64 step, .int .i64 price, .int .i64 capp, .int .i64 clock, .int .i64 bank, .slice q m c2]) := (Blk.new w _ _).ext hh0
  have X0 : Hid (Ext w w0) := by show Ext w w0; (repeat' (first | exact Ext.refl _ | (with_reducible assumption) | (with_reducible refine Ext.alloc ?_ _) | (with_reducible refine Ext.setCell ?_ (by first | exact Nat.le_refl _ | (dsimp only; omega) | (simp; done) | (simp; omega)) _) | (with_reducible refine Ext.drew ?_) | (with_reducible refine Ext.drewN ?_ _) | (refine Ext.trans ?_ (by with_reducible assumption))))
  clear hh0
  have a0 : w0.cell? ⟨w.heap.size, 0, none⟩ = some (.int .i64 wide) := B0.out.cell 0
  have a1 : w0.cell? ⟨w.heap.size, 1, none⟩ = some (.int .i64 deep) := B0.out.cell 1
  have a2 : w0.cell? ⟨w.heap.size, 2, none⟩ = some (.slice p n cap) := B0.out.cell 2
  have a3 : w0.cell? ⟨w.heap.size, 3, none⟩ = some (.int .i64 free) := B0.out.cell 3
  have a4 : w0.cell? ⟨w.heap.size, 4, none⟩ = some (.int .i64 step) := B0.out.cell 4
  have a5 : w0.cell? ⟨w.heap.size, 5, none⟩ = some (.int .i64 price) := B0.out.cell 5
  have a6 : w0.cell? ⟨w.heap.size, 6, none⟩ = some (.int .i64 capp) := B0.out.cell 6
  have a7 : w0.cell? ⟨w.heap.size, 7, none⟩ = some (.int .i64 clock) := B0.out.cell 7
  have a8 : w0.cell? ⟨w.heap.size, 8, none⟩ = some (.int .i64 bank) := B0.out.cell 8
  have a9 : w0.cell? ⟨w.heap.size, 9, none⟩ = some (.slice q m c2) := B0.out.cell 9
  go_wp2
  go_region_held3 (fun w' => w'.cell? ⟨w.heap.size, 0, none⟩ = some (.int .i64 wide) ∧ w'.cell? ⟨w.heap.size, 1, none⟩ = some (.int .i64 deep) ∧ w'.cell? ⟨w.heap.size, 2, none⟩ = some (.slice p n cap) ∧ w'.cell? ⟨w.heap.size, 3, none⟩ = some (.int .i64 free) ∧ w'.cell? ⟨w.heap.size, 4, none⟩ = some (.int .i64 step) ∧ w'.cell? ⟨w.heap.size, 5, none⟩ = some (.int .i64 price) ∧ w'.cell? ⟨w.heap.size, 6, none⟩ = some (.int .i64 capp) ∧ w'.cell? ⟨w.heap.size, 7, none⟩ = some (.int .i64 clock) ∧ w'.cell? ⟨w.heap.size, 8, none⟩ = some (.int .i64 bank) ∧ w'.cell? ⟨w.heap.size, 9, none⟩ = some (.slice q m c2)) (first | (refine ⟨?_, ?_, ?_, ?_, ?_, ?_, ?_, ?_, ?_, ?_⟩ <;> assumption) | go_keep)
    ((first
        | (go_at_call 100; (with_reducible refine (HN1.out _ (by first | exact X0.out | exact X0.out.drew)).mono ?_)
           rintro e w1 ⟨rfl, hh1⟩
           (try replace hh1 := hh1.of_drew)
           have B1 := Lib.hid (B0.out.ext hh1)
           have X1 := Lib.hid (X0.out.trans hh1)
           skip
           clear hh1
           have c1_0 : w1.cell? ⟨w.heap.size, 0, none⟩ = some (.int .i64 wide) := B1.out.cell 0
           have c1_1 : w1.cell? ⟨w.heap.size, 1, none⟩ = some (.int .i64 deep) := B1.out.cell 1
           have c1_2 : w1.cell? ⟨w.heap.size, 2, none⟩ = some (.slice p n cap) := B1.out.cell 2
           have c1_3 : w1.cell? ⟨w.heap.size, 3, none⟩ = some (.int .i64 free) := B1.out.cell 3
           have c1_4 : w1.cell? ⟨w.heap.size, 4, none⟩ = some (.int .i64 step) := B1.out.cell 4
           have c1_5 : w1.cell? ⟨w.heap.size, 5, none⟩ = some (.int .i64 price) := B1.out.cell 5
           have c1_6 : w1.cell? ⟨w.heap.size, 6, none⟩ = some (.int .i64 capp) := B1.out.cell 6
           have c1_7 : w1.cell? ⟨w.heap.size, 7, none⟩ = some (.int .i64 clock) := B1.out.cell 7
           have c1_8 : w1.cell? ⟨w.heap.size, 8, none⟩ = some (.int .i64 bank) := B1.out.cell 8
           have c1_9 : w1.cell? ⟨w.heap.size, 9, none⟩ = some (.slice q m c2) := B1.out.cell 9)
        | (go_at_call 101; (with_reducible refine (HN2.out _).mono ?_)
           rintro e w2 ⟨rfl, hh2⟩
           (try replace hh2 := hh2.of_drew)
           have B2 := Lib.hid (B1.out.ext hh2)
           have X2 := Lib.hid (X1.out.trans hh2)
           skip
           clear hh2
           have c2_0 : w2.cell? ⟨w.heap.size, 0, none⟩ = some (.int .i64 wide) := B2.out.cell 0
           have c2_1 : w2.cell? ⟨w.heap.size, 1, none⟩ = some (.int .i64 deep) := B2.out.cell 1
           have c2_2 : w2.cell? ⟨w.heap.size, 2, none⟩ = some (.slice p n cap) := B2.out.cell 2
           have c2_3 : w2.cell? ⟨w.heap.size, 3, none⟩ = some (.int .i64 free) := B2.out.cell 3
           have c2_4 : w2.cell? ⟨w.heap.size, 4, none⟩ = some (.int .i64 step) := B2.out.cell 4
           have c2_5 : w2.cell? ⟨w.heap.size, 5, none⟩ = some (.int .i64 price) := B2.out.cell 5
           have c2_6 : w2.cell? ⟨w.heap.size, 6, none⟩ = some (.int .i64 capp) := B2.out.cell 6
           have c2_7 : w2.cell? ⟨w.heap.size, 7, none⟩ = some (.int .i64 clock) := B2.out.cell 7
           have c2_8 : w2.cell? ⟨w.heap.size, 8, none⟩ = some (.int .i64 bank) := B2.out.cell 8
           have c2_9 : w2.cell? ⟨w.heap.size, 9, none⟩ = some (.slice q m c2) := B2.out.cell 9)
        | (go_at_call 102; (with_reducible refine (HN3.out _).mono ?_)
           rintro e w3 ⟨rfl, hh3⟩
           (try replace hh3 := hh3.of_drew)
           have B3 := Lib.hid (B2.out.ext hh3)
           have X3 := Lib.hid (X2.out.trans hh3)
           skip
           clear hh3
           have c3_0 : w3.cell? ⟨w.heap.size, 0, none⟩ = some (.int .i64 wide) := B3.out.cell 0
           have c3_1 : w3.cell? ⟨w.heap.size, 1, none⟩ = some (.int .i64 deep) := B3.out.cell 1
           have c3_2 : w3.cell? ⟨w.heap.size, 2, none⟩ = some (.slice p n cap) := B3.out.cell 2
           have c3_3 : w3.cell? ⟨w.heap.size, 3, none⟩ = some (.int .i64 free) := B3.out.cell 3
           have c3_4 : w3.cell? ⟨w.heap.size, 4, none⟩ = some (.int .i64 step) := B3.out.cell 4
           have c3_5 : w3.cell? ⟨w.heap.size, 5, none⟩ = some (.int .i64 price) := B3.out.cell 5
           have c3_6 : w3.cell? ⟨w.heap.size, 6, none⟩ = some (.int .i64 capp) := B3.out.cell 6
           have c3_7 : w3.cell? ⟨w.heap.size, 7, none⟩ = some (.int .i64 clock) := B3.out.cell 7
           have c3_8 : w3.cell? ⟨w.heap.size, 8, none⟩ = some (.int .i64 bank) := B3.out.cell 8
           have c3_9 : w3.cell? ⟨w.heap.size, 9, none⟩ = some (.slice q m c2) := B3.out.cell 9)
        | (go_at_call 102; (with_reducible refine (HN4.out _).mono ?_)
           rintro e w4 ⟨rfl, hh4⟩
           (try replace hh4 := hh4.of_drew)
           have B4 := Lib.hid (B3.out.ext hh4)
           have X4 := Lib.hid (X3.out.trans hh4)
           skip
           clear hh4
           have c4_0 : w4.cell? ⟨w.heap.size, 0, none⟩ = some (.int .i64 wide) := B4.out.cell 0
           have c4_1 : w4.cell? ⟨w.heap.size, 1, none⟩ = some (.int .i64 deep) := B4.out.cell 1
           have c4_2 : w4.cell? ⟨w.heap.size, 2, none⟩ = some (.slice p n cap) := B4.out.cell 2
           have c4_3 : w4.cell? ⟨w.heap.size, 3, none⟩ = some (.int .i64 free) := B4.out.cell 3
           have c4_4 : w4.cell? ⟨w.heap.size, 4, none⟩ = some (.int .i64 step) := B4.out.cell 4
           have c4_5 : w4.cell? ⟨w.heap.size, 5, none⟩ = some (.int .i64 price) := B4.out.cell 5
           have c4_6 : w4.cell? ⟨w.heap.size, 6, none⟩ = some (.int .i64 capp) := B4.out.cell 6
           have c4_7 : w4.cell? ⟨w.heap.size, 7, none⟩ = some (.int .i64 clock) := B4.out.cell 7
           have c4_8 : w4.cell? ⟨w.heap.size, 8, none⟩ = some (.int .i64 bank) := B4.out.cell 8
           have c4_9 : w4.cell? ⟨w.heap.size, 9, none⟩ = some (.slice q m c2) := B4.out.cell 9)))
  clear q1 q2 q3 q4 q5 q6
  clear c1_0 c1_1 c1_2 c1_3 c1_4 c1_5 c1_6 c1_7 c1_8 c1_9 c2_0 c2_1 c2_2 c2_3 c2_4 c2_5 c2_6 c2_7 c2_8 c2_9 c3_0 c3_1 c3_2 c3_3 c3_4 c3_5 c3_6 c3_7 c3_8 c3_9 c4_0 c4_1 c4_2 c4_3 c4_4 c4_5 c4_6 c4_7 c4_8 c4_9 a0 a1 a2 a3 a4 a5 a6 a7 a8 a9
  have b9 : w4.cell? ⟨w.heap.size, 9, none⟩ = some (.slice q m c2) := B4.out.cell 9
  go_wp2
  clear b9
  go_loopw [3, 4] (fun o i wr => ∃ (k : Nat) (S : ByteArray), k ≤ m ∧ i = .int .i64 k ∧ o = .string S ∧ S = ⟨(joinB 59 ([p1, p2, p3, p4] ++ (vs.take k).map (fun v => numsText (visitNums v)))).toArray⟩ ∧ S.size ≤ 700 + 100 * k ∧ Ext w wr ∧ Blk wr w.heap.size 30 #[.int .i64 wide, .int .i64 deep, .slice p n cap, .int .i64 free, .int .i64 step, .int .i64 price, .int .i64 capp, .int .i64 clock, .int .i64 bank, .slice q m c2]) (fun _ i _ => m - (intOf i).toNat)
  case atStart => exact ⟨0, _, Nat.zero_le _, rfl, rfl, by rw [HF.out]; simp, by simp only [ByteArray.size_append, sz59]; omega, X4.out, B4.out⟩
  case round =>
    obtain ⟨k, S, hk, rfl, rfl, hS, hSz, hE, hB⟩ := hrel
    have HSt := Lib.hid hS
    have HBr := Lib.hid hB
    have hszr : w.heap.size < wr.heap.size := hB.lt
    clear X4 B4 hS hB HF
    by_cases hlt : k < m
    · obtain ⟨b, off, a0, a1, a2, a3, rfl, hv, hb, g0, g1, g2, g3⟩ := visit_at (HS.out.ext hE) hlt
      obtain ⟨v0, v0', v1, v1', v2, v2', v3, v3'⟩ := HG.out _ (List.mem_of_getElem? hv)
      dsimp only at v0 v0' v1 v1' v2 v2' v3 v3'
      have hsn : Hid (joinB 59 ([p1, p2, p3, p4] ++ (vs.take (k + 1)).map (fun v => numsText (visitNums v))) = joinB 59 ([p1, p2, p3, p4] ++ (vs.take k).map (fun v => numsText (visitNums v))) ++ 59 :: numsText [a0, a1, a2, a3]) := by
        show _ = _
        rw [take_snocL hv, List.map_append]
        simp [joinB, tailB, visitNums]
      obtain ⟨t1, e1, m1⟩ := str_letter (dec a0) 21 (dec_len _ (by omega))
      obtain ⟨t2, e2, m2⟩ := str_letter (dec a1) 21 (dec_len _ (by omega))
      obtain ⟨t3, e3, m3⟩ := str_letter (dec a2) 21 (dec_len _ (by omega))
      obtain ⟨t4, e4, m4⟩ := str_letter (dec a3) 21 (dec_len _ (by omega))
      have HN5 : Hid (∀ w, Calls Tryz.prog 102 #[.int .i64 a0] w fun e w' => e = .returned (.string t1) ∧ Ext w w') := fun w => by rw [e1]; exact l1Num a0 w v0 (by omega)
      have HN6 : Hid (∀ w, Calls Tryz.prog 102 #[.int .i64 a1] w fun e w' => e = .returned (.string t2) ∧ Ext w w') := fun w => by rw [e2]; exact l1Num a1 w v1 (by omega)
      have HN7 : Hid (∀ w, Calls Tryz.prog 102 #[.int .i64 a2] w fun e w' => e = .returned (.string t3) ∧ Ext w w') := fun w => by rw [e3]; exact l1Num a2 w v2 (by omega)
      have HN8 : Hid (∀ w, Calls Tryz.prog 102 #[.int .i64 a3] w fun e w' => e = .returned (.string t4) ∧ Ext w w') := fun w => by rw [e4]; exact l1Num a3 w v3 (by omega)
      have hk12 : S.size ≤ 1900 := by omega
      have HSz := Lib.hid hSz
      have HV4 := Lib.hid (visit_str S t1 t2 t3 t4 a0 a1 a2 a3 _ HSt.out e1 e2 e3 e4)
      clear e1 e2 e3 e4 v0 v0' v1 v1' v2 v2' v3 v3' hv hSz
      have i1 : (0 : Int) ≤ (k : Int) := by omega
      have i2 : (k : Int) < (m : Int) := by omega
      have r1 : ¬ 9223372036854775807 < S.size + 1 := by omega
      have r2 : ¬ 9223372036854775807 < S.size + 1 + t1.size := by omega
      have r3 : ¬ 9223372036854775807 < S.size + 1 + t1.size + 1 := by omega
      have r4 : ¬ 9223372036854775807 < S.size + 1 + t1.size + 1 + t2.size := by omega
      have r5 : ¬ 9223372036854775807 < S.size + 1 + t1.size + 1 + t2.size + 1 := by omega
      have r6 : ¬ 9223372036854775807 < S.size + 1 + t1.size + 1 + t2.size + 1 + t3.size := by omega
      have r7 : ¬ 9223372036854775807 < S.size + 1 + t1.size + 1 + t2.size + 1 + t3.size + 1 := by omega
      have r8 : ¬ 9223372036854775807 < S.size + 1 + t1.size + 1 + t2.size + 1 + t3.size + 1 + t4.size := by omega
      have B4 : Hid (Blk (wr.alloc (.cells #[.int .i64 a0, .int .i64 a1, .int .i64 a2, .int .i64 a3] 38)) wr.heap.size 38 #[.int .i64 a0, .int .i64 a1, .int .i64 a2, .int .i64 a3]) := Blk.new wr _ _
      have X4 : Hid (Ext w (wr.alloc (.cells #[.int .i64 a0, .int .i64 a1, .int .i64 a2, .int .i64 a3] 38))) := hE.alloc _
      have HB4 := Lib.hid (HBr.out.alloc (.cells #[.int .i64 a0, .int .i64 a1, .int .i64 a2, .int .i64 a3] 38))
      have b9 : wr.cell? ⟨w.heap.size, 9, none⟩ = some (.slice (some ⟨b, off, none⟩) m c2) := HBr.out.cell 9
      go_wp2
      go_region_held3 (fun w' => w'.cell? ⟨wr.heap.size, 0, none⟩ = some (.int .i64 a0) ∧ w'.cell? ⟨wr.heap.size, 1, none⟩ = some (.int .i64 a1) ∧ w'.cell? ⟨wr.heap.size, 2, none⟩ = some (.int .i64 a2) ∧ w'.cell? ⟨wr.heap.size, 3, none⟩ = some (.int .i64 a3)) (first | (refine ⟨?_, ?_, ?_, ?_⟩ <;> assumption) | go_keep)
    ((go_at_call 102; (first
            | ((with_reducible refine (HN5.out _).mono ?_)
               rintro e w5 ⟨rfl, hh5⟩
               (try replace hh5 := hh5.of_drew)
               have B5 := Lib.hid (B4.out.ext hh5)
               have X5 := Lib.hid (X4.out.trans hh5)
               have HB5 := Lib.hid (HB4.out.ext hh5)
               clear hh5
               have d1_0 : w5.cell? ⟨wr.heap.size, 0, none⟩ = some (.int .i64 a0) := B5.out.cell 0
               have d1_1 : w5.cell? ⟨wr.heap.size, 1, none⟩ = some (.int .i64 a1) := B5.out.cell 1
               have d1_2 : w5.cell? ⟨wr.heap.size, 2, none⟩ = some (.int .i64 a2) := B5.out.cell 2
               have d1_3 : w5.cell? ⟨wr.heap.size, 3, none⟩ = some (.int .i64 a3) := B5.out.cell 3)
            | ((with_reducible refine (HN6.out _).mono ?_)
               rintro e w6 ⟨rfl, hh6⟩
               (try replace hh6 := hh6.of_drew)
               have B6 := Lib.hid (B5.out.ext hh6)
               have X6 := Lib.hid (X5.out.trans hh6)
               have HB6 := Lib.hid (HB5.out.ext hh6)
               clear hh6
               have d2_0 : w6.cell? ⟨wr.heap.size, 0, none⟩ = some (.int .i64 a0) := B6.out.cell 0
               have d2_1 : w6.cell? ⟨wr.heap.size, 1, none⟩ = some (.int .i64 a1) := B6.out.cell 1
               have d2_2 : w6.cell? ⟨wr.heap.size, 2, none⟩ = some (.int .i64 a2) := B6.out.cell 2
               have d2_3 : w6.cell? ⟨wr.heap.size, 3, none⟩ = some (.int .i64 a3) := B6.out.cell 3)
            | ((with_reducible refine (HN7.out _).mono ?_)
               rintro e w7 ⟨rfl, hh7⟩
               (try replace hh7 := hh7.of_drew)
               have B7 := Lib.hid (B6.out.ext hh7)
               have X7 := Lib.hid (X6.out.trans hh7)
               have HB7 := Lib.hid (HB6.out.ext hh7)
               clear hh7
               have d3_0 : w7.cell? ⟨wr.heap.size, 0, none⟩ = some (.int .i64 a0) := B7.out.cell 0
               have d3_1 : w7.cell? ⟨wr.heap.size, 1, none⟩ = some (.int .i64 a1) := B7.out.cell 1
               have d3_2 : w7.cell? ⟨wr.heap.size, 2, none⟩ = some (.int .i64 a2) := B7.out.cell 2
               have d3_3 : w7.cell? ⟨wr.heap.size, 3, none⟩ = some (.int .i64 a3) := B7.out.cell 3)
            | ((with_reducible refine (HN8.out _).mono ?_)
               rintro e w8 ⟨rfl, hh8⟩
               (try replace hh8 := hh8.of_drew)
               have B8 := Lib.hid (B7.out.ext hh8)
               have X8 := Lib.hid (X7.out.trans hh8)
               have HB8 := Lib.hid (HB7.out.ext hh8)
               clear hh8
               have d4_0 : w8.cell? ⟨wr.heap.size, 0, none⟩ = some (.int .i64 a0) := B8.out.cell 0
               have d4_1 : w8.cell? ⟨wr.heap.size, 1, none⟩ = some (.int .i64 a1) := B8.out.cell 1
               have d4_2 : w8.cell? ⟨wr.heap.size, 2, none⟩ = some (.int .i64 a2) := B8.out.cell 2
               have d4_3 : w8.cell? ⟨wr.heap.size, 3, none⟩ = some (.int .i64 a3) := B8.out.cell 3))))
      clear d1_0 d1_1 d1_2 d1_3 d2_0 d2_1 d2_2 d2_3 d3_0 d3_1 d3_2 d3_3 d4_0 d4_1 d4_2 d4_3
      clear r1 r2 r3 r4 r5 r6 r7 r8
      go_wp2
      go_roundw
      case rel => exact ⟨k + 1, _, by omega, by go_num, rfl, by rw [HV4.out, hsn.out], by have := HSz.out; simp only [ByteArray.size_append, sz59, sz44]; omega, X8.out, HB8.out⟩
      case measure => simp [intOf]; omega
    · have hfin : Hid (joinB 59 ([p1, p2, p3, p4] ++ (vs.take k).map (fun v => numsText (visitNums v))) = joinB 59 ([p1, p2, p3, p4] ++ vs.map (fun v => numsText (visitNums v)))) := by
        show _ = _; rw [List.take_of_length_le (by rw [hl.out]; omega)]
      have b9 : wr.cell? ⟨w.heap.size, 9, none⟩ = some (.slice q m c2) := HBr.out.cell 9
      go_wp2
      go_ret
      exact ⟨ret_strB (by rw [HSt.out, hfin.out]; rfl), hE⟩

theorem hallText_len {wide deep : Int} {xs : List Int} : (hallText wide deep xs).length ≤ 400 := by
  unfold hallText
  cases h : hallOk wide deep xs with
  | false => simp
  | true =>
    obtain ⟨h1, h2, h3, h4, h5, h6, h7, h8, h9⟩ := hallOk_parts h
    rw [if_pos rfl]
    have := hallTextN_len wide xs (fun x hx => (h8 x hx).2) xs.length
    omega
theorem house_nums {h : HouseD} (hok : houseOk h = true) : hallOk h.wide h.deep h.cells = true ∧ 0 ≤ h.free ∧ h.free ≤ 1440 ∧ 0 ≤ h.step ∧ h.step ≤ 1440 ∧ 0 ≤ h.price ∧ h.price ≤ 99 ∧ 0 ≤ h.capp ∧ h.capp ≤ 99 ∧ 0 ≤ h.clock ∧ h.clock ≤ 9999 ∧ 0 ≤ h.bank ∧ h.bank ≤ 99999 ∧ h.vs.length ≤ 12 ∧
    ∀ v ∈ h.vs, 0 ≤ v.1 ∧ v.1 ≤ 99999 ∧ 0 ≤ v.2.1 ∧ v.2.1 ≤ 99999 ∧ 0 ≤ v.2.2.1 ∧ v.2.2.1 ≤ 99999 ∧ 0 ≤ v.2.2.2 ∧ v.2.2.2 ≤ 99999 := by
  have hv := (visits_nodup hok).2
  unfold houseOk at hok
  simp only [Bool.and_eq_true] at hok
  obtain ⟨⟨⟨h1, h2⟩, h3⟩, h4⟩ := hok
  have ht := tariff_parts h2
  unfold numsOk at h3
  simp at h3
  obtain ⟨q1, q2⟩ := visitsOk_len h4
  obtain ⟨_, _, _, _, _, _, _, hc, _⟩ := hallOk_parts h1
  refine ⟨h1, by omega, by omega, by omega, by omega, by omega, by omega, by omega, by omega, by omega, by omega, by omega, by omega, hv.1, fun v hm => ?_⟩
  have a := q2 v hm
  unfold visitOk at a
  rw [Bool.and_eq_true] at a
  have b := stay_parts a.1
  have c : v.1 ∈ carsOf h.cells := by rw [← q1]; exact List.mem_map_of_mem hm
  have d : v.1 ∈ posOfL h.cells := (sortL_perm _).mem_iff.1 c
  have e := hc v.1 (List.mem_filter.1 d).1
  omega
theorem specHouseText (h : HouseD) (p : Option Addr) (n cap : Nat) (q : Option Addr) (m c2 : Nat) (w : World) (hi : IsHouse w h p n cap q m c2) :
    Calls Tryz.prog 47 #[houseV h p n cap q m c2] w fun e w' => e = .returned (str (houseText h)) ∧ Ext w w' := by
  have HV := fun (w' : World) (hx : Ext w w') => specHouse h p n cap q m c2 w' (hi.ext hx)
  have hvl := hi.vlen
  unfold houseText
  cases hok : houseOk h with
  | false =>
    rw [hok] at HV
    simpa using specHtext_bad h.wide h.deep h.free h.step h.price h.capp h.clock h.bank p n cap q m c2 w HV
  | true =>
    rw [hok] at HV
    obtain ⟨g0, g1, g2, g3, g4, g5, g6, g7, g8, g9, g10, g11, g12, g13, g14⟩ := house_nums hok
    rw [if_pos rfl]
    have l3 := dec_len h.clock (by omega)
    have l4 := dec_len h.bank (by omega)
    have l2 := nums_len4 h.free h.step h.price h.capp (by omega) (by omega) (by omega) (by omega)
    exact specHtext_ok h.wide h.deep h.free h.step h.price h.capp h.clock h.bank p n cap q m c2 w h.vs _ _ _ _ hallText_len (by omega) (by omega) (by omega) (by omega) hi.vs g14 HV
      (fun w' hx => specHallText h.wide h.deep p n cap h.cells w' (hi.cells.ext hx)) (fun w' => specTariffText h.free h.step h.price h.capp w' (by omega) (by omega) (by omega) (by omega) (by omega) (by omega) (by omega) (by omega))
      (fun w' => l1Num h.clock w' (by omega) (by omega)) (fun w' => l1Num h.bank w' (by omega) (by omega))
end Go.Proofs.YteejdnmmpmcmeaaGreatDoor

/-
  The rewrite's numbersText. Conditions: the slice reads as a list of at most ten numbers from 0 on; the library's table is laid.
-/
namespace Go.Proofs.YteejdnmmpmcmeaaGreatDoor
open Go.RowKit
set_option linter.unusedVariables false
set_option linter.unusedSimpArgs false

theorem made_strs (n : Nat) : (madeCells (Value.string ⟨#[]⟩).cells (n * 1)).toList = List.replicate n (Value.string ⟨#[]⟩) := by
  apply List.ext_getElem <;> simp [madeCells, Value.cells, Nat.mod_one]
theorem strs_len {xs : List Int} {k : Nat} (hl : (xs.take k).length = k) : (strV ((xs.take k).map dec)).length = k := by simp only [strV, List.length_map]; exact hl
theorem strs_next {xs : List Int} {k n : Nat} {x : Int} (h : k < n) (hx : xs[k]? = some x) (hl : (xs.take k).length = k) : (strV ((xs.take k).map dec) ++ List.replicate (n - k) (Value.string ⟨#[]⟩)).set k (str (dec x)) = strV ((xs.take (k + 1)).map dec) ++ List.replicate (n - (k + 1)) (Value.string ⟨#[]⟩) := by
  rw [take_snocL hx, show n - k = (n - (k + 1)) + 1 by omega, List.replicate_succ]
  rw [List.set_append_right _ _ (by rw [strs_len hl]; exact Nat.le_refl _), strs_len hl, Nat.sub_self, List.set_cons_zero]
  simp [strV]
theorem strs_get {xs : List Int} {k n : Nat} (h : k < n) (hl : (xs.take k).length = k) : (strV ((xs.take k).map dec) ++ List.replicate (n - k) (Value.string ⟨#[]⟩))[k]? = some (Value.string ⟨#[]⟩) := by
  rw [List.getElem?_append_right (by rw [strs_len hl]; exact Nat.le_refl _), strs_len hl, Nat.sub_self, show n - k = (n - (k + 1)) + 1 by omega, List.replicate_succ]; rfl

set_option maxRecDepth 100000 in
set_option maxHeartbeats 1000000 in
theorem implNumbers (p : Option Addr) (n cap : Nat) (xs : List Int) (w : World) (hn0 : 0 < n) (hn : n ≤ 10) (hx : ∀ x ∈ xs, 0 ≤ x ∧ x ≤ 9223372036854775807) (hE : Env w) (hS : Sl w p n cap 1 (ivs xs)) :
    Calls Tryz.prog 98 #[.slice p n cap] w fun e w' => e = .returned (str (numsText xs)) ∧ Ext w w' := by
  obtain ⟨i0, hi, hz0, hz1, hz2⟩ := info_parts (show (Tryz.prog.info? 9).map (fun i => (i.zero, i.size, i.bytes)) = some (some (.string ⟨#[]⟩), 1, 16) by kernel_rfl)
  have hl := Lib.hid hS.ilen
  have HS := Lib.hid hS
  have HX := Lib.hid hx
  have HE := Lib.hid hE
  have HL : Hid ((numsText xs).length ≤ 140737488355328) := by
    show _ ≤ _
    have h1 := tail_len 44 21 ((xs.map dec).drop 1) (fun y hy => by
      obtain ⟨z, hz, rfl⟩ := List.mem_map.1 (List.mem_of_mem_drop hy)
      exact dec_len z (hx z hz).2)
    have h2 : xs.length = n := hS.ilen
    unfold numsText
    cases hq : xs.map dec with
    | nil => simp [joinB]
    | cons a r =>
      have ha : a.length ≤ 21 := by
        have : a ∈ xs.map dec := by rw [hq]; simp
        obtain ⟨z, hz, rfl⟩ := List.mem_map.1 this
        exact dec_len z (hx z hz).2
      have hr : r.length + 1 = n := by have := congrArg List.length hq; simp at this; omega
      rw [hq] at h1
      simp only [List.drop_succ_cons, List.drop_zero] at h1
      simp only [joinB, List.length_append]
      omega
  clear hS hx hE
  go_enter Tryz.func98, Tryz.ntmps98
  go_wp2_with (at_make; refine wpList_make_full _ rfl _ _ 77 rfl w.heap.size 9 i0 (.string ⟨#[]⟩) 1 Tryz.underlying77 hi hz0 hz1 .i64 .i64 _ _ n rfl rfl rfl rfl (by rw [hz2]; omega) (by unfold maxLen; omega) (Nat.le_refl _) ?_; intro w0 hown0 hgrow0)
  have hE0 : Ext w w0 := (Ext.refl w).grown hgrow0 (fun q hq => by cases hq)
  have hg0 := (hown0.lt w.heap.size rfl).2
  rw [made_strs] at hown0
  have HO0 := Lib.hid hown0
  clear hown0 hgrow0 hi hz0 hz1 hz2
  go_loopw [11] (fun i wr => ∃ k : Nat, k ≤ n ∧ i = .int .i64 k ∧ wr.ownsRow w.heap.size 9 1 (.slice (some ⟨w.heap.size, 0, none⟩) n n) n (strV ((xs.take k).map dec) ++ List.replicate (n - k) (Value.string ⟨#[]⟩)) ∧ Ext w wr) (fun i _ => n - (intOf i).toNat)
  case atStart => exact ⟨0, Nat.zero_le _, rfl, by simpa [strV] using HO0.out, hE0⟩
  case round =>
    obtain ⟨k, hk, rfl, hown, hEr⟩ := hrel
    have HO := Lib.hid hown
    clear hown
    by_cases hlt : k < n
    · obtain ⟨b, off, x, rfl, hx, hb, hcell⟩ := (HS.out.ext hEr).int_at hlt
      obtain ⟨hx0, hx1⟩ := HX.out x (List.mem_of_getElem? hx)
      have HXk := Lib.hid hx
      clear hx
      have hlt' : (xs.take k).length = k := by rw [List.length_take, hl.out]; omega
      go_wp2_with fail
      refine (itoaI x _ hx0 hx1 (HE.out.ext (by (repeat' (first | exact Ext.refl _ | (with_reducible assumption) | (with_reducible refine Ext.alloc ?_ _) | (with_reducible refine Ext.setCell ?_ (by first | exact Nat.le_refl _ | (dsimp only; omega) | (simp; done) | (simp; omega)) _) | (with_reducible refine Ext.drew ?_) | (with_reducible refine Ext.drewN ?_ _) | (refine Ext.trans ?_ (by with_reducible assumption))))))).mono ?_
      rintro e w1 ⟨rfl, h1⟩
      have hown1 := HO.out.kept h1.gb (by simp [Value.ownBlock])
      have hg1 : w.heap.size < w1.heap.size := (hown1.lt w.heap.size rfl).2
      have o0 : w1.cell? ⟨w.heap.size, k, none⟩ = some (.string ⟨#[]⟩) := by
        rw [hown1.cellAt k (by omega)]
        exact strs_get hlt hlt'
      have f0 : w1.frozen? ⟨w.heap.size, k, none⟩ = false := hown1.frozenAt k
      have HN : Hid ((w1.setCell ⟨w.heap.size, k, none⟩ (str (dec x))).ownsRow w.heap.size 9 1 (.slice (some ⟨w.heap.size, 0, none⟩) n n) n (strV ((xs.take (k + 1)).map dec) ++ List.replicate (n - (k + 1)) (Value.string ⟨#[]⟩))) := by
        have := (hown1.stored k (str (dec x))).1
        rw [strs_next hlt HXk.out hlt'] at this
        exact this
      have hszr := hEr.sz
      clear hown1
      go_wp2
      go_roundw
      case rel => exact ⟨k + 1, by omega, by go_num, HN.out, by (repeat' (first | exact Ext.refl _ | (with_reducible assumption) | (with_reducible refine Ext.alloc ?_ _) | (with_reducible refine Ext.setCell ?_ (by first | exact Nat.le_refl _ | (dsimp only; omega) | (simp; done) | (simp; omega)) _) | (with_reducible refine Ext.drew ?_) | (with_reducible refine Ext.drewN ?_ _) | (refine Ext.trans ?_ (by with_reducible assumption))))⟩
      case measure => simp [intOf]; omega
    · have hfin : Hid (wr.ownsRow w.heap.size 9 1 (.slice (some ⟨w.heap.size, 0, none⟩) n n) n (strV (xs.map dec))) := by
        have := HO.out
        rw [show n - k = 0 by omega, List.replicate_zero, List.append_nil, List.take_of_length_le (by rw [hl.out]; omega)] at this
        exact this
      go_wp2_with fail
      refine (join_any (xs.map dec) 44 _ n n _ (by rw [List.length_map]; exact hl.out) hn0 (Sl.own hfin.out) HL.out (by omega)).mono ?_
      rintro e w1 ⟨rfl, h1⟩
      go_wp2
      go_ret
      exact ⟨rfl, by (repeat' (first | exact Ext.refl _ | (with_reducible assumption) | (with_reducible refine Ext.alloc ?_ _) | (with_reducible refine Ext.setCell ?_ (by first | exact Nat.le_refl _ | (dsimp only; omega) | (simp; done) | (simp; omega)) _) | (with_reducible refine Ext.drew ?_) | (with_reducible refine Ext.drewN ?_ _) | (refine Ext.trans ?_ (by with_reducible assumption))))⟩
end Go.Proofs.YteejdnmmpmcmeaaGreatDoor

/-
  impl.HouseText. Conditions: the house's slices read as lists; the library's table is laid.
-/
namespace Go.Proofs.YteejdnmmpmcmeaaGreatDoor
open Go.RowKit
set_option linter.unusedVariables false
set_option linter.unusedSimpArgs false

theorem elStr : ElT Tryz.prog 77 9 1 :=
  ⟨Tryz.underlying77, by
    obtain ⟨i, hi, h0, h1, h2⟩ := info_parts (show (Tryz.prog.info? 9).map (fun i => (i.zero, i.size, i.bytes)) = some (some (.string ⟨#[]⟩), 1, 16) by kernel_rfl)
    exact ⟨i, _, hi, h0, h1, by omega, rfl⟩, Nat.one_pos⟩
theorem strV_flat (xs : List (List UInt8)) : xs.flatMap (fun s => [str s]) = strV xs := by induction xs with | nil => rfl | cons x xs ih => simp_all [strV]
theorem wpList_append_str {w : World} {ops : Array Oper} {rest : List Oper} {o : Oper} {a : Act} {Q : Exit → Act → World → Prop} (hgd : o.guard = none) (s x : Operand)
    (ho : o.op = .call { callee := .builtin .append, args := #[s, x], argTypes := #[77, 77] })
    (base : Nat) (v : Value) (n : Nat) (xs : List (List UInt8)) (hs : a.eval s = v) (hown : w.ownsRow base 9 1 v n (strV xs))
    (b off : Nat) (y : List UInt8) (c : Nat) (hx : a.eval x = .slice (some ⟨b, off, none⟩) 1 c) (hc : w.cell? ⟨b, off, none⟩ = some (str y))
    (hn : n ≤ 1099511627776) (hbase : base ≤ w.heap.size)
    (h : ∀ p' cap' w', w'.ownsRow base 9 1 (.slice p' (n + 1) cap') (n + 1) (strV (xs ++ [y])) → w.grownBy w' v.ownBlock → wpList Tryz.prog ops Q rest (a.put o.dst (.slice p' (n + 1) cap')) w') : wpList Tryz.prog ops Q (o :: rest) a w := by
  refine wpList_append_el elStr (f := fun x => [str x]) (fun _ => rfl) (fun _ u hu => by simp at hu; subst hu; rfl) hgd s x ho base v n xs hs (by rw [strV_flat]; exact hown) b off y c hx (fun j u hu => ?_) hn hbase (fun p' cap' w' h2 h3 => h p' cap' w' (by rw [strV_flat] at h2; exact h2) h3)
  match j, hu with
  | 0, hu => simp at hu; subst hu; exact hc
theorem Blk.sl {w : World} {g n : Nat} {t : TypeId} {cs : Array Value} (h : Blk w g t cs) (hn : cs.size = n) (hm : n ≤ maxLen) : Sl w (some ⟨g, 0, none⟩) n n 1 cs.toList :=
  ⟨by simpa using hn, Nat.le_refl _, hm, fun _ => ⟨g, 0, rfl, h.lt, fun k hk => by rw [Nat.zero_add, h.cell k]; simp⟩⟩
theorem Blk.own {w : World} {g n base : Nat} {t : TypeId} {cs : Array Value} (h : Blk w g t cs) (hn : cs.size = n) (hm : n ≤ maxLen) (hb : base ≤ g) : w.ownsRow base t 1 (.slice (some ⟨g, 0, none⟩) n n) n cs.toList :=
  ⟨by simpa using hn, .inr ⟨g, n, cs, rfl, hb, h, Nat.le_refl _, hm, by omega, by rw [Nat.mul_one, List.take_of_length_le (by simp; omega)]⟩⟩

set_option maxRecDepth 100000 in
set_option maxHeartbeats 1000000 in
theorem implHtext_ok (wide deep free step price capp clock bank : Int) (p : Option Addr) (n cap : Nat) (q : Option Addr) (m c2 : Nat) (w : World) (vs : List Visit4) (p1 p2 p3 p4 : List UInt8) (hm12 : m ≤ 12) (hl : Hid (vs.length = m)) (HS : Hid (Sl w q m c2 4 (vs.flatMap visitCells)))
    (HL : Hid ((joinB 59 ([p1, p2, p3, p4] ++ vs.map (fun v => numsText (visitNums v)))).length ≤ 140737488355328))
    (HN : Hid (∀ v ∈ vs, ∀ w' g, Ext w w' → Sl w' (some g) 4 4 1 (ivs (visitNums v)) → Calls Tryz.prog 98 #[.slice (some g) 4 4] w' fun e w'' => e = .returned (str (numsText (visitNums v))) ∧ Ext w' w''))
    (HV : Hid (∀ w', Ext w w' → Calls Tryz.prog 16 #[.agg #[.int .i64 wide, .int .i64 deep, .slice p n cap, .int .i64 free, .int .i64 step, .int .i64 price, .int .i64 capp, .int .i64 clock, .int .i64 bank, .slice q m c2]] w' fun e w'' => e = .returned (.bool true) ∧ Ext w' w''))
    (H1 : Hid (∀ w', Ext w w' → Calls Tryz.prog 68 #[hallV wide deep p n cap] w' fun e w'' => e = .returned (str p1) ∧ Ext w' w''))
    (H2 : Hid (∀ w' g, Ext w w' → Sl w' (some g) 4 4 1 (ivs [free, step, price, capp]) → Calls Tryz.prog 98 #[.slice (some g) 4 4] w' fun e w'' => e = .returned (str p2) ∧ Ext w' w''))
    (H3 : Hid (∀ w' g, Ext w w' → Sl w' (some g) 1 1 1 (ivs [clock]) → Calls Tryz.prog 98 #[.slice (some g) 1 1] w' fun e w'' => e = .returned (str p3) ∧ Ext w' w''))
    (H4 : Hid (∀ w' g, Ext w w' → Sl w' (some g) 1 1 1 (ivs [bank]) → Calls Tryz.prog 98 #[.slice (some g) 1 1] w' fun e w'' => e = .returned (str p4) ∧ Ext w' w'')) :
    Calls Tryz.prog 46 #[.agg #[.int .i64 wide, .int .i64 deep, .slice p n cap, .int .i64 free, .int .i64 step, .int .i64 price, .int .i64 capp, .int .i64 clock, .int .i64 bank, .slice q m c2]] w fun e w' => e = .returned (str (joinB 59 ([p1, p2, p3, p4] ++ vs.map (fun v => numsText (visitNums v))))) ∧ Ext w w' := by
  go_enter Tryz.func46, Tryz.ntmps46
  go_wp2_with fail
  refine (HV.out _ (by (repeat' (first | exact Ext.refl _ | (with_reducible assumption) | (with_reducible refine Ext.alloc ?_ _) | (with_reducible refine Ext.setCell ?_ (by first | exact Nat.le_refl _ | (dsimp only; omega) | (simp; done) | (simp; omega)) _) | (with_reducible refine Ext.drew ?_) | (with_reducible refine Ext.drewN ?_ _) | (refine Ext.trans ?_ (by with_reducible assumption)))))).mono ?_
  rintro e w0 ⟨rfl, hh0⟩
  have B0 := Lib.hid ((Blk.new w 30 #[.int .i64 wide, .int .i64 deep, .slice p n cap, .int .i64 free, .int .i64 step, .int .i64 price, .int .i64 capp, .int .i64 clock, .int .i64 bank, .slice q m c2]).ext hh0)
  have X0 : Hid (Ext w w0) := by show Ext w w0; (repeat' (first | exact Ext.refl _ | (with_reducible assumption) | (with_reducible refine Ext.alloc ?_ _) | (with_reducible refine Ext.setCell ?_ (by first | exact Nat.le_refl _ | (dsimp only; omega) | (simp; done) | (simp; omega)) _) | (with_reducible refine Ext.drew ?_) | (with_reducible refine Ext.drewN ?_ _) | (refine Ext.trans ?_ (by with_reducible assumption))))
  have X0' := X0.out
  have hz0 : w.heap.size < w0.heap.size := B0.out.lt
  clear hh0
  go_wp2
  refine region_lin (gl [gEq (.pointer (some ⟨w.heap.size, 0, none⟩)), gEq (hallV wide deep p n cap), gEq (str p1), gEq (.pointer (some ⟨w.heap.size, 3, none⟩)), gEq (.pointer (some ⟨w.heap.size, 3, none⟩)), gEq (.int .i64 free), gEq (.pointer (some ⟨w.heap.size, 3, none⟩)), gEq (.pointer (some ⟨w.heap.size, 4, none⟩)), gEq (.int .i64 step), gEq (.pointer (some ⟨w.heap.size, 3, none⟩)), gEq (.pointer (some ⟨w.heap.size, 5, none⟩)), gEq (.int .i64 price), gEq (.pointer (some ⟨w.heap.size, 3, none⟩)), gEq (.pointer (some ⟨w.heap.size, 6, none⟩)), gEq (.int .i64 capp), gLit (w.heap.size) TI #[.int .i64 free, .int .i64 step, .int .i64 price, .int .i64 capp] 4, gEq (str p2), gEq (.pointer (some ⟨w.heap.size, 7, none⟩)), gEq (.int .i64 clock), gLit (w.heap.size) TI #[.int .i64 clock] 1, gEq (str p3), gEq (.pointer (some ⟨w.heap.size, 8, none⟩)), gEq (.int .i64 bank), gLit (w.heap.size) TI #[.int .i64 bank] 1, gEq (str p4), gLit (w.heap.size + 1) 9 #[str p1, str p2, str p3, str p4] 4]) 26 (by kernel_rfl) rfl (by kernel_rfl) (by kernel_rfl) (by kernel_rfl) (gl_mono (gl_cons (gEq_mono _) (gl_cons (gEq_mono _) (gl_cons (gEq_mono _) (gl_cons (gEq_mono _) (gl_cons (gEq_mono _) (gl_cons (gEq_mono _) (gl_cons (gEq_mono _) (gl_cons (gEq_mono _) (gl_cons (gEq_mono _) (gl_cons (gEq_mono _) (gl_cons (gEq_mono _) (gl_cons (gEq_mono _) (gl_cons (gEq_mono _) (gl_cons (gEq_mono _) (gl_cons (gEq_mono _) (gl_cons (gLit_mono _ _ _ _) (gl_cons (gEq_mono _) (gl_cons (gEq_mono _) (gl_cons (gEq_mono _) (gl_cons (gLit_mono _ _ _ _) (gl_cons (gEq_mono _) (gl_cons (gEq_mono _) (gl_cons (gEq_mono _) (gl_cons (gLit_mono _ _ _ _) (gl_cons (gEq_mono _) (gl_cons (gLit_mono _ _ _ _) (gl_nil)))))))))))))))))))))))))))) (k := 27) (by kernel_rfl) (by decide) (ls := [(0, some 9), (1, some 10), (2, some 11), (3, some 12), (4, some 13), (5, some 14), (6, some 15), (7, some 16), (8, some 17), (9, some 18), (10, some 19), (11, some 20), (12, some 21), (13, some 22), (14, some 23), (15, some 24), (16, some 25), (17, some 26), (18, some 27), (19, some 28), (20, some 29), (21, some 30), (22, some 31), (23, some 32), (24, some 33), (25, some 34)]) (by kernel_rfl) (ir := [0, 1, 2, 3, 4, 5, 6, 7, 8, 9, 10, 11, 12, 13, 14, 15, 16, 17, 18, 19, 20, 21, 22, 23, 24, 25]) (by kernel_rfl) ?steps (tl := #[true, true, true, true, true, true, true, true, true, true, true, true, true, true, true, true, true, true, true, true, true, true, true, true, true, true, false]) (by kernel_rfl) ?fin
  case steps =>
    refine StepsL.cons (ps := []) rfl (by kernel_rfl) (fun wi hx => ?_) ?_
    · intro K hK
      go_simp
      exact hK _ _ ⟨.pointer (some ⟨w.heap.size, 0, none⟩), rfl, rfl, Ext.refl _⟩
    refine StepsL.cons (ps := [(0, some 9)]) rfl (by kernel_rfl) (fun wi hx => ?_) ?_
    · intro v0 h0 K hK
      obtain rfl := h0
      have B := Lib.hid (B0.out.ext hx.of_drew)
      have c0 : wi.cell? ⟨w.heap.size, 0, none⟩ = some (.int .i64 wide) := B.out.cell 0
      have c1 : wi.cell? ⟨w.heap.size, 1, none⟩ = some (.int .i64 deep) := B.out.cell 1
      have c2 : wi.cell? ⟨w.heap.size, 2, none⟩ = some (.slice p n cap) := B.out.cell 2
      go_simp
      exact hK _ _ ⟨hallV wide deep p n cap, rfl, rfl, Ext.refl _⟩
    refine StepsL.cons (ps := [(1, some 10)]) rfl (by kernel_rfl) (fun wi hx => ?_) ?_
    · intro v1 h1 K hK
      obtain rfl := h1
      go_wp2_with fail
      refine (H1.out _ (by (repeat' (first | exact Ext.refl _ | (with_reducible assumption) | (with_reducible refine Ext.alloc ?_ _) | (with_reducible refine Ext.setCell ?_ (by first | exact Nat.le_refl _ | (dsimp only; omega) | (simp; done) | (simp; omega)) _) | (with_reducible refine Ext.drew ?_) | (with_reducible refine Ext.drewN ?_ _) | (refine Ext.trans ?_ (by with_reducible assumption)))))).mono ?_
      rintro e w2 ⟨rfl, hx2⟩
      go_simp
      exact hK _ _ ⟨str p1, rfl, rfl, hx2⟩
    refine StepsL.cons (ps := []) rfl (by kernel_rfl) (fun wi hx => ?_) ?_
    · intro K hK
      go_simp
      exact hK _ _ ⟨.pointer (some ⟨w.heap.size, 3, none⟩), rfl, rfl, Ext.refl _⟩
    refine StepsL.cons (ps := [(3, some 12)]) rfl (by kernel_rfl) (fun wi hx => ?_) ?_
    · intro v3 h3 K hK
      obtain rfl := h3
      go_simp
      exact hK _ _ ⟨.pointer (some ⟨w.heap.size, 3, none⟩), rfl, rfl, Ext.refl _⟩
    refine StepsL.cons (ps := [(4, some 13)]) rfl (by kernel_rfl) (fun wi hx => ?_) ?_
    · intro v4 h4 K hK
      obtain rfl := h4
      have B := Lib.hid (B0.out.ext hx.of_drew)
      have c3 : wi.cell? ⟨w.heap.size, 3, none⟩ = some (.int .i64 free) := B.out.cell 3
      go_simp
      exact hK _ _ ⟨.int .i64 free, rfl, rfl, Ext.refl _⟩
    refine StepsL.cons (ps := []) rfl (by kernel_rfl) (fun wi hx => ?_) ?_
    · intro K hK
      go_simp
      exact hK _ _ ⟨.pointer (some ⟨w.heap.size, 3, none⟩), rfl, rfl, Ext.refl _⟩
    refine StepsL.cons (ps := [(6, some 15)]) rfl (by kernel_rfl) (fun wi hx => ?_) ?_
    · intro v6 h6 K hK
      obtain rfl := h6
      go_simp
      exact hK _ _ ⟨.pointer (some ⟨w.heap.size, 4, none⟩), rfl, rfl, Ext.refl _⟩
    refine StepsL.cons (ps := [(7, some 16)]) rfl (by kernel_rfl) (fun wi hx => ?_) ?_
    · intro v7 h7 K hK
      obtain rfl := h7
      have B := Lib.hid (B0.out.ext hx.of_drew)
      have c4 : wi.cell? ⟨w.heap.size, 4, none⟩ = some (.int .i64 step) := B.out.cell 4
      go_simp
      exact hK _ _ ⟨.int .i64 step, rfl, rfl, Ext.refl _⟩
    refine StepsL.cons (ps := []) rfl (by kernel_rfl) (fun wi hx => ?_) ?_
    · intro K hK
      go_simp
      exact hK _ _ ⟨.pointer (some ⟨w.heap.size, 3, none⟩), rfl, rfl, Ext.refl _⟩
    refine StepsL.cons (ps := [(9, some 18)]) rfl (by kernel_rfl) (fun wi hx => ?_) ?_
    · intro v9 h9 K hK
      obtain rfl := h9
      go_simp
      exact hK _ _ ⟨.pointer (some ⟨w.heap.size, 5, none⟩), rfl, rfl, Ext.refl _⟩
    refine StepsL.cons (ps := [(10, some 19)]) rfl (by kernel_rfl) (fun wi hx => ?_) ?_
    · intro v10 h10 K hK
      obtain rfl := h10
      have B := Lib.hid (B0.out.ext hx.of_drew)
      have c5 : wi.cell? ⟨w.heap.size, 5, none⟩ = some (.int .i64 price) := B.out.cell 5
      go_simp
      exact hK _ _ ⟨.int .i64 price, rfl, rfl, Ext.refl _⟩
    refine StepsL.cons (ps := []) rfl (by kernel_rfl) (fun wi hx => ?_) ?_
    · intro K hK
      go_simp
      exact hK _ _ ⟨.pointer (some ⟨w.heap.size, 3, none⟩), rfl, rfl, Ext.refl _⟩
    refine StepsL.cons (ps := [(12, some 21)]) rfl (by kernel_rfl) (fun wi hx => ?_) ?_
    · intro v12 h12 K hK
      obtain rfl := h12
      go_simp
      exact hK _ _ ⟨.pointer (some ⟨w.heap.size, 6, none⟩), rfl, rfl, Ext.refl _⟩
    refine StepsL.cons (ps := [(13, some 22)]) rfl (by kernel_rfl) (fun wi hx => ?_) ?_
    · intro v13 h13 K hK
      obtain rfl := h13
      have B := Lib.hid (B0.out.ext hx.of_drew)
      have c6 : wi.cell? ⟨w.heap.size, 6, none⟩ = some (.int .i64 capp) := B.out.cell 6
      go_simp
      exact hK _ _ ⟨.int .i64 capp, rfl, rfl, Ext.refl _⟩
    refine StepsL.cons (ps := [(5, some 14), (8, some 17), (11, some 20), (14, some 23)]) rfl (by kernel_rfl) (fun wi hx => ?_) ?_
    · intro v5 h5 v8 h8 v11 h11 v14 h14 K hK
      obtain rfl := h5
      obtain rfl := h8
      obtain rfl := h11
      obtain rfl := h14
      go_simp
      exact hK _ _ ⟨.slice (some ⟨wi.heap.size, 0, none⟩) 4 4, rfl, ⟨wi.heap.size, rfl, by have := hx.sz; simp at this; omega, Blk.new _ _ _⟩, (Ext.refl _).alloc _⟩
    refine StepsL.cons (ps := [(15, some 24)]) rfl (by kernel_rfl) (fun wi hx => ?_) ?_
    · intro v15 h15 K hK
      obtain ⟨g15, rfl, hg15, B15⟩ := h15
      go_wp2_with fail
      refine (H2.out _ _ (by (repeat' (first | exact Ext.refl _ | (with_reducible assumption) | (with_reducible refine Ext.alloc ?_ _) | (with_reducible refine Ext.setCell ?_ (by first | exact Nat.le_refl _ | (dsimp only; omega) | (simp; done) | (simp; omega)) _) | (with_reducible refine Ext.drew ?_) | (with_reducible refine Ext.drewN ?_ _) | (refine Ext.trans ?_ (by with_reducible assumption))))) (by have := B15.sl (n := 4) rfl (by simp [maxLen]); simpa using this)).mono ?_
      rintro e w2 ⟨rfl, hx2⟩
      go_simp
      exact hK _ _ ⟨str p2, rfl, rfl, hx2⟩
    refine StepsL.cons (ps := []) rfl (by kernel_rfl) (fun wi hx => ?_) ?_
    · intro K hK
      go_simp
      exact hK _ _ ⟨.pointer (some ⟨w.heap.size, 7, none⟩), rfl, rfl, Ext.refl _⟩
    refine StepsL.cons (ps := [(17, some 26)]) rfl (by kernel_rfl) (fun wi hx => ?_) ?_
    · intro v17 h17 K hK
      obtain rfl := h17
      have B := Lib.hid (B0.out.ext hx.of_drew)
      have c7 : wi.cell? ⟨w.heap.size, 7, none⟩ = some (.int .i64 clock) := B.out.cell 7
      go_simp
      exact hK _ _ ⟨.int .i64 clock, rfl, rfl, Ext.refl _⟩
    refine StepsL.cons (ps := [(18, some 27)]) rfl (by kernel_rfl) (fun wi hx => ?_) ?_
    · intro v18 h18 K hK
      obtain rfl := h18
      go_simp
      exact hK _ _ ⟨.slice (some ⟨wi.heap.size, 0, none⟩) 1 1, rfl, ⟨wi.heap.size, rfl, by have := hx.sz; simp at this; omega, Blk.new _ _ _⟩, (Ext.refl _).alloc _⟩
    refine StepsL.cons (ps := [(19, some 28)]) rfl (by kernel_rfl) (fun wi hx => ?_) ?_
    · intro v19 h19 K hK
      obtain ⟨g19, rfl, hg19, B19⟩ := h19
      go_wp2_with fail
      refine (H3.out _ _ (by (repeat' (first | exact Ext.refl _ | (with_reducible assumption) | (with_reducible refine Ext.alloc ?_ _) | (with_reducible refine Ext.setCell ?_ (by first | exact Nat.le_refl _ | (dsimp only; omega) | (simp; done) | (simp; omega)) _) | (with_reducible refine Ext.drew ?_) | (with_reducible refine Ext.drewN ?_ _) | (refine Ext.trans ?_ (by with_reducible assumption))))) (by have := B19.sl (n := 1) rfl (by simp [maxLen]); simpa using this)).mono ?_
      rintro e w2 ⟨rfl, hx2⟩
      go_simp
      exact hK _ _ ⟨str p3, rfl, rfl, hx2⟩
    refine StepsL.cons (ps := []) rfl (by kernel_rfl) (fun wi hx => ?_) ?_
    · intro K hK
      go_simp
      exact hK _ _ ⟨.pointer (some ⟨w.heap.size, 8, none⟩), rfl, rfl, Ext.refl _⟩
    refine StepsL.cons (ps := [(21, some 30)]) rfl (by kernel_rfl) (fun wi hx => ?_) ?_
    · intro v21 h21 K hK
      obtain rfl := h21
      have B := Lib.hid (B0.out.ext hx.of_drew)
      have c8 : wi.cell? ⟨w.heap.size, 8, none⟩ = some (.int .i64 bank) := B.out.cell 8
      go_simp
      exact hK _ _ ⟨.int .i64 bank, rfl, rfl, Ext.refl _⟩
    refine StepsL.cons (ps := [(22, some 31)]) rfl (by kernel_rfl) (fun wi hx => ?_) ?_
    · intro v22 h22 K hK
      obtain rfl := h22
      go_simp
      exact hK _ _ ⟨.slice (some ⟨wi.heap.size, 0, none⟩) 1 1, rfl, ⟨wi.heap.size, rfl, by have := hx.sz; simp at this; omega, Blk.new _ _ _⟩, (Ext.refl _).alloc _⟩
    refine StepsL.cons (ps := [(23, some 32)]) rfl (by kernel_rfl) (fun wi hx => ?_) ?_
    · intro v23 h23 K hK
      obtain ⟨g23, rfl, hg23, B23⟩ := h23
      go_wp2_with fail
      refine (H4.out _ _ (by (repeat' (first | exact Ext.refl _ | (with_reducible assumption) | (with_reducible refine Ext.alloc ?_ _) | (with_reducible refine Ext.setCell ?_ (by first | exact Nat.le_refl _ | (dsimp only; omega) | (simp; done) | (simp; omega)) _) | (with_reducible refine Ext.drew ?_) | (with_reducible refine Ext.drewN ?_ _) | (refine Ext.trans ?_ (by with_reducible assumption))))) (by have := B23.sl (n := 1) rfl (by simp [maxLen]); simpa using this)).mono ?_
      rintro e w2 ⟨rfl, hx2⟩
      go_simp
      exact hK _ _ ⟨str p4, rfl, rfl, hx2⟩
    refine StepsL.cons (ps := [(2, some 11), (16, some 25), (20, some 29), (24, some 33)]) rfl (by kernel_rfl) (fun wi hx => ?_) StepsL.nil
    · intro v2 h2 v16 h16 v20 h20 v24 h24 K hK
      obtain rfl := h2
      obtain rfl := h16
      obtain rfl := h20
      obtain rfl := h24
      go_simp
      exact hK _ _ ⟨.slice (some ⟨wi.heap.size, 0, none⟩) 4 4, rfl, ⟨wi.heap.size, rfl, by have := hx.sz; simp at this; omega, Blk.new _ _ _⟩, (Ext.refl _).alloc _⟩
  case fin =>
    intro wi hx v0 h0 v1 h1 v2 h2 v3 h3 v4 h4 v5 h5 v6 h6 v7 h7 v8 h8 v9 h9 v10 h10 v11 h11 v12 h12 v13 h13 v14 h14 v15 h15 v16 h16 v17 h17 v18 h18 v19 h19 v20 h20 v21 h21 v22 h22 v23 h23 v24 h24 v25 h25
    obtain rfl := h0
    obtain rfl := h1
    obtain rfl := h2
    obtain rfl := h3
    obtain rfl := h4
    obtain rfl := h5
    obtain rfl := h6
    obtain rfl := h7
    obtain rfl := h8
    obtain rfl := h9
    obtain rfl := h10
    obtain rfl := h11
    obtain rfl := h12
    obtain rfl := h13
    obtain rfl := h14
    obtain ⟨g15, rfl, hg15, B15⟩ := h15
    obtain rfl := h16
    obtain rfl := h17
    obtain rfl := h18
    obtain ⟨g19, rfl, hg19, B19⟩ := h19
    obtain rfl := h20
    obtain rfl := h21
    obtain rfl := h22
    obtain ⟨g23, rfl, hg23, B23⟩ := h23
    obtain rfl := h24
    obtain ⟨g25, rfl, hg25, B25⟩ := h25
    refine wpAny_ready (rs := [26]) (by kernel_rfl) (by simp) ?_
    refine AllReady.cons rfl (fun K hK => ?_) AllReady.nil
    go_simp
    refine hK _ _ ?_
    clear hK K
    refine wpAny_done (by kernel_rfl) ?_ _
    have B1 := Lib.hid (B0.out.ext hx.of_drew)
    have X1 := Lib.hid (X0.out.trans hx.of_drew)
    have O1 := Lib.hid (B25.own (n := 4) rfl (by simp [maxLen]) hg25)
    have z1 : w.heap.size < wi.heap.size := B1.out.lt
    clear B25 hx B0 X0 X0'
    have b9 : wi.cell? ⟨w.heap.size, 9, none⟩ = some (.slice q m c2) := B1.out.cell 9
    go_wp2
    clear b9
    go_loopw [3, 38] (fun v i wr => ∃ (k : Nat) (p' : Option Addr) (cp : Nat), k ≤ m ∧ i = .int .i64 k ∧ v = .slice p' (4 + k) cp ∧ wr.ownsRow (w.heap.size + 1) 9 1 (.slice p' (4 + k) cp) (4 + k) (strV ([p1, p2, p3, p4] ++ (vs.take k).map (fun v => numsText (visitNums v)))) ∧ Ext w wr ∧ w.heap.size + 1 ≤ wr.heap.size) (fun _ i _ => m - (intOf i).toNat)
    case atStart => exact ⟨0, some ⟨g25, 0, none⟩, 4, Nat.zero_le _, rfl, rfl, by simpa [strV] using O1.out, X1.out, by omega⟩
    case round =>
      clear O1 X1 B1 z1
      obtain ⟨k, p', cp, hk, rfl, rfl, hown, hE, hsz⟩ := hrel
      have HO := Lib.hid hown
      clear hown
      by_cases hlt : k < m
      · obtain ⟨b, off, a0, a1, a2, a3, rfl, hv, hb, d0, d1, d2, d3⟩ := visit_at (HS.out.ext hE) hlt
        have HNk := Lib.hid (HN.out (a0, a1, a2, a3) (List.mem_of_getElem? hv))
        have HT : Hid ((vs.take (k + 1)).map (fun v => numsText (visitNums v)) = (vs.take k).map (fun v => numsText (visitNums v)) ++ [numsText (visitNums (a0, a1, a2, a3))]) := by
          show _ = _
          rw [take_snocL hv]; simp
        clear hv
        go_wp2_with fail
        refine (HNk.out _ _ (hE.trans (by (repeat' (first | exact Ext.refl _ | (with_reducible assumption) | (with_reducible refine Ext.alloc ?_ _) | (with_reducible refine Ext.setCell ?_ (by first | exact Nat.le_refl _ | (dsimp only; omega) | (simp; done) | (simp; omega)) _) | (with_reducible refine Ext.drew ?_) | (with_reducible refine Ext.drewN ?_ _) | (refine Ext.trans ?_ (by with_reducible assumption)))))) (by
          have := (Blk.new (wr.alloc (.cells #[.int .i64 a0, .int .i64 a1, .int .i64 a2, .int .i64 a3] 38)) TI #[.int .i64 a0, .int .i64 a1, .int .i64 a2, .int .i64 a3]).sl (n := 4) rfl (by simp [maxLen])
          simpa [ivs, visitNums] using this)).mono ?_
        rintro e w2 ⟨rfl, hx2⟩
        have hE2 : Ext wr w2 := by (repeat' (first | exact Ext.refl _ | (with_reducible assumption) | (with_reducible refine Ext.alloc ?_ _) | (with_reducible refine Ext.setCell ?_ (by first | exact Nat.le_refl _ | (dsimp only; omega) | (simp; done) | (simp; omega)) _) | (with_reducible refine Ext.drew ?_) | (with_reducible refine Ext.drewN ?_ _) | (refine Ext.trans ?_ (by with_reducible assumption))))
        have HO2 := Lib.hid (own_ext HO.out hE2)
        have hsz2 : wr.heap.size ≤ w2.heap.size := hE2.sz
        have hEw := Lib.hid (hE.trans hE2)
        clear hx2 hE2 HO d0 d1 d2 d3
        go_wp2_with (at_builtin; refine wpList_append_str rfl _ _ rfl (w.heap.size + 1) _ _ _ rfl (HO2.out.alloc _) _ _ (numsText (visitNums (a0, a1, a2, a3))) _ rfl (by simp) (by omega) (by first | (simp; done) | (simp; omega) | omega) ?_; intro p2' cap' w3 hown1 hg1; have HO3 := Lib.hid hown1; have hE3 : Ext w w3 := Ext.own (hEw.out.alloc _) (HO2.out.alloc _) hg1 (by omega); have hsz3 : w2.heap.size ≤ w3.heap.size := Nat.le_trans (by simp) hg1.size; clear hown1 hg1)
        go_roundw
        case rel => exact ⟨k + 1, p2', cap', by omega, by go_num, rfl, by rw [HT.out, ← List.append_assoc]; exact HO3.out, hE3, by omega⟩
        case measure => simp [intOf]; omega
      · have hfin : Hid (wr.ownsRow (w.heap.size + 1) 9 1 (.slice p' (4 + k) cp) (4 + k) (strV ([p1, p2, p3, p4] ++ vs.map (fun v => numsText (visitNums v))))) := by
          have := HO.out
          rw [List.take_of_length_le (by rw [hl.out]; omega)] at this
          exact this
        have hkm : k ≤ 12 := by omega
        have hlen : Hid (([p1, p2, p3, p4] ++ vs.map (fun v => numsText (visitNums v))).length = 4 + k) := by show _ = _; simp [hl.out]; omega
        clear HO
        go_wp2_with fail
        refine (join_any ([p1, p2, p3, p4] ++ vs.map (fun v => numsText (visitNums v))) 59 _ (4 + k) cp _ hlen.out (by omega) (Sl.own hfin.out) HL.out (by omega)).mono ?_
        rintro e w1 ⟨rfl, h1⟩
        go_wp2
        go_ret
        exact ⟨rfl, by (repeat' (first | exact Ext.refl _ | (with_reducible assumption) | (with_reducible refine Ext.alloc ?_ _) | (with_reducible refine Ext.setCell ?_ (by first | exact Nat.le_refl _ | (dsimp only; omega) | (simp; done) | (simp; omega)) _) | (with_reducible refine Ext.drew ?_) | (with_reducible refine Ext.drewN ?_ _) | (refine Ext.trans ?_ (by with_reducible assumption))))⟩

set_option maxRecDepth 100000 in
set_option maxHeartbeats 1000000 in
theorem implHtext_bad (wide deep free step price capp clock bank : Int) (p : Option Addr) (n cap : Nat) (q : Option Addr) (m c2 : Nat) (w : World)
    (HV : Hid (∀ w', Ext w w' → Calls Tryz.prog 16 #[.agg #[.int .i64 wide, .int .i64 deep, .slice p n cap, .int .i64 free, .int .i64 step, .int .i64 price, .int .i64 capp, .int .i64 clock, .int .i64 bank, .slice q m c2]] w' fun e w'' => e = .returned (.bool false) ∧ Ext w' w'')) :
    Calls Tryz.prog 46 #[.agg #[.int .i64 wide, .int .i64 deep, .slice p n cap, .int .i64 free, .int .i64 step, .int .i64 price, .int .i64 capp, .int .i64 clock, .int .i64 bank, .slice q m c2]] w fun e w' => e = .returned (str []) ∧ Ext w w' := by
  go_enter Tryz.func46, Tryz.ntmps46
  go_wp2_with fail
  refine (HV.out _ (by (repeat' (first | exact Ext.refl _ | (with_reducible assumption) | (with_reducible refine Ext.alloc ?_ _) | (with_reducible refine Ext.setCell ?_ (by first | exact Nat.le_refl _ | (dsimp only; omega) | (simp; done) | (simp; omega)) _) | (with_reducible refine Ext.drew ?_) | (with_reducible refine Ext.drewN ?_ _) | (refine Ext.trans ?_ (by with_reducible assumption)))))).mono ?_
  rintro e w0 ⟨rfl, hh0⟩
  go_wp2
  go_ret
  exact ⟨rfl, by (repeat' (first | exact Ext.refl _ | (with_reducible assumption) | (with_reducible refine Ext.alloc ?_ _) | (with_reducible refine Ext.setCell ?_ (by first | exact Nat.le_refl _ | (dsimp only; omega) | (simp; done) | (simp; omega)) _) | (with_reducible refine Ext.drew ?_) | (with_reducible refine Ext.drewN ?_ _) | (refine Ext.trans ?_ (by with_reducible assumption))))⟩
theorem join_len (c : UInt8) (M : Nat) (x : List UInt8) (r : List (List UInt8)) (hx : x.length ≤ M) (h : ∀ y ∈ r, y.length ≤ M) : (joinB c (x :: r)).length ≤ (M + 1) * (r.length + 1) := by
  have := tail_len c M r h
  simp only [joinB, List.length_append]
  rw [Nat.mul_succ]
  unfold tailB at *
  omega
theorem implHouseText (h : HouseD) (p : Option Addr) (n cap : Nat) (q : Option Addr) (m c2 : Nat) (w : World) (hE : Env w) (hi : IsHouse w h p n cap q m c2) :
    Calls Tryz.prog 46 #[houseV h p n cap q m c2] w fun e w' => e = .returned (str (houseText h)) ∧ Ext w w' := by
  have HV := fun (w' : World) (hx : Ext w w') => implHouse h p n cap q m c2 w' (hi.ext hx)
  have hvl := hi.vlen
  unfold houseText
  cases hok : houseOk h with
  | false =>
    rw [hok] at HV
    simpa using implHtext_bad h.wide h.deep h.free h.step h.price h.capp h.clock h.bank p n cap q m c2 w HV
  | true =>
    rw [hok] at HV
    obtain ⟨g0, g1, g2, g3, g4, g5, g6, g7, g8, g9, g10, g11, g12, g13, g14⟩ := house_nums hok
    rw [if_pos rfl]
    have e : houseParts h = [hallText h.wide h.deep h.cells, numsText [h.free, h.step, h.price, h.capp], numsText [h.clock], numsText [h.bank]] ++ h.vs.map (fun v => numsText (visitNums v)) := by
      rw [numsText_one, numsText_one]; rfl
    rw [e]
    have l1 : (hallText h.wide h.deep h.cells).length ≤ 400 := hallText_len
    have l2 := nums_len4 h.free h.step h.price h.capp (by omega) (by omega) (by omega) (by omega)
    have l3 := dec_len h.clock (by omega)
    have l4 := dec_len h.bank (by omega)
    rw [← numsText_one] at l3 l4
    have lv : ∀ v ∈ h.vs, (numsText (visitNums v)).length ≤ 90 := fun v hv => by
      have := g14 v hv
      exact nums_len4 _ _ _ _ (by omega) (by omega) (by omega) (by omega)
    have HL := join_len 59 400 (hallText h.wide h.deep h.cells) ([numsText [h.free, h.step, h.price, h.capp], numsText [h.clock], numsText [h.bank]] ++ h.vs.map (fun v => numsText (visitNums v))) l1 (fun y hy => by
      rcases List.mem_append.1 hy with hy | hy
      · simp only [List.mem_cons, List.not_mem_nil, or_false] at hy
        rcases hy with rfl | rfl | rfl <;> omega
      · obtain ⟨v, hv, rfl⟩ := List.mem_map.1 hy
        have := lv v hv; omega)
    have HL2 : (joinB 59 ([hallText h.wide h.deep h.cells, numsText [h.free, h.step, h.price, h.capp], numsText [h.clock], numsText [h.bank]] ++ h.vs.map (fun v => numsText (visitNums v)))).length ≤ 140737488355328 := by
      refine Nat.le_trans HL ?_
      simp only [List.length_append, List.length_map, List.length_cons, List.length_nil]
      omega
    exact implHtext_ok h.wide h.deep h.free h.step h.price h.capp h.clock h.bank p n cap q m c2 w h.vs _ _ _ _ (by omega) hvl hi.vs HL2
      (fun v hv w' g hx hs => implNumbers (some g) 4 4 (visitNums v) w' (by omega) (by omega) (fun x hx' => by
        have := g14 v hv
        simp only [visitNums, List.mem_cons, List.not_mem_nil, or_false] at hx'
        rcases hx' with rfl | rfl | rfl | rfl <;> omega) (hE.ext hx) hs)
      HV (fun w' hx => implHallText h.wide h.deep p n cap h.cells w' (hE.ext hx) (hi.cells.ext hx))
      (fun w' g hx hs => implNumbers (some g) 4 4 _ w' (by omega) (by omega) (fun x hx' => by
        simp only [List.mem_cons, List.not_mem_nil, or_false] at hx'
        rcases hx' with rfl | rfl | rfl | rfl <;> omega) (hE.ext hx) hs)
      (fun w' g hx hs => implNumbers (some g) 1 1 _ w' (by omega) (by omega) (fun x hx' => by
        simp only [List.mem_cons, List.not_mem_nil, or_false] at hx'
        subst hx'; omega) (hE.ext hx) hs)
      (fun w' g hx hs => implNumbers (some g) 1 1 _ w' (by omega) (by omega) (fun x hx' => by
        simp only [List.mem_cons, List.not_mem_nil, or_false] at hx'
        subst hx'; omega) (hE.ext hx) hs)
end Go.Proofs.YteejdnmmpmcmeaaGreatDoor

/-
  Both packages' SaveText. Conditions: the house's slices read as lists; the library's table is laid.
-/
namespace Go.Proofs.YteejdnmmpmcmeaaGreatDoor
open Go.RowKit
set_option linter.unusedVariables false
set_option linter.unusedSimpArgs false

theorem bszl (l : List UInt8) : (⟨l.toArray⟩ : ByteArray).size = l.length := by simp [ByteArray.size]
def saveText (h : HouseD) (e : Int) : List UInt8 := if houseOk h = true ∧ 0 ≤ e ∧ e ≤ 99 then withSum (dec e ++ [124] ++ houseText h) else []

theorem str_app3 (a b c : List UInt8) : Value.string (⟨a.toArray⟩ ++ ⟨b.toArray⟩ ++ ⟨c.toArray⟩) = str (a ++ b ++ c) := by
  apply congrArg Value.string
  apply ByteArray.ext
  simp
set_option maxRecDepth 100000 in
set_option maxHeartbeats 1000000 in
theorem implSave_bad (wide deep free step price capp clock bank : Int) (p : Option Addr) (n cap : Nat) (q : Option Addr) (m c2 : Nat) (e : Int) (t r : List UInt8) (w : World)
    (HV : Hid (∀ w', Ext w w' → Calls Tryz.prog 16 #[.agg #[.int .i64 wide, .int .i64 deep, .slice p n cap, .int .i64 free, .int .i64 step, .int .i64 price, .int .i64 capp, .int .i64 clock, .int .i64 bank, .slice q m c2]] w' fun e w'' => e = .returned (.bool false) ∧ Ext w' w'')) :
    Calls Tryz.prog 50 #[.agg #[.int .i64 wide, .int .i64 deep, .slice p n cap, .int .i64 free, .int .i64 step, .int .i64 price, .int .i64 capp, .int .i64 clock, .int .i64 bank, .slice q m c2], .int .i64 e] w fun e' w' => e' = .returned (str []) ∧ Ext w w' := by
  go_enter Tryz.func50, Tryz.ntmps50
  go_wp2_with fail
  refine (HV.out _ (by (repeat' (first | exact Ext.refl _ | (with_reducible assumption) | (with_reducible refine Ext.alloc ?_ _) | (with_reducible refine Ext.setCell ?_ (by first | exact Nat.le_refl _ | (dsimp only; omega) | (simp; done) | (simp; omega)) _) | (with_reducible refine Ext.drew ?_) | (with_reducible refine Ext.drewN ?_ _) | (refine Ext.trans ?_ (by with_reducible assumption)))))).mono ?_
  rintro e' w0 ⟨rfl, hh0⟩
  have B0 := Lib.hid ((Blk.new w 30 #[.int .i64 wide, .int .i64 deep, .slice p n cap, .int .i64 free, .int .i64 step, .int .i64 price, .int .i64 capp, .int .i64 clock, .int .i64 bank, .slice q m c2]).ext hh0)
  have X0 : Hid (Ext w w0) := by show Ext w w0; (repeat' (first | exact Ext.refl _ | (with_reducible assumption) | (with_reducible refine Ext.alloc ?_ _) | (with_reducible refine Ext.setCell ?_ (by first | exact Nat.le_refl _ | (dsimp only; omega) | (simp; done) | (simp; omega)) _) | (with_reducible refine Ext.drew ?_) | (with_reducible refine Ext.drewN ?_ _) | (refine Ext.trans ?_ (by with_reducible assumption))))
  have X0' := X0.out
  have hz0 : w.heap.size < w0.heap.size := B0.out.lt
  clear hh0
  go_wp2
  go_ret
  exact ⟨rfl, X0.out⟩
set_option maxRecDepth 100000 in
set_option maxHeartbeats 1000000 in
theorem implSave_out (wide deep free step price capp clock bank : Int) (p : Option Addr) (n cap : Nat) (q : Option Addr) (m c2 : Nat) (e : Int) (t r : List UInt8) (w : World) (h : e < 0 ∨ 0 ≤ e ∧ 99 < e)
    (HV : Hid (∀ w', Ext w w' → Calls Tryz.prog 16 #[.agg #[.int .i64 wide, .int .i64 deep, .slice p n cap, .int .i64 free, .int .i64 step, .int .i64 price, .int .i64 capp, .int .i64 clock, .int .i64 bank, .slice q m c2]] w' fun e w'' => e = .returned (.bool true) ∧ Ext w' w'')) :
    Calls Tryz.prog 50 #[.agg #[.int .i64 wide, .int .i64 deep, .slice p n cap, .int .i64 free, .int .i64 step, .int .i64 price, .int .i64 capp, .int .i64 clock, .int .i64 bank, .slice q m c2], .int .i64 e] w fun e' w' => e' = .returned (str []) ∧ Ext w w' := by
  rcases h with h | ⟨h, h2⟩
  all_goals
    (try (have hdd : decide (e ≤ 99) = false := by simp; omega))
    go_enter Tryz.func50, Tryz.ntmps50
    go_wp2_with fail
    refine (HV.out _ (by (repeat' (first | exact Ext.refl _ | (with_reducible assumption) | (with_reducible refine Ext.alloc ?_ _) | (with_reducible refine Ext.setCell ?_ (by first | exact Nat.le_refl _ | (dsimp only; omega) | (simp; done) | (simp; omega)) _) | (with_reducible refine Ext.drew ?_) | (with_reducible refine Ext.drewN ?_ _) | (refine Ext.trans ?_ (by with_reducible assumption)))))).mono ?_
    rintro e' w0 ⟨rfl, hh0⟩
    have B0 := Lib.hid ((Blk.new w 30 #[.int .i64 wide, .int .i64 deep, .slice p n cap, .int .i64 free, .int .i64 step, .int .i64 price, .int .i64 capp, .int .i64 clock, .int .i64 bank, .slice q m c2]).ext hh0)
    have X0 : Hid (Ext w w0) := by show Ext w w0; (repeat' (first | exact Ext.refl _ | (with_reducible assumption) | (with_reducible refine Ext.alloc ?_ _) | (with_reducible refine Ext.setCell ?_ (by first | exact Nat.le_refl _ | (dsimp only; omega) | (simp; done) | (simp; omega)) _) | (with_reducible refine Ext.drew ?_) | (with_reducible refine Ext.drewN ?_ _) | (refine Ext.trans ?_ (by with_reducible assumption))))
    have X0' := X0.out
    have hz0 : w.heap.size < w0.heap.size := B0.out.lt
    clear hh0
    go_wp2
    go_ret
    exact ⟨rfl, X0.out⟩
set_option maxRecDepth 100000 in
set_option maxHeartbeats 1000000 in
theorem specSave_bad (wide deep free step price capp clock bank : Int) (p : Option Addr) (n cap : Nat) (q : Option Addr) (m c2 : Nat) (e : Int) (t r : List UInt8) (w : World)
    (HV : Hid (∀ w', Ext w w' → Calls Tryz.prog 17 #[.agg #[.int .i64 wide, .int .i64 deep, .slice p n cap, .int .i64 free, .int .i64 step, .int .i64 price, .int .i64 capp, .int .i64 clock, .int .i64 bank, .slice q m c2]] w' fun e w'' => e = .returned (.bool false) ∧ Ext w' w'')) :
    Calls Tryz.prog 51 #[.agg #[.int .i64 wide, .int .i64 deep, .slice p n cap, .int .i64 free, .int .i64 step, .int .i64 price, .int .i64 capp, .int .i64 clock, .int .i64 bank, .slice q m c2], .int .i64 e] w fun e' w' => e' = .returned (str []) ∧ Ext w w' := by
  go_enter Tryz.func51, Tryz.ntmps51
  go_wp2_with fail
  refine (HV.out _ (by (repeat' (first | exact Ext.refl _ | (with_reducible assumption) | (with_reducible refine Ext.alloc ?_ _) | (with_reducible refine Ext.setCell ?_ (by first | exact Nat.le_refl _ | (dsimp only; omega) | (simp; done) | (simp; omega)) _) | (with_reducible refine Ext.drew ?_) | (with_reducible refine Ext.drewN ?_ _) | (refine Ext.trans ?_ (by with_reducible assumption)))))).mono ?_
  rintro e' w0 ⟨rfl, hh0⟩
  have B0 := Lib.hid ((Blk.new w 30 #[.int .i64 wide, .int .i64 deep, .slice p n cap, .int .i64 free, .int .i64 step, .int .i64 price, .int .i64 capp, .int .i64 clock, .int .i64 bank, .slice q m c2]).ext hh0)
  have X0 : Hid (Ext w w0) := by show Ext w w0; (repeat' (first | exact Ext.refl _ | (with_reducible assumption) | (with_reducible refine Ext.alloc ?_ _) | (with_reducible refine Ext.setCell ?_ (by first | exact Nat.le_refl _ | (dsimp only; omega) | (simp; done) | (simp; omega)) _) | (with_reducible refine Ext.drew ?_) | (with_reducible refine Ext.drewN ?_ _) | (refine Ext.trans ?_ (by with_reducible assumption))))
  have X0' := X0.out
  have hz0 : w.heap.size < w0.heap.size := B0.out.lt
  clear hh0
  go_wp2
  go_ret
  exact ⟨rfl, X0.out⟩
set_option maxRecDepth 100000 in
set_option maxHeartbeats 1000000 in
theorem specSave_out (wide deep free step price capp clock bank : Int) (p : Option Addr) (n cap : Nat) (q : Option Addr) (m c2 : Nat) (e : Int) (t r : List UInt8) (w : World) (h : e < 0 ∨ 0 ≤ e ∧ 99 < e)
    (HV : Hid (∀ w', Ext w w' → Calls Tryz.prog 17 #[.agg #[.int .i64 wide, .int .i64 deep, .slice p n cap, .int .i64 free, .int .i64 step, .int .i64 price, .int .i64 capp, .int .i64 clock, .int .i64 bank, .slice q m c2]] w' fun e w'' => e = .returned (.bool true) ∧ Ext w' w'')) :
    Calls Tryz.prog 51 #[.agg #[.int .i64 wide, .int .i64 deep, .slice p n cap, .int .i64 free, .int .i64 step, .int .i64 price, .int .i64 capp, .int .i64 clock, .int .i64 bank, .slice q m c2], .int .i64 e] w fun e' w' => e' = .returned (str []) ∧ Ext w w' := by
  rcases h with h | ⟨h, h2⟩
  all_goals
    (try (have hdd : decide (e ≤ 99) = false := by simp; omega))
    go_enter Tryz.func51, Tryz.ntmps51
    go_wp2_with fail
    refine (HV.out _ (by (repeat' (first | exact Ext.refl _ | (with_reducible assumption) | (with_reducible refine Ext.alloc ?_ _) | (with_reducible refine Ext.setCell ?_ (by first | exact Nat.le_refl _ | (dsimp only; omega) | (simp; done) | (simp; omega)) _) | (with_reducible refine Ext.drew ?_) | (with_reducible refine Ext.drewN ?_ _) | (refine Ext.trans ?_ (by with_reducible assumption)))))).mono ?_
    rintro e' w0 ⟨rfl, hh0⟩
    have B0 := Lib.hid ((Blk.new w 30 #[.int .i64 wide, .int .i64 deep, .slice p n cap, .int .i64 free, .int .i64 step, .int .i64 price, .int .i64 capp, .int .i64 clock, .int .i64 bank, .slice q m c2]).ext hh0)
    have X0 : Hid (Ext w w0) := by show Ext w w0; (repeat' (first | exact Ext.refl _ | (with_reducible assumption) | (with_reducible refine Ext.alloc ?_ _) | (with_reducible refine Ext.setCell ?_ (by first | exact Nat.le_refl _ | (dsimp only; omega) | (simp; done) | (simp; omega)) _) | (with_reducible refine Ext.drew ?_) | (with_reducible refine Ext.drewN ?_ _) | (refine Ext.trans ?_ (by with_reducible assumption))))
    have X0' := X0.out
    have hz0 : w.heap.size < w0.heap.size := B0.out.lt
    clear hh0
    go_wp2_with go_in
    go_ret
    exact ⟨rfl, X0.out⟩
set_option maxRecDepth 100000 in
set_option maxHeartbeats 1000000 in
theorem implSave_ok (wide deep free step price capp clock bank : Int) (p : Option Addr) (n cap : Nat) (q : Option Addr) (m c2 : Nat) (e : Int) (t r : List UInt8) (w : World) (h0 : 0 ≤ e) (h1 : e ≤ 99) (hd : (dec e).length ≤ 21) (ht : t.length ≤ 100000)
    (HV : Hid (∀ w', Ext w w' → Calls Tryz.prog 16 #[.agg #[.int .i64 wide, .int .i64 deep, .slice p n cap, .int .i64 free, .int .i64 step, .int .i64 price, .int .i64 capp, .int .i64 clock, .int .i64 bank, .slice q m c2]] w' fun e w'' => e = .returned (.bool true) ∧ Ext w' w''))
    (HT : Hid (∀ w', Ext w w' → Calls Tryz.prog 46 #[.agg #[.int .i64 wide, .int .i64 deep, .slice p n cap, .int .i64 free, .int .i64 step, .int .i64 price, .int .i64 capp, .int .i64 clock, .int .i64 bank, .slice q m c2]] w' fun e' w'' => e' = .returned (str t) ∧ Ext w' w''))
    (HN : Hid (∀ w', Ext w w' → Calls Tryz.prog 106 #[.int .i64 e] w' fun e' w'' => e' = .returned (str (dec e)) ∧ Ext w' w''))
    (HW : Hid (∀ w', Ext w w' → Calls Tryz.prog 105 #[.string ((⟨(dec e).toArray⟩ : ByteArray) ++ (⟨#[124]⟩ : ByteArray) ++ (⟨t.toArray⟩ : ByteArray))] w' fun e' w'' => e' = .returned (str r) ∧ Ext w' w'')) :
    Calls Tryz.prog 50 #[.agg #[.int .i64 wide, .int .i64 deep, .slice p n cap, .int .i64 free, .int .i64 step, .int .i64 price, .int .i64 capp, .int .i64 clock, .int .i64 bank, .slice q m c2], .int .i64 e] w fun e' w' => e' = .returned (str r) ∧ Ext w w' := by
  go_enter Tryz.func50, Tryz.ntmps50
  go_wp2_with fail
  refine (HV.out _ (by (repeat' (first | exact Ext.refl _ | (with_reducible assumption) | (with_reducible refine Ext.alloc ?_ _) | (with_reducible refine Ext.setCell ?_ (by first | exact Nat.le_refl _ | (dsimp only; omega) | (simp; done) | (simp; omega)) _) | (with_reducible refine Ext.drew ?_) | (with_reducible refine Ext.drewN ?_ _) | (refine Ext.trans ?_ (by with_reducible assumption)))))).mono ?_
  rintro e' w0 ⟨rfl, hh0⟩
  have B0 := Lib.hid ((Blk.new w 30 #[.int .i64 wide, .int .i64 deep, .slice p n cap, .int .i64 free, .int .i64 step, .int .i64 price, .int .i64 capp, .int .i64 clock, .int .i64 bank, .slice q m c2]).ext hh0)
  have X0 : Hid (Ext w w0) := by show Ext w w0; (repeat' (first | exact Ext.refl _ | (with_reducible assumption) | (with_reducible refine Ext.alloc ?_ _) | (with_reducible refine Ext.setCell ?_ (by first | exact Nat.le_refl _ | (dsimp only; omega) | (simp; done) | (simp; omega)) _) | (with_reducible refine Ext.drew ?_) | (with_reducible refine Ext.drewN ?_ _) | (refine Ext.trans ?_ (by with_reducible assumption))))
  have X0' := X0.out
  have hz0 : w.heap.size < w0.heap.size := B0.out.lt
  clear hh0
  go_wp2
  refine region_lin (gl [gEq (.int .i64 e), gEq (str (dec e)), gEq (.string ((⟨(dec e).toArray⟩ : ByteArray) ++ (⟨#[124]⟩ : ByteArray))), gEq (.agg #[.int .i64 wide, .int .i64 deep, .slice p n cap, .int .i64 free, .int .i64 step, .int .i64 price, .int .i64 capp, .int .i64 clock, .int .i64 bank, .slice q m c2]), gEq (str t), gEq (.string ((⟨(dec e).toArray⟩ : ByteArray) ++ (⟨#[124]⟩ : ByteArray) ++ (⟨t.toArray⟩ : ByteArray))), gEq (str r)]) 7 (by kernel_rfl) rfl (by kernel_rfl) (by kernel_rfl) (by kernel_rfl) (gl_mono (gl_cons (gEq_mono _) (gl_cons (gEq_mono _) (gl_cons (gEq_mono _) (gl_cons (gEq_mono _) (gl_cons (gEq_mono _) (gl_cons (gEq_mono _) (gl_cons (gEq_mono _) (gl_nil))))))))) (k := 8) (by kernel_rfl) (by decide) (ls := [(0, some 16), (1, some 17), (2, some 18), (3, some 19), (4, some 20), (5, some 21), (6, some 22)]) (by kernel_rfl) (ir := [0, 1, 2, 3, 4, 5, 6]) (by kernel_rfl) ?steps (tl := #[true, true, true, true, true, true, true, false]) (by kernel_rfl) ?fin
  case steps =>
    refine StepsL.cons (ps := []) rfl (by kernel_rfl) (fun wi hx => ?_) ?_
    · intro K hK
      go_simp
      exact hK _ _ ⟨.int .i64 e, rfl, rfl, Ext.refl _⟩
    refine StepsL.cons (ps := [(0, some 16)]) rfl (by kernel_rfl) (fun wi hx => ?_) ?_
    · intro v0 h0 K hK
      obtain rfl := h0
      go_wp2_with fail
      refine (HN.out _ (by (repeat' (first | exact Ext.refl _ | (with_reducible assumption) | (with_reducible refine Ext.alloc ?_ _) | (with_reducible refine Ext.setCell ?_ (by first | exact Nat.le_refl _ | (dsimp only; omega) | (simp; done) | (simp; omega)) _) | (with_reducible refine Ext.drew ?_) | (with_reducible refine Ext.drewN ?_ _) | (refine Ext.trans ?_ (by with_reducible assumption)))))).mono ?_
      rintro e2 w2 ⟨rfl, hx2⟩
      go_simp
      exact hK _ _ ⟨str (dec e), rfl, rfl, hx2⟩
    refine StepsL.cons (ps := [(1, some 17)]) rfl (by kernel_rfl) (fun wi hx => ?_) ?_
    · intro v1 h1 K hK
      obtain rfl := h1
      have s1 : ¬ 9223372036854775807 < (dec e).length + 1 := by omega
      go_simp
      exact hK _ _ ⟨.string ((⟨(dec e).toArray⟩ : ByteArray) ++ (⟨#[124]⟩ : ByteArray)), rfl, rfl, Ext.refl _⟩
    refine StepsL.cons (ps := []) rfl (by kernel_rfl) (fun wi hx => ?_) ?_
    · intro K hK
      have B := Lib.hid (B0.out.ext hx.of_drew)
      have cc0 : wi.cell? ⟨w.heap.size, 0, none⟩ = some (.int .i64 wide) := B.out.cell 0
      have cc1 : wi.cell? ⟨w.heap.size, 1, none⟩ = some (.int .i64 deep) := B.out.cell 1
      have cc2 : wi.cell? ⟨w.heap.size, 2, none⟩ = some (.slice p n cap) := B.out.cell 2
      have cc3 : wi.cell? ⟨w.heap.size, 3, none⟩ = some (.int .i64 free) := B.out.cell 3
      have cc4 : wi.cell? ⟨w.heap.size, 4, none⟩ = some (.int .i64 step) := B.out.cell 4
      have cc5 : wi.cell? ⟨w.heap.size, 5, none⟩ = some (.int .i64 price) := B.out.cell 5
      have cc6 : wi.cell? ⟨w.heap.size, 6, none⟩ = some (.int .i64 capp) := B.out.cell 6
      have cc7 : wi.cell? ⟨w.heap.size, 7, none⟩ = some (.int .i64 clock) := B.out.cell 7
      have cc8 : wi.cell? ⟨w.heap.size, 8, none⟩ = some (.int .i64 bank) := B.out.cell 8
      have cc9 : wi.cell? ⟨w.heap.size, 9, none⟩ = some (.slice q m c2) := B.out.cell 9
      go_simp
      exact hK _ _ ⟨.agg #[.int .i64 wide, .int .i64 deep, .slice p n cap, .int .i64 free, .int .i64 step, .int .i64 price, .int .i64 capp, .int .i64 clock, .int .i64 bank, .slice q m c2], rfl, rfl, Ext.refl _⟩
    refine StepsL.cons (ps := [(3, some 19)]) rfl (by kernel_rfl) (fun wi hx => ?_) ?_
    · intro v3 h3 K hK
      obtain rfl := h3
      go_wp2_with fail
      refine (HT.out _ (by (repeat' (first | exact Ext.refl _ | (with_reducible assumption) | (with_reducible refine Ext.alloc ?_ _) | (with_reducible refine Ext.setCell ?_ (by first | exact Nat.le_refl _ | (dsimp only; omega) | (simp; done) | (simp; omega)) _) | (with_reducible refine Ext.drew ?_) | (with_reducible refine Ext.drewN ?_ _) | (refine Ext.trans ?_ (by with_reducible assumption)))))).mono ?_
      rintro e2 w2 ⟨rfl, hx2⟩
      go_simp
      exact hK _ _ ⟨str t, rfl, rfl, hx2⟩
    refine StepsL.cons (ps := [(2, some 18), (4, some 20)]) rfl (by kernel_rfl) (fun wi hx => ?_) ?_
    · intro v2 h2 v4 h4 K hK
      obtain rfl := h2
      obtain rfl := h4
      have s2 : ¬ 9223372036854775807 < (dec e).length + 1 + t.length := by omega
      go_simp
      exact hK _ _ ⟨.string ((⟨(dec e).toArray⟩ : ByteArray) ++ (⟨#[124]⟩ : ByteArray) ++ (⟨t.toArray⟩ : ByteArray)), rfl, rfl, Ext.refl _⟩
    refine StepsL.cons (ps := [(5, some 21)]) rfl (by kernel_rfl) (fun wi hx => ?_) StepsL.nil
    · intro v5 h5 K hK
      obtain rfl := h5
      go_wp2_with fail
      refine (HW.out _ (by (repeat' (first | exact Ext.refl _ | (with_reducible assumption) | (with_reducible refine Ext.alloc ?_ _) | (with_reducible refine Ext.setCell ?_ (by first | exact Nat.le_refl _ | (dsimp only; omega) | (simp; done) | (simp; omega)) _) | (with_reducible refine Ext.drew ?_) | (with_reducible refine Ext.drewN ?_ _) | (refine Ext.trans ?_ (by with_reducible assumption)))))).mono ?_
      rintro e2 w2 ⟨rfl, hx2⟩
      go_simp
      exact hK _ _ ⟨str r, rfl, rfl, hx2⟩
  case fin =>
    intro wi hx v0 h0 v1 h1 v2 h2 v3 h3 v4 h4 v5 h5 v6 h6
    obtain rfl := h0
    obtain rfl := h1
    obtain rfl := h2
    obtain rfl := h3
    obtain rfl := h4
    obtain rfl := h5
    obtain rfl := h6
    refine wpAny_ready (rs := [7]) (by kernel_rfl) (by simp) ?_
    refine AllReady.cons rfl (fun K hK => ?_) AllReady.nil
    go_simp
    refine hK _ _ ?_
    clear hK K
    refine wpAny_done (by kernel_rfl) ?_ _
    have X1 := Lib.hid (X0.out.trans hx.of_drew)
    clear hx
    go_wp2
    go_ret
    exact ⟨rfl, X1.out⟩

set_option maxRecDepth 100000 in
set_option maxHeartbeats 1000000 in
theorem specSave_ok (wide deep free step price capp clock bank : Int) (p : Option Addr) (n cap : Nat) (q : Option Addr) (m c2 : Nat) (e : Int) (t r : List UInt8) (w : World) (h0 : 0 ≤ e) (h1 : e ≤ 99) (hd : (dec e).length ≤ 21) (ht : t.length ≤ 100000)
    (HV : Hid (∀ w', Ext w w' → Calls Tryz.prog 17 #[.agg #[.int .i64 wide, .int .i64 deep, .slice p n cap, .int .i64 free, .int .i64 step, .int .i64 price, .int .i64 capp, .int .i64 clock, .int .i64 bank, .slice q m c2]] w' fun e w'' => e = .returned (.bool true) ∧ Ext w' w''))
    (HT : Hid (∀ w', Ext w w' → Calls Tryz.prog 47 #[.agg #[.int .i64 wide, .int .i64 deep, .slice p n cap, .int .i64 free, .int .i64 step, .int .i64 price, .int .i64 capp, .int .i64 clock, .int .i64 bank, .slice q m c2]] w' fun e' w'' => e' = .returned (str t) ∧ Ext w' w''))
    (HN : Hid (∀ w', Ext w w' → Calls Tryz.prog 102 #[.int .i64 e] w' fun e' w'' => e' = .returned (str (dec e)) ∧ Ext w' w'')) :
    Calls Tryz.prog 51 #[.agg #[.int .i64 wide, .int .i64 deep, .slice p n cap, .int .i64 free, .int .i64 step, .int .i64 price, .int .i64 capp, .int .i64 clock, .int .i64 bank, .slice q m c2], .int .i64 e] w fun e' w' => e' = .returned (str (withSum (dec e ++ [124] ++ t))) ∧ Ext w w' := by
  obtain ⟨u, hu'⟩ : ∃ u, u = dec e ++ [124] ++ t := ⟨_, rfl⟩
  have hul0 : u.length ≤ 200000 := by rw [hu']; simp only [List.length_append, List.length_cons, List.length_nil]; omega
  have hu := Lib.hid hu'
  clear hu'
  have q1 : decide (e ≤ 99) = true := by simp [h1]
  go_enter Tryz.func51, Tryz.ntmps51
  go_wp2_with fail
  refine (HV.out _ (by (repeat' (first | exact Ext.refl _ | (with_reducible assumption) | (with_reducible refine Ext.alloc ?_ _) | (with_reducible refine Ext.setCell ?_ (by first | exact Nat.le_refl _ | (dsimp only; omega) | (simp; done) | (simp; omega)) _) | (with_reducible refine Ext.drew ?_) | (with_reducible refine Ext.drewN ?_ _) | (refine Ext.trans ?_ (by with_reducible assumption)))))).mono ?_
  rintro e' w0 ⟨rfl, hh0⟩
  have B0 := Lib.hid ((Blk.new w 30 #[.int .i64 wide, .int .i64 deep, .slice p n cap, .int .i64 free, .int .i64 step, .int .i64 price, .int .i64 capp, .int .i64 clock, .int .i64 bank, .slice q m c2]).ext hh0)
  have X0 : Hid (Ext w w0) := by show Ext w w0; (repeat' (first | exact Ext.refl _ | (with_reducible assumption) | (with_reducible refine Ext.alloc ?_ _) | (with_reducible refine Ext.setCell ?_ (by first | exact Nat.le_refl _ | (dsimp only; omega) | (simp; done) | (simp; omega)) _) | (with_reducible refine Ext.drew ?_) | (with_reducible refine Ext.drewN ?_ _) | (refine Ext.trans ?_ (by with_reducible assumption))))
  have X0' := X0.out
  have hz0 : w.heap.size < w0.heap.size := B0.out.lt
  clear hh0
  go_wp2_with go_in
  refine region_lin (gl [gEq (.int .i64 e), gEq (str (dec e)), gEq (.string ((⟨(dec e).toArray⟩ : ByteArray) ++ (⟨#[124]⟩ : ByteArray))), gEq (.agg #[.int .i64 wide, .int .i64 deep, .slice p n cap, .int .i64 free, .int .i64 step, .int .i64 price, .int .i64 capp, .int .i64 clock, .int .i64 bank, .slice q m c2]), gEq (str t), gEq (.string ((⟨(dec e).toArray⟩ : ByteArray) ++ (⟨#[124]⟩ : ByteArray) ++ (⟨t.toArray⟩ : ByteArray)))]) 6 (by kernel_rfl) rfl (by kernel_rfl) (by kernel_rfl) (by kernel_rfl) (gl_mono (gl_cons (gEq_mono _) (gl_cons (gEq_mono _) (gl_cons (gEq_mono _) (gl_cons (gEq_mono _) (gl_cons (gEq_mono _) (gl_cons (gEq_mono _) (gl_nil)))))))) (k := 7) (by kernel_rfl) (by decide) (ls := [(0, some 14), (1, some 15), (2, some 16), (3, some 17), (4, some 18), (5, some 19)]) (by kernel_rfl) (ir := [0, 1, 2, 3, 4, 5]) (by kernel_rfl) ?steps (tl := #[true, true, true, true, true, true, false]) (by kernel_rfl) ?fin
  case steps =>
    refine StepsL.cons (ps := []) rfl (by kernel_rfl) (fun wi hx => ?_) ?_
    · intro K hK
      go_simp
      exact hK _ _ ⟨.int .i64 e, rfl, rfl, Ext.refl _⟩
    refine StepsL.cons (ps := [(0, some 14)]) rfl (by kernel_rfl) (fun wi hx => ?_) ?_
    · intro v0 h0 K hK
      obtain rfl := h0
      go_wp2_with fail
      refine (HN.out _ (by (repeat' (first | exact Ext.refl _ | (with_reducible assumption) | (with_reducible refine Ext.alloc ?_ _) | (with_reducible refine Ext.setCell ?_ (by first | exact Nat.le_refl _ | (dsimp only; omega) | (simp; done) | (simp; omega)) _) | (with_reducible refine Ext.drew ?_) | (with_reducible refine Ext.drewN ?_ _) | (refine Ext.trans ?_ (by with_reducible assumption)))))).mono ?_
      rintro e2 w2 ⟨rfl, hx2⟩
      go_simp
      exact hK _ _ ⟨str (dec e), rfl, rfl, hx2⟩
    refine StepsL.cons (ps := [(1, some 15)]) rfl (by kernel_rfl) (fun wi hx => ?_) ?_
    · intro v1 h1 K hK
      obtain rfl := h1
      have s1 : ¬ 9223372036854775807 < (dec e).length + 1 := by omega
      go_simp
      exact hK _ _ ⟨.string ((⟨(dec e).toArray⟩ : ByteArray) ++ (⟨#[124]⟩ : ByteArray)), rfl, rfl, Ext.refl _⟩
    refine StepsL.cons (ps := []) rfl (by kernel_rfl) (fun wi hx => ?_) ?_
    · intro K hK
      have B := Lib.hid (B0.out.ext hx.of_drew)
      have cc0 : wi.cell? ⟨w.heap.size, 0, none⟩ = some (.int .i64 wide) := B.out.cell 0
      have cc1 : wi.cell? ⟨w.heap.size, 1, none⟩ = some (.int .i64 deep) := B.out.cell 1
      have cc2 : wi.cell? ⟨w.heap.size, 2, none⟩ = some (.slice p n cap) := B.out.cell 2
      have cc3 : wi.cell? ⟨w.heap.size, 3, none⟩ = some (.int .i64 free) := B.out.cell 3
      have cc4 : wi.cell? ⟨w.heap.size, 4, none⟩ = some (.int .i64 step) := B.out.cell 4
      have cc5 : wi.cell? ⟨w.heap.size, 5, none⟩ = some (.int .i64 price) := B.out.cell 5
      have cc6 : wi.cell? ⟨w.heap.size, 6, none⟩ = some (.int .i64 capp) := B.out.cell 6
      have cc7 : wi.cell? ⟨w.heap.size, 7, none⟩ = some (.int .i64 clock) := B.out.cell 7
      have cc8 : wi.cell? ⟨w.heap.size, 8, none⟩ = some (.int .i64 bank) := B.out.cell 8
      have cc9 : wi.cell? ⟨w.heap.size, 9, none⟩ = some (.slice q m c2) := B.out.cell 9
      go_simp
      exact hK _ _ ⟨.agg #[.int .i64 wide, .int .i64 deep, .slice p n cap, .int .i64 free, .int .i64 step, .int .i64 price, .int .i64 capp, .int .i64 clock, .int .i64 bank, .slice q m c2], rfl, rfl, Ext.refl _⟩
    refine StepsL.cons (ps := [(3, some 17)]) rfl (by kernel_rfl) (fun wi hx => ?_) ?_
    · intro v3 h3 K hK
      obtain rfl := h3
      go_wp2_with fail
      refine (HT.out _ (by (repeat' (first | exact Ext.refl _ | (with_reducible assumption) | (with_reducible refine Ext.alloc ?_ _) | (with_reducible refine Ext.setCell ?_ (by first | exact Nat.le_refl _ | (dsimp only; omega) | (simp; done) | (simp; omega)) _) | (with_reducible refine Ext.drew ?_) | (with_reducible refine Ext.drewN ?_ _) | (refine Ext.trans ?_ (by with_reducible assumption)))))).mono ?_
      rintro e2 w2 ⟨rfl, hx2⟩
      go_simp
      exact hK _ _ ⟨str t, rfl, rfl, hx2⟩
    refine StepsL.cons (ps := [(2, some 16), (4, some 18)]) rfl (by kernel_rfl) (fun wi hx => ?_) StepsL.nil
    · intro v2 h2 v4 h4 K hK
      obtain rfl := h2
      obtain rfl := h4
      have s2 : ¬ 9223372036854775807 < (dec e).length + 1 + t.length := by omega
      go_simp
      exact hK _ _ ⟨.string ((⟨(dec e).toArray⟩ : ByteArray) ++ (⟨#[124]⟩ : ByteArray) ++ (⟨t.toArray⟩ : ByteArray)), rfl, rfl, Ext.refl _⟩
  case fin =>
    intro wi hx v0 h0 v1 h1 v2 h2 v3 h3 v4 h4 v5 h5
    obtain rfl := h0
    obtain rfl := h1
    obtain rfl := h2
    obtain rfl := h3
    obtain rfl := h4
    obtain rfl := h5
    refine wpAny_ready (rs := [6]) (by kernel_rfl) (by simp) ?_
    refine AllReady.cons rfl (fun K hK => ?_) AllReady.nil
    go_simp
    refine hK _ _ ?_
    clear hK K
    refine wpAny_done (by kernel_rfl) ?_ _
    have X1 := Lib.hid (X0.out.trans hx.of_drew)
    clear hx
    have eq : (Value.string (⟨(dec e).toArray⟩ ++ ⟨#[124]⟩ ++ ⟨t.toArray⟩)) = str u := by rw [hu.out]; exact str_app3 _ _ _
    rw [eq]
    clear eq
    have hul : ¬ 9223372036854775807 < u.length + 1 := by omega
    have hub := sum_len u
    have hul2 : ¬ 9223372036854775807 < u.length + 1 + (Lib.decDigits (sumL u).toNat).length := by omega
    have hb := sumL_bd u
    go_wp2_with fail
    refine (specSumStr u _ (by unfold maxLen; omega)).mono ?_
    rintro e2 w3 ⟨rfl, rfl⟩
    go_wp2_with fail
    refine (l1Num (sumL u) _ (by omega) (by omega)).mono ?_
    rintro e2 w4 ⟨rfl, h4⟩
    go_wp2
    go_ret
    exact ⟨by rw [← hu.out]; exact ret_str rfl, X1.out.trans (by (repeat' (first | exact Ext.refl _ | (with_reducible assumption) | (with_reducible refine Ext.alloc ?_ _) | (with_reducible refine Ext.setCell ?_ (by first | exact Nat.le_refl _ | (dsimp only; omega) | (simp; done) | (simp; omega)) _) | (with_reducible refine Ext.drew ?_) | (with_reducible refine Ext.drewN ?_ _) | (refine Ext.trans ?_ (by with_reducible assumption)))))⟩

theorem houseText_len {h : HouseD} : (houseText h).length ≤ 100000 := by
  unfold houseText
  cases hok : houseOk h with
  | false => simp
  | true =>
    rw [if_pos rfl]
    obtain ⟨g0, g1, g2, g3, g4, g5, g6, g7, g8, g9, g10, g11, g12, g13, g14⟩ := house_nums hok
    have l1 : (hallText h.wide h.deep h.cells).length ≤ 400 := hallText_len
    have l2 := nums_len4 h.free h.step h.price h.capp (by omega) (by omega) (by omega) (by omega)
    have l3 := dec_len h.clock (by omega)
    have l4 := dec_len h.bank (by omega)
    have lv : ∀ v ∈ h.vs, (numsText (visitNums v)).length ≤ 90 := fun v hv => by
      have := g14 v hv
      exact nums_len4 _ _ _ _ (by omega) (by omega) (by omega) (by omega)
    have HL := join_len 59 400 (hallText h.wide h.deep h.cells) (numsText [h.free, h.step, h.price, h.capp] :: dec h.clock :: dec h.bank :: h.vs.map (fun v => numsText (visitNums v))) l1 (fun y hy => by
      simp only [List.mem_cons] at hy
      rcases hy with rfl | rfl | rfl | hy
      · omega
      · omega
      · omega
      · obtain ⟨v, hv, rfl⟩ := List.mem_map.1 hy
        have := lv v hv; omega)
    refine Nat.le_trans HL ?_
    simp only [List.length_cons, List.length_map]
    omega
theorem implSaveText (h : HouseD) (e : Int) (p : Option Addr) (n cap : Nat) (q : Option Addr) (m c2 : Nat) (w : World) (hE : Env w) (hi : IsHouse w h p n cap q m c2) :
    Calls Tryz.prog 50 #[houseV h p n cap q m c2, .int .i64 e] w fun e' w' => e' = .returned (str (saveText h e)) ∧ Ext w w' := by
  have HV := fun (w' : World) (hx : Ext w w') => implHouse h p n cap q m c2 w' (hi.ext hx)
  unfold saveText
  cases hok : houseOk h with
  | false =>
    rw [hok] at HV
    simpa using implSave_bad h.wide h.deep h.free h.step h.price h.capp h.clock h.bank p n cap q m c2 e [] [] w HV
  | true =>
    rw [hok] at HV
    by_cases hr : 0 ≤ e ∧ e ≤ 99
    · rw [if_pos ⟨rfl, hr⟩]
      exact implSave_ok h.wide h.deep h.free h.step h.price h.capp h.clock h.bank p n cap q m c2 e (houseText h) (withSum (dec e ++ [124] ++ houseText h)) w hr.1 hr.2 (dec_len e (by omega)) houseText_len HV (fun w' hx => implHouseText h p n cap q m c2 w' (hE.ext hx) (hi.ext hx)) (fun w' hx => itoaI e w' hr.1 (by omega) (hE.ext hx)) (fun w' hx => by rw [show (Value.string (⟨(dec e).toArray⟩ ++ ⟨#[124]⟩ ++ ⟨(houseText h).toArray⟩)) = str (dec e ++ [124] ++ houseText h) from str_app3 _ _ _]; exact implWithSum _ w' (by have := houseText_len (h := h); have := dec_len e (by omega); simp only [List.length_append, List.length_cons, List.length_nil]; omega) (hE.ext hx))
    · rw [if_neg (fun hh => hr hh.2)]
      exact implSave_out h.wide h.deep h.free h.step h.price h.capp h.clock h.bank p n cap q m c2 e [] [] w (by omega) HV
theorem specSaveText (h : HouseD) (e : Int) (p : Option Addr) (n cap : Nat) (q : Option Addr) (m c2 : Nat) (w : World) (hi : IsHouse w h p n cap q m c2) :
    Calls Tryz.prog 51 #[houseV h p n cap q m c2, .int .i64 e] w fun e' w' => e' = .returned (str (saveText h e)) ∧ Ext w w' := by
  have HV := fun (w' : World) (hx : Ext w w') => specHouse h p n cap q m c2 w' (hi.ext hx)
  unfold saveText
  cases hok : houseOk h with
  | false =>
    rw [hok] at HV
    simpa using specSave_bad h.wide h.deep h.free h.step h.price h.capp h.clock h.bank p n cap q m c2 e [] [] w HV
  | true =>
    rw [hok] at HV
    by_cases hr : 0 ≤ e ∧ e ≤ 99
    · rw [if_pos ⟨rfl, hr⟩]
      exact specSave_ok h.wide h.deep h.free h.step h.price h.capp h.clock h.bank p n cap q m c2 e (houseText h) (withSum (dec e ++ [124] ++ houseText h)) w hr.1 hr.2 (dec_len e (by omega)) houseText_len HV (fun w' hx => specHouseText h p n cap q m c2 w' (hi.ext hx)) (fun w' hx => l1Num e w' hr.1 (by omega))
    · rw [if_neg (fun hh => hr hh.2)]
      exact specSave_out h.wide h.deep h.free h.step h.price h.capp h.clock h.bank p n cap q m c2 e [] [] w (by omega) HV
end Go.Proofs.YteejdnmmpmcmeaaGreatDoor
