/-
  impl.HallText is the text of a hall ('hallText'). Conditions: the slice of cells reads as a list; the library's table is laid.
-/
import Derived.Test.YteejdnmmpmcmeaaGreatDoorHv
import Derived.Test.YteejdnmmpmcmeaaGreatDoorBuilder
import Derived.Test.YteejdnmmpmcmeaaGreatDoorJournal2
namespace Go.Proofs.YteejdnmmpmcmeaaGreatDoor
open Go.RowKit
set_option linter.unusedVariables false

def cellTok (x : Int) : List UInt8 := if x = 0 then [46] else Lib.decDigits x.toNat
def cellSep (wide : Int) (k : Nat) : List UInt8 := if k = 0 then [] else if (k : Int) % wide = 0 then [47] else [44]
def hallTextN (wide : Int) (xs : List Int) : Nat → List UInt8
  | 0 => []
  | k + 1 => hallTextN wide xs k ++ cellSep wide k ++ cellTok (xs[k]?.getD 0)
def hallText (wide deep : Int) (xs : List Int) : List UInt8 := if hallOk wide deep xs then hallTextN wide xs xs.length else []

theorem cellTok_len (x : Int) (h : x ≤ 99) : (cellTok x).length ≤ 21 := by
  unfold cellTok; split
  · simp
  · exact decDigits_len _ (by omega)
theorem hallTextN_len (wide : Int) (xs : List Int) (h : ∀ x ∈ xs, x ≤ 99) : ∀ k, (hallTextN wide xs k).length ≤ 22 * k := by
  intro k
  induction k with
  | zero => simp [hallTextN]
  | succ k ih =>
    have h1 : (cellTok (xs[k]?.getD 0)).length ≤ 21 := by
      refine cellTok_len _ ?_
      cases hx : xs[k]? with
      | none => simp
      | some x => exact h x (List.mem_of_getElem? hx)
    have h2 : (cellSep wide k).length ≤ 1 := by unfold cellSep; split; simp; split <;> simp
    simp only [hallTextN, List.length_append]; omega
theorem hallTextN_step {wide : Int} {xs : List Int} {k : Nat} {x : Int} (h : xs[k]? = some x) : hallTextN wide xs (k + 1) = hallTextN wide xs k ++ cellSep wide k ++ cellTok x := by
  simp [hallTextN, h]
theorem byteCells_one (a : List UInt8) (c : UInt8) (ci : Int) (hc : ci = (c.toNat : Int)) : Lib.byteCells (a ++ [c]) = Lib.byteCells a ++ [.int .u8 ci] := by
  subst hc; simp [Lib.byteCells]

set_option maxRecDepth 100000 in
set_option maxHeartbeats 1000000 in
theorem implHallText_bad (wide deep : Int) (p : Option Addr) (n cap : Nat) (w : World) (HV : Hid (∀ w', Ext w w' → Calls Tryz.prog 61 #[hallV wide deep p n cap] w' fun e w'' => e = .returned (.bool false) ∧ Ext w' w'')) :
    Calls Tryz.prog 68 #[hallV wide deep p n cap] w fun e w' => e = .returned (str []) ∧ Ext w w' := by
  go_enter Tryz.func68, Tryz.ntmps68
  go_wp2_with fail
  refine (HV.out _ (by (repeat' (first | exact Ext.refl _ | (with_reducible assumption) | (with_reducible refine Ext.alloc ?_ _) | (with_reducible refine Ext.setCell ?_ (by first | exact Nat.le_refl _ | (dsimp only; omega) | (simp; done) | (simp; omega)) _) | (with_reducible refine Ext.drew ?_) | (with_reducible refine Ext.drewN ?_ _) | (refine Ext.trans ?_ (by with_reducible assumption)))))).mono ?_
  rintro e w1 ⟨rfl, h1⟩
  go_wp2
  go_ret
  exact ⟨rfl, by (repeat' (first | exact Ext.refl _ | (with_reducible assumption) | (with_reducible refine Ext.alloc ?_ _) | (with_reducible refine Ext.setCell ?_ (by first | exact Nat.le_refl _ | (dsimp only; omega) | (simp; done) | (simp; omega)) _) | (with_reducible refine Ext.drew ?_) | (with_reducible refine Ext.drewN ?_ _) | (refine Ext.trans ?_ (by with_reducible assumption))))⟩

set_option maxRecDepth 100000 in
set_option maxHeartbeats 1000000 in
theorem implHallText_ok (wide deep : Int) (p : Option Addr) (n cap : Nat) (xs : List Int) (w : World) (hE0 : Env w) (h0 : 2 ≤ wide) (h1 : wide ≤ 4) (hn : n ≤ 12) (hc : ∀ x ∈ xs, 0 ≤ x ∧ x ≤ 99) (HS : Hid (Sl w p n cap 1 (ivs xs)))
    (HV : Hid (∀ w', Ext w w' → Calls Tryz.prog 61 #[hallV wide deep p n cap] w' fun e w'' => e = .returned (.bool true) ∧ Ext w' w'')) :
    Calls Tryz.prog 68 #[hallV wide deep p n cap] w fun e w' => e = .returned (str (hallTextN wide xs n)) ∧ Ext w w' := by
  have HE0 := Lib.hid hE0
  have HC := Lib.hid hc
  clear hE0 hc
  go_enter Tryz.func68, Tryz.ntmps68
  go_wp2_with fail
  refine (HV.out _ (by (repeat' (first | exact Ext.refl _ | (with_reducible assumption) | (with_reducible refine Ext.alloc ?_ _) | (with_reducible refine Ext.setCell ?_ (by first | exact Nat.le_refl _ | (dsimp only; omega) | (simp; done) | (simp; omega)) _) | (with_reducible refine Ext.drew ?_) | (with_reducible refine Ext.drewN ?_ _) | (refine Ext.trans ?_ (by with_reducible assumption)))))).mono ?_
  rintro e w1 ⟨rfl, h1'⟩
  have hz1 : w.heap.size < w1.heap.size := Nat.lt_of_lt_of_le (by simp) h1'.sz
  have ea : w1.cell? ⟨w.heap.size, 0, none⟩ = some (.int .i64 wide) := by rw [h1'.cells.1 _ _ (by simp)]; simp
  have eb : w1.cell? ⟨w.heap.size, 2, none⟩ = some (.slice p n cap) := by rw [h1'.cells.1 _ _ (by simp)]; simp
  have hx1 : Ext w w1 := by (repeat' (first | exact Ext.refl _ | (with_reducible assumption) | (with_reducible refine Ext.alloc ?_ _) | (with_reducible refine Ext.setCell ?_ (by first | exact Nat.le_refl _ | (dsimp only; omega) | (simp; done) | (simp; omega)) _) | (with_reducible refine Ext.drew ?_) | (with_reducible refine Ext.drewN ?_ _) | (refine Ext.trans ?_ (by with_reducible assumption))))
  go_wp2
  go_loopw [12] (fun i wr => ∃ (k : Nat), k ≤ n ∧ i = .int .i64 k ∧ Lib.IsBuilderF 118 5 w1.heap.size w1.heap.size (Lib.byteCells (hallTextN wide xs k)) wr ∧ Ext w1 wr ∧ w1.heap.size < wr.heap.size) (fun i _ => n - (intOf i).toNat)
  case atStart => exact ⟨0, Nat.zero_le _, rfl, .inl ⟨Nat.le_refl _, .slice none 0 0, by rw [heap_alloc_new], World.ownsRowF_nil _ _ _ _, by simp [Value.ownBlock]⟩, (Ext.refl _).alloc _, by simp⟩
  case round =>
    obtain ⟨k, hk, rfl, hbu, hE, hsw⟩ := hrel
    have HBU := Lib.hid hbu
    clear hbu
    have hEw : Ext w wr := hx1.trans hE
    have ea2 : wr.cell? ⟨w.heap.size, 0, none⟩ = some (.int .i64 wide) := (hE.cells.1 _ _ hz1).trans ea
    have hbl : (Lib.byteCells (hallTextN wide xs k)).length ≤ 300 := by
      have := hallTextN_len wide xs (fun x hx => (HC.out x hx).2) k
      simp [Lib.byteCells]; omega
    by_cases hlt : k < n
    · obtain ⟨b, off, x, rfl, hx, hbs, hcell⟩ := (HS.out.ext hEw).int_at hlt
      obtain ⟨hx0, hx1'⟩ := HC.out x (List.mem_of_getElem? hx)
      have HX := Lib.hid hx
      clear hx
      have hfin := Lib.hid (hallTextN_step (wide := wide) HX.out)
      by_cases hk0 : k = 0
      · have k1 : ((k : Int) == 0) = true := by simp [hk0]
        have hsep : Hid (cellSep wide k = []) := by show _ = _; simp [cellSep, hk0]
        clear hk0
        by_cases hz : x = 0
        · have z1 : (x == 0) = true := by simp [hz]
          have hacc : Hid (hallTextN wide xs (k + 1) = hallTextN wide xs k ++ [46]) := by show _ = _; rw [hfin.out, hsep.out, List.append_nil]; simp [cellTok, hz]
          clear hz
          go_wp2_with fail
          refine (WriteByte_k w1.heap.size w1.heap.size (Lib.byteCells (hallTextN wide xs k)) 46 _ HBU.out (by simp [Lib.byteCells] at hbl ⊢; omega) (by omega)).mono ?_
          rintro e w3 ⟨rfl, h2, h3, _⟩
          have HB3 : Hid (Lib.IsBuilderF 118 5 w1.heap.size w1.heap.size (Lib.byteCells (hallTextN wide xs (k + 1))) w3) := by rw [hacc.out, byteCells_one _ 46 46 rfl]; exact .inr h2
          have hE3 : Ext w1 w3 := ext_below hE h3 (Nat.le_refl _)
          have hs3 : w1.heap.size < w3.heap.size := Nat.lt_of_lt_of_le hsw h3.size
          clear h2 h3
          go_wp2
          go_roundw
          case rel => exact ⟨k + 1, by omega, by go_num, HB3.out, hE3, hs3⟩
          case measure => simp [intOf]; omega
        · have z1 : (x == 0) = false := by simp [hz]
          have hacc : Hid (hallTextN wide xs (k + 1) = hallTextN wide xs k ++ Lib.decDigits x.toNat) := by show _ = _; rw [hfin.out, hsep.out, List.append_nil]; simp [cellTok, hz]
          clear hz
          have hdl : (Lib.decDigits x.toNat).length ≤ 21 := decDigits_len _ (by omega)
          go_wp2_with fail
          refine (itoaI x _ hx0 (by omega) (HE0.out.ext (hx1.trans hE))).mono ?_
          rintro e w3 ⟨rfl, h3'⟩
          have HB2 := Lib.hid (builder_ext HBU.out h3')
          have hs3' : w1.heap.size < w3.heap.size := Nat.lt_of_lt_of_le hsw h3'.sz
          go_wp2_with fail
          refine (WriteString_k w1.heap.size w1.heap.size (Lib.byteCells (hallTextN wide xs k)) _ _ HB2.out (by simp [Lib.byteCells, ByteArray.size] at hbl ⊢; omega) (by omega)).mono ?_
          rintro e w4 ⟨rfl, h2, h3, _⟩
          have HB3 : Hid (Lib.IsBuilderF 118 5 w1.heap.size w1.heap.size (Lib.byteCells (hallTextN wide xs (k + 1))) w4) := by rw [hacc.out, byteCells_append]; exact .inr h2
          have hE3 : Ext w1 w4 := ext_below (Ext.trans hE h3') h3 (Nat.le_refl _)
          have hs3 : w1.heap.size < w4.heap.size := Nat.lt_of_lt_of_le hs3' h3.size
          clear h2 h3
          go_wp2
          go_roundw
          case rel => exact ⟨k + 1, by omega, by go_num, HB3.out, hE3, hs3⟩
          case measure => simp [intOf]; omega
      · have k1 : ((k : Int) == 0) = false := by simp; omega
        by_cases hm : (k : Int) % wide = 0
        · have k2 : ((k : Int) % wide == 0) = true := by simp [hm]
          have hsep : Hid (cellSep wide k = [47]) := by show _ = _; simp [cellSep, hk0, hm]
          clear hk0 hm
          go_wp2_with fail
          refine (WriteByte_k w1.heap.size w1.heap.size (Lib.byteCells (hallTextN wide xs k)) 47 _ HBU.out (by omega) (by omega)).mono ?_
          rintro e w2 ⟨rfl, h2, h3, _⟩
          have HBS : Hid (Lib.IsBuilderF 118 5 w1.heap.size w1.heap.size (Lib.byteCells (hallTextN wide xs k ++ [47])) w2) := by rw [byteCells_one _ 47 47 rfl]; exact .inr h2
          have hE2 : Ext w1 w2 := ext_below hE h3 (Nat.le_refl _)
          have hs2 : w1.heap.size < w2.heap.size := Nat.lt_of_lt_of_le hsw h3.size
          clear h2 h3
          by_cases hz : x = 0
          · have z1 : (x == 0) = true := by simp [hz]
            have hacc : Hid (hallTextN wide xs (k + 1) = hallTextN wide xs k ++ [47] ++ [46]) := by show _ = _; rw [hfin.out, hsep.out]; simp [cellTok, hz]
            clear hz
            go_wp2_with fail
            refine (WriteByte_k w1.heap.size w1.heap.size (Lib.byteCells (hallTextN wide xs k ++ [47])) 46 _ HBS.out (by simp [Lib.byteCells] at hbl ⊢; omega) (by omega)).mono ?_
            rintro e w3 ⟨rfl, h2, h3, _⟩
            have HB3 : Hid (Lib.IsBuilderF 118 5 w1.heap.size w1.heap.size (Lib.byteCells (hallTextN wide xs (k + 1))) w3) := by rw [hacc.out, byteCells_one _ 46 46 rfl]; exact .inr h2
            have hE3 : Ext w1 w3 := ext_below hE2 h3 (Nat.le_refl _)
            have hs3 : w1.heap.size < w3.heap.size := Nat.lt_of_lt_of_le hs2 h3.size
            clear h2 h3
            go_wp2
            go_roundw
            case rel => exact ⟨k + 1, by omega, by go_num, HB3.out, hE3, hs3⟩
            case measure => simp [intOf]; omega
          · have z1 : (x == 0) = false := by simp [hz]
            have hacc : Hid (hallTextN wide xs (k + 1) = hallTextN wide xs k ++ [47] ++ Lib.decDigits x.toNat) := by show _ = _; rw [hfin.out, hsep.out]; simp [cellTok, hz]
            clear hz
            have hdl : (Lib.decDigits x.toNat).length ≤ 21 := decDigits_len _ (by omega)
            go_wp2_with fail
            refine (itoaI x _ hx0 (by omega) (HE0.out.ext (hx1.trans hE2))).mono ?_
            rintro e w3 ⟨rfl, h3'⟩
            have HB2 := Lib.hid (builder_ext HBS.out h3')
            have hs3' : w1.heap.size < w3.heap.size := Nat.lt_of_lt_of_le hs2 h3'.sz
            go_wp2_with fail
            refine (WriteString_k w1.heap.size w1.heap.size (Lib.byteCells (hallTextN wide xs k ++ [47])) _ _ HB2.out (by simp [Lib.byteCells, ByteArray.size] at hbl ⊢; omega) (by omega)).mono ?_
            rintro e w4 ⟨rfl, h2, h3, _⟩
            have HB3 : Hid (Lib.IsBuilderF 118 5 w1.heap.size w1.heap.size (Lib.byteCells (hallTextN wide xs (k + 1))) w4) := by rw [hacc.out, byteCells_append]; exact .inr h2
            have hE3 : Ext w1 w4 := ext_below (Ext.trans hE2 h3') h3 (Nat.le_refl _)
            have hs3 : w1.heap.size < w4.heap.size := Nat.lt_of_lt_of_le hs3' h3.size
            clear h2 h3
            go_wp2
            go_roundw
            case rel => exact ⟨k + 1, by omega, by go_num, HB3.out, hE3, hs3⟩
            case measure => simp [intOf]; omega
        · have k2 : ((k : Int) % wide == 0) = false := by simp [hm]
          have hsep : Hid (cellSep wide k = [44]) := by show _ = _; simp [cellSep, hk0, hm]
          clear hk0 hm
          go_wp2_with fail
          refine (WriteByte_k w1.heap.size w1.heap.size (Lib.byteCells (hallTextN wide xs k)) 44 _ HBU.out (by omega) (by omega)).mono ?_
          rintro e w2 ⟨rfl, h2, h3, _⟩
          have HBS : Hid (Lib.IsBuilderF 118 5 w1.heap.size w1.heap.size (Lib.byteCells (hallTextN wide xs k ++ [44])) w2) := by rw [byteCells_one _ 44 44 rfl]; exact .inr h2
          have hE2 : Ext w1 w2 := ext_below hE h3 (Nat.le_refl _)
          have hs2 : w1.heap.size < w2.heap.size := Nat.lt_of_lt_of_le hsw h3.size
          clear h2 h3
          by_cases hz : x = 0
          · have z1 : (x == 0) = true := by simp [hz]
            have hacc : Hid (hallTextN wide xs (k + 1) = hallTextN wide xs k ++ [44] ++ [46]) := by show _ = _; rw [hfin.out, hsep.out]; simp [cellTok, hz]
            clear hz
            go_wp2_with fail
            refine (WriteByte_k w1.heap.size w1.heap.size (Lib.byteCells (hallTextN wide xs k ++ [44])) 46 _ HBS.out (by simp [Lib.byteCells] at hbl ⊢; omega) (by omega)).mono ?_
            rintro e w3 ⟨rfl, h2, h3, _⟩
            have HB3 : Hid (Lib.IsBuilderF 118 5 w1.heap.size w1.heap.size (Lib.byteCells (hallTextN wide xs (k + 1))) w3) := by rw [hacc.out, byteCells_one _ 46 46 rfl]; exact .inr h2
            have hE3 : Ext w1 w3 := ext_below hE2 h3 (Nat.le_refl _)
            have hs3 : w1.heap.size < w3.heap.size := Nat.lt_of_lt_of_le hs2 h3.size
            clear h2 h3
            go_wp2
            go_roundw
            case rel => exact ⟨k + 1, by omega, by go_num, HB3.out, hE3, hs3⟩
            case measure => simp [intOf]; omega
          · have z1 : (x == 0) = false := by simp [hz]
            have hacc : Hid (hallTextN wide xs (k + 1) = hallTextN wide xs k ++ [44] ++ Lib.decDigits x.toNat) := by show _ = _; rw [hfin.out, hsep.out]; simp [cellTok, hz]
            clear hz
            have hdl : (Lib.decDigits x.toNat).length ≤ 21 := decDigits_len _ (by omega)
            go_wp2_with fail
            refine (itoaI x _ hx0 (by omega) (HE0.out.ext (hx1.trans hE2))).mono ?_
            rintro e w3 ⟨rfl, h3'⟩
            have HB2 := Lib.hid (builder_ext HBS.out h3')
            have hs3' : w1.heap.size < w3.heap.size := Nat.lt_of_lt_of_le hs2 h3'.sz
            go_wp2_with fail
            refine (WriteString_k w1.heap.size w1.heap.size (Lib.byteCells (hallTextN wide xs k ++ [44])) _ _ HB2.out (by simp [Lib.byteCells, ByteArray.size] at hbl ⊢; omega) (by omega)).mono ?_
            rintro e w4 ⟨rfl, h2, h3, _⟩
            have HB3 : Hid (Lib.IsBuilderF 118 5 w1.heap.size w1.heap.size (Lib.byteCells (hallTextN wide xs (k + 1))) w4) := by rw [hacc.out, byteCells_append]; exact .inr h2
            have hE3 : Ext w1 w4 := ext_below (Ext.trans hE2 h3') h3 (Nat.le_refl _)
            have hs3 : w1.heap.size < w4.heap.size := Nat.lt_of_lt_of_le hs3' h3.size
            clear h2 h3
            go_wp2
            go_roundw
            case rel => exact ⟨k + 1, by omega, by go_num, HB3.out, hE3, hs3⟩
            case measure => simp [intOf]; omega
    · obtain rfl : k = n := by omega
      go_wp2_with fail
      refine (Tryz.Builder_String_any_f w1.heap.size w1.heap.size (hallTextN wide xs k) _ HBU.out (by omega)).mono ?_
      rintro e w2 ⟨rfl, h2, h3⟩
      have hE2 : Ext w w2 := ext_below hEw h3 (by omega)
      clear h2 h3
      go_wp2
      go_ret
      exact ⟨rfl, hE2⟩
end Go.Proofs.YteejdnmmpmcmeaaGreatDoor
