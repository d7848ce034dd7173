/-
  A visit is looked for by its car: the rewrite's visitIndex (slices.IndexFunc with a closure), the reference's l7Find.
-/
import Derived.Test.YtncfnlocdlhagaaDoorQ3
import Derived.Test.YtncfnlocdlhagaaDoorRows
import Derived.Shelf.Strings.BuilderK
import Derived.KernelRfl
namespace Go.Proofs.YtncfnlocdlhagaaDoor
open Go.RowKit
set_option linter.unusedVariables false

/-- where the first visit of a car stands, or -1 -/
def vix (id : Int) (vs : List Visit4) : Int := if vs.any (fun v => v.1 == id) then (vs.findIdx (fun v => v.1 == id) : Int) else -1
theorem vix_hit {id : Int} {vs : List Visit4} {k : Nat} {v : Visit4} (hv : vs[k]? = some v) (h : v.1 = id) (hp : (vs.take k).any (fun v => v.1 == id) = false) : vix id vs = k := by
  have hlt : k < vs.length := (List.getElem?_eq_some_iff.1 hv).1
  have e : vs[k] = v := by have := (List.getElem?_eq_some_iff.1 hv).2; exact this
  have ha : vs.any (fun v => v.1 == id) = true := List.any_eq_true.2 ⟨v, List.mem_of_getElem? hv, by simp [h]⟩
  have hi : vs.findIdx (fun v => v.1 == id) = k := by
    rw [List.findIdx_eq hlt]
    refine ⟨by simp [e, h], fun j hj => ?_⟩
    have := List.any_eq_false.1 hp vs[j] (by
      rw [List.mem_take_iff_getElem]; exact ⟨j, by omega, rfl⟩)
    simpa using this
  unfold vix; rw [if_pos ha, hi]
theorem vix_miss {id : Int} {vs : List Visit4} (hp : vs.any (fun v => v.1 == id) = false) : vix id vs = -1 := by unfold vix; simp [hp]
theorem any_snoc {id : Int} {vs : List Visit4} {k : Nat} {v : Visit4} (hv : vs[k]? = some v) (h : ¬ v.1 = id) (hp : (vs.take k).any (fun v => v.1 == id) = false) : (vs.take (k + 1)).any (fun v => v.1 == id) = false := by
  rw [take_snocL hv, List.any_append, hp]; simp [h]
theorem vix_cases (id : Int) (vs : List Visit4) : (vix id vs = -1 ∧ visitAt id vs = none) ∨ ∃ (k : Nat) (a1 a2 a3 : Int), k < vs.length ∧ vix id vs = k ∧ vs[k]? = some (id, a1, a2, a3) ∧ visitAt id vs = some (id, a1, a2, a3) := by
  cases h : vs.any (fun v => v.1 == id) with
  | false => exact .inl ⟨vix_miss h, by unfold visitAt; rw [List.find?_eq_none]; simpa using h⟩
  | true =>
    right
    have hlt : vs.findIdx (fun v => v.1 == id) < vs.length := List.findIdx_lt_length.2 (by simpa using h)
    have hg := List.findIdx_getElem (w := hlt)
    have hf : visitAt id vs = some (vs[vs.findIdx (fun v => v.1 == id)]) := by
      unfold visitAt
      rw [List.find?_eq_some_iff_getElem]
      exact ⟨hg, _, hlt, rfl, fun j hj => by simpa using List.not_of_lt_findIdx hj⟩
    have h0 : vs[vs.findIdx (fun v => v.1 == id)].1 = id := by simpa using hg
    generalize hb : vs[vs.findIdx (fun v => v.1 == id)] = v at *
    obtain ⟨b0, b1, b2, b3⟩ := v
    dsimp only at h0
    subst h0
    exact ⟨_, b1, b2, b3, hlt, by unfold vix; rw [if_pos h], by rw [List.getElem?_eq_getElem hlt, hb], hf⟩

end Go.Proofs.YtncfnlocdlhagaaDoor

/-
  Both packages' HouseStay, HouseDue, HouseMay: what they say of a car's stay. Condition: the house's slices read as lists.
-/
namespace Go.Proofs.YtncfnlocdlhagaaDoor
open Go.RowKit
set_option linter.unusedVariables false
set_option linter.unusedSimpArgs false

/-- what HouseStay hands back -/
def stayR (h : HouseD) (id : Int) : Value := match houseStay h id with
  | some s => .tuple #[.agg #[.int .i64 s.1, .int .i64 s.2.1, .int .i64 s.2.2], .bool true]
  | none => .tuple #[.agg #[.int .i64 0, .int .i64 0, .int .i64 0], .bool false]

end Go.Proofs.YtncfnlocdlhagaaDoor

/-
  Both packages' HouseDue, HouseMay. Condition: the house's slices read as lists.
-/
namespace Go.Proofs.YtncfnlocdlhagaaDoor
open Go.RowKit
set_option linter.unusedVariables false
set_option linter.unusedSimpArgs false

theorem stay_good {h : HouseD} {id a1 a2 a3 : Int} (hs : houseStay h id = some (a1, a2, a3)) : tariffOk h.free h.step h.price h.capp = true ∧ stayOk a1 a2 a3 = true ∧ a3 ≤ h.clock ∧ h.clock ≤ 9999 := by
  unfold houseStay at hs
  split at hs
  · rename_i hok
    rw [Option.map_eq_some_iff] at hs
    obtain ⟨v, hv, e⟩ := hs
    have hm := List.mem_of_find?_eq_some hv
    simp only [houseOk, numsOk, Bool.and_eq_true, decide_eq_true_eq] at hok
    have := (visitsOk_len hok.2).2 v hm
    obtain ⟨v0, v1, v2, v3⟩ := v
    simp only [Prod.mk.injEq] at e
    obtain ⟨rfl, rfl, rfl⟩ := e
    simp only [visitOk, Bool.and_eq_true, decide_eq_true_eq] at this
    exact ⟨hok.1.1.2, this.1, this.2, hok.1.2.2.1⟩
  · simp at hs
end Go.Proofs.YtncfnlocdlhagaaDoor

/-
  The contracts of the library's functions that this program calls, laid at this seat's numbers: strings.Builder's writers by hand. No condition of ours.
-/
namespace Go.Proofs.YtncfnlocdlhagaaDoor
open Go.RowKit
set_option linter.unusedVariables false
def lays240_ren : Go.Shelf.Ren := ⟨fun | 240 => 88 | 276 => 108 | n => n, fun | 0 => 0 | 3 => 3 | 4 => 4 | 5 => 5 | 9 => 9 | 20 => 20 | 37 => 22 | 70 => 85 | 72 => 87 | 75 => 89 | 80 => 92 | 164 => 140 | n => n, fun | n => n⟩
theorem lays240 : Go.Proofs.Lays.n240 Tryd.prog lays240_ren := {
  mixed := by kernel_rfl,
  f240 := Tryd.func88.trans (congrArg some (by kernel_rfl)),
  f276 := Tryd.func108.trans (congrArg some (by kernel_rfl)),
  t0 := Tryd.underlying0,
  a0 := Tryd.isAgg0,
  z0 := Tryd.sizeOf0,
  v0 := Tryd.zeroValue0,
  t4 := Tryd.underlying4,
  a4 := Tryd.isAgg4,
  z4 := Tryd.sizeOf4,
  v4 := Tryd.zeroValue4,
  t9 := Tryd.underlying9,
  a9 := Tryd.isAgg9,
  z9 := Tryd.sizeOf9,
  v9 := Tryd.zeroValue9,
  t20 := Tryd.underlying20,
  a20 := Tryd.isAgg20,
  z20 := Tryd.sizeOf20,
  v20 := Tryd.zeroValue20,
  t70 := Tryd.underlying85,
  a70 := Tryd.isAgg85,
  z70 := Tryd.sizeOf85,
  v70 := Tryd.zeroValue85,
  t72 := Tryd.underlying87,
  a72 := Tryd.isAgg87,
  z72 := Tryd.sizeOf87,
  v72 := Tryd.zeroValue87,
  t164 := Tryd.underlying140,
  a164 := Tryd.isAgg140,
  z164 := Tryd.sizeOf140,
  v164 := Tryd.zeroValue140 }
def lays166_ren : Go.Shelf.Ren := ⟨fun | 166 => 51 | 240 => 88 | 276 => 108 | n => n, fun | 0 => 0 | 3 => 3 | 4 => 4 | 5 => 5 | 9 => 9 | 20 => 20 | 37 => 22 | 70 => 85 | 72 => 87 | 75 => 89 | 80 => 92 | 164 => 140 | n => n, fun | n => n⟩
theorem lays166 : Go.Proofs.Lays.n166 Tryd.prog lays166_ren := {
  mixed := by kernel_rfl,
  f166 := Tryd.func51.trans (congrArg some (by kernel_rfl)),
  f240 := Tryd.func88.trans (congrArg some (by kernel_rfl)),
  f276 := Tryd.func108.trans (congrArg some (by kernel_rfl)),
  t0 := Tryd.underlying0,
  a0 := Tryd.isAgg0,
  z0 := Tryd.sizeOf0,
  v0 := Tryd.zeroValue0,
  t3 := Tryd.underlying3,
  a3 := Tryd.isAgg3,
  z3 := Tryd.sizeOf3,
  v3 := Tryd.zeroValue3,
  t4 := Tryd.underlying4,
  a4 := Tryd.isAgg4,
  z4 := Tryd.sizeOf4,
  v4 := Tryd.zeroValue4,
  t9 := Tryd.underlying9,
  a9 := Tryd.isAgg9,
  z9 := Tryd.sizeOf9,
  v9 := Tryd.zeroValue9,
  t20 := Tryd.underlying20,
  a20 := Tryd.isAgg20,
  z20 := Tryd.sizeOf20,
  v20 := Tryd.zeroValue20,
  t37 := Tryd.underlying22,
  a37 := Tryd.isAgg22,
  z37 := Tryd.sizeOf22,
  v37 := Tryd.zeroValue22,
  t70 := Tryd.underlying85,
  a70 := Tryd.isAgg85,
  z70 := Tryd.sizeOf85,
  v70 := Tryd.zeroValue85,
  t72 := Tryd.underlying87,
  a72 := Tryd.isAgg87,
  z72 := Tryd.sizeOf87,
  v72 := Tryd.zeroValue87,
  t75 := Tryd.underlying89,
  a75 := Tryd.isAgg89,
  z75 := Tryd.sizeOf89,
  v75 := Tryd.zeroValue89,
  t164 := Tryd.underlying140,
  a164 := Tryd.isAgg140,
  z164 := Tryd.sizeOf140,
  v164 := Tryd.zeroValue140 }
theorem extra166 : Go.Proofs.Builder.Extra Tryd.prog lays166_ren := {
  sizeBuilder := by kernel_rfl
  liesBuilder := by kernel_rfl
  t5 := Tryd.underlying5
  a5 := Tryd.isAgg5
  z5 := Tryd.sizeOf5
  v5 := Tryd.zeroValue5
  infoByte := by kernel_rfl
  cellsByte := by kernel_rfl
  sizeByte := by kernel_rfl
  neB5 := by decide }
def lays167_ren : Go.Shelf.Ren := ⟨fun | 167 => 85 | 240 => 88 | 276 => 108 | n => n, fun | 0 => 0 | 3 => 3 | 4 => 4 | 5 => 5 | 9 => 9 | 20 => 20 | 37 => 22 | 70 => 85 | 72 => 87 | 75 => 89 | 80 => 92 | 164 => 140 | n => n, fun | n => n⟩
theorem lays167 : Go.Proofs.Lays.n167 Tryd.prog lays167_ren := {
  mixed := by kernel_rfl,
  f167 := Tryd.func85.trans (congrArg some (by kernel_rfl)),
  f240 := Tryd.func88.trans (congrArg some (by kernel_rfl)),
  f276 := Tryd.func108.trans (congrArg some (by kernel_rfl)),
  t0 := Tryd.underlying0,
  a0 := Tryd.isAgg0,
  z0 := Tryd.sizeOf0,
  v0 := Tryd.zeroValue0,
  t4 := Tryd.underlying4,
  a4 := Tryd.isAgg4,
  z4 := Tryd.sizeOf4,
  v4 := Tryd.zeroValue4,
  t5 := Tryd.underlying5,
  a5 := Tryd.isAgg5,
  z5 := Tryd.sizeOf5,
  v5 := Tryd.zeroValue5,
  t9 := Tryd.underlying9,
  a9 := Tryd.isAgg9,
  z9 := Tryd.sizeOf9,
  v9 := Tryd.zeroValue9,
  t20 := Tryd.underlying20,
  a20 := Tryd.isAgg20,
  z20 := Tryd.sizeOf20,
  v20 := Tryd.zeroValue20,
  t37 := Tryd.underlying22,
  a37 := Tryd.isAgg22,
  z37 := Tryd.sizeOf22,
  v37 := Tryd.zeroValue22,
  t70 := Tryd.underlying85,
  a70 := Tryd.isAgg85,
  z70 := Tryd.sizeOf85,
  v70 := Tryd.zeroValue85,
  t72 := Tryd.underlying87,
  a72 := Tryd.isAgg87,
  z72 := Tryd.sizeOf87,
  v72 := Tryd.zeroValue87,
  t75 := Tryd.underlying89,
  a75 := Tryd.isAgg89,
  z75 := Tryd.sizeOf89,
  v75 := Tryd.zeroValue89,
  t164 := Tryd.underlying140,
  a164 := Tryd.isAgg140,
  z164 := Tryd.sizeOf140,
  v164 := Tryd.zeroValue140 }
theorem extra167 : Go.Proofs.Builder.Extra Tryd.prog lays167_ren := {
  sizeBuilder := by kernel_rfl
  liesBuilder := by kernel_rfl
  t5 := Tryd.underlying5
  a5 := Tryd.isAgg5
  z5 := Tryd.sizeOf5
  v5 := Tryd.zeroValue5
  infoByte := by kernel_rfl
  cellsByte := by kernel_rfl
  sizeByte := by kernel_rfl
  neB5 := by decide }
theorem WriteString_k (B b : Nat) (bs : List Value) (s : ByteArray) (w : World) (h : Lib.IsBuilderF 87 5 B b bs w) (hl : bs.length + s.size ≤ 140737488355328) (hB : B ≤ w.heap.size) :
    Calls Tryd.prog 51 #[.pointer (some ⟨b, 0, none⟩), .string s] w fun e w' => e = .returned (.tuple #[.int .i64 s.size, .nilIface]) ∧ Lib.BuilderAtF 87 5 B b (.pointer (some ⟨b, 0, none⟩)) (bs ++ Lib.strCells s) w' ∧ Below B w w' ∧ Lib.OthersKept 5 (some b) w w' :=
  Any.Builder_WriteString_k lays166 extra166 B b bs s w h hl hB
theorem WriteByte_k (B b : Nat) (bs : List Value) (c : Int) (w : World) (h : Lib.IsBuilderF 87 5 B b bs w) (hl : bs.length + 1 ≤ 140737488355328) (hB : B ≤ w.heap.size) :
    Calls Tryd.prog 85 #[.pointer (some ⟨b, 0, none⟩), .int .u8 c] w fun e w' => e = .returned .nilIface ∧ Lib.BuilderAtF 87 5 B b (.pointer (some ⟨b, 0, none⟩)) (bs ++ [.int .u8 c]) w' ∧ Below B w w' ∧ Lib.OthersKept 5 (some b) w w' :=
  Any.Builder_WriteByte_k lays167 extra167 B b bs c w h hl hB
end Go.Proofs.YtncfnlocdlhagaaDoor

/-
  The reference's decimal text of a number that is not negative is the library's list of digits. Condition: the number is an int64 from 0 on.
-/
namespace Go.Proofs.YtncfnlocdlhagaaDoor
open Go.RowKit
set_option maxRecDepth 100000 in
set_option maxHeartbeats 1000000 in
theorem l1Number_d (n : Int) (w : World) (h0 : 0 ≤ n) (h10 : n < 10) :
    Calls Tryd.prog 58 #[.int .i64 n] w fun e w' => e = .returned (str (Lib.decDigits n.toNat)) ∧ Ext w w' := by
  have hcv := conv1 (48 + n)
  have HD : Hid (Lib.decDigits n.toNat = [UInt8.ofNat (48 + n).toNat]) := by rw [decDigits_lt _ (by omega), show (48 + n).toNat = 48 + n.toNat by omega]; rfl
  go_enter Tryd.func58, Tryd.ntmps58
  go_wp2_with fail
  go_ret
  exact ⟨ret_str HD.out.symm, (Ext.refl _).alloc _⟩

set_option maxRecDepth 100000 in
set_option maxHeartbeats 1000000 in
theorem l1Number_s (n : Int) (w : World) (h0 : 0 ≤ n) (h10 : 10 ≤ n) (h : n ≤ 9223372036854775807) (ih : ∀ w,  Calls Tryd.prog 58 #[.int .i64 (n/10)] w fun e w' => e = .returned (str (Lib.decDigits (n/10).toNat)) ∧ Ext w w')  :
    Calls Tryd.prog 58 #[.int .i64 n] w fun e w' => e = .returned (str (Lib.decDigits n.toNat)) ∧ Ext w w' := by
  have hcv := conv1 (48 + n % 10)
  have IH : Hid (∀ w,  Calls Tryd.prog 58 #[.int .i64 (n/10)] w fun e w' => e = .returned (str (Lib.decDigits (n/10).toNat)) ∧ Ext w w') := ih
  have hq := IntWalk.i64_quo n 10 ⟨h0, h, by omega⟩
  have hr := IntWalk.rem_in n 10 h0
  have hr1 : IntKind.i64.wrap (n % 10) = n % 10 := IntWalk.i64_in _ (by omega)
  have hs : IntKind.i64.wrap (48 + n % 10) = 48 + n % 10 := IntWalk.i64_in _ (by omega)
  have hc : IntKind.u8.wrap (48 + n % 10) = 48 + n % 10 := IntWalk.u8_in _ (by omega)
  have hl : (Lib.decDigits (n/10).toNat).length ≤ 21 := decDigits_len _ (by omega)
  have HD : Hid (Lib.decDigits n.toNat = Lib.decDigits (n/10).toNat ++ [UInt8.ofNat (48 + n % 10).toNat]) := by
    show _ = _
    rw [decDigits_ge _ (by omega), show (48 + n % 10).toNat = 48 + n.toNat % 10 by omega, show (n/10).toNat = n.toNat / 10 by omega]
  clear ih
  go_enter Tryd.func58, Tryd.ntmps58
  go_wp2_with fail
  go_region_with (go_at_call 58; go_must (go_fit (IH.out _)); rintro e w' ⟨rfl, h1⟩; have hce := h1.cells.1)
  all_goals go_wp2
  all_goals go_ret
  all_goals exact ⟨ret_str HD.out.symm, by (repeat' (first | exact Ext.refl _ | (with_reducible assumption) | (with_reducible refine Ext.alloc ?_ _) | (with_reducible refine Ext.setCell ?_ (by first | exact Nat.le_refl _ | (dsimp only; omega) | (simp; done) | (simp; omega)) _) | (with_reducible refine Ext.drew ?_) | (with_reducible refine Ext.drewN ?_ _) | (refine Ext.trans ?_ (by with_reducible assumption))))⟩

/-- spec.l1Number -/
theorem l1Number_any (k : Nat) : ∀ (n : Int) (w : World), 0 ≤ n → n ≤ k → n ≤ 9223372036854775807 →
    Calls Tryd.prog 58 #[.int .i64 n] w fun e w' => e = .returned (str (Lib.decDigits n.toNat)) ∧ Ext w w' := by
  induction k with
  | zero => intro n w h0 hk h; exact l1Number_d n w h0 (by omega)
  | succ k ih =>
    intro n w h0 hk h
    by_cases h10 : n < 10
    · exact l1Number_d n w h0 h10
    · exact l1Number_s n w h0 (by omega) h (fun w => ih (n / 10) w (by omega) (by omega) (by omega))
theorem l1Num (n : Int) (w : World) (h0 : 0 ≤ n) (h : n ≤ 9223372036854775807) :
    Calls Tryd.prog 58 #[.int .i64 n] w fun e w' => e = .returned (str (Lib.decDigits n.toNat)) ∧ Ext w w' := l1Number_any n.toNat n w h0 (by omega) h
end Go.Proofs.YtncfnlocdlhagaaDoor

/-
  Both functions DeedText return the text 'deedText' of a deed. Condition: the library's table of powers of ten is laid.
-/
namespace Go.Proofs.YtncfnlocdlhagaaDoor
open Go.RowKit
set_option linter.unusedVariables false

def deedName (k : Int) : List UInt8 :=
  if k = 0 then [105, 110] else if k = 1 then [112, 97, 121] else if k = 2 then [111, 117, 116] else if k = 3 then [119, 97, 105, 116] else if k = 4 then [115, 108, 105, 100, 101] else []
def deedTwo (k : Int) : Bool := k == 1 || k == 4
def deedOk (k a b : Int) : Bool := decide (0 ≤ k ∧ k ≤ 4 ∧ 0 ≤ a ∧ a ≤ 9999 ∧ 0 ≤ b ∧ b ≤ 9999) && (deedTwo k || b == 0)
def deedText (k a b : Int) : List UInt8 :=
  if deedOk k a b then deedName k ++ [32] ++ Lib.decDigits a.toNat ++ (if deedTwo k then [32] ++ Lib.decDigits b.toNat else []) else []

abbrev deedV (k a b : Int) : Value := .agg #[.int .i64 k, .int .i64 a, .int .i64 b]

set_option maxRecDepth 100000 in
set_option maxHeartbeats 1000000 in
theorem implDeed_bad (k a b : Int) (w : World) (h : a < 0 ∨ 0 ≤ a ∧ 9999 < a ∨ 0 ≤ a ∧ a ≤ 9999 ∧ b < 0 ∨ 0 ≤ a ∧ a ≤ 9999 ∧ 0 ≤ b ∧ 9999 < b ∨ 0 ≤ a ∧ a ≤ 9999 ∧ 0 ≤ b ∧ b ≤ 9999 ∧ (k == 1) = false ∧ (k == 4) = false ∧ (b != 0) = true
    ∨ 0 ≤ a ∧ a ≤ 9999 ∧ 0 ≤ b ∧ b ≤ 9999 ∧ (k == 1) = false ∧ (k == 4) = false ∧ (b != 0) = false ∧ (k == 0) = false ∧ (k == 2) = false ∧ (k == 3) = false) :
    Calls Tryd.prog 46 #[deedV k a b] w fun e w' => e = .returned (str []) ∧ Ext w w' := by
  rcases h with h | ⟨h0, h⟩ | ⟨h0, h1, h⟩ | ⟨h0, h1, h2, h⟩ | ⟨h0, h1, h2, h3, h4, h5, h6⟩ | ⟨h0, h1, h2, h3, h4, h5, h6, h7, h8, h9⟩
  all_goals
    go_enter Tryd.func46, Tryd.ntmps46
    go_wp2
    go_ret
    exact ⟨rfl, by (repeat' (first | exact Ext.refl _ | (with_reducible assumption) | (with_reducible refine Ext.alloc ?_ _) | (with_reducible refine Ext.setCell ?_ (by first | exact Nat.le_refl _ | (dsimp only; omega) | (simp; done) | (simp; omega)) _) | (with_reducible refine Ext.drew ?_) | (with_reducible refine Ext.drewN ?_ _) | (refine Ext.trans ?_ (by with_reducible assumption))))⟩

set_option maxRecDepth 100000 in
set_option maxHeartbeats 1000000 in
theorem specDeed_bad (k a b : Int) (w : World) (h : (k == 0) = false ∧ (k == 1) = false ∧ (k == 2) = false ∧ (k == 3) = false ∧ (k == 4) = false) :
    Calls Tryd.prog 80 #[deedV k a b] w fun e w' => e = .returned (str []) ∧ Ext w w' := by
  obtain ⟨h0, h1, h2, h3, h4⟩ := h
  go_enter Tryd.func80, Tryd.ntmps80
  go_wp2
  go_ret
  exact ⟨rfl, by (repeat' (first | exact Ext.refl _ | (with_reducible assumption) | (with_reducible refine Ext.alloc ?_ _) | (with_reducible refine Ext.setCell ?_ (by first | exact Nat.le_refl _ | (dsimp only; omega) | (simp; done) | (simp; omega)) _) | (with_reducible refine Ext.drew ?_) | (with_reducible refine Ext.drewN ?_ _) | (refine Ext.trans ?_ (by with_reducible assumption))))⟩

set_option maxRecDepth 100000 in
set_option maxHeartbeats 1000000 in
theorem specDeed_bad2 (k a b : Int) (w : World) (hk : k = 0 ∨ k = 1 ∨ k = 2 ∨ k = 3 ∨ k = 4) (h : a < 0 ∨ 0 ≤ a ∧ 9999 < a ∨ 0 ≤ a ∧ a ≤ 9999 ∧ b < 0 ∨ 0 ≤ a ∧ a ≤ 9999 ∧ 0 ≤ b ∧ 9999 < b) :
    Calls Tryd.prog 80 #[deedV k a b] w fun e w' => e = .returned (str []) ∧ Ext w w' := by
  rcases hk with rfl | rfl | rfl | rfl | rfl
  all_goals
    rcases h with h | ⟨h0, h⟩ | ⟨h0, h1, h⟩ | ⟨h0, h1, h2, h⟩
    all_goals
      go_enter Tryd.func80, Tryd.ntmps80
      go_wp2
      go_ret
      exact ⟨rfl, by (repeat' (first | exact Ext.refl _ | (with_reducible assumption) | (with_reducible refine Ext.alloc ?_ _) | (with_reducible refine Ext.setCell ?_ (by first | exact Nat.le_refl _ | (dsimp only; omega) | (simp; done) | (simp; omega)) _) | (with_reducible refine Ext.drew ?_) | (with_reducible refine Ext.drewN ?_ _) | (refine Ext.trans ?_ (by with_reducible assumption))))⟩
set_option maxRecDepth 100000 in
set_option maxHeartbeats 1000000 in
theorem specDeed_bad3 (k a b : Int) (w : World) (hk : k = 0 ∨ k = 2 ∨ k = 3) (h0 : 0 ≤ a) (h1 : a ≤ 9999) (h2 : 0 ≤ b) (h3 : b ≤ 9999) (h4 : (b != 0) = true) :
    Calls Tryd.prog 80 #[deedV k a b] w fun e w' => e = .returned (str []) ∧ Ext w w' := by
  rcases hk with rfl | rfl | rfl
  all_goals
    go_enter Tryd.func80, Tryd.ntmps80
    go_wp2
    go_ret
    exact ⟨rfl, by (repeat' (first | exact Ext.refl _ | (with_reducible assumption) | (with_reducible refine Ext.alloc ?_ _) | (with_reducible refine Ext.setCell ?_ (by first | exact Nat.le_refl _ | (dsimp only; omega) | (simp; done) | (simp; omega)) _) | (with_reducible refine Ext.drew ?_) | (with_reducible refine Ext.drewN ?_ _) | (refine Ext.trans ?_ (by with_reducible assumption))))⟩
end Go.Proofs.YtncfnlocdlhagaaDoor

/-
  Both functions DeedText at valid deeds. Condition: the library's table of powers of ten is laid.
-/
namespace Go.Proofs.YtncfnlocdlhagaaDoor
open Go.RowKit
set_option linter.unusedVariables false

set_option maxRecDepth 100000 in
set_option maxHeartbeats 1000000 in
theorem implDeed_one (k a : Int) (w : World) (hE : Env w) (hk : k = 0 ∨ k = 2 ∨ k = 3) (h0 : 0 ≤ a) (h1 : a ≤ 9999) :
    Calls Tryd.prog 46 #[deedV k a 0] w fun e w' => e = .returned (str (deedName k ++ [32] ++ Lib.decDigits a.toNat)) ∧ Ext w w' := by
  have hl : (Lib.decDigits a.toNat).length ≤ 21 := decDigits_len _ (by omega)
  have HE := Lib.hid hE
  clear hE
  rcases hk with rfl | rfl | rfl
  all_goals
    go_enter Tryd.func46, Tryd.ntmps46
    go_wp2_with fail
    go_fit (itoaI a _ h0 (by omega) (HE.out.ext (by (repeat' (first | exact Ext.refl _ | (with_reducible assumption) | (with_reducible refine Ext.alloc ?_ _) | (with_reducible refine Ext.setCell ?_ (by first | exact Nat.le_refl _ | (dsimp only; omega) | (simp; done) | (simp; omega)) _) | (with_reducible refine Ext.drew ?_) | (with_reducible refine Ext.drewN ?_ _) | (refine Ext.trans ?_ (by with_reducible assumption)))))))
    rintro e w1 ⟨rfl, h1⟩
    go_wp2
    go_ret
    exact ⟨ret_str (by simp [deedName]), by (repeat' (first | exact Ext.refl _ | (with_reducible assumption) | (with_reducible refine Ext.alloc ?_ _) | (with_reducible refine Ext.setCell ?_ (by first | exact Nat.le_refl _ | (dsimp only; omega) | (simp; done) | (simp; omega)) _) | (with_reducible refine Ext.drew ?_) | (with_reducible refine Ext.drewN ?_ _) | (refine Ext.trans ?_ (by with_reducible assumption))))⟩

set_option maxRecDepth 100000 in
set_option maxHeartbeats 1000000 in
theorem implDeed_two (k a b : Int) (w : World) (hE : Env w) (hk : k = 1 ∨ k = 4) (h0 : 0 ≤ a) (h1 : a ≤ 9999) (h2 : 0 ≤ b) (h3 : b ≤ 9999) :
    Calls Tryd.prog 46 #[deedV k a b] w fun e w' => e = .returned (str (deedName k ++ [32] ++ Lib.decDigits a.toNat ++ ([32] ++ Lib.decDigits b.toNat))) ∧ Ext w w' := by
  have hl : (Lib.decDigits a.toNat).length ≤ 21 := decDigits_len _ (by omega)
  have hl2 : (Lib.decDigits b.toNat).length ≤ 21 := decDigits_len _ (by omega)
  have HE := Lib.hid hE
  clear hE
  rcases hk with rfl | rfl
  all_goals
    go_enter Tryd.func46, Tryd.ntmps46
    go_wp2_with fail
    go_fit (itoaI a _ h0 (by omega) (HE.out.ext (by (repeat' (first | exact Ext.refl _ | (with_reducible assumption) | (with_reducible refine Ext.alloc ?_ _) | (with_reducible refine Ext.setCell ?_ (by first | exact Nat.le_refl _ | (dsimp only; omega) | (simp; done) | (simp; omega)) _) | (with_reducible refine Ext.drew ?_) | (with_reducible refine Ext.drewN ?_ _) | (refine Ext.trans ?_ (by with_reducible assumption)))))))
    rintro e w1 ⟨rfl, h1⟩
    have hce := h1.cells.1
    go_wp2_with fail
    go_fit (itoaI b _ h2 (by omega) (HE.out.ext (by (repeat' (first | exact Ext.refl _ | (with_reducible assumption) | (with_reducible refine Ext.alloc ?_ _) | (with_reducible refine Ext.setCell ?_ (by first | exact Nat.le_refl _ | (dsimp only; omega) | (simp; done) | (simp; omega)) _) | (with_reducible refine Ext.drew ?_) | (with_reducible refine Ext.drewN ?_ _) | (refine Ext.trans ?_ (by with_reducible assumption)))))))
    rintro e w2 ⟨rfl, h2⟩
    go_wp2
    go_ret
    exact ⟨ret_str (by simp [deedName]), by (repeat' (first | exact Ext.refl _ | (with_reducible assumption) | (with_reducible refine Ext.alloc ?_ _) | (with_reducible refine Ext.setCell ?_ (by first | exact Nat.le_refl _ | (dsimp only; omega) | (simp; done) | (simp; omega)) _) | (with_reducible refine Ext.drew ?_) | (with_reducible refine Ext.drewN ?_ _) | (refine Ext.trans ?_ (by with_reducible assumption))))⟩
end Go.Proofs.YtncfnlocdlhagaaDoor

/-
  The reference's DeedText at valid deeds; both functions DeedText at every deed. Condition: the library's table of powers of ten is laid.
-/
namespace Go.Proofs.YtncfnlocdlhagaaDoor
open Go.RowKit
set_option linter.unusedVariables false

set_option maxRecDepth 100000 in
set_option maxHeartbeats 1000000 in
theorem l8Name_any (k : Int) (w : World) (hk : k = 0 ∨ k = 1 ∨ k = 2 ∨ k = 3 ∨ k = 4) : Calls Tryd.prog 84 #[.int .i64 k] w fun e w' => e = .returned (str (deedName k)) ∧ w = w' := by
  rcases hk with rfl | rfl | rfl | rfl | rfl
  all_goals
    go_enter Tryd.func84, Tryd.ntmps84
    go_wp2
    go_ret
    exact ⟨ret_str (by simp [deedName]), rfl⟩

set_option maxRecDepth 100000 in
set_option maxHeartbeats 1000000 in
theorem specDeed_one (k a : Int) (nm : List UInt8) (w : World) (t1 : (k == 1) = false) (t4 : (k == 4) = false) (h0 : 0 ≤ a) (h1 : a ≤ 9999) (hN : ∀ w, Calls Tryd.prog 84 #[.int .i64 k] w fun e w' => e = .returned (str nm) ∧ w = w') (he : nm.isEmpty = false) (hn : nm.length ≤ 5) :
    Calls Tryd.prog 80 #[deedV k a 0] w fun e w' => e = .returned (str (nm ++ [32] ++ Lib.decDigits a.toNat)) ∧ Ext w w' := by
  have hl : (Lib.decDigits a.toNat).length ≤ 21 := decDigits_len _ (by omega)
  have hs1 : ¬ 9223372036854775807 < nm.length + 1 := by omega
  have hs2 : ¬ 9223372036854775807 < nm.length + 1 + (Lib.decDigits a.toNat).length := by omega
  all_goals
    have HN := Lib.hid hN
    clear hN
    go_enter Tryd.func80, Tryd.ntmps80
    go_wp2_with (first | (go_at_call 84; refine (HN.out _).mono ?_; rintro e w1 ⟨rfl, rfl⟩) | go_in)
    go_region_held3 (fun w' => w'.cell? ⟨w.heap.size, 0, none⟩ = some (.int .i64 k) ∧ w'.cell? ⟨w.heap.size, 1, none⟩ = some (.int .i64 a)) (go_keep)
      (first | (go_at_call 84; refine (HN.out _).mono ?_; rintro e w1 ⟨rfl, rfl⟩) | (go_at_call 58; refine (l1Num a _ h0 (by omega)).mono ?_; rintro e w1 ⟨rfl, h1⟩; have hce := h1.cells.1))
    all_goals go_wp2
    all_goals go_ret
    all_goals exact ⟨ret_str (by simp), by (repeat' (first | exact Ext.refl _ | (with_reducible assumption) | (with_reducible refine Ext.alloc ?_ _) | (with_reducible refine Ext.setCell ?_ (by first | exact Nat.le_refl _ | (dsimp only; omega) | (simp; done) | (simp; omega)) _) | (with_reducible refine Ext.drew ?_) | (with_reducible refine Ext.drewN ?_ _) | (refine Ext.trans ?_ (by with_reducible assumption))))⟩

set_option maxRecDepth 100000 in
set_option maxHeartbeats 1000000 in
theorem specDeed_two (k a b : Int) (nm : List UInt8) (w : World) (hk : (k == 1) = true ∨ (k == 1) = false ∧ (k == 4) = true) (h0 : 0 ≤ a) (h1 : a ≤ 9999) (h2 : 0 ≤ b) (h3 : b ≤ 9999) (hN : ∀ w, Calls Tryd.prog 84 #[.int .i64 k] w fun e w' => e = .returned (str nm) ∧ w = w') (he : nm.isEmpty = false) (hn : nm.length ≤ 5) :
    Calls Tryd.prog 80 #[deedV k a b] w fun e w' => e = .returned (str (nm ++ [32] ++ Lib.decDigits a.toNat ++ ([32] ++ Lib.decDigits b.toNat))) ∧ Ext w w' := by
  have hl : (Lib.decDigits a.toNat).length ≤ 21 := decDigits_len _ (by omega)
  have hl2 : (Lib.decDigits b.toNat).length ≤ 21 := decDigits_len _ (by omega)
  have hs1 : ¬ 9223372036854775807 < nm.length + 1 := by omega
  have hs2 : ¬ 9223372036854775807 < nm.length + 1 + (Lib.decDigits a.toNat).length := by omega
  rcases hk with t1 | ⟨t1, t4⟩
  all_goals
    have HN := Lib.hid hN
    clear hN
    go_enter Tryd.func80, Tryd.ntmps80
    go_wp2_with (first | (go_at_call 84; refine (HN.out _).mono ?_; rintro e w1 ⟨rfl, rfl⟩) | go_in)
    go_region_held3 (fun w' => w'.cell? ⟨w.heap.size, 0, none⟩ = some (.int .i64 k) ∧ w'.cell? ⟨w.heap.size, 1, none⟩ = some (.int .i64 a) ∧ w'.cell? ⟨w.heap.size, 2, none⟩ = some (.int .i64 b)) (go_keep)
      (first | (go_at_call 84; refine (HN.out _).mono ?_; rintro e w1 ⟨rfl, rfl⟩) | (go_at_call 58; refine (l1Num a _ h0 (by omega)).mono ?_; rintro e w1 ⟨rfl, h1⟩; have hce := h1.cells.1))
    all_goals go_wp2_with (first | (go_at_call 58; refine (l1Num b _ h2 (by omega)).mono ?_; rintro e w2 ⟨rfl, h2⟩) | go_in)
    all_goals go_ret
    all_goals exact ⟨ret_str (by simp), by (repeat' (first | exact Ext.refl _ | (with_reducible assumption) | (with_reducible refine Ext.alloc ?_ _) | (with_reducible refine Ext.setCell ?_ (by first | exact Nat.le_refl _ | (dsimp only; omega) | (simp; done) | (simp; omega)) _) | (with_reducible refine Ext.drew ?_) | (with_reducible refine Ext.drewN ?_ _) | (refine Ext.trans ?_ (by with_reducible assumption))))⟩

theorem deedName_emp (k : Int) (hk : k = 0 ∨ k = 1 ∨ k = 2 ∨ k = 3 ∨ k = 4) : (deedName k).isEmpty = false ∧ (deedName k).length ≤ 5 := by
  rcases hk with rfl | rfl | rfl | rfl | rfl <;> decide

/-- spec.DeedText -/
theorem specDeed (k a b : Int) (w : World) : Calls Tryd.prog 80 #[deedV k a b] w fun e w' => e = .returned (str (deedText k a b)) ∧ Ext w w' := by
  by_cases hk : k = 0 ∨ k = 1 ∨ k = 2 ∨ k = 3 ∨ k = 4
  · by_cases hr : 0 ≤ a ∧ a ≤ 9999 ∧ 0 ≤ b ∧ b ≤ 9999
    · obtain ⟨h0, h1, h2, h3⟩ := hr
      obtain ⟨he, hn⟩ := deedName_emp k hk
      by_cases ht : k = 1 ∨ k = 4
      · have e : deedText k a b = deedName k ++ [32] ++ Lib.decDigits a.toNat ++ ([32] ++ Lib.decDigits b.toNat) := by
          rcases ht with rfl | rfl <;> simp [deedText, deedOk, deedTwo, h0, h1, h2, h3]
        rw [e]
        exact specDeed_two k a b _ w (by simp; omega) h0 h1 h2 h3 (fun w => l8Name_any k w hk) he hn
      · have ht' : k = 0 ∨ k = 2 ∨ k = 3 := by omega
        by_cases hb : b = 0
        · subst hb
          have e : deedText k a 0 = deedName k ++ [32] ++ Lib.decDigits a.toNat := by
            rcases ht' with rfl | rfl | rfl <;> simp [deedText, deedOk, deedTwo, h0, h1]
          rw [e]
          exact specDeed_one k a _ w (by simp; omega) (by simp; omega) h0 h1 (fun w => l8Name_any k w hk) he hn
        · have e : deedText k a b = [] := by
            rcases ht' with rfl | rfl | rfl <;> simp [deedText, deedOk, deedTwo, hb]
          rw [e]
          exact specDeed_bad3 k a b w ht' h0 h1 h2 h3 (by simp [hb])
    · have e : deedText k a b = [] := by
        unfold deedText; rw [if_neg]; simp [deedOk]; omega
      rw [e]
      exact specDeed_bad2 k a b w hk (by omega)
  · have e : deedText k a b = [] := by
      unfold deedText; rw [if_neg]; simp [deedOk]; omega
    rw [e]
    exact specDeed_bad k a b w (by simp; omega)

/-- impl.DeedText -/
theorem implDeed (k a b : Int) (w : World) (hE : Env w) : Calls Tryd.prog 46 #[deedV k a b] w fun e w' => e = .returned (str (deedText k a b)) ∧ Ext w w' := by
  by_cases hr : 0 ≤ a ∧ a ≤ 9999 ∧ 0 ≤ b ∧ b ≤ 9999
  · obtain ⟨h0, h1, h2, h3⟩ := hr
    by_cases ht : k = 1 ∨ k = 4
    · have e : deedText k a b = deedName k ++ [32] ++ Lib.decDigits a.toNat ++ ([32] ++ Lib.decDigits b.toNat) := by
        rcases ht with rfl | rfl <;> simp [deedText, deedOk, deedTwo, h0, h1, h2, h3]
      rw [e]
      exact implDeed_two k a b w hE ht h0 h1 h2 h3
    · by_cases hb : b = 0
      · subst hb
        by_cases hk : k = 0 ∨ k = 2 ∨ k = 3
        · have e : deedText k a 0 = deedName k ++ [32] ++ Lib.decDigits a.toNat := by
            rcases hk with rfl | rfl | rfl <;> simp [deedText, deedOk, deedTwo, h0, h1]
          rw [e]
          exact implDeed_one k a w hE hk h0 h1
        · have e : deedText k a 0 = [] := by
            unfold deedText; rw [if_neg]; simp [deedOk]; omega
          rw [e]
          exact implDeed_bad k a 0 w (.inr (.inr (.inr (.inr (.inr ⟨h0, h1, by omega, by omega, by simp; omega, by simp; omega, by simp, by simp; omega, by simp; omega, by simp; omega⟩)))))
      · have e : deedText k a b = [] := by
          unfold deedText; rw [if_neg]; simp [deedOk, deedTwo]; omega
        rw [e]
        exact implDeed_bad k a b w (.inr (.inr (.inr (.inr (.inl ⟨h0, h1, h2, h3, by simp; omega, by simp; omega, by simp [hb]⟩)))))
  · have e : deedText k a b = [] := by
      unfold deedText; rw [if_neg]; simp [deedOk]; omega
    rw [e]
    exact implDeed_bad k a b w (by omega)
end Go.Proofs.YtncfnlocdlhagaaDoor
