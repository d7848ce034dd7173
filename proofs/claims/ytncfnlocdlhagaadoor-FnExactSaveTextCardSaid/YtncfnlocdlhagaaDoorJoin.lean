/-
  strings.Join, laid at this seat's numbers by hand: the texts with the separator between them. Conditions: at most 2^40 bytes in all.
-/
import Derived.Test.YtncfnlocdlhagaaDoorEnv
import Derived.Test.YtncfnlocdlhagaaDoorSl
import Derived.Shelf.Strings.OnBuilder
import Derived.KernelRfl
namespace Go.Proofs.YtncfnlocdlhagaaDoor
open Go.RowKit
set_option linter.unusedVariables false

def lays156_ren : Go.Shelf.Ren := ⟨fun | 156 => 63 | 165 => 94 | 166 => 51 | 169 => 52 | 240 => 88 | 241 => 111 | 276 => 108 | 277 => 135 | n => n, fun | 0 => 0 | 3 => 3 | 4 => 4 | 5 => 5 | 9 => 9 | 20 => 20 | 31 => 68 | 37 => 22 | 70 => 85 | 72 => 87 | 75 => 89 | 76 => 90 | 80 => 92 | 127 => 120 | 164 => 140 | n => n, fun | n => n⟩
theorem lays156 : Go.Proofs.Lays.n156 Tryd.prog lays156_ren := {
  mixed := by kernel_rfl,
  f156 := Tryd.func63.trans (congrArg some (by kernel_rfl)),
  f165 := Tryd.func94.trans (congrArg some (by kernel_rfl)),
  f166 := Tryd.func51.trans (congrArg some (by kernel_rfl)),
  f169 := Tryd.func52.trans (congrArg some (by kernel_rfl)),
  f240 := Tryd.func88.trans (congrArg some (by kernel_rfl)),
  f241 := Tryd.func111.trans (congrArg some (by kernel_rfl)),
  f276 := Tryd.func108.trans (congrArg some (by kernel_rfl)),
  f277 := Tryd.func135.trans (congrArg some (by kernel_rfl)),
  t0 := Tryd.underlying0,
  a0 := Tryd.isAgg0,
  z0 := Tryd.sizeOf0,
  v0 := Tryd.zeroValue0,
  t3 := Tryd.underlying3,
  a3 := Tryd.isAgg3,
  z3 := Tryd.sizeOf3,
  v3 := Tryd.zeroValue3,
  t4 := Tryd.underlying4,
  a4 := Tryd.isAgg4,
  z4 := Tryd.sizeOf4,
  v4 := Tryd.zeroValue4,
  t9 := Tryd.underlying9,
  a9 := Tryd.isAgg9,
  z9 := Tryd.sizeOf9,
  v9 := Tryd.zeroValue9,
  t20 := Tryd.underlying20,
  a20 := Tryd.isAgg20,
  z20 := Tryd.sizeOf20,
  v20 := Tryd.zeroValue20,
  t31 := Tryd.underlying68,
  a31 := Tryd.isAgg68,
  z31 := Tryd.sizeOf68,
  v31 := Tryd.zeroValue68,
  t37 := Tryd.underlying22,
  a37 := Tryd.isAgg22,
  z37 := Tryd.sizeOf22,
  v37 := Tryd.zeroValue22,
  t70 := Tryd.underlying85,
  a70 := Tryd.isAgg85,
  z70 := Tryd.sizeOf85,
  v70 := Tryd.zeroValue85,
  t72 := Tryd.underlying87,
  a72 := Tryd.isAgg87,
  z72 := Tryd.sizeOf87,
  v72 := Tryd.zeroValue87,
  t75 := Tryd.underlying89,
  a75 := Tryd.isAgg89,
  z75 := Tryd.sizeOf89,
  v75 := Tryd.zeroValue89,
  t76 := Tryd.underlying90,
  a76 := Tryd.isAgg90,
  z76 := Tryd.sizeOf90,
  v76 := Tryd.zeroValue90,
  t127 := Tryd.underlying120,
  a127 := Tryd.isAgg120,
  z127 := Tryd.sizeOf120,
  v127 := Tryd.zeroValue120,
  t164 := Tryd.underlying140,
  a164 := Tryd.isAgg140,
  z164 := Tryd.sizeOf140,
  v164 := Tryd.zeroValue140 }
theorem extra156 : Go.Proofs.Builder.Extra Tryd.prog lays156_ren := {
  sizeBuilder := by kernel_rfl
  liesBuilder := by kernel_rfl
  t5 := Tryd.underlying5
  a5 := Tryd.isAgg5
  z5 := Tryd.sizeOf5
  v5 := Tryd.zeroValue5
  infoByte := by kernel_rfl
  cellsByte := by kernel_rfl
  sizeByte := by kernel_rfl
  neB5 := by decide }

/-- texts with a byte ahead of each -/
def tailB (c : UInt8) (r : List (List UInt8)) : List UInt8 := r.flatMap (fun y => c :: y)
/-- texts with a byte between them -/
def joinB (c : UInt8) : List (List UInt8) → List UInt8
  | [] => []
  | x :: r => x ++ tailB c r
theorem tailB_snoc (c : UInt8) (r : List (List UInt8)) (y : List UInt8) : tailB c (r ++ [y]) = tailB c r ++ c :: y := by simp [tailB]
theorem joinB_lib (c : UInt8) (xs : List (List UInt8)) : Lib.join xs [c] = joinB c xs := by
  cases xs with
  | nil => rfl
  | cons x r =>
    rw [Lib.join_cons]
    show x ++ (r.map ([c] ++ ·)).flatten = x ++ r.flatMap (fun y => c :: y)
    rw [List.flatMap_def]
    rfl
def strV (ps : List (List UInt8)) : List Value := ps.map str
theorem join_any (ps : List (List UInt8)) (c : UInt8) (p : Option Addr) (n cap : Nat) (w : World) (hn : ps.length = n) (h0 : 0 < n) (hS : Sl w p n cap 1 (strV ps)) (hl : (joinB c ps).length ≤ 140737488355328) (hn2 : n ≤ 1099511627776) :
    Calls Tryd.prog 63 #[.slice p n cap, .string ⟨#[c]⟩] w fun e w' => e = .returned (str (joinB c ps)) ∧ Ext w w' := by
  obtain ⟨b, off, rfl, hb, hc⟩ := hS.rd h0
  subst hn
  have hm : (ps.map (fun l => (⟨l.toArray⟩ : ByteArray))).map (·.data.toList) = ps := by
    rw [List.map_map]; exact (List.map_congr_left (fun x _ => by simp)).trans (List.map_id ps)
  have h := Any.strings_Join lays156 extra156 b off cap (ps.map (fun l => (⟨l.toArray⟩ : ByteArray))) ⟨#[c]⟩ w
    (fun j x hx => by
      rw [List.getElem?_map] at hx
      obtain ⟨y, hy, rfl⟩ := Option.map_eq_some_iff.1 hx
      have hj : j < ps.length := (List.getElem?_eq_some_iff.1 hy).1
      rw [hc j (by omega)]
      simp [strV, hy])
    hb (by rw [List.length_map]; omega) (by rw [List.length_map]; exact hS.le) (by rw [hm]; simpa [joinB_lib] using hl)
  rw [hm, List.length_map] at h
  refine h.mono ?_
  rintro e w' ⟨rfl, hx⟩
  exact ⟨by rw [show (⟨#[c]⟩ : ByteArray).data.toList = [c] from rfl, joinB_lib], hx⟩
end Go.Proofs.YtncfnlocdlhagaaDoor
