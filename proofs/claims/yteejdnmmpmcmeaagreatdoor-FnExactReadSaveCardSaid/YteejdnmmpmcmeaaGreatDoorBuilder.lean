/-
  The contracts of the library's functions that this program calls, laid at this seat's numbers: strings.Builder's writers by hand. No condition of ours.
-/
import Derived.Test.YteejdnmmpmcmeaaGreatDoorRows
import Derived.Shelf.Strings.BuilderK
import Derived.KernelRfl
namespace Go.Proofs.YteejdnmmpmcmeaaGreatDoor
open Go.RowKit
set_option linter.unusedVariables false
def lays240_ren : Go.Shelf.Ren := ⟨fun | 240 => 153 | 276 => 190 | n => n, fun | 0 => 0 | 3 => 3 | 4 => 4 | 5 => 5 | 9 => 9 | 20 => 20 | 37 => 22 | 70 => 116 | 72 => 118 | 75 => 120 | 80 => 124 | 164 => 174 | n => n, fun | n => n⟩
theorem lays240 : Go.Proofs.Lays.n240 Tryz.prog lays240_ren := {
  mixed := by kernel_rfl,
  f240 := Tryz.func153.trans (congrArg some (by kernel_rfl)),
  f276 := Tryz.func190.trans (congrArg some (by kernel_rfl)),
  t0 := Tryz.underlying0,
  a0 := Tryz.isAgg0,
  z0 := Tryz.sizeOf0,
  v0 := Tryz.zeroValue0,
  t4 := Tryz.underlying4,
  a4 := Tryz.isAgg4,
  z4 := Tryz.sizeOf4,
  v4 := Tryz.zeroValue4,
  t9 := Tryz.underlying9,
  a9 := Tryz.isAgg9,
  z9 := Tryz.sizeOf9,
  v9 := Tryz.zeroValue9,
  t20 := Tryz.underlying20,
  a20 := Tryz.isAgg20,
  z20 := Tryz.sizeOf20,
  v20 := Tryz.zeroValue20,
  t70 := Tryz.underlying116,
  a70 := Tryz.isAgg116,
  z70 := Tryz.sizeOf116,
  v70 := Tryz.zeroValue116,
  t72 := Tryz.underlying118,
  a72 := Tryz.isAgg118,
  z72 := Tryz.sizeOf118,
  v72 := Tryz.zeroValue118,
  t164 := Tryz.underlying174,
  a164 := Tryz.isAgg174,
  z164 := Tryz.sizeOf174,
  v164 := Tryz.zeroValue174 }
def lays166_ren : Go.Shelf.Ren := ⟨fun | 166 => 121 | 240 => 153 | 276 => 190 | n => n, fun | 0 => 0 | 3 => 3 | 4 => 4 | 5 => 5 | 9 => 9 | 20 => 20 | 37 => 22 | 70 => 116 | 72 => 118 | 75 => 120 | 80 => 124 | 164 => 174 | n => n, fun | n => n⟩
theorem lays166 : Go.Proofs.Lays.n166 Tryz.prog lays166_ren := {
  mixed := by kernel_rfl,
  f166 := Tryz.func121.trans (congrArg some (by kernel_rfl)),
  f240 := Tryz.func153.trans (congrArg some (by kernel_rfl)),
  f276 := Tryz.func190.trans (congrArg some (by kernel_rfl)),
  t0 := Tryz.underlying0,
  a0 := Tryz.isAgg0,
  z0 := Tryz.sizeOf0,
  v0 := Tryz.zeroValue0,
  t3 := Tryz.underlying3,
  a3 := Tryz.isAgg3,
  z3 := Tryz.sizeOf3,
  v3 := Tryz.zeroValue3,
  t4 := Tryz.underlying4,
  a4 := Tryz.isAgg4,
  z4 := Tryz.sizeOf4,
  v4 := Tryz.zeroValue4,
  t9 := Tryz.underlying9,
  a9 := Tryz.isAgg9,
  z9 := Tryz.sizeOf9,
  v9 := Tryz.zeroValue9,
  t20 := Tryz.underlying20,
  a20 := Tryz.isAgg20,
  z20 := Tryz.sizeOf20,
  v20 := Tryz.zeroValue20,
  t37 := Tryz.underlying22,
  a37 := Tryz.isAgg22,
  z37 := Tryz.sizeOf22,
  v37 := Tryz.zeroValue22,
  t70 := Tryz.underlying116,
  a70 := Tryz.isAgg116,
  z70 := Tryz.sizeOf116,
  v70 := Tryz.zeroValue116,
  t72 := Tryz.underlying118,
  a72 := Tryz.isAgg118,
  z72 := Tryz.sizeOf118,
  v72 := Tryz.zeroValue118,
  t75 := Tryz.underlying120,
  a75 := Tryz.isAgg120,
  z75 := Tryz.sizeOf120,
  v75 := Tryz.zeroValue120,
  t164 := Tryz.underlying174,
  a164 := Tryz.isAgg174,
  z164 := Tryz.sizeOf174,
  v164 := Tryz.zeroValue174 }
theorem extra166 : Go.Proofs.Builder.Extra Tryz.prog lays166_ren := {
  sizeBuilder := by kernel_rfl
  liesBuilder := by kernel_rfl
  t5 := Tryz.underlying5
  a5 := Tryz.isAgg5
  z5 := Tryz.sizeOf5
  v5 := Tryz.zeroValue5
  infoByte := by kernel_rfl
  cellsByte := by kernel_rfl
  sizeByte := by kernel_rfl
  neB5 := by decide }
def lays167_ren : Go.Shelf.Ren := ⟨fun | 167 => 120 | 240 => 153 | 276 => 190 | n => n, fun | 0 => 0 | 3 => 3 | 4 => 4 | 5 => 5 | 9 => 9 | 20 => 20 | 37 => 22 | 70 => 116 | 72 => 118 | 75 => 120 | 80 => 124 | 164 => 174 | n => n, fun | n => n⟩
theorem lays167 : Go.Proofs.Lays.n167 Tryz.prog lays167_ren := {
  mixed := by kernel_rfl,
  f167 := Tryz.func120.trans (congrArg some (by kernel_rfl)),
  f240 := Tryz.func153.trans (congrArg some (by kernel_rfl)),
  f276 := Tryz.func190.trans (congrArg some (by kernel_rfl)),
  t0 := Tryz.underlying0,
  a0 := Tryz.isAgg0,
  z0 := Tryz.sizeOf0,
  v0 := Tryz.zeroValue0,
  t4 := Tryz.underlying4,
  a4 := Tryz.isAgg4,
  z4 := Tryz.sizeOf4,
  v4 := Tryz.zeroValue4,
  t5 := Tryz.underlying5,
  a5 := Tryz.isAgg5,
  z5 := Tryz.sizeOf5,
  v5 := Tryz.zeroValue5,
  t9 := Tryz.underlying9,
  a9 := Tryz.isAgg9,
  z9 := Tryz.sizeOf9,
  v9 := Tryz.zeroValue9,
  t20 := Tryz.underlying20,
  a20 := Tryz.isAgg20,
  z20 := Tryz.sizeOf20,
  v20 := Tryz.zeroValue20,
  t37 := Tryz.underlying22,
  a37 := Tryz.isAgg22,
  z37 := Tryz.sizeOf22,
  v37 := Tryz.zeroValue22,
  t70 := Tryz.underlying116,
  a70 := Tryz.isAgg116,
  z70 := Tryz.sizeOf116,
  v70 := Tryz.zeroValue116,
  t72 := Tryz.underlying118,
  a72 := Tryz.isAgg118,
  z72 := Tryz.sizeOf118,
  v72 := Tryz.zeroValue118,
  t75 := Tryz.underlying120,
  a75 := Tryz.isAgg120,
  z75 := Tryz.sizeOf120,
  v75 := Tryz.zeroValue120,
  t164 := Tryz.underlying174,
  a164 := Tryz.isAgg174,
  z164 := Tryz.sizeOf174,
  v164 := Tryz.zeroValue174 }
theorem extra167 : Go.Proofs.Builder.Extra Tryz.prog lays167_ren := {
  sizeBuilder := by kernel_rfl
  liesBuilder := by kernel_rfl
  t5 := Tryz.underlying5
  a5 := Tryz.isAgg5
  z5 := Tryz.sizeOf5
  v5 := Tryz.zeroValue5
  infoByte := by kernel_rfl
  cellsByte := by kernel_rfl
  sizeByte := by kernel_rfl
  neB5 := by decide }
theorem WriteString_k (B b : Nat) (bs : List Value) (s : ByteArray) (w : World) (h : Lib.IsBuilderF 118 5 B b bs w) (hl : bs.length + s.size ≤ 140737488355328) (hB : B ≤ w.heap.size) :
    Calls Tryz.prog 121 #[.pointer (some ⟨b, 0, none⟩), .string s] w fun e w' => e = .returned (.tuple #[.int .i64 s.size, .nilIface]) ∧ Lib.BuilderAtF 118 5 B b (.pointer (some ⟨b, 0, none⟩)) (bs ++ Lib.strCells s) w' ∧ Below B w w' ∧ Lib.OthersKept 5 (some b) w w' :=
  Any.Builder_WriteString_k lays166 extra166 B b bs s w h hl hB
theorem WriteByte_k (B b : Nat) (bs : List Value) (c : Int) (w : World) (h : Lib.IsBuilderF 118 5 B b bs w) (hl : bs.length + 1 ≤ 140737488355328) (hB : B ≤ w.heap.size) :
    Calls Tryz.prog 120 #[.pointer (some ⟨b, 0, none⟩), .int .u8 c] w fun e w' => e = .returned .nilIface ∧ Lib.BuilderAtF 118 5 B b (.pointer (some ⟨b, 0, none⟩)) (bs ++ [.int .u8 c]) w' ∧ Below B w w' ∧ Lib.OthersKept 5 (some b) w w' :=
  Any.Builder_WriteByte_k lays167 extra167 B b bs c w h hl hB
end Go.Proofs.YteejdnmmpmcmeaaGreatDoor
