/-
  The contracts of the library's functions that this program calls, laid at this seat's numbers: strings.Builder's writers by hand. No condition of ours.
-/
import Derived.Test.YtncfnlocdlhagaaDoorRows
import Derived.Shelf.Strings.BuilderK
import Derived.KernelRfl
namespace Go.Proofs.YtncfnlocdlhagaaDoor
open Go.RowKit
set_option linter.unusedVariables false
def lays240_ren : Go.Shelf.Ren := ⟨fun | 240 => 88 | 276 => 108 | n => n, fun | 0 => 0 | 3 => 3 | 4 => 4 | 5 => 5 | 9 => 9 | 20 => 20 | 37 => 22 | 70 => 85 | 72 => 87 | 75 => 89 | 80 => 92 | 164 => 140 | n => n, fun | n => n⟩
theorem lays240 : Go.Proofs.Lays.n240 Tryd.prog lays240_ren := {
  mixed := by kernel_rfl,
  f240 := Tryd.func88.trans (congrArg some (by kernel_rfl)),
  f276 := Tryd.func108.trans (congrArg some (by kernel_rfl)),
  t0 := Tryd.underlying0,
  a0 := Tryd.isAgg0,
  z0 := Tryd.sizeOf0,
  v0 := Tryd.zeroValue0,
  t4 := Tryd.underlying4,
  a4 := Tryd.isAgg4,
  z4 := Tryd.sizeOf4,
  v4 := Tryd.zeroValue4,
  t9 := Tryd.underlying9,
  a9 := Tryd.isAgg9,
  z9 := Tryd.sizeOf9,
  v9 := Tryd.zeroValue9,
  t20 := Tryd.underlying20,
  a20 := Tryd.isAgg20,
  z20 := Tryd.sizeOf20,
  v20 := Tryd.zeroValue20,
  t70 := Tryd.underlying85,
  a70 := Tryd.isAgg85,
  z70 := Tryd.sizeOf85,
  v70 := Tryd.zeroValue85,
  t72 := Tryd.underlying87,
  a72 := Tryd.isAgg87,
  z72 := Tryd.sizeOf87,
  v72 := Tryd.zeroValue87,
  t164 := Tryd.underlying140,
  a164 := Tryd.isAgg140,
  z164 := Tryd.sizeOf140,
  v164 := Tryd.zeroValue140 }
def lays166_ren : Go.Shelf.Ren := ⟨fun | 166 => 51 | 240 => 88 | 276 => 108 | n => n, fun | 0 => 0 | 3 => 3 | 4 => 4 | 5 => 5 | 9 => 9 | 20 => 20 | 37 => 22 | 70 => 85 | 72 => 87 | 75 => 89 | 80 => 92 | 164 => 140 | n => n, fun | n => n⟩
theorem lays166 : Go.Proofs.Lays.n166 Tryd.prog lays166_ren := {
  mixed := by kernel_rfl,
  f166 := Tryd.func51.trans (congrArg some (by kernel_rfl)),
  f240 := Tryd.func88.trans (congrArg some (by kernel_rfl)),
  f276 := Tryd.func108.trans (congrArg some (by kernel_rfl)),
  t0 := Tryd.underlying0,
  a0 := Tryd.isAgg0,
  z0 := Tryd.sizeOf0,
  v0 := Tryd.zeroValue0,
  t3 := Tryd.underlying3,
  a3 := Tryd.isAgg3,
  z3 := Tryd.sizeOf3,
  v3 := Tryd.zeroValue3,
  t4 := Tryd.underlying4,
  a4 := Tryd.isAgg4,
  z4 := Tryd.sizeOf4,
  v4 := Tryd.zeroValue4,
  t9 := Tryd.underlying9,
  a9 := Tryd.isAgg9,
  z9 := Tryd.sizeOf9,
  v9 := Tryd.zeroValue9,
  t20 := Tryd.underlying20,
  a20 := Tryd.isAgg20,
  z20 := Tryd.sizeOf20,
  v20 := Tryd.zeroValue20,
  t37 := Tryd.underlying22,
  a37 := Tryd.isAgg22,
  z37 := Tryd.sizeOf22,
  v37 := Tryd.zeroValue22,
  t70 := Tryd.underlying85,
  a70 := Tryd.isAgg85,
  z70 := Tryd.sizeOf85,
  v70 := Tryd.zeroValue85,
  t72 := Tryd.underlying87,
  a72 := Tryd.isAgg87,
  z72 := Tryd.sizeOf87,
  v72 := Tryd.zeroValue87,
  t75 := Tryd.underlying89,
  a75 := Tryd.isAgg89,
  z75 := Tryd.sizeOf89,
  v75 := Tryd.zeroValue89,
  t164 := Tryd.underlying140,
  a164 := Tryd.isAgg140,
  z164 := Tryd.sizeOf140,
  v164 := Tryd.zeroValue140 }
theorem extra166 : Go.Proofs.Builder.Extra Tryd.prog lays166_ren := {
  sizeBuilder := by kernel_rfl
  liesBuilder := by kernel_rfl
  t5 := Tryd.underlying5
  a5 := Tryd.isAgg5
  z5 := Tryd.sizeOf5
  v5 := Tryd.zeroValue5
  infoByte := by kernel_rfl
  cellsByte := by kernel_rfl
  sizeByte := by kernel_rfl
  neB5 := by decide }
def lays167_ren : Go.Shelf.Ren := ⟨fun | 167 => 85 | 240 => 88 | 276 => 108 | n => n, fun | 0 => 0 | 3 => 3 | 4 => 4 | 5 => 5 | 9 => 9 | 20 => 20 | 37 => 22 | 70 => 85 | 72 => 87 | 75 => 89 | 80 => 92 | 164 => 140 | n => n, fun | n => n⟩
theorem lays167 : Go.Proofs.Lays.n167 Tryd.prog lays167_ren := {
  mixed := by kernel_rfl,
  f167 := Tryd.func85.trans (congrArg some (by kernel_rfl)),
  f240 := Tryd.func88.trans (congrArg some (by kernel_rfl)),
  f276 := Tryd.func108.trans (congrArg some (by kernel_rfl)),
  t0 := Tryd.underlying0,
  a0 := Tryd.isAgg0,
  z0 := Tryd.sizeOf0,
  v0 := Tryd.zeroValue0,
  t4 := Tryd.underlying4,
  a4 := Tryd.isAgg4,
  z4 := Tryd.sizeOf4,
  v4 := Tryd.zeroValue4,
  t5 := Tryd.underlying5,
  a5 := Tryd.isAgg5,
  z5 := Tryd.sizeOf5,
  v5 := Tryd.zeroValue5,
  t9 := Tryd.underlying9,
  a9 := Tryd.isAgg9,
  z9 := Tryd.sizeOf9,
  v9 := Tryd.zeroValue9,
  t20 := Tryd.underlying20,
  a20 := Tryd.isAgg20,
  z20 := Tryd.sizeOf20,
  v20 := Tryd.zeroValue20,
  t37 := Tryd.underlying22,
  a37 := Tryd.isAgg22,
  z37 := Tryd.sizeOf22,
  v37 := Tryd.zeroValue22,
  t70 := Tryd.underlying85,
  a70 := Tryd.isAgg85,
  z70 := Tryd.sizeOf85,
  v70 := Tryd.zeroValue85,
  t72 := Tryd.underlying87,
  a72 := Tryd.isAgg87,
  z72 := Tryd.sizeOf87,
  v72 := Tryd.zeroValue87,
  t75 := Tryd.underlying89,
  a75 := Tryd.isAgg89,
  z75 := Tryd.sizeOf89,
  v75 := Tryd.zeroValue89,
  t164 := Tryd.underlying140,
  a164 := Tryd.isAgg140,
  z164 := Tryd.sizeOf140,
  v164 := Tryd.zeroValue140 }
theorem extra167 : Go.Proofs.Builder.Extra Tryd.prog lays167_ren := {
  sizeBuilder := by kernel_rfl
  liesBuilder := by kernel_rfl
  t5 := Tryd.underlying5
  a5 := Tryd.isAgg5
  z5 := Tryd.sizeOf5
  v5 := Tryd.zeroValue5
  infoByte := by kernel_rfl
  cellsByte := by kernel_rfl
  sizeByte := by kernel_rfl
  neB5 := by decide }
theorem WriteString_k (B b : Nat) (bs : List Value) (s : ByteArray) (w : World) (h : Lib.IsBuilderF 87 5 B b bs w) (hl : bs.length + s.size ≤ 140737488355328) (hB : B ≤ w.heap.size) :
    Calls Tryd.prog 51 #[.pointer (some ⟨b, 0, none⟩), .string s] w fun e w' => e = .returned (.tuple #[.int .i64 s.size, .nilIface]) ∧ Lib.BuilderAtF 87 5 B b (.pointer (some ⟨b, 0, none⟩)) (bs ++ Lib.strCells s) w' ∧ Below B w w' ∧ Lib.OthersKept 5 (some b) w w' :=
  Any.Builder_WriteString_k lays166 extra166 B b bs s w h hl hB
theorem WriteByte_k (B b : Nat) (bs : List Value) (c : Int) (w : World) (h : Lib.IsBuilderF 87 5 B b bs w) (hl : bs.length + 1 ≤ 140737488355328) (hB : B ≤ w.heap.size) :
    Calls Tryd.prog 85 #[.pointer (some ⟨b, 0, none⟩), .int .u8 c] w fun e w' => e = .returned .nilIface ∧ Lib.BuilderAtF 87 5 B b (.pointer (some ⟨b, 0, none⟩)) (bs ++ [.int .u8 c]) w' ∧ Below B w w' ∧ Lib.OthersKept 5 (some b) w w' :=
  Any.Builder_WriteByte_k lays167 extra167 B b bs c w h hl hB
end Go.Proofs.YtncfnlocdlhagaaDoor
