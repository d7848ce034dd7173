/-
  The contracts of the library's functions that this program calls, laid at this seat's numbers: strings.Builder's writers by hand. No condition of ours.
-/
import Derived.Test.YtgojmmhfablapaaDoorRows
import Derived.Shelf.Strings.BuilderK
import Derived.KernelRfl
namespace Go.Proofs.YtgojmmhfablapaaDoor
open Go.RowKit
set_option linter.unusedVariables false
def lays240_ren : Go.Shelf.Ren := ⟨fun | 240 => 65 | 276 => 70 | n => n, fun | 0 => 0 | 3 => 3 | 4 => 4 | 5 => 5 | 9 => 9 | 20 => 20 | 37 => 30 | 70 => 70 | 72 => 72 | 75 => 74 | 80 => 77 | 164 => 94 | n => n, fun | n => n⟩
theorem lays240 : Go.Proofs.Lays.n240 Tryd.prog lays240_ren := {
  mixed := by kernel_rfl,
  f240 := Tryd.func65.trans (congrArg some (by kernel_rfl)),
  f276 := Tryd.func70.trans (congrArg some (by kernel_rfl)),
  t0 := Tryd.underlying0,
  a0 := Tryd.isAgg0,
  z0 := Tryd.sizeOf0,
  v0 := Tryd.zeroValue0,
  t4 := Tryd.underlying4,
  a4 := Tryd.isAgg4,
  z4 := Tryd.sizeOf4,
  v4 := Tryd.zeroValue4,
  t9 := Tryd.underlying9,
  a9 := Tryd.isAgg9,
  z9 := Tryd.sizeOf9,
  v9 := Tryd.zeroValue9,
  t20 := Tryd.underlying20,
  a20 := Tryd.isAgg20,
  z20 := Tryd.sizeOf20,
  v20 := Tryd.zeroValue20,
  t70 := Tryd.underlying70,
  a70 := Tryd.isAgg70,
  z70 := Tryd.sizeOf70,
  v70 := Tryd.zeroValue70,
  t72 := Tryd.underlying72,
  a72 := Tryd.isAgg72,
  z72 := Tryd.sizeOf72,
  v72 := Tryd.zeroValue72,
  t164 := Tryd.underlying94,
  a164 := Tryd.isAgg94,
  z164 := Tryd.sizeOf94,
  v164 := Tryd.zeroValue94 }
def lays166_ren : Go.Shelf.Ren := ⟨fun | 166 => 52 | 240 => 65 | 276 => 70 | n => n, fun | 0 => 0 | 3 => 3 | 4 => 4 | 5 => 5 | 9 => 9 | 20 => 20 | 37 => 30 | 70 => 70 | 72 => 72 | 75 => 74 | 80 => 77 | 164 => 94 | n => n, fun | n => n⟩
theorem lays166 : Go.Proofs.Lays.n166 Tryd.prog lays166_ren := {
  mixed := by kernel_rfl,
  f166 := Tryd.func52.trans (congrArg some (by kernel_rfl)),
  f240 := Tryd.func65.trans (congrArg some (by kernel_rfl)),
  f276 := Tryd.func70.trans (congrArg some (by kernel_rfl)),
  t0 := Tryd.underlying0,
  a0 := Tryd.isAgg0,
  z0 := Tryd.sizeOf0,
  v0 := Tryd.zeroValue0,
  t3 := Tryd.underlying3,
  a3 := Tryd.isAgg3,
  z3 := Tryd.sizeOf3,
  v3 := Tryd.zeroValue3,
  t4 := Tryd.underlying4,
  a4 := Tryd.isAgg4,
  z4 := Tryd.sizeOf4,
  v4 := Tryd.zeroValue4,
  t9 := Tryd.underlying9,
  a9 := Tryd.isAgg9,
  z9 := Tryd.sizeOf9,
  v9 := Tryd.zeroValue9,
  t20 := Tryd.underlying20,
  a20 := Tryd.isAgg20,
  z20 := Tryd.sizeOf20,
  v20 := Tryd.zeroValue20,
  t37 := Tryd.underlying30,
  a37 := Tryd.isAgg30,
  z37 := Tryd.sizeOf30,
  v37 := Tryd.zeroValue30,
  t70 := Tryd.underlying70,
  a70 := Tryd.isAgg70,
  z70 := Tryd.sizeOf70,
  v70 := Tryd.zeroValue70,
  t72 := Tryd.underlying72,
  a72 := Tryd.isAgg72,
  z72 := Tryd.sizeOf72,
  v72 := Tryd.zeroValue72,
  t75 := Tryd.underlying74,
  a75 := Tryd.isAgg74,
  z75 := Tryd.sizeOf74,
  v75 := Tryd.zeroValue74,
  t164 := Tryd.underlying94,
  a164 := Tryd.isAgg94,
  z164 := Tryd.sizeOf94,
  v164 := Tryd.zeroValue94 }
theorem extra166 : Go.Proofs.Builder.Extra Tryd.prog lays166_ren := {
  sizeBuilder := by kernel_rfl
  liesBuilder := by kernel_rfl
  t5 := Tryd.underlying5
  a5 := Tryd.isAgg5
  z5 := Tryd.sizeOf5
  v5 := Tryd.zeroValue5
  infoByte := by kernel_rfl
  cellsByte := by kernel_rfl
  sizeByte := by kernel_rfl
  neB5 := by decide }
def lays167_ren : Go.Shelf.Ren := ⟨fun | 167 => 64 | 240 => 65 | 276 => 70 | n => n, fun | 0 => 0 | 3 => 3 | 4 => 4 | 5 => 5 | 9 => 9 | 20 => 20 | 37 => 30 | 70 => 70 | 72 => 72 | 75 => 74 | 80 => 77 | 164 => 94 | n => n, fun | n => n⟩
theorem lays167 : Go.Proofs.Lays.n167 Tryd.prog lays167_ren := {
  mixed := by kernel_rfl,
  f167 := Tryd.func64.trans (congrArg some (by kernel_rfl)),
  f240 := Tryd.func65.trans (congrArg some (by kernel_rfl)),
  f276 := Tryd.func70.trans (congrArg some (by kernel_rfl)),
  t0 := Tryd.underlying0,
  a0 := Tryd.isAgg0,
  z0 := Tryd.sizeOf0,
  v0 := Tryd.zeroValue0,
  t4 := Tryd.underlying4,
  a4 := Tryd.isAgg4,
  z4 := Tryd.sizeOf4,
  v4 := Tryd.zeroValue4,
  t5 := Tryd.underlying5,
  a5 := Tryd.isAgg5,
  z5 := Tryd.sizeOf5,
  v5 := Tryd.zeroValue5,
  t9 := Tryd.underlying9,
  a9 := Tryd.isAgg9,
  z9 := Tryd.sizeOf9,
  v9 := Tryd.zeroValue9,
  t20 := Tryd.underlying20,
  a20 := Tryd.isAgg20,
  z20 := Tryd.sizeOf20,
  v20 := Tryd.zeroValue20,
  t37 := Tryd.underlying30,
  a37 := Tryd.isAgg30,
  z37 := Tryd.sizeOf30,
  v37 := Tryd.zeroValue30,
  t70 := Tryd.underlying70,
  a70 := Tryd.isAgg70,
  z70 := Tryd.sizeOf70,
  v70 := Tryd.zeroValue70,
  t72 := Tryd.underlying72,
  a72 := Tryd.isAgg72,
  z72 := Tryd.sizeOf72,
  v72 := Tryd.zeroValue72,
  t75 := Tryd.underlying74,
  a75 := Tryd.isAgg74,
  z75 := Tryd.sizeOf74,
  v75 := Tryd.zeroValue74,
  t164 := Tryd.underlying94,
  a164 := Tryd.isAgg94,
  z164 := Tryd.sizeOf94,
  v164 := Tryd.zeroValue94 }
theorem extra167 : Go.Proofs.Builder.Extra Tryd.prog lays167_ren := {
  sizeBuilder := by kernel_rfl
  liesBuilder := by kernel_rfl
  t5 := Tryd.underlying5
  a5 := Tryd.isAgg5
  z5 := Tryd.sizeOf5
  v5 := Tryd.zeroValue5
  infoByte := by kernel_rfl
  cellsByte := by kernel_rfl
  sizeByte := by kernel_rfl
  neB5 := by decide }
theorem WriteString_k (B b : Nat) (bs : List Value) (s : ByteArray) (w : World) (h : Lib.IsBuilderF 72 5 B b bs w) (hl : bs.length + s.size ≤ 140737488355328) (hB : B ≤ w.heap.size) :
    Calls Tryd.prog 52 #[.pointer (some ⟨b, 0, none⟩), .string s] w fun e w' => e = .returned (.tuple #[.int .i64 s.size, .nilIface]) ∧ Lib.BuilderAtF 72 5 B b (.pointer (some ⟨b, 0, none⟩)) (bs ++ Lib.strCells s) w' ∧ Below B w w' ∧ Lib.OthersKept 5 (some b) w w' :=
  Any.Builder_WriteString_k lays166 extra166 B b bs s w h hl hB
theorem WriteByte_k (B b : Nat) (bs : List Value) (c : Int) (w : World) (h : Lib.IsBuilderF 72 5 B b bs w) (hl : bs.length + 1 ≤ 140737488355328) (hB : B ≤ w.heap.size) :
    Calls Tryd.prog 64 #[.pointer (some ⟨b, 0, none⟩), .int .u8 c] w fun e w' => e = .returned .nilIface ∧ Lib.BuilderAtF 72 5 B b (.pointer (some ⟨b, 0, none⟩)) (bs ++ [.int .u8 c]) w' ∧ Below B w w' ∧ Lib.OthersKept 5 (some b) w w' :=
  Any.Builder_WriteByte_k lays167 extra167 B b bs c w h hl hB
end Go.Proofs.YtgojmmhfablapaaDoor
