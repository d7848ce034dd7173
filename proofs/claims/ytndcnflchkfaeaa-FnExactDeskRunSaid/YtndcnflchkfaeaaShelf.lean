/-
  The contracts of the library functions that this seat calls, laid by the kit's tool at this seat's numbers. No condition of ours.
-/
import Derived.Shelf.Strconv.Itoa0
import Derived.Shelf.Sort.Plain
import Derived.Shelf.Slices.In.SortNone
import Derived.Test.YtndcnflchkfaeaaProg
namespace Go.Proofs
open Go.Shelf
def Try.lays129_ren : Go.Shelf.Ren := ⟨fun | 129 => 87 | n => n, fun | 53 => 94 | 3 => 3 | 4 => 4 | 46 => 75 | 5 => 5 | 9 => 9 | n => n, fun | n => n⟩
theorem Try.lays129 : Go.Proofs.Lays.n129 Try.prog Try.lays129_ren := {
  mixed := by kernel_rfl
  f129 := Try.func87.trans (congrArg some (by kernel_rfl))
  t3 := Try.underlying3
  a3 := Try.isAgg3
  z3 := Try.sizeOf3
  v3 := Try.zeroValue3
  t4 := Try.underlying4
  a4 := Try.isAgg4
  z4 := Try.sizeOf4
  v4 := Try.zeroValue4
  t5 := Try.underlying5
  a5 := Try.isAgg5
  z5 := Try.sizeOf5
  v5 := Try.zeroValue5
  t9 := Try.underlying9
  a9 := Try.isAgg9
  z9 := Try.sizeOf9
  v9 := Try.zeroValue9
  t46 := Try.underlying75
  a46 := Try.isAgg75
  z46 := Try.sizeOf75
  v46 := Try.zeroValue75
  t53 := Try.underlying94
  a53 := Try.isAgg94
  z53 := Try.sizeOf94
  v53 := Try.zeroValue94 }
theorem Try.bits_Len64 (x : Int) (w : World) (h0 : 0 ≤ x) (h1 : x ≤ 18446744073709551615) :
    Calls Try.prog 87 #[.int .u64 x] w fun e w' => e = .returned (.int .i64 (Lib.bitLen x.toNat)) ∧ w' = w := Any.bits_Len64 Try.lays129 x w h0 h1
def Try.lays189_ren : Go.Shelf.Ren := ⟨fun | 189 => 49 | 125 => 68 | 257 => 67 | 128 => 86 | 129 => 87 | 294 => 77 | 295 => 78 | 296 => 79 | 297 => 80 | 298 => 81 | 299 => 82 | 216 => 83 | 300 => 84 | 301 => 85 | 328 => 98 | 329 => 99 | 330 => 100 | 331 => 101 | 332 => 102 | 215 => 75 | 343 => 107 | n => n, fun | 28 => 29 | 3 => 3 | 46 => 75 | 0 => 0 | 51 => 92 | 53 => 94 | 4 => 4 | 183 => 84 | 182 => 83 | 131 => 89 | 5 => 5 | 9 => 9 | 218 => 102 | 222 => 106 | 228 => 110 | 229 => 111 | n => n, fun | n => n⟩
theorem Try.lays189 : Go.Proofs.Lays.n189 Try.prog Try.lays189_ren := {
  mixed := by kernel_rfl
  f125 := Try.func68.trans (congrArg some (by kernel_rfl))
  f128 := Try.func86.trans (congrArg some (by kernel_rfl))
  f129 := Try.func87.trans (congrArg some (by kernel_rfl))
  f189 := Try.func49.trans (congrArg some (by kernel_rfl))
  f215 := Try.func75.trans (congrArg some (by kernel_rfl))
  f216 := Try.func83.trans (congrArg some (by kernel_rfl))
  f257 := Try.func67.trans (congrArg some (by kernel_rfl))
  f294 := Try.func77.trans (congrArg some (by kernel_rfl))
  f295 := Try.func78.trans (congrArg some (by kernel_rfl))
  f296 := Try.func79.trans (congrArg some (by kernel_rfl))
  f297 := Try.func80.trans (congrArg some (by kernel_rfl))
  f298 := Try.func81.trans (congrArg some (by kernel_rfl))
  f299 := Try.func82.trans (congrArg some (by kernel_rfl))
  f300 := Try.func84.trans (congrArg some (by kernel_rfl))
  f301 := Try.func85.trans (congrArg some (by kernel_rfl))
  f328 := Try.func98.trans (congrArg some (by kernel_rfl))
  f329 := Try.func99.trans (congrArg some (by kernel_rfl))
  f330 := Try.func100.trans (congrArg some (by kernel_rfl))
  f331 := Try.func101.trans (congrArg some (by kernel_rfl))
  f332 := Try.func102.trans (congrArg some (by kernel_rfl))
  f343 := Try.func107.trans (congrArg some (by kernel_rfl))
  t0 := Try.underlying0
  a0 := Try.isAgg0
  z0 := Try.sizeOf0
  v0 := Try.zeroValue0
  t3 := Try.underlying3
  a3 := Try.isAgg3
  z3 := Try.sizeOf3
  v3 := Try.zeroValue3
  t4 := Try.underlying4
  a4 := Try.isAgg4
  z4 := Try.sizeOf4
  v4 := Try.zeroValue4
  t5 := Try.underlying5
  a5 := Try.isAgg5
  z5 := Try.sizeOf5
  v5 := Try.zeroValue5
  t9 := Try.underlying9
  a9 := Try.isAgg9
  z9 := Try.sizeOf9
  v9 := Try.zeroValue9
  t28 := Try.underlying29
  a28 := Try.isAgg29
  z28 := Try.sizeOf29
  v28 := Try.zeroValue29
  t46 := Try.underlying75
  a46 := Try.isAgg75
  z46 := Try.sizeOf75
  v46 := Try.zeroValue75
  t51 := Try.underlying92
  a51 := Try.isAgg92
  z51 := Try.sizeOf92
  v51 := Try.zeroValue92
  t53 := Try.underlying94
  a53 := Try.isAgg94
  z53 := Try.sizeOf94
  v53 := Try.zeroValue94
  t131 := Try.underlying89
  a131 := Try.isAgg89
  z131 := Try.sizeOf89
  v131 := Try.zeroValue89
  t182 := Try.underlying83
  a182 := Try.isAgg83
  z182 := Try.sizeOf83
  v182 := Try.zeroValue83
  t183 := Try.underlying84
  a183 := Try.isAgg84
  z183 := Try.sizeOf84
  v183 := Try.zeroValue84
  t218 := Try.underlying102
  a218 := Try.isAgg102
  z218 := Try.sizeOf102
  v218 := Try.zeroValue102
  t222 := Try.underlying106
  a222 := Try.isAgg106
  z222 := Try.sizeOf106
  v222 := Try.zeroValue106
  t228 := Try.underlying110
  a228 := Try.isAgg110
  z228 := Try.sizeOf110
  v228 := Try.zeroValue110
  t229 := Try.underlying111
  a229 := Try.isAgg111
  z229 := Try.sizeOf111
  v229 := Try.zeroValue111 }
open Go.Sort Go.RowKit in
theorem Try.slices_Sort_int (blk off cap : Nat) (zs : List Int) (w : World) (hH : Holds (Value.int .i64) w blk off zs.toArray) (hblk : blk < w.heap.size) (hsz : zs.length < 4611686018427387904) :
    Calls Try.prog 49 #[.slice (some ⟨blk, off, none⟩) zs.length cap] w fun e w' =>
      e = .returned (.tuple #[]) ∧ ∃ n os, w' = grow (putRow (Value.int .i64) (Sort.ahead w n) blk off (zs.mergeSort fun x y => decide (x ≤ y)).toArray) os := Any.slices_Sort_int Try.lays189 blk off cap zs w hH hblk hsz
open Go.RowKit Go.Sort in
theorem Try.slices_Sort_int_none (p : Option Addr) (cap : Nat) (w : World) :
    Calls Try.prog 49 #[.slice p 0 cap] w fun e w' => e = .returned (.tuple #[]) ∧ w' = w := Any.slices_Sort_int_none Try.lays189 p cap w
end Go.Proofs
