/-
  The contracts of the library functions that this seat calls, laid by the kit's tool at this seat's numbers. No condition of ours.
-/
import Derived.Shelf.Strconv.Itoa0
import Derived.Shelf.Sort.Plain
import Derived.Shelf.Slices.In.SortNone
import Derived.Test.YtahglfakiobbcaaGreatDoorProg
/- @packed -/
namespace Go.Proofs
open Go.Shelf
def Tryz.lays189_ren : Go.Shelf.Ren := ⟨fun | 189 => 107 | 125 => 131 | 257 => 130 | 128 => 152 | 129 => 153 | 294 => 143 | 295 => 144 | 296 => 145 | 297 => 146 | 298 => 147 | 299 => 148 | 216 => 149 | 300 => 150 | 301 => 151 | 328 => 161 | 329 => 162 | 330 => 163 | 331 => 164 | 332 => 165 | 215 => 166 | 343 => 169 | n => n, fun | 28 => 22 | 3 => 3 | 46 => 147 | 0 => 0 | 51 => 159 | 53 => 161 | 4 => 4 | 183 => 152 | 182 => 151 | 131 => 80 | 5 => 5 | 9 => 9 | 218 => 165 | 222 => 169 | 228 => 173 | 229 => 174 | n => n, fun | n => n⟩
theorem Tryz.lays189 : Go.Proofs.Lays.n189 Tryz.prog Tryz.lays189_ren := {
  mixed := by kernel_rfl
  f125 := Tryz.func131.trans (congrArg some (by kernel_rfl))
  f128 := Tryz.func152.trans (congrArg some (by kernel_rfl))
  f129 := Tryz.func153.trans (congrArg some (by kernel_rfl))
  f189 := Tryz.func107.trans (congrArg some (by kernel_rfl))
  f215 := Tryz.func166.trans (congrArg some (by kernel_rfl))
  f216 := Tryz.func149.trans (congrArg some (by kernel_rfl))
  f257 := Tryz.func130.trans (congrArg some (by kernel_rfl))
  f294 := Tryz.func143.trans (congrArg some (by kernel_rfl))
  f295 := Tryz.func144.trans (congrArg some (by kernel_rfl))
  f296 := Tryz.func145.trans (congrArg some (by kernel_rfl))
  f297 := Tryz.func146.trans (congrArg some (by kernel_rfl))
  f298 := Tryz.func147.trans (congrArg some (by kernel_rfl))
  f299 := Tryz.func148.trans (congrArg some (by kernel_rfl))
  f300 := Tryz.func150.trans (congrArg some (by kernel_rfl))
  f301 := Tryz.func151.trans (congrArg some (by kernel_rfl))
  f328 := Tryz.func161.trans (congrArg some (by kernel_rfl))
  f329 := Tryz.func162.trans (congrArg some (by kernel_rfl))
  f330 := Tryz.func163.trans (congrArg some (by kernel_rfl))
  f331 := Tryz.func164.trans (congrArg some (by kernel_rfl))
  f332 := Tryz.func165.trans (congrArg some (by kernel_rfl))
  f343 := Tryz.func169.trans (congrArg some (by kernel_rfl))
  t0 := Tryz.underlying0
  a0 := Tryz.isAgg0
  z0 := Tryz.sizeOf0
  v0 := Tryz.zeroValue0
  t3 := Tryz.underlying3
  a3 := Tryz.isAgg3
  z3 := Tryz.sizeOf3
  v3 := Tryz.zeroValue3
  t4 := Tryz.underlying4
  a4 := Tryz.isAgg4
  z4 := Tryz.sizeOf4
  v4 := Tryz.zeroValue4
  t5 := Tryz.underlying5
  a5 := Tryz.isAgg5
  z5 := Tryz.sizeOf5
  v5 := Tryz.zeroValue5
  t9 := Tryz.underlying9
  a9 := Tryz.isAgg9
  z9 := Tryz.sizeOf9
  v9 := Tryz.zeroValue9
  t28 := Tryz.underlying22
  a28 := Tryz.isAgg22
  z28 := Tryz.sizeOf22
  v28 := Tryz.zeroValue22
  t46 := Tryz.underlying147
  a46 := Tryz.isAgg147
  z46 := Tryz.sizeOf147
  v46 := Tryz.zeroValue147
  t51 := Tryz.underlying159
  a51 := Tryz.isAgg159
  z51 := Tryz.sizeOf159
  v51 := Tryz.zeroValue159
  t53 := Tryz.underlying161
  a53 := Tryz.isAgg161
  z53 := Tryz.sizeOf161
  v53 := Tryz.zeroValue161
  t131 := Tryz.underlying80
  a131 := Tryz.isAgg80
  z131 := Tryz.sizeOf80
  v131 := Tryz.zeroValue80
  t182 := Tryz.underlying151
  a182 := Tryz.isAgg151
  z182 := Tryz.sizeOf151
  v182 := Tryz.zeroValue151
  t183 := Tryz.underlying152
  a183 := Tryz.isAgg152
  z183 := Tryz.sizeOf152
  v183 := Tryz.zeroValue152
  t218 := Tryz.underlying165
  a218 := Tryz.isAgg165
  z218 := Tryz.sizeOf165
  v218 := Tryz.zeroValue165
  t222 := Tryz.underlying169
  a222 := Tryz.isAgg169
  z222 := Tryz.sizeOf169
  v222 := Tryz.zeroValue169
  t228 := Tryz.underlying173
  a228 := Tryz.isAgg173
  z228 := Tryz.sizeOf173
  v228 := Tryz.zeroValue173
  t229 := Tryz.underlying174
  a229 := Tryz.isAgg174
  z229 := Tryz.sizeOf174
  v229 := Tryz.zeroValue174 }
open Go.Sort Go.RowKit in
theorem Tryz.slices_Sort_int (blk off cap : Nat) (zs : List Int) (w : World) (hH : Holds (Value.int .i64) w blk off zs.toArray) (hblk : blk < w.heap.size) (hsz : zs.length < 4611686018427387904) :
    Calls Tryz.prog 107 #[.slice (some ⟨blk, off, none⟩) zs.length cap] w fun e w' =>
      e = .returned (.tuple #[]) ∧ ∃ n os, w' = grow (putRow (Value.int .i64) (Sort.ahead w n) blk off (zs.mergeSort fun x y => decide (x ≤ y)).toArray) os := Any.slices_Sort_int Tryz.lays189 blk off cap zs w hH hblk hsz
open Go.RowKit Go.Sort in
theorem Tryz.slices_Sort_int_none (p : Option Addr) (cap : Nat) (w : World) :
    Calls Tryz.prog 107 #[.slice p 0 cap] w fun e w' => e = .returned (.tuple #[]) ∧ w' = w := Any.slices_Sort_int_none Tryz.lays189 p cap w
end Go.Proofs
