/-
  The contracts of the library functions that this seat calls, laid by the kit's tool at this seat's numbers. No condition of ours.
-/
import Derived.Shelf.Strings.Builder1
import Derived.Shelf.Strings.BuilderF
import Derived.Shelf.Strings.BuilderK
import Derived.Shelf.Strconv.Itoa0
import Derived.Shelf.Strconv.Itoa1
import Derived.Shelf.LaysM
import Derived.Shelf.Strconv.Itoa2
import Derived.Shelf.Strconv.Itoa3
import Derived.Shelf.Sort.Plain
import Derived.Shelf.Slices.In.SortNone
import Derived.Test.YtndcnflchkfaeaaDoorProg
/- @packed -/
namespace Go.Proofs
open Go.Shelf
def Tryd.lays169_ren : Go.Shelf.Ren := ⟨fun | 169 => 76 | n => n, fun | 70 => 83 | 9 => 9 | 0 => 0 | 72 => 85 | 37 => 22 | 127 => 105 | 3 => 3 | 5 => 5 | n => n, fun | n => n⟩
theorem Tryd.lays169 : Go.Proofs.Lays.n169 Tryd.prog Tryd.lays169_ren := {
  mixed := by kernel_rfl
  f169 := Tryd.func76.trans (congrArg some (by kernel_rfl))
  t0 := Tryd.underlying0
  a0 := Tryd.isAgg0
  z0 := Tryd.sizeOf0
  v0 := Tryd.zeroValue0
  t3 := Tryd.underlying3
  a3 := Tryd.isAgg3
  z3 := Tryd.sizeOf3
  v3 := Tryd.zeroValue3
  t9 := Tryd.underlying9
  a9 := Tryd.isAgg9
  z9 := Tryd.sizeOf9
  v9 := Tryd.zeroValue9
  t37 := Tryd.underlying22
  a37 := Tryd.isAgg22
  z37 := Tryd.sizeOf22
  v37 := Tryd.zeroValue22
  t70 := Tryd.underlying83
  a70 := Tryd.isAgg83
  z70 := Tryd.sizeOf83
  v70 := Tryd.zeroValue83
  t72 := Tryd.underlying85
  a72 := Tryd.isAgg85
  z72 := Tryd.sizeOf85
  v72 := Tryd.zeroValue85
  t127 := Tryd.underlying105
  a127 := Tryd.isAgg105
  z127 := Tryd.sizeOf105
  v127 := Tryd.zeroValue105 }
theorem Tryd.Builder_Extra_169 : Builder.Extra Tryd.prog Tryd.lays169_ren := {
  sizeBuilder := by kernel_rfl
  liesBuilder := by kernel_rfl
  t5 := Tryd.underlying5
  a5 := Tryd.isAgg5
  z5 := Tryd.sizeOf5
  v5 := Tryd.zeroValue5
  infoByte := by kernel_rfl
  cellsByte := by kernel_rfl
  sizeByte := by kernel_rfl
  neB5 := by decide }
open Go.RowKit in
theorem Tryd.Builder_String_any_f (B b : Nat) (l : List UInt8) (w : World) (h : Lib.IsBuilderF 85 5 B b (Lib.byteCells l) w) (hBw : B ≤ w.heap.size) :
    Calls Tryd.prog 76 #[.pointer (some ⟨b, 0, none⟩)] w fun e w' => e = .returned (.string ⟨l.toArray⟩) ∧ (Lib.IsBuilderF 85 5 B b (Lib.byteCells l) w' ∧ Below B w w') := Any.Builder_String_any_f Tryd.lays169 Tryd.Builder_Extra_169 B b l w h hBw
def Tryd.lays129_ren : Go.Shelf.Ren := ⟨fun | 129 => 104 | n => n, fun | 53 => 120 | 3 => 3 | 4 => 4 | 46 => 100 | 5 => 5 | 9 => 9 | n => n, fun | n => n⟩
theorem Tryd.lays129 : Go.Proofs.Lays.n129 Tryd.prog Tryd.lays129_ren := {
  mixed := by kernel_rfl
  f129 := Tryd.func104.trans (congrArg some (by kernel_rfl))
  t3 := Tryd.underlying3
  a3 := Tryd.isAgg3
  z3 := Tryd.sizeOf3
  v3 := Tryd.zeroValue3
  t4 := Tryd.underlying4
  a4 := Tryd.isAgg4
  z4 := Tryd.sizeOf4
  v4 := Tryd.zeroValue4
  t5 := Tryd.underlying5
  a5 := Tryd.isAgg5
  z5 := Tryd.sizeOf5
  v5 := Tryd.zeroValue5
  t9 := Tryd.underlying9
  a9 := Tryd.isAgg9
  z9 := Tryd.sizeOf9
  v9 := Tryd.zeroValue9
  t46 := Tryd.underlying100
  a46 := Tryd.isAgg100
  z46 := Tryd.sizeOf100
  v46 := Tryd.zeroValue100
  t53 := Tryd.underlying120
  a53 := Tryd.isAgg120
  z53 := Tryd.sizeOf120
  v53 := Tryd.zeroValue120 }
theorem Tryd.bits_Len64 (x : Int) (w : World) (h0 : 0 ≤ x) (h1 : x ≤ 18446744073709551615) :
    Calls Tryd.prog 104 #[.int .u64 x] w fun e w' => e = .returned (.int .i64 (Lib.bitLen x.toNat)) ∧ w' = w := Any.bits_Len64 Tryd.lays129 x w h0 h1
def Tryd.laysM171_ren : Go.Shelf.Ren := ⟨fun | 171 => 75 | 243 => 90 | 246 => 106 | 283 => 122 | 284 => 123 | 285 => 124 | 286 => 125 | 129 => 104 | 317 => 131 | 318 => 132 | 319 => 133 | 320 => 134 | 337 => 137 | 338 => 138 | n => n, fun | 3 => 3 | 9 => 9 | 2 => 2 | 4 => 4 | 171 => 137 | 0 => 0 | 53 => 120 | 37 => 22 | 5 => 5 | 173 => 139 | 212 => 147 | 51 => 118 | 20 => 20 | 213 => 148 | 46 => 100 | 232 => 150 | 233 => 151 | n => n, fun | 17 => 0 | 18 => 1 | 19 => 2 | n => n⟩
theorem Tryd.laysM171 : Go.Proofs.LaysM.n171 Tryd.prog Tryd.laysM171_ren := {
  mixed := by kernel_rfl
  f129 := Tryd.func104.trans (congrArg some (by kernel_rfl))
  f171 := Tryd.func75.trans (congrArg some (by kernel_rfl))
  f243 := Tryd.func90.trans (congrArg some (by kernel_rfl))
  f246 := Tryd.func106.trans (congrArg some (by kernel_rfl))
  f283 := Tryd.func122.trans (congrArg some (by kernel_rfl))
  f284 := Tryd.func123.trans (congrArg some (by kernel_rfl))
  f285 := Tryd.func124.trans (congrArg some (by kernel_rfl))
  f286 := Tryd.func125.trans (congrArg some (by kernel_rfl))
  f317 := Tryd.func131.trans (congrArg some (by kernel_rfl))
  f318 := Tryd.func132.trans (congrArg some (by kernel_rfl))
  f319 := Tryd.func133.trans (congrArg some (by kernel_rfl))
  f320 := Tryd.func134.trans (congrArg some (by kernel_rfl))
  f337 := Tryd.func137.trans (congrArg some (by kernel_rfl))
  f338 := Tryd.func138.trans (congrArg some (by kernel_rfl))
  t0 := Tryd.underlying0
  a0 := Tryd.isAgg0
  z0 := Tryd.sizeOf0
  v0 := Tryd.zeroValue0
  t2 := Tryd.underlying2
  a2 := Tryd.isAgg2
  z2 := Tryd.sizeOf2
  v2 := Tryd.zeroValue2
  t3 := Tryd.underlying3
  a3 := Tryd.isAgg3
  z3 := Tryd.sizeOf3
  v3 := Tryd.zeroValue3
  t4 := Tryd.underlying4
  a4 := Tryd.isAgg4
  z4 := Tryd.sizeOf4
  v4 := Tryd.zeroValue4
  t5 := Tryd.underlying5
  a5 := Tryd.isAgg5
  z5 := Tryd.sizeOf5
  v5 := Tryd.zeroValue5
  t9 := Tryd.underlying9
  a9 := Tryd.isAgg9
  z9 := Tryd.sizeOf9
  v9 := Tryd.zeroValue9
  t20 := Tryd.underlying20
  a20 := Tryd.isAgg20
  z20 := Tryd.sizeOf20
  v20 := Tryd.zeroValue20
  t37 := Tryd.underlying22
  a37 := Tryd.isAgg22
  z37 := Tryd.sizeOf22
  v37 := Tryd.zeroValue22
  t46 := Tryd.underlying100
  a46 := Tryd.isAgg100
  z46 := Tryd.sizeOf100
  v46 := Tryd.zeroValue100
  t51 := Tryd.underlying118
  a51 := Tryd.isAgg118
  z51 := Tryd.sizeOf118
  v51 := Tryd.zeroValue118
  t53 := Tryd.underlying120
  a53 := Tryd.isAgg120
  z53 := Tryd.sizeOf120
  v53 := Tryd.zeroValue120
  t171 := Tryd.underlying137
  a171 := Tryd.isAgg137
  z171 := Tryd.sizeOf137
  v171 := Tryd.zeroValue137
  t173 := Tryd.underlying139
  a173 := Tryd.isAgg139
  z173 := Tryd.sizeOf139
  v173 := Tryd.zeroValue139
  t212 := Tryd.underlying147
  a212 := Tryd.isAgg147
  z212 := Tryd.sizeOf147
  v212 := Tryd.zeroValue147
  t213 := Tryd.underlying148
  a213 := Tryd.isAgg148
  z213 := Tryd.sizeOf148
  t232 := Tryd.underlying150
  a232 := Tryd.isAgg150
  z232 := Tryd.sizeOf150
  v232 := Tryd.zeroValue150
  t233 := Tryd.underlying151
  a233 := Tryd.isAgg151
  z233 := Tryd.sizeOf151
  v233 := Tryd.zeroValue151
  g17 := by kernel_rfl
  g18 := by kernel_rfl
  g19 := by kernel_rfl
  i0 := by kernel_rfl
  i2 := by kernel_rfl
  i3 := by kernel_rfl
  i4 := by kernel_rfl
  i5 := by kernel_rfl
  i9 := by kernel_rfl
  i20 := by kernel_rfl
  i37 := by kernel_rfl
  i46 := by kernel_rfl
  i51 := by kernel_rfl
  i53 := by kernel_rfl
  i171 := by kernel_rfl
  i173 := by kernel_rfl
  i212 := by kernel_rfl
  i232 := by kernel_rfl
  i233 := by kernel_rfl
  m17 := by kernel_rfl
  m18 := by kernel_rfl
  m19 := by kernel_rfl }
open Go.RowKit Go.Sort Go.Lib in
theorem Tryd.strconv_Itoa (n : Int) (h0 : -9223372036854775808 ≤ n) (h1 : n ≤ 9223372036854775807) (w : World) (htab : Lib.TabIs Tryd.prog w "internal/strconv.uint64pow10" .u64 Lib.pow10Tab) :
    Calls Tryd.prog 75 #[.int .i64 n] w fun e w' => e = .returned (.string ⟨(Lib.itoa n).toArray⟩) ∧ ∃ k os, w' = grow (w.drewN k) os := Any.strconv_Itoa Tryd.laysM171 n h0 h1 w htab
def Tryd.lays189_ren : Go.Shelf.Ren := ⟨fun | 189 => 62 | 125 => 84 | 257 => 83 | 128 => 103 | 129 => 104 | 294 => 94 | 295 => 95 | 296 => 96 | 297 => 97 | 298 => 98 | 299 => 99 | 216 => 100 | 300 => 101 | 301 => 102 | 328 => 117 | 329 => 118 | 330 => 119 | 331 => 120 | 332 => 121 | 215 => 92 | 343 => 130 | n => n, fun | 28 => 40 | 3 => 3 | 46 => 100 | 0 => 0 | 51 => 118 | 53 => 120 | 4 => 4 | 183 => 110 | 182 => 109 | 131 => 115 | 5 => 5 | 9 => 9 | 218 => 131 | 222 => 135 | 228 => 143 | 229 => 144 | n => n, fun | n => n⟩
theorem Tryd.lays189 : Go.Proofs.Lays.n189 Tryd.prog Tryd.lays189_ren := {
  mixed := by kernel_rfl
  f125 := Tryd.func84.trans (congrArg some (by kernel_rfl))
  f128 := Tryd.func103.trans (congrArg some (by kernel_rfl))
  f129 := Tryd.func104.trans (congrArg some (by kernel_rfl))
  f189 := Tryd.func62.trans (congrArg some (by kernel_rfl))
  f215 := Tryd.func92.trans (congrArg some (by kernel_rfl))
  f216 := Tryd.func100.trans (congrArg some (by kernel_rfl))
  f257 := Tryd.func83.trans (congrArg some (by kernel_rfl))
  f294 := Tryd.func94.trans (congrArg some (by kernel_rfl))
  f295 := Tryd.func95.trans (congrArg some (by kernel_rfl))
  f296 := Tryd.func96.trans (congrArg some (by kernel_rfl))
  f297 := Tryd.func97.trans (congrArg some (by kernel_rfl))
  f298 := Tryd.func98.trans (congrArg some (by kernel_rfl))
  f299 := Tryd.func99.trans (congrArg some (by kernel_rfl))
  f300 := Tryd.func101.trans (congrArg some (by kernel_rfl))
  f301 := Tryd.func102.trans (congrArg some (by kernel_rfl))
  f328 := Tryd.func117.trans (congrArg some (by kernel_rfl))
  f329 := Tryd.func118.trans (congrArg some (by kernel_rfl))
  f330 := Tryd.func119.trans (congrArg some (by kernel_rfl))
  f331 := Tryd.func120.trans (congrArg some (by kernel_rfl))
  f332 := Tryd.func121.trans (congrArg some (by kernel_rfl))
  f343 := Tryd.func130.trans (congrArg some (by kernel_rfl))
  t0 := Tryd.underlying0
  a0 := Tryd.isAgg0
  z0 := Tryd.sizeOf0
  v0 := Tryd.zeroValue0
  t3 := Tryd.underlying3
  a3 := Tryd.isAgg3
  z3 := Tryd.sizeOf3
  v3 := Tryd.zeroValue3
  t4 := Tryd.underlying4
  a4 := Tryd.isAgg4
  z4 := Tryd.sizeOf4
  v4 := Tryd.zeroValue4
  t5 := Tryd.underlying5
  a5 := Tryd.isAgg5
  z5 := Tryd.sizeOf5
  v5 := Tryd.zeroValue5
  t9 := Tryd.underlying9
  a9 := Tryd.isAgg9
  z9 := Tryd.sizeOf9
  v9 := Tryd.zeroValue9
  t28 := Tryd.underlying40
  a28 := Tryd.isAgg40
  z28 := Tryd.sizeOf40
  v28 := Tryd.zeroValue40
  t46 := Tryd.underlying100
  a46 := Tryd.isAgg100
  z46 := Tryd.sizeOf100
  v46 := Tryd.zeroValue100
  t51 := Tryd.underlying118
  a51 := Tryd.isAgg118
  z51 := Tryd.sizeOf118
  v51 := Tryd.zeroValue118
  t53 := Tryd.underlying120
  a53 := Tryd.isAgg120
  z53 := Tryd.sizeOf120
  v53 := Tryd.zeroValue120
  t131 := Tryd.underlying115
  a131 := Tryd.isAgg115
  z131 := Tryd.sizeOf115
  v131 := Tryd.zeroValue115
  t182 := Tryd.underlying109
  a182 := Tryd.isAgg109
  z182 := Tryd.sizeOf109
  v182 := Tryd.zeroValue109
  t183 := Tryd.underlying110
  a183 := Tryd.isAgg110
  z183 := Tryd.sizeOf110
  v183 := Tryd.zeroValue110
  t218 := Tryd.underlying131
  a218 := Tryd.isAgg131
  z218 := Tryd.sizeOf131
  v218 := Tryd.zeroValue131
  t222 := Tryd.underlying135
  a222 := Tryd.isAgg135
  z222 := Tryd.sizeOf135
  v222 := Tryd.zeroValue135
  t228 := Tryd.underlying143
  a228 := Tryd.isAgg143
  z228 := Tryd.sizeOf143
  v228 := Tryd.zeroValue143
  t229 := Tryd.underlying144
  a229 := Tryd.isAgg144
  z229 := Tryd.sizeOf144
  v229 := Tryd.zeroValue144 }
open Go.Sort Go.RowKit in
theorem Tryd.slices_Sort_int (blk off cap : Nat) (zs : List Int) (w : World) (hH : Holds (Value.int .i64) w blk off zs.toArray) (hblk : blk < w.heap.size) (hsz : zs.length < 4611686018427387904) :
    Calls Tryd.prog 62 #[.slice (some ⟨blk, off, none⟩) zs.length cap] w fun e w' =>
      e = .returned (.tuple #[]) ∧ ∃ n os, w' = grow (putRow (Value.int .i64) (Sort.ahead w n) blk off (zs.mergeSort fun x y => decide (x ≤ y)).toArray) os := Any.slices_Sort_int Tryd.lays189 blk off cap zs w hH hblk hsz
open Go.RowKit Go.Sort in
theorem Tryd.slices_Sort_int_none (p : Option Addr) (cap : Nat) (w : World) :
    Calls Tryd.prog 62 #[.slice p 0 cap] w fun e w' => e = .returned (.tuple #[]) ∧ w' = w := Any.slices_Sort_int_none Tryd.lays189 p cap w
end Go.Proofs
