/-
  The contracts of the library functions that this seat calls, laid by the kit's tool at this seat's numbers. No condition of ours.
-/
import Derived.Shelf.Strings.Builder1
import Derived.Shelf.Strings.BuilderF
import Derived.Shelf.Strings.BuilderK
import Derived.Shelf.Strconv.Itoa0
import Derived.Shelf.Strconv.Itoa1
import Derived.Shelf.LaysM
import Derived.Shelf.Strconv.Itoa2
import Derived.Shelf.Strconv.Itoa3
import Derived.Shelf.Sort.Plain
import Derived.Shelf.Slices.In.SortNone
import Derived.Test.YtgnkoffndhmhpaaGreatDoorProg
/- @packed -/
namespace Go.Proofs
open Go.Shelf
def Tryz.lays169_ren : Go.Shelf.Ren := ⟨fun | 169 => 132 | n => n, fun | 70 => 146 | 9 => 9 | 0 => 0 | 72 => 148 | 37 => 53 | 127 => 174 | 3 => 3 | 5 => 5 | n => n, fun | n => n⟩
theorem Tryz.lays169 : Go.Proofs.Lays.n169 Tryz.prog Tryz.lays169_ren := {
  mixed := by kernel_rfl
  f169 := Tryz.func132.trans (congrArg some (by kernel_rfl))
  t0 := Tryz.underlying0
  a0 := Tryz.isAgg0
  z0 := Tryz.sizeOf0
  v0 := Tryz.zeroValue0
  t3 := Tryz.underlying3
  a3 := Tryz.isAgg3
  z3 := Tryz.sizeOf3
  v3 := Tryz.zeroValue3
  t9 := Tryz.underlying9
  a9 := Tryz.isAgg9
  z9 := Tryz.sizeOf9
  v9 := Tryz.zeroValue9
  t37 := Tryz.underlying53
  a37 := Tryz.isAgg53
  z37 := Tryz.sizeOf53
  v37 := Tryz.zeroValue53
  t70 := Tryz.underlying146
  a70 := Tryz.isAgg146
  z70 := Tryz.sizeOf146
  v70 := Tryz.zeroValue146
  t72 := Tryz.underlying148
  a72 := Tryz.isAgg148
  z72 := Tryz.sizeOf148
  v72 := Tryz.zeroValue148
  t127 := Tryz.underlying174
  a127 := Tryz.isAgg174
  z127 := Tryz.sizeOf174
  v127 := Tryz.zeroValue174 }
theorem Tryz.Builder_Extra_169 : Builder.Extra Tryz.prog Tryz.lays169_ren := {
  sizeBuilder := by kernel_rfl
  liesBuilder := by kernel_rfl
  t5 := Tryz.underlying5
  a5 := Tryz.isAgg5
  z5 := Tryz.sizeOf5
  v5 := Tryz.zeroValue5
  infoByte := by kernel_rfl
  cellsByte := by kernel_rfl
  sizeByte := by kernel_rfl
  neB5 := by decide }
open Go.RowKit in
theorem Tryz.Builder_String_any_f (B b : Nat) (l : List UInt8) (w : World) (h : Lib.IsBuilderF 148 5 B b (Lib.byteCells l) w) (hBw : B ≤ w.heap.size) :
    Calls Tryz.prog 132 #[.pointer (some ⟨b, 0, none⟩)] w fun e w' => e = .returned (.string ⟨l.toArray⟩) ∧ (Lib.IsBuilderF 148 5 B b (Lib.byteCells l) w' ∧ Below B w w') := Any.Builder_String_any_f Tryz.lays169 Tryz.Builder_Extra_169 B b l w h hBw
def Tryz.laysM171_ren : Go.Shelf.Ren := ⟨fun | 171 => 131 | 243 => 161 | 246 => 186 | 283 => 203 | 284 => 204 | 285 => 205 | 286 => 206 | 129 => 173 | 317 => 210 | 318 => 211 | 319 => 212 | 320 => 208 | 337 => 213 | 338 => 214 | n => n, fun | 3 => 3 | 9 => 9 | 2 => 2 | 4 => 4 | 171 => 205 | 0 => 0 | 53 => 186 | 37 => 53 | 5 => 5 | 173 => 207 | 212 => 214 | 51 => 184 | 20 => 20 | 213 => 215 | 46 => 162 | 232 => 216 | 233 => 217 | n => n, fun | 17 => 0 | 18 => 1 | 19 => 2 | n => n⟩
theorem Tryz.laysM171 : Go.Proofs.LaysM.n171 Tryz.prog Tryz.laysM171_ren := {
  mixed := by kernel_rfl
  f129 := Tryz.func173.trans (congrArg some (by kernel_rfl))
  f171 := Tryz.func131.trans (congrArg some (by kernel_rfl))
  f243 := Tryz.func161.trans (congrArg some (by kernel_rfl))
  f246 := Tryz.func186.trans (congrArg some (by kernel_rfl))
  f283 := Tryz.func203.trans (congrArg some (by kernel_rfl))
  f284 := Tryz.func204.trans (congrArg some (by kernel_rfl))
  f285 := Tryz.func205.trans (congrArg some (by kernel_rfl))
  f286 := Tryz.func206.trans (congrArg some (by kernel_rfl))
  f317 := Tryz.func210.trans (congrArg some (by kernel_rfl))
  f318 := Tryz.func211.trans (congrArg some (by kernel_rfl))
  f319 := Tryz.func212.trans (congrArg some (by kernel_rfl))
  f320 := Tryz.func208.trans (congrArg some (by kernel_rfl))
  f337 := Tryz.func213.trans (congrArg some (by kernel_rfl))
  f338 := Tryz.func214.trans (congrArg some (by kernel_rfl))
  t0 := Tryz.underlying0
  a0 := Tryz.isAgg0
  z0 := Tryz.sizeOf0
  v0 := Tryz.zeroValue0
  t2 := Tryz.underlying2
  a2 := Tryz.isAgg2
  z2 := Tryz.sizeOf2
  v2 := Tryz.zeroValue2
  t3 := Tryz.underlying3
  a3 := Tryz.isAgg3
  z3 := Tryz.sizeOf3
  v3 := Tryz.zeroValue3
  t4 := Tryz.underlying4
  a4 := Tryz.isAgg4
  z4 := Tryz.sizeOf4
  v4 := Tryz.zeroValue4
  t5 := Tryz.underlying5
  a5 := Tryz.isAgg5
  z5 := Tryz.sizeOf5
  v5 := Tryz.zeroValue5
  t9 := Tryz.underlying9
  a9 := Tryz.isAgg9
  z9 := Tryz.sizeOf9
  v9 := Tryz.zeroValue9
  t20 := Tryz.underlying20
  a20 := Tryz.isAgg20
  z20 := Tryz.sizeOf20
  v20 := Tryz.zeroValue20
  t37 := Tryz.underlying53
  a37 := Tryz.isAgg53
  z37 := Tryz.sizeOf53
  v37 := Tryz.zeroValue53
  t46 := Tryz.underlying162
  a46 := Tryz.isAgg162
  z46 := Tryz.sizeOf162
  v46 := Tryz.zeroValue162
  t51 := Tryz.underlying184
  a51 := Tryz.isAgg184
  z51 := Tryz.sizeOf184
  v51 := Tryz.zeroValue184
  t53 := Tryz.underlying186
  a53 := Tryz.isAgg186
  z53 := Tryz.sizeOf186
  v53 := Tryz.zeroValue186
  t171 := Tryz.underlying205
  a171 := Tryz.isAgg205
  z171 := Tryz.sizeOf205
  v171 := Tryz.zeroValue205
  t173 := Tryz.underlying207
  a173 := Tryz.isAgg207
  z173 := Tryz.sizeOf207
  v173 := Tryz.zeroValue207
  t212 := Tryz.underlying214
  a212 := Tryz.isAgg214
  z212 := Tryz.sizeOf214
  v212 := Tryz.zeroValue214
  t213 := Tryz.underlying215
  a213 := Tryz.isAgg215
  z213 := Tryz.sizeOf215
  t232 := Tryz.underlying216
  a232 := Tryz.isAgg216
  z232 := Tryz.sizeOf216
  v232 := Tryz.zeroValue216
  t233 := Tryz.underlying217
  a233 := Tryz.isAgg217
  z233 := Tryz.sizeOf217
  v233 := Tryz.zeroValue217
  g17 := by kernel_rfl
  g18 := by kernel_rfl
  g19 := by kernel_rfl
  i0 := by kernel_rfl
  i2 := by kernel_rfl
  i3 := by kernel_rfl
  i4 := by kernel_rfl
  i5 := by kernel_rfl
  i9 := by kernel_rfl
  i20 := by kernel_rfl
  i37 := by kernel_rfl
  i46 := by kernel_rfl
  i51 := by kernel_rfl
  i53 := by kernel_rfl
  i171 := by kernel_rfl
  i173 := by kernel_rfl
  i212 := by kernel_rfl
  i232 := by kernel_rfl
  i233 := by kernel_rfl
  m17 := by kernel_rfl
  m18 := by kernel_rfl
  m19 := by kernel_rfl }
open Go.RowKit Go.Sort Go.Lib in
theorem Tryz.strconv_Itoa (n : Int) (h0 : -9223372036854775808 ≤ n) (h1 : n ≤ 9223372036854775807) (w : World) (htab : Lib.TabIs Tryz.prog w "internal/strconv.uint64pow10" .u64 Lib.pow10Tab) :
    Calls Tryz.prog 131 #[.int .i64 n] w fun e w' => e = .returned (.string ⟨(Lib.itoa n).toArray⟩) ∧ ∃ k os, w' = grow (w.drewN k) os := Any.strconv_Itoa Tryz.laysM171 n h0 h1 w htab
def Tryz.lays189_ren : Go.Shelf.Ren := ⟨fun | 189 => 96 | 125 => 140 | 257 => 139 | 128 => 172 | 129 => 173 | 294 => 163 | 295 => 164 | 296 => 165 | 297 => 166 | 298 => 167 | 299 => 168 | 216 => 169 | 300 => 170 | 301 => 171 | 328 => 188 | 329 => 189 | 330 => 190 | 331 => 191 | 332 => 192 | 215 => 193 | 343 => 207 | n => n, fun | 28 => 22 | 3 => 3 | 46 => 162 | 0 => 0 | 51 => 184 | 53 => 186 | 4 => 4 | 183 => 177 | 182 => 176 | 131 => 93 | 5 => 5 | 9 => 9 | 218 => 194 | 222 => 198 | 228 => 209 | 229 => 210 | n => n, fun | n => n⟩
theorem Tryz.lays189 : Go.Proofs.Lays.n189 Tryz.prog Tryz.lays189_ren := {
  mixed := by kernel_rfl
  f125 := Tryz.func140.trans (congrArg some (by kernel_rfl))
  f128 := Tryz.func172.trans (congrArg some (by kernel_rfl))
  f129 := Tryz.func173.trans (congrArg some (by kernel_rfl))
  f189 := Tryz.func96.trans (congrArg some (by kernel_rfl))
  f215 := Tryz.func193.trans (congrArg some (by kernel_rfl))
  f216 := Tryz.func169.trans (congrArg some (by kernel_rfl))
  f257 := Tryz.func139.trans (congrArg some (by kernel_rfl))
  f294 := Tryz.func163.trans (congrArg some (by kernel_rfl))
  f295 := Tryz.func164.trans (congrArg some (by kernel_rfl))
  f296 := Tryz.func165.trans (congrArg some (by kernel_rfl))
  f297 := Tryz.func166.trans (congrArg some (by kernel_rfl))
  f298 := Tryz.func167.trans (congrArg some (by kernel_rfl))
  f299 := Tryz.func168.trans (congrArg some (by kernel_rfl))
  f300 := Tryz.func170.trans (congrArg some (by kernel_rfl))
  f301 := Tryz.func171.trans (congrArg some (by kernel_rfl))
  f328 := Tryz.func188.trans (congrArg some (by kernel_rfl))
  f329 := Tryz.func189.trans (congrArg some (by kernel_rfl))
  f330 := Tryz.func190.trans (congrArg some (by kernel_rfl))
  f331 := Tryz.func191.trans (congrArg some (by kernel_rfl))
  f332 := Tryz.func192.trans (congrArg some (by kernel_rfl))
  f343 := Tryz.func207.trans (congrArg some (by kernel_rfl))
  t0 := Tryz.underlying0
  a0 := Tryz.isAgg0
  z0 := Tryz.sizeOf0
  v0 := Tryz.zeroValue0
  t3 := Tryz.underlying3
  a3 := Tryz.isAgg3
  z3 := Tryz.sizeOf3
  v3 := Tryz.zeroValue3
  t4 := Tryz.underlying4
  a4 := Tryz.isAgg4
  z4 := Tryz.sizeOf4
  v4 := Tryz.zeroValue4
  t5 := Tryz.underlying5
  a5 := Tryz.isAgg5
  z5 := Tryz.sizeOf5
  v5 := Tryz.zeroValue5
  t9 := Tryz.underlying9
  a9 := Tryz.isAgg9
  z9 := Tryz.sizeOf9
  v9 := Tryz.zeroValue9
  t28 := Tryz.underlying22
  a28 := Tryz.isAgg22
  z28 := Tryz.sizeOf22
  v28 := Tryz.zeroValue22
  t46 := Tryz.underlying162
  a46 := Tryz.isAgg162
  z46 := Tryz.sizeOf162
  v46 := Tryz.zeroValue162
  t51 := Tryz.underlying184
  a51 := Tryz.isAgg184
  z51 := Tryz.sizeOf184
  v51 := Tryz.zeroValue184
  t53 := Tryz.underlying186
  a53 := Tryz.isAgg186
  z53 := Tryz.sizeOf186
  v53 := Tryz.zeroValue186
  t131 := Tryz.underlying93
  a131 := Tryz.isAgg93
  z131 := Tryz.sizeOf93
  v131 := Tryz.zeroValue93
  t182 := Tryz.underlying176
  a182 := Tryz.isAgg176
  z182 := Tryz.sizeOf176
  v182 := Tryz.zeroValue176
  t183 := Tryz.underlying177
  a183 := Tryz.isAgg177
  z183 := Tryz.sizeOf177
  v183 := Tryz.zeroValue177
  t218 := Tryz.underlying194
  a218 := Tryz.isAgg194
  z218 := Tryz.sizeOf194
  v218 := Tryz.zeroValue194
  t222 := Tryz.underlying198
  a222 := Tryz.isAgg198
  z222 := Tryz.sizeOf198
  v222 := Tryz.zeroValue198
  t228 := Tryz.underlying209
  a228 := Tryz.isAgg209
  z228 := Tryz.sizeOf209
  v228 := Tryz.zeroValue209
  t229 := Tryz.underlying210
  a229 := Tryz.isAgg210
  z229 := Tryz.sizeOf210
  v229 := Tryz.zeroValue210 }
open Go.Sort Go.RowKit in
theorem Tryz.slices_Sort_int (blk off cap : Nat) (zs : List Int) (w : World) (hH : Holds (Value.int .i64) w blk off zs.toArray) (hblk : blk < w.heap.size) (hsz : zs.length < 4611686018427387904) :
    Calls Tryz.prog 96 #[.slice (some ⟨blk, off, none⟩) zs.length cap] w fun e w' =>
      e = .returned (.tuple #[]) ∧ ∃ n os, w' = grow (putRow (Value.int .i64) (Sort.ahead w n) blk off (zs.mergeSort fun x y => decide (x ≤ y)).toArray) os := Any.slices_Sort_int Tryz.lays189 blk off cap zs w hH hblk hsz
open Go.RowKit Go.Sort in
theorem Tryz.slices_Sort_int_none (p : Option Addr) (cap : Nat) (w : World) :
    Calls Tryz.prog 96 #[.slice p 0 cap] w fun e w' => e = .returned (.tuple #[]) ∧ w' = w := Any.slices_Sort_int_none Tryz.lays189 p cap w
end Go.Proofs
