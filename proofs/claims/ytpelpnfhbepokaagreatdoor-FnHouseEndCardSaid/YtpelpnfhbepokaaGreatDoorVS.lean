/-
  The contracts of the library functions that this seat calls, laid by the kit's tool at this seat's numbers. No condition of ours.
-/
import Derived.Shelf.Strings.Builder1
import Derived.Shelf.Small.Strs
import Derived.Shelf.Strings.BuilderF
import Derived.Shelf.Strings.BuilderK
import Derived.Shelf.Strconv.Itoa0
import Derived.Shelf.Strconv.Itoa1
import Derived.Shelf.LaysM
import Derived.Shelf.Strconv.Itoa2
import Derived.Shelf.Strconv.Itoa3
import Derived.Shelf.Strings.Search1
import Derived.Shelf.Strings.Search2
import Derived.Shelf.Strings.Search3
import Derived.Shelf.Strings.Cut
import Derived.Shelf.Strings.Count
import Derived.Shelf.Strings.Shaped
import Derived.Shelf.Sort.Plain
import Derived.Shelf.Strings.Split
import Derived.Shelf.Strings.SplitShaped
import Derived.Shelf.Unicode.DecodeSlow
import Derived.Shelf.Slices.In.SortNone
import Derived.Test.YtpelpnfhbepokaaGreatDoorProg
/- @packed -/
namespace Go.Proofs
open Go.Shelf
def Tryz.lays169_ren : Go.Shelf.Ren := ⟨fun | 169 => 95 | n => n, fun | 70 => 123 | 9 => 9 | 0 => 0 | 72 => 125 | 37 => 22 | 127 => 172 | 3 => 3 | 5 => 5 | n => n, fun | n => n⟩
theorem Tryz.lays169 : Go.Proofs.Lays.n169 Tryz.prog Tryz.lays169_ren := {
  mixed := by kernel_rfl
  f169 := Tryz.func95.trans (congrArg some (by kernel_rfl))
  t0 := Tryz.underlying0
  a0 := Tryz.isAgg0
  z0 := Tryz.sizeOf0
  v0 := Tryz.zeroValue0
  t3 := Tryz.underlying3
  a3 := Tryz.isAgg3
  z3 := Tryz.sizeOf3
  v3 := Tryz.zeroValue3
  t9 := Tryz.underlying9
  a9 := Tryz.isAgg9
  z9 := Tryz.sizeOf9
  v9 := Tryz.zeroValue9
  t37 := Tryz.underlying22
  a37 := Tryz.isAgg22
  z37 := Tryz.sizeOf22
  v37 := Tryz.zeroValue22
  t70 := Tryz.underlying123
  a70 := Tryz.isAgg123
  z70 := Tryz.sizeOf123
  v70 := Tryz.zeroValue123
  t72 := Tryz.underlying125
  a72 := Tryz.isAgg125
  z72 := Tryz.sizeOf125
  v72 := Tryz.zeroValue125
  t127 := Tryz.underlying172
  a127 := Tryz.isAgg172
  z127 := Tryz.sizeOf172
  v127 := Tryz.zeroValue172 }
theorem Tryz.Builder_Extra_169 : Builder.Extra Tryz.prog Tryz.lays169_ren := {
  sizeBuilder := by kernel_rfl
  liesBuilder := by kernel_rfl
  t5 := Tryz.underlying5
  a5 := Tryz.isAgg5
  z5 := Tryz.sizeOf5
  v5 := Tryz.zeroValue5
  infoByte := by kernel_rfl
  cellsByte := by kernel_rfl
  sizeByte := by kernel_rfl
  neB5 := by decide }
open Go.RowKit in
theorem Tryz.Builder_String_any_f (B b : Nat) (l : List UInt8) (w : World) (h : Lib.IsBuilderF 125 5 B b (Lib.byteCells l) w) (hBw : B ≤ w.heap.size) :
    Calls Tryz.prog 95 #[.pointer (some ⟨b, 0, none⟩)] w fun e w' => e = .returned (.string ⟨l.toArray⟩) ∧ (Lib.IsBuilderF 125 5 B b (Lib.byteCells l) w' ∧ Below B w w') := Any.Builder_String_any_f Tryz.lays169 Tryz.Builder_Extra_169 B b l w h hBw
def Tryz.laysM171_ren : Go.Shelf.Ren := ⟨fun | 171 => 94 | 243 => 141 | 246 => 185 | 283 => 209 | 284 => 210 | 285 => 211 | 286 => 212 | 129 => 163 | 317 => 230 | 318 => 231 | 319 => 232 | 320 => 233 | 337 => 239 | 338 => 240 | n => n, fun | 3 => 3 | 9 => 9 | 2 => 2 | 4 => 4 | 171 => 215 | 0 => 0 | 53 => 188 | 37 => 22 | 5 => 5 | 173 => 217 | 212 => 229 | 51 => 186 | 20 => 20 | 213 => 230 | 46 => 145 | 232 => 236 | 233 => 237 | n => n, fun | 17 => 1 | 18 => 2 | 19 => 3 | n => n⟩
theorem Tryz.laysM171 : Go.Proofs.LaysM.n171 Tryz.prog Tryz.laysM171_ren := {
  mixed := by kernel_rfl
  f129 := Tryz.func163.trans (congrArg some (by kernel_rfl))
  f171 := Tryz.func94.trans (congrArg some (by kernel_rfl))
  f243 := Tryz.func141.trans (congrArg some (by kernel_rfl))
  f246 := Tryz.func185.trans (congrArg some (by kernel_rfl))
  f283 := Tryz.func209.trans (congrArg some (by kernel_rfl))
  f284 := Tryz.func210.trans (congrArg some (by kernel_rfl))
  f285 := Tryz.func211.trans (congrArg some (by kernel_rfl))
  f286 := Tryz.func212.trans (congrArg some (by kernel_rfl))
  f317 := Tryz.func230.trans (congrArg some (by kernel_rfl))
  f318 := Tryz.func231.trans (congrArg some (by kernel_rfl))
  f319 := Tryz.func232.trans (congrArg some (by kernel_rfl))
  f320 := Tryz.func233.trans (congrArg some (by kernel_rfl))
  f337 := Tryz.func239.trans (congrArg some (by kernel_rfl))
  f338 := Tryz.func240.trans (congrArg some (by kernel_rfl))
  t0 := Tryz.underlying0
  a0 := Tryz.isAgg0
  z0 := Tryz.sizeOf0
  v0 := Tryz.zeroValue0
  t2 := Tryz.underlying2
  a2 := Tryz.isAgg2
  z2 := Tryz.sizeOf2
  v2 := Tryz.zeroValue2
  t3 := Tryz.underlying3
  a3 := Tryz.isAgg3
  z3 := Tryz.sizeOf3
  v3 := Tryz.zeroValue3
  t4 := Tryz.underlying4
  a4 := Tryz.isAgg4
  z4 := Tryz.sizeOf4
  v4 := Tryz.zeroValue4
  t5 := Tryz.underlying5
  a5 := Tryz.isAgg5
  z5 := Tryz.sizeOf5
  v5 := Tryz.zeroValue5
  t9 := Tryz.underlying9
  a9 := Tryz.isAgg9
  z9 := Tryz.sizeOf9
  v9 := Tryz.zeroValue9
  t20 := Tryz.underlying20
  a20 := Tryz.isAgg20
  z20 := Tryz.sizeOf20
  v20 := Tryz.zeroValue20
  t37 := Tryz.underlying22
  a37 := Tryz.isAgg22
  z37 := Tryz.sizeOf22
  v37 := Tryz.zeroValue22
  t46 := Tryz.underlying145
  a46 := Tryz.isAgg145
  z46 := Tryz.sizeOf145
  v46 := Tryz.zeroValue145
  t51 := Tryz.underlying186
  a51 := Tryz.isAgg186
  z51 := Tryz.sizeOf186
  v51 := Tryz.zeroValue186
  t53 := Tryz.underlying188
  a53 := Tryz.isAgg188
  z53 := Tryz.sizeOf188
  v53 := Tryz.zeroValue188
  t171 := Tryz.underlying215
  a171 := Tryz.isAgg215
  z171 := Tryz.sizeOf215
  v171 := Tryz.zeroValue215
  t173 := Tryz.underlying217
  a173 := Tryz.isAgg217
  z173 := Tryz.sizeOf217
  v173 := Tryz.zeroValue217
  t212 := Tryz.underlying229
  a212 := Tryz.isAgg229
  z212 := Tryz.sizeOf229
  v212 := Tryz.zeroValue229
  t213 := Tryz.underlying230
  a213 := Tryz.isAgg230
  z213 := Tryz.sizeOf230
  t232 := Tryz.underlying236
  a232 := Tryz.isAgg236
  z232 := Tryz.sizeOf236
  v232 := Tryz.zeroValue236
  t233 := Tryz.underlying237
  a233 := Tryz.isAgg237
  z233 := Tryz.sizeOf237
  v233 := Tryz.zeroValue237
  g17 := by kernel_rfl
  g18 := by kernel_rfl
  g19 := by kernel_rfl
  i0 := by kernel_rfl
  i2 := by kernel_rfl
  i3 := by kernel_rfl
  i4 := by kernel_rfl
  i5 := by kernel_rfl
  i9 := by kernel_rfl
  i20 := by kernel_rfl
  i37 := by kernel_rfl
  i46 := by kernel_rfl
  i51 := by kernel_rfl
  i53 := by kernel_rfl
  i171 := by kernel_rfl
  i173 := by kernel_rfl
  i212 := by kernel_rfl
  i232 := by kernel_rfl
  i233 := by kernel_rfl
  m17 := by kernel_rfl
  m18 := by kernel_rfl
  m19 := by kernel_rfl }
open Go.RowKit Go.Sort Go.Lib in
theorem Tryz.strconv_Itoa (n : Int) (h0 : -9223372036854775808 ≤ n) (h1 : n ≤ 9223372036854775807) (w : World) (htab : Lib.TabIs Tryz.prog w "internal/strconv.uint64pow10" .u64 Lib.pow10Tab) :
    Calls Tryz.prog 94 #[.int .i64 n] w fun e w' => e = .returned (.string ⟨(Lib.itoa n).toArray⟩) ∧ ∃ k os, w' = grow (w.drewN k) os := Any.strconv_Itoa Tryz.laysM171 n h0 h1 w htab
def Tryz.laysM145_ren : Go.Shelf.Ren := ⟨fun | 145 => 124 | 220 => 174 | 219 => 201 | 217 => 173 | 225 => 221 | 224 => 222 | 267 => 223 | 266 => 200 | 314 => 235 | n => n, fun | 9 => 9 | 4 => 4 | 59 => 157 | 3 => 3 | 5 => 5 | 46 => 145 | 146 => 232 | 51 => 186 | n => n, fun | 1 => 0 | n => n⟩
theorem Tryz.laysM145 : Go.Proofs.LaysM.n145 Tryz.prog Tryz.laysM145_ren := {
  mixed := by kernel_rfl
  f145 := Tryz.func124.trans (congrArg some (by kernel_rfl))
  f217 := Tryz.func173.trans (congrArg some (by kernel_rfl))
  f219 := Tryz.func201.trans (congrArg some (by kernel_rfl))
  f220 := Tryz.func174.trans (congrArg some (by kernel_rfl))
  f224 := Tryz.func222.trans (congrArg some (by kernel_rfl))
  f225 := Tryz.func221.trans (congrArg some (by kernel_rfl))
  f266 := Tryz.func200.trans (congrArg some (by kernel_rfl))
  f267 := Tryz.func223.trans (congrArg some (by kernel_rfl))
  f314 := Tryz.func235.trans (congrArg some (by kernel_rfl))
  t3 := Tryz.underlying3
  a3 := Tryz.isAgg3
  z3 := Tryz.sizeOf3
  v3 := Tryz.zeroValue3
  t4 := Tryz.underlying4
  a4 := Tryz.isAgg4
  z4 := Tryz.sizeOf4
  v4 := Tryz.zeroValue4
  t5 := Tryz.underlying5
  a5 := Tryz.isAgg5
  z5 := Tryz.sizeOf5
  v5 := Tryz.zeroValue5
  t9 := Tryz.underlying9
  a9 := Tryz.isAgg9
  z9 := Tryz.sizeOf9
  v9 := Tryz.zeroValue9
  t46 := Tryz.underlying145
  a46 := Tryz.isAgg145
  z46 := Tryz.sizeOf145
  v46 := Tryz.zeroValue145
  t51 := Tryz.underlying186
  a51 := Tryz.isAgg186
  z51 := Tryz.sizeOf186
  v51 := Tryz.zeroValue186
  t59 := Tryz.underlying157
  a59 := Tryz.isAgg157
  z59 := Tryz.sizeOf157
  v59 := Tryz.zeroValue157
  t146 := Tryz.underlying232
  a146 := Tryz.isAgg232
  z146 := Tryz.sizeOf232
  v146 := Tryz.zeroValue232
  g1 := by kernel_rfl
  i3 := by kernel_rfl
  i4 := by kernel_rfl
  i5 := by kernel_rfl
  i9 := by kernel_rfl
  i46 := by kernel_rfl
  i51 := by kernel_rfl
  i59 := by kernel_rfl
  i146 := by kernel_rfl
  m1 := by kernel_rfl
  s1_3 := fun w h => Go.Proofs.cell_of_shapedOpen_int (zero := #[.int .i64 0]) (t := 3) h (of_decide_eq_true (by kernel_rfl)) (by kernel_rfl) rfl (by kernel_rfl) (by kernel_rfl) Tryz.underlying3 }
def Tryz.lays189_ren : Go.Shelf.Ren := ⟨fun | 189 => 58 | 125 => 111 | 257 => 110 | 128 => 162 | 129 => 163 | 294 => 153 | 295 => 154 | 296 => 155 | 297 => 156 | 298 => 157 | 299 => 158 | 216 => 159 | 300 => 160 | 301 => 161 | 328 => 193 | 329 => 194 | 330 => 195 | 331 => 196 | 332 => 197 | 215 => 198 | 343 => 220 | n => n, fun | 28 => 23 | 3 => 3 | 46 => 145 | 0 => 0 | 51 => 186 | 53 => 188 | 4 => 4 | 183 => 179 | 182 => 178 | 131 => 82 | 5 => 5 | 9 => 9 | 218 => 204 | 222 => 208 | 228 => 223 | 229 => 224 | n => n, fun | n => n⟩
theorem Tryz.lays189 : Go.Proofs.Lays.n189 Tryz.prog Tryz.lays189_ren := {
  mixed := by kernel_rfl
  f125 := Tryz.func111.trans (congrArg some (by kernel_rfl))
  f128 := Tryz.func162.trans (congrArg some (by kernel_rfl))
  f129 := Tryz.func163.trans (congrArg some (by kernel_rfl))
  f189 := Tryz.func58.trans (congrArg some (by kernel_rfl))
  f215 := Tryz.func198.trans (congrArg some (by kernel_rfl))
  f216 := Tryz.func159.trans (congrArg some (by kernel_rfl))
  f257 := Tryz.func110.trans (congrArg some (by kernel_rfl))
  f294 := Tryz.func153.trans (congrArg some (by kernel_rfl))
  f295 := Tryz.func154.trans (congrArg some (by kernel_rfl))
  f296 := Tryz.func155.trans (congrArg some (by kernel_rfl))
  f297 := Tryz.func156.trans (congrArg some (by kernel_rfl))
  f298 := Tryz.func157.trans (congrArg some (by kernel_rfl))
  f299 := Tryz.func158.trans (congrArg some (by kernel_rfl))
  f300 := Tryz.func160.trans (congrArg some (by kernel_rfl))
  f301 := Tryz.func161.trans (congrArg some (by kernel_rfl))
  f328 := Tryz.func193.trans (congrArg some (by kernel_rfl))
  f329 := Tryz.func194.trans (congrArg some (by kernel_rfl))
  f330 := Tryz.func195.trans (congrArg some (by kernel_rfl))
  f331 := Tryz.func196.trans (congrArg some (by kernel_rfl))
  f332 := Tryz.func197.trans (congrArg some (by kernel_rfl))
  f343 := Tryz.func220.trans (congrArg some (by kernel_rfl))
  t0 := Tryz.underlying0
  a0 := Tryz.isAgg0
  z0 := Tryz.sizeOf0
  v0 := Tryz.zeroValue0
  t3 := Tryz.underlying3
  a3 := Tryz.isAgg3
  z3 := Tryz.sizeOf3
  v3 := Tryz.zeroValue3
  t4 := Tryz.underlying4
  a4 := Tryz.isAgg4
  z4 := Tryz.sizeOf4
  v4 := Tryz.zeroValue4
  t5 := Tryz.underlying5
  a5 := Tryz.isAgg5
  z5 := Tryz.sizeOf5
  v5 := Tryz.zeroValue5
  t9 := Tryz.underlying9
  a9 := Tryz.isAgg9
  z9 := Tryz.sizeOf9
  v9 := Tryz.zeroValue9
  t28 := Tryz.underlying23
  a28 := Tryz.isAgg23
  z28 := Tryz.sizeOf23
  v28 := Tryz.zeroValue23
  t46 := Tryz.underlying145
  a46 := Tryz.isAgg145
  z46 := Tryz.sizeOf145
  v46 := Tryz.zeroValue145
  t51 := Tryz.underlying186
  a51 := Tryz.isAgg186
  z51 := Tryz.sizeOf186
  v51 := Tryz.zeroValue186
  t53 := Tryz.underlying188
  a53 := Tryz.isAgg188
  z53 := Tryz.sizeOf188
  v53 := Tryz.zeroValue188
  t131 := Tryz.underlying82
  a131 := Tryz.isAgg82
  z131 := Tryz.sizeOf82
  v131 := Tryz.zeroValue82
  t182 := Tryz.underlying178
  a182 := Tryz.isAgg178
  z182 := Tryz.sizeOf178
  v182 := Tryz.zeroValue178
  t183 := Tryz.underlying179
  a183 := Tryz.isAgg179
  z183 := Tryz.sizeOf179
  v183 := Tryz.zeroValue179
  t218 := Tryz.underlying204
  a218 := Tryz.isAgg204
  z218 := Tryz.sizeOf204
  v218 := Tryz.zeroValue204
  t222 := Tryz.underlying208
  a222 := Tryz.isAgg208
  z222 := Tryz.sizeOf208
  v222 := Tryz.zeroValue208
  t228 := Tryz.underlying223
  a228 := Tryz.isAgg223
  z228 := Tryz.sizeOf223
  v228 := Tryz.zeroValue223
  t229 := Tryz.underlying224
  a229 := Tryz.isAgg224
  z229 := Tryz.sizeOf224
  v229 := Tryz.zeroValue224 }
open Go.Sort Go.RowKit in
theorem Tryz.slices_Sort_int (blk off cap : Nat) (zs : List Int) (w : World) (hH : Holds (Value.int .i64) w blk off zs.toArray) (hblk : blk < w.heap.size) (hsz : zs.length < 4611686018427387904) :
    Calls Tryz.prog 58 #[.slice (some ⟨blk, off, none⟩) zs.length cap] w fun e w' =>
      e = .returned (.tuple #[]) ∧ ∃ n os, w' = grow (putRow (Value.int .i64) (Sort.ahead w n) blk off (zs.mergeSort fun x y => decide (x ≤ y)).toArray) os := Any.slices_Sort_int Tryz.lays189 blk off cap zs w hH hblk hsz
open Go.RowKit Go.Sort in
theorem Tryz.slices_Sort_int_none (p : Option Addr) (cap : Nat) (w : World) :
    Calls Tryz.prog 58 #[.slice p 0 cap] w fun e w' => e = .returned (.tuple #[]) ∧ w' = w := Any.slices_Sort_int_none Tryz.lays189 p cap w
end Go.Proofs
