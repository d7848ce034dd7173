/-
  The contracts of the library functions that this seat calls, laid by the kit's tool at this seat's numbers. No condition of ours.
-/
import Derived.Shelf.Strings.Builder1
import Derived.Shelf.Strings.Builder2
import Derived.Shelf.Strings.OnBuilder
import Derived.Shelf.Strings.BuilderF
import Derived.Shelf.Strings.BuilderK
import Derived.Shelf.Strconv.Itoa0
import Derived.Shelf.Strconv.Itoa1
import Derived.Shelf.LaysM
import Derived.Shelf.Strconv.Itoa2
import Derived.Shelf.Strconv.Itoa3
import Derived.Shelf.Strings.Search1
import Derived.Shelf.Strings.Search2
import Derived.Shelf.Strings.Search3
import Derived.Shelf.Strings.Cut
import Derived.Shelf.Strings.Count
import Derived.Shelf.Strings.Shaped
import Derived.Shelf.Sort.Plain
import Derived.Shelf.Strings.Split
import Derived.Shelf.Strings.SplitShaped
import Derived.Shelf.Unicode.DecodeSlow
import Derived.Shelf.Slices.In.SortNone
import Derived.Test.YthfmmibomhhmpaaGreatDoorProg
/- @packed -/
namespace Go.Proofs
open Go.Shelf
def Tryz.lays169_ren : Go.Shelf.Ren := ⟨fun | 169 => 57 | n => n, fun | 70 => 81 | 9 => 9 | 0 => 0 | 72 => 83 | 37 => 22 | 127 => 123 | 3 => 3 | 5 => 5 | n => n, fun | n => n⟩
theorem Tryz.lays169 : Go.Proofs.Lays.n169 Tryz.prog Tryz.lays169_ren := {
  mixed := by kernel_rfl
  f169 := Tryz.func57.trans (congrArg some (by kernel_rfl))
  t0 := Tryz.underlying0
  a0 := Tryz.isAgg0
  z0 := Tryz.sizeOf0
  v0 := Tryz.zeroValue0
  t3 := Tryz.underlying3
  a3 := Tryz.isAgg3
  z3 := Tryz.sizeOf3
  v3 := Tryz.zeroValue3
  t9 := Tryz.underlying9
  a9 := Tryz.isAgg9
  z9 := Tryz.sizeOf9
  v9 := Tryz.zeroValue9
  t37 := Tryz.underlying22
  a37 := Tryz.isAgg22
  z37 := Tryz.sizeOf22
  v37 := Tryz.zeroValue22
  t70 := Tryz.underlying81
  a70 := Tryz.isAgg81
  z70 := Tryz.sizeOf81
  v70 := Tryz.zeroValue81
  t72 := Tryz.underlying83
  a72 := Tryz.isAgg83
  z72 := Tryz.sizeOf83
  v72 := Tryz.zeroValue83
  t127 := Tryz.underlying123
  a127 := Tryz.isAgg123
  z127 := Tryz.sizeOf123
  v127 := Tryz.zeroValue123 }
theorem Tryz.Builder_Extra_169 : Builder.Extra Tryz.prog Tryz.lays169_ren := {
  sizeBuilder := by kernel_rfl
  liesBuilder := by kernel_rfl
  t5 := Tryz.underlying5
  a5 := Tryz.isAgg5
  z5 := Tryz.sizeOf5
  v5 := Tryz.zeroValue5
  infoByte := by kernel_rfl
  cellsByte := by kernel_rfl
  sizeByte := by kernel_rfl
  neB5 := by decide }
def Tryz.lays156_ren : Go.Shelf.Ren := ⟨fun | 156 => 106 | 165 => 144 | 166 => 56 | 169 => 57 | 240 => 94 | 241 => 178 | 276 => 126 | 277 => 204 | n => n, fun | 31 => 31 | 9 => 9 | 3 => 3 | 4 => 4 | 0 => 0 | 20 => 20 | 72 => 83 | 76 => 87 | 70 => 81 | 37 => 22 | 75 => 85 | 127 => 123 | 164 => 147 | 5 => 5 | 80 => 89 | n => n, fun | n => n⟩
theorem Tryz.lays156 : Go.Proofs.Lays.n156 Tryz.prog Tryz.lays156_ren := {
  mixed := by kernel_rfl
  f156 := Tryz.func106.trans (congrArg some (by kernel_rfl))
  f165 := Tryz.func144.trans (congrArg some (by kernel_rfl))
  f166 := Tryz.func56.trans (congrArg some (by kernel_rfl))
  f169 := Tryz.func57.trans (congrArg some (by kernel_rfl))
  f240 := Tryz.func94.trans (congrArg some (by kernel_rfl))
  f241 := Tryz.func178.trans (congrArg some (by kernel_rfl))
  f276 := Tryz.func126.trans (congrArg some (by kernel_rfl))
  f277 := Tryz.func204.trans (congrArg some (by kernel_rfl))
  t0 := Tryz.underlying0
  a0 := Tryz.isAgg0
  z0 := Tryz.sizeOf0
  v0 := Tryz.zeroValue0
  t3 := Tryz.underlying3
  a3 := Tryz.isAgg3
  z3 := Tryz.sizeOf3
  v3 := Tryz.zeroValue3
  t4 := Tryz.underlying4
  a4 := Tryz.isAgg4
  z4 := Tryz.sizeOf4
  v4 := Tryz.zeroValue4
  t9 := Tryz.underlying9
  a9 := Tryz.isAgg9
  z9 := Tryz.sizeOf9
  v9 := Tryz.zeroValue9
  t20 := Tryz.underlying20
  a20 := Tryz.isAgg20
  z20 := Tryz.sizeOf20
  v20 := Tryz.zeroValue20
  t31 := Tryz.underlying31
  a31 := Tryz.isAgg31
  z31 := Tryz.sizeOf31
  v31 := Tryz.zeroValue31
  t37 := Tryz.underlying22
  a37 := Tryz.isAgg22
  z37 := Tryz.sizeOf22
  v37 := Tryz.zeroValue22
  t70 := Tryz.underlying81
  a70 := Tryz.isAgg81
  z70 := Tryz.sizeOf81
  v70 := Tryz.zeroValue81
  t72 := Tryz.underlying83
  a72 := Tryz.isAgg83
  z72 := Tryz.sizeOf83
  v72 := Tryz.zeroValue83
  t75 := Tryz.underlying85
  a75 := Tryz.isAgg85
  z75 := Tryz.sizeOf85
  v75 := Tryz.zeroValue85
  t76 := Tryz.underlying87
  a76 := Tryz.isAgg87
  z76 := Tryz.sizeOf87
  v76 := Tryz.zeroValue87
  t127 := Tryz.underlying123
  a127 := Tryz.isAgg123
  z127 := Tryz.sizeOf123
  v127 := Tryz.zeroValue123
  t164 := Tryz.underlying147
  a164 := Tryz.isAgg147
  z164 := Tryz.sizeOf147
  v164 := Tryz.zeroValue147 }
theorem Tryz.Builder_Extra_156 : Builder.Extra Tryz.prog Tryz.lays156_ren := {
  sizeBuilder := by kernel_rfl
  liesBuilder := by kernel_rfl
  t5 := Tryz.underlying5
  a5 := Tryz.isAgg5
  z5 := Tryz.sizeOf5
  v5 := Tryz.zeroValue5
  infoByte := by kernel_rfl
  cellsByte := by kernel_rfl
  sizeByte := by kernel_rfl
  neB5 := by decide }
open Go.RowKit in
theorem Tryz.strings_Join (bk o c : Nat) (xs : List ByteArray) (sep : ByteArray) (w : World) (hcells : ∀ (j : Nat) x, xs[j]? = some x → w.cell? ⟨bk, o + j, none⟩ = some (.string x)) (hbk : bk < w.heap.size) (hN : xs.length ≤ 140737488355328) (hcap : xs.length ≤ c) (hlen : (Lib.join (xs.map (·.data.toList)) sep.data.toList).length ≤ 140737488355328) :
    Calls Tryz.prog 106 #[.slice (some ⟨bk, o, none⟩) xs.length c, .string sep] w fun e w' => e = .returned (.string ⟨(Lib.join (xs.map (·.data.toList)) sep.data.toList).toArray⟩) ∧ Below w.heap.size w w' := Any.strings_Join Tryz.lays156 Tryz.Builder_Extra_156 bk o c xs sep w hcells hbk hN hcap hlen
open Go.RowKit in
theorem Tryz.Builder_String_any_f (B b : Nat) (l : List UInt8) (w : World) (h : Lib.IsBuilderF 83 5 B b (Lib.byteCells l) w) (hBw : B ≤ w.heap.size) :
    Calls Tryz.prog 57 #[.pointer (some ⟨b, 0, none⟩)] w fun e w' => e = .returned (.string ⟨l.toArray⟩) ∧ (Lib.IsBuilderF 83 5 B b (Lib.byteCells l) w' ∧ Below B w w') := Any.Builder_String_any_f Tryz.lays169 Tryz.Builder_Extra_169 B b l w h hBw
def Tryz.laysM171_ren : Go.Shelf.Ren := ⟨fun | 171 => 32 | 243 => 65 | 246 => 103 | 283 => 140 | 284 => 141 | 285 => 142 | 286 => 143 | 129 => 162 | 317 => 174 | 318 => 175 | 319 => 176 | 320 => 177 | 337 => 202 | 338 => 203 | n => n, fun | 3 => 3 | 9 => 9 | 2 => 2 | 4 => 4 | 171 => 158 | 0 => 0 | 53 => 159 | 37 => 22 | 5 => 5 | 173 => 162 | 212 => 185 | 51 => 179 | 20 => 20 | 213 => 186 | 46 => 144 | 232 => 213 | 233 => 214 | n => n, fun | 17 => 0 | 18 => 4 | 19 => 5 | n => n⟩
theorem Tryz.laysM171 : Go.Proofs.LaysM.n171 Tryz.prog Tryz.laysM171_ren := {
  mixed := by kernel_rfl
  f129 := Tryz.func162.trans (congrArg some (by kernel_rfl))
  f171 := Tryz.func32.trans (congrArg some (by kernel_rfl))
  f243 := Tryz.func65.trans (congrArg some (by kernel_rfl))
  f246 := Tryz.func103.trans (congrArg some (by kernel_rfl))
  f283 := Tryz.func140.trans (congrArg some (by kernel_rfl))
  f284 := Tryz.func141.trans (congrArg some (by kernel_rfl))
  f285 := Tryz.func142.trans (congrArg some (by kernel_rfl))
  f286 := Tryz.func143.trans (congrArg some (by kernel_rfl))
  f317 := Tryz.func174.trans (congrArg some (by kernel_rfl))
  f318 := Tryz.func175.trans (congrArg some (by kernel_rfl))
  f319 := Tryz.func176.trans (congrArg some (by kernel_rfl))
  f320 := Tryz.func177.trans (congrArg some (by kernel_rfl))
  f337 := Tryz.func202.trans (congrArg some (by kernel_rfl))
  f338 := Tryz.func203.trans (congrArg some (by kernel_rfl))
  t0 := Tryz.underlying0
  a0 := Tryz.isAgg0
  z0 := Tryz.sizeOf0
  v0 := Tryz.zeroValue0
  t2 := Tryz.underlying2
  a2 := Tryz.isAgg2
  z2 := Tryz.sizeOf2
  v2 := Tryz.zeroValue2
  t3 := Tryz.underlying3
  a3 := Tryz.isAgg3
  z3 := Tryz.sizeOf3
  v3 := Tryz.zeroValue3
  t4 := Tryz.underlying4
  a4 := Tryz.isAgg4
  z4 := Tryz.sizeOf4
  v4 := Tryz.zeroValue4
  t5 := Tryz.underlying5
  a5 := Tryz.isAgg5
  z5 := Tryz.sizeOf5
  v5 := Tryz.zeroValue5
  t9 := Tryz.underlying9
  a9 := Tryz.isAgg9
  z9 := Tryz.sizeOf9
  v9 := Tryz.zeroValue9
  t20 := Tryz.underlying20
  a20 := Tryz.isAgg20
  z20 := Tryz.sizeOf20
  v20 := Tryz.zeroValue20
  t37 := Tryz.underlying22
  a37 := Tryz.isAgg22
  z37 := Tryz.sizeOf22
  v37 := Tryz.zeroValue22
  t46 := Tryz.underlying144
  a46 := Tryz.isAgg144
  z46 := Tryz.sizeOf144
  v46 := Tryz.zeroValue144
  t51 := Tryz.underlying179
  a51 := Tryz.isAgg179
  z51 := Tryz.sizeOf179
  v51 := Tryz.zeroValue179
  t53 := Tryz.underlying159
  a53 := Tryz.isAgg159
  z53 := Tryz.sizeOf159
  v53 := Tryz.zeroValue159
  t171 := Tryz.underlying158
  a171 := Tryz.isAgg158
  z171 := Tryz.sizeOf158
  v171 := Tryz.zeroValue158
  t173 := Tryz.underlying162
  a173 := Tryz.isAgg162
  z173 := Tryz.sizeOf162
  v173 := Tryz.zeroValue162
  t212 := Tryz.underlying185
  a212 := Tryz.isAgg185
  z212 := Tryz.sizeOf185
  v212 := Tryz.zeroValue185
  t213 := Tryz.underlying186
  a213 := Tryz.isAgg186
  z213 := Tryz.sizeOf186
  t232 := Tryz.underlying213
  a232 := Tryz.isAgg213
  z232 := Tryz.sizeOf213
  v232 := Tryz.zeroValue213
  t233 := Tryz.underlying214
  a233 := Tryz.isAgg214
  z233 := Tryz.sizeOf214
  v233 := Tryz.zeroValue214
  g17 := by kernel_rfl
  g18 := by kernel_rfl
  g19 := by kernel_rfl
  i0 := by kernel_rfl
  i2 := by kernel_rfl
  i3 := by kernel_rfl
  i4 := by kernel_rfl
  i5 := by kernel_rfl
  i9 := by kernel_rfl
  i20 := by kernel_rfl
  i37 := by kernel_rfl
  i46 := by kernel_rfl
  i51 := by kernel_rfl
  i53 := by kernel_rfl
  i171 := by kernel_rfl
  i173 := by kernel_rfl
  i212 := by kernel_rfl
  i232 := by kernel_rfl
  i233 := by kernel_rfl
  m17 := by kernel_rfl
  m18 := by kernel_rfl
  m19 := by kernel_rfl }
open Go.RowKit Go.Sort Go.Lib in
theorem Tryz.strconv_Itoa (n : Int) (h0 : -9223372036854775808 ≤ n) (h1 : n ≤ 9223372036854775807) (w : World) (htab : Lib.TabIs Tryz.prog w "internal/strconv.uint64pow10" .u64 Lib.pow10Tab) :
    Calls Tryz.prog 32 #[.int .i64 n] w fun e w' => e = .returned (.string ⟨(Lib.itoa n).toArray⟩) ∧ ∃ k os, w' = grow (w.drewN k) os := Any.strconv_Itoa Tryz.laysM171 n h0 h1 w htab
def Tryz.lays145_ren : Go.Shelf.Ren := ⟨fun | 145 => 69 | 220 => 107 | 219 => 145 | 217 => 179 | 225 => 180 | 224 => 181 | 267 => 182 | 266 => 205 | 314 => 206 | n => n, fun | 9 => 9 | 4 => 4 | 59 => 106 | 3 => 3 | 5 => 5 | 46 => 144 | 146 => 202 | 51 => 179 | n => n, fun | 1 => 1 | n => n⟩
theorem Tryz.lays145 : Go.Proofs.Lays.n145 Tryz.prog Tryz.lays145_ren := {
  mixed := by kernel_rfl
  f145 := Tryz.func69.trans (congrArg some (by kernel_rfl))
  f217 := Tryz.func179.trans (congrArg some (by kernel_rfl))
  f219 := Tryz.func145.trans (congrArg some (by kernel_rfl))
  f220 := Tryz.func107.trans (congrArg some (by kernel_rfl))
  f224 := Tryz.func181.trans (congrArg some (by kernel_rfl))
  f225 := Tryz.func180.trans (congrArg some (by kernel_rfl))
  f266 := Tryz.func205.trans (congrArg some (by kernel_rfl))
  f267 := Tryz.func182.trans (congrArg some (by kernel_rfl))
  f314 := Tryz.func206.trans (congrArg some (by kernel_rfl))
  t3 := Tryz.underlying3
  a3 := Tryz.isAgg3
  z3 := Tryz.sizeOf3
  v3 := Tryz.zeroValue3
  t4 := Tryz.underlying4
  a4 := Tryz.isAgg4
  z4 := Tryz.sizeOf4
  v4 := Tryz.zeroValue4
  t5 := Tryz.underlying5
  a5 := Tryz.isAgg5
  z5 := Tryz.sizeOf5
  v5 := Tryz.zeroValue5
  t9 := Tryz.underlying9
  a9 := Tryz.isAgg9
  z9 := Tryz.sizeOf9
  v9 := Tryz.zeroValue9
  t46 := Tryz.underlying144
  a46 := Tryz.isAgg144
  z46 := Tryz.sizeOf144
  v46 := Tryz.zeroValue144
  t51 := Tryz.underlying179
  a51 := Tryz.isAgg179
  z51 := Tryz.sizeOf179
  v51 := Tryz.zeroValue179
  t59 := Tryz.underlying106
  a59 := Tryz.isAgg106
  z59 := Tryz.sizeOf106
  v59 := Tryz.zeroValue106
  t146 := Tryz.underlying202
  a146 := Tryz.isAgg202
  z146 := Tryz.sizeOf202
  v146 := Tryz.zeroValue202
  g1 := by kernel_rfl }
open Go.RowKit Go.Lib in
theorem Tryz.strings_Cut (s sep : ByteArray) (m : Int) (w : World) (hs : s.size < 4294967281) (hm : w.cell? ⟨1, 0, none⟩ = some (.int .i64 m)) :
    Calls Tryz.prog 69 #[.string s, .string sep] w fun e w' => e = .returned (.tuple #[.string ⟨(Lib.cut s.data.toList sep.data.toList).1.toArray⟩, .string ⟨(Lib.cut s.data.toList sep.data.toList).2.1.toArray⟩, .bool (Lib.cut s.data.toList sep.data.toList).2.2]) ∧ ∃ n, w' = w.drewN n := Any.strings_Cut Tryz.lays145 s sep m w hs hm
def Tryz.laysM145_ren : Go.Shelf.Ren := ⟨fun | 145 => 69 | 220 => 107 | 219 => 145 | 217 => 179 | 225 => 180 | 224 => 181 | 267 => 182 | 266 => 205 | 314 => 206 | n => n, fun | 9 => 9 | 4 => 4 | 59 => 106 | 3 => 3 | 5 => 5 | 46 => 144 | 146 => 202 | 51 => 179 | n => n, fun | 1 => 1 | n => n⟩
theorem Tryz.laysM145 : Go.Proofs.LaysM.n145 Tryz.prog Tryz.laysM145_ren := {
  mixed := by kernel_rfl
  f145 := Tryz.func69.trans (congrArg some (by kernel_rfl))
  f217 := Tryz.func179.trans (congrArg some (by kernel_rfl))
  f219 := Tryz.func145.trans (congrArg some (by kernel_rfl))
  f220 := Tryz.func107.trans (congrArg some (by kernel_rfl))
  f224 := Tryz.func181.trans (congrArg some (by kernel_rfl))
  f225 := Tryz.func180.trans (congrArg some (by kernel_rfl))
  f266 := Tryz.func205.trans (congrArg some (by kernel_rfl))
  f267 := Tryz.func182.trans (congrArg some (by kernel_rfl))
  f314 := Tryz.func206.trans (congrArg some (by kernel_rfl))
  t3 := Tryz.underlying3
  a3 := Tryz.isAgg3
  z3 := Tryz.sizeOf3
  v3 := Tryz.zeroValue3
  t4 := Tryz.underlying4
  a4 := Tryz.isAgg4
  z4 := Tryz.sizeOf4
  v4 := Tryz.zeroValue4
  t5 := Tryz.underlying5
  a5 := Tryz.isAgg5
  z5 := Tryz.sizeOf5
  v5 := Tryz.zeroValue5
  t9 := Tryz.underlying9
  a9 := Tryz.isAgg9
  z9 := Tryz.sizeOf9
  v9 := Tryz.zeroValue9
  t46 := Tryz.underlying144
  a46 := Tryz.isAgg144
  z46 := Tryz.sizeOf144
  v46 := Tryz.zeroValue144
  t51 := Tryz.underlying179
  a51 := Tryz.isAgg179
  z51 := Tryz.sizeOf179
  v51 := Tryz.zeroValue179
  t59 := Tryz.underlying106
  a59 := Tryz.isAgg106
  z59 := Tryz.sizeOf106
  v59 := Tryz.zeroValue106
  t146 := Tryz.underlying202
  a146 := Tryz.isAgg202
  z146 := Tryz.sizeOf202
  v146 := Tryz.zeroValue202
  g1 := by kernel_rfl
  i3 := by kernel_rfl
  i4 := by kernel_rfl
  i5 := by kernel_rfl
  i9 := by kernel_rfl
  i46 := by kernel_rfl
  i51 := by kernel_rfl
  i59 := by kernel_rfl
  i146 := by kernel_rfl
  m1 := by kernel_rfl
  s1_3 := fun w h => Go.Proofs.cell_of_shapedOpen_int (zero := #[.int .i64 0]) (t := 3) h (of_decide_eq_true (by kernel_rfl)) (by kernel_rfl) rfl (by kernel_rfl) (by kernel_rfl) Tryz.underlying3 }
def Tryz.lays189_ren : Go.Shelf.Ren := ⟨fun | 189 => 84 | 125 => 121 | 257 => 120 | 128 => 161 | 129 => 162 | 294 => 152 | 295 => 153 | 296 => 154 | 297 => 155 | 298 => 156 | 299 => 157 | 216 => 158 | 300 => 159 | 301 => 160 | 328 => 188 | 329 => 189 | 330 => 190 | 331 => 191 | 332 => 192 | 215 => 193 | 343 => 210 | n => n, fun | 28 => 23 | 3 => 3 | 46 => 144 | 0 => 0 | 51 => 179 | 53 => 159 | 4 => 4 | 183 => 172 | 182 => 171 | 131 => 91 | 5 => 5 | 9 => 9 | 218 => 190 | 222 => 194 | 228 => 205 | 229 => 206 | n => n, fun | n => n⟩
theorem Tryz.lays189 : Go.Proofs.Lays.n189 Tryz.prog Tryz.lays189_ren := {
  mixed := by kernel_rfl
  f125 := Tryz.func121.trans (congrArg some (by kernel_rfl))
  f128 := Tryz.func161.trans (congrArg some (by kernel_rfl))
  f129 := Tryz.func162.trans (congrArg some (by kernel_rfl))
  f189 := Tryz.func84.trans (congrArg some (by kernel_rfl))
  f215 := Tryz.func193.trans (congrArg some (by kernel_rfl))
  f216 := Tryz.func158.trans (congrArg some (by kernel_rfl))
  f257 := Tryz.func120.trans (congrArg some (by kernel_rfl))
  f294 := Tryz.func152.trans (congrArg some (by kernel_rfl))
  f295 := Tryz.func153.trans (congrArg some (by kernel_rfl))
  f296 := Tryz.func154.trans (congrArg some (by kernel_rfl))
  f297 := Tryz.func155.trans (congrArg some (by kernel_rfl))
  f298 := Tryz.func156.trans (congrArg some (by kernel_rfl))
  f299 := Tryz.func157.trans (congrArg some (by kernel_rfl))
  f300 := Tryz.func159.trans (congrArg some (by kernel_rfl))
  f301 := Tryz.func160.trans (congrArg some (by kernel_rfl))
  f328 := Tryz.func188.trans (congrArg some (by kernel_rfl))
  f329 := Tryz.func189.trans (congrArg some (by kernel_rfl))
  f330 := Tryz.func190.trans (congrArg some (by kernel_rfl))
  f331 := Tryz.func191.trans (congrArg some (by kernel_rfl))
  f332 := Tryz.func192.trans (congrArg some (by kernel_rfl))
  f343 := Tryz.func210.trans (congrArg some (by kernel_rfl))
  t0 := Tryz.underlying0
  a0 := Tryz.isAgg0
  z0 := Tryz.sizeOf0
  v0 := Tryz.zeroValue0
  t3 := Tryz.underlying3
  a3 := Tryz.isAgg3
  z3 := Tryz.sizeOf3
  v3 := Tryz.zeroValue3
  t4 := Tryz.underlying4
  a4 := Tryz.isAgg4
  z4 := Tryz.sizeOf4
  v4 := Tryz.zeroValue4
  t5 := Tryz.underlying5
  a5 := Tryz.isAgg5
  z5 := Tryz.sizeOf5
  v5 := Tryz.zeroValue5
  t9 := Tryz.underlying9
  a9 := Tryz.isAgg9
  z9 := Tryz.sizeOf9
  v9 := Tryz.zeroValue9
  t28 := Tryz.underlying23
  a28 := Tryz.isAgg23
  z28 := Tryz.sizeOf23
  v28 := Tryz.zeroValue23
  t46 := Tryz.underlying144
  a46 := Tryz.isAgg144
  z46 := Tryz.sizeOf144
  v46 := Tryz.zeroValue144
  t51 := Tryz.underlying179
  a51 := Tryz.isAgg179
  z51 := Tryz.sizeOf179
  v51 := Tryz.zeroValue179
  t53 := Tryz.underlying159
  a53 := Tryz.isAgg159
  z53 := Tryz.sizeOf159
  v53 := Tryz.zeroValue159
  t131 := Tryz.underlying91
  a131 := Tryz.isAgg91
  z131 := Tryz.sizeOf91
  v131 := Tryz.zeroValue91
  t182 := Tryz.underlying171
  a182 := Tryz.isAgg171
  z182 := Tryz.sizeOf171
  v182 := Tryz.zeroValue171
  t183 := Tryz.underlying172
  a183 := Tryz.isAgg172
  z183 := Tryz.sizeOf172
  v183 := Tryz.zeroValue172
  t218 := Tryz.underlying190
  a218 := Tryz.isAgg190
  z218 := Tryz.sizeOf190
  v218 := Tryz.zeroValue190
  t222 := Tryz.underlying194
  a222 := Tryz.isAgg194
  z222 := Tryz.sizeOf194
  v222 := Tryz.zeroValue194
  t228 := Tryz.underlying205
  a228 := Tryz.isAgg205
  z228 := Tryz.sizeOf205
  v228 := Tryz.zeroValue205
  t229 := Tryz.underlying206
  a229 := Tryz.isAgg206
  z229 := Tryz.sizeOf206
  v229 := Tryz.zeroValue206 }
open Go.Sort Go.RowKit in
theorem Tryz.slices_Sort_int (blk off cap : Nat) (zs : List Int) (w : World) (hH : Holds (Value.int .i64) w blk off zs.toArray) (hblk : blk < w.heap.size) (hsz : zs.length < 4611686018427387904) :
    Calls Tryz.prog 84 #[.slice (some ⟨blk, off, none⟩) zs.length cap] w fun e w' =>
      e = .returned (.tuple #[]) ∧ ∃ n os, w' = grow (putRow (Value.int .i64) (Sort.ahead w n) blk off (zs.mergeSort fun x y => decide (x ≤ y)).toArray) os := Any.slices_Sort_int Tryz.lays189 blk off cap zs w hH hblk hsz
def Tryz.lays146_ren : Go.Shelf.Ren := ⟨fun | 146 => 58 | 221 => 95 | 268 => 127 | 138 => 128 | 143 => 129 | 195 => 165 | 197 => 166 | 218 => 167 | 219 => 145 | 260 => 195 | 217 => 179 | 225 => 180 | 224 => 181 | 267 => 182 | 266 => 205 | 314 => 206 | n => n, fun | 9 => 9 | 31 => 31 | 3 => 3 | 4 => 4 | 0 => 0 | 105 => 180 | 21 => 21 | 5 => 5 | 46 => 144 | 119 => 208 | 139 => 211 | 138 => 210 | 146 => 202 | 51 => 179 | n => n, fun | 1 => 1 | 3 => 2 | 4 => 3 | n => n⟩
theorem Tryz.lays146 : Go.Proofs.Lays.n146 Tryz.prog Tryz.lays146_ren := {
  mixed := by kernel_rfl
  f138 := Tryz.func128.trans (congrArg some (by kernel_rfl))
  f143 := Tryz.func129.trans (congrArg some (by kernel_rfl))
  f146 := Tryz.func58.trans (congrArg some (by kernel_rfl))
  f195 := Tryz.func165.trans (congrArg some (by kernel_rfl))
  f197 := Tryz.func166.trans (congrArg some (by kernel_rfl))
  f217 := Tryz.func179.trans (congrArg some (by kernel_rfl))
  f218 := Tryz.func167.trans (congrArg some (by kernel_rfl))
  f219 := Tryz.func145.trans (congrArg some (by kernel_rfl))
  f221 := Tryz.func95.trans (congrArg some (by kernel_rfl))
  f224 := Tryz.func181.trans (congrArg some (by kernel_rfl))
  f225 := Tryz.func180.trans (congrArg some (by kernel_rfl))
  f260 := Tryz.func195.trans (congrArg some (by kernel_rfl))
  f266 := Tryz.func205.trans (congrArg some (by kernel_rfl))
  f267 := Tryz.func182.trans (congrArg some (by kernel_rfl))
  f268 := Tryz.func127.trans (congrArg some (by kernel_rfl))
  f314 := Tryz.func206.trans (congrArg some (by kernel_rfl))
  t0 := Tryz.underlying0
  a0 := Tryz.isAgg0
  z0 := Tryz.sizeOf0
  v0 := Tryz.zeroValue0
  t3 := Tryz.underlying3
  a3 := Tryz.isAgg3
  z3 := Tryz.sizeOf3
  v3 := Tryz.zeroValue3
  t4 := Tryz.underlying4
  a4 := Tryz.isAgg4
  z4 := Tryz.sizeOf4
  v4 := Tryz.zeroValue4
  t5 := Tryz.underlying5
  a5 := Tryz.isAgg5
  z5 := Tryz.sizeOf5
  v5 := Tryz.zeroValue5
  t9 := Tryz.underlying9
  a9 := Tryz.isAgg9
  z9 := Tryz.sizeOf9
  v9 := Tryz.zeroValue9
  t21 := Tryz.underlying21
  a21 := Tryz.isAgg21
  z21 := Tryz.sizeOf21
  v21 := Tryz.zeroValue21
  t31 := Tryz.underlying31
  a31 := Tryz.isAgg31
  z31 := Tryz.sizeOf31
  v31 := Tryz.zeroValue31
  t46 := Tryz.underlying144
  a46 := Tryz.isAgg144
  z46 := Tryz.sizeOf144
  v46 := Tryz.zeroValue144
  t51 := Tryz.underlying179
  a51 := Tryz.isAgg179
  z51 := Tryz.sizeOf179
  v51 := Tryz.zeroValue179
  t105 := Tryz.underlying180
  a105 := Tryz.isAgg180
  z105 := Tryz.sizeOf180
  v105 := Tryz.zeroValue180
  t119 := Tryz.underlying208
  a119 := Tryz.isAgg208
  z119 := Tryz.sizeOf208
  t138 := Tryz.underlying210
  a138 := Tryz.isAgg210
  z138 := Tryz.sizeOf210
  v138 := Tryz.zeroValue210
  t139 := Tryz.underlying211
  a139 := Tryz.isAgg211
  z139 := Tryz.sizeOf211
  v139 := Tryz.zeroValue211
  t146 := Tryz.underlying202
  a146 := Tryz.isAgg202
  z146 := Tryz.sizeOf202
  v146 := Tryz.zeroValue202
  g1 := by kernel_rfl
  g3 := by kernel_rfl
  g4 := by kernel_rfl }
open Go.RowKit Go.Lib in
theorem Tryz.strings_Split (s sep : ByteArray) (m : Int) (w : World) (hs : s.size < 4294967281) (hm : w.cell? ⟨1, 0, none⟩ = some (.int .i64 m)) (h1 : 1 ≤ sep.size) :
    Calls Tryz.prog 58 #[.string s, .string sep] w fun e w' =>
      e = .returned (.slice (some ⟨w.heap.size, 0, none⟩) (Lib.countB s sep + 1) (Lib.countB s sep + 1)) ∧ w' = w.alloc (.cells ((Lib.splitB sep 0 (Lib.countB s sep) s).map Value.string).toArray 9) := Any.strings_Split Tryz.lays146 (by kernel_rfl) s sep m w hs hm h1
open Go.RowKit Go.Sort in
theorem Tryz.slices_Sort_int_none (p : Option Addr) (cap : Nat) (w : World) :
    Calls Tryz.prog 84 #[.slice p 0 cap] w fun e w' => e = .returned (.tuple #[]) ∧ w' = w := Any.slices_Sort_int_none Tryz.lays189 p cap w
end Go.Proofs
