/-
  The contracts of the library functions that this seat calls, laid by the kit's tool at this seat's numbers. No condition of ours.
-/
import Derived.Shelf.Strings.Builder1
import Derived.Shelf.Strings.Builder2
import Derived.Shelf.Strings.OnBuilder
import Derived.Shelf.Small.Bits
import Derived.Shelf.Small.Strs
import Derived.Shelf.Strings.BuilderF
import Derived.Shelf.Strings.BuilderK
import Derived.Shelf.Utf8.RuneCount
import Derived.Shelf.Strconv.Itoa0
import Derived.Shelf.Strconv.Itoa1
import Derived.Shelf.LaysM
import Derived.Shelf.Strconv.Itoa2
import Derived.Shelf.Strconv.Itoa3
import Derived.Shelf.Strings.Search1
import Derived.Shelf.Strings.Search2
import Derived.Shelf.Strings.Search3
import Derived.Shelf.Strings.Cut
import Derived.Shelf.Strings.Count
import Derived.Shelf.Strings.Shaped
import Derived.Shelf.Sort.Plain
import Derived.Shelf.Strings.Split
import Derived.Shelf.Strings.SplitShaped
import Derived.Shelf.Unicode.Decode
import Derived.Shelf.Strings.RuneCount
import Derived.Shelf.Strings.Explode
import Derived.Shelf.Unicode.DecodeSlow
import Derived.Shelf.Unicode.DecodeAny
import Derived.Ground.Names2Prog
import Derived.Shelf.Slices.Clone
import Derived.Shelf.Slices.SearchI
import Derived.Shelf.Slices.In.SortNone
import Derived.Ground.SlgnProg
import Derived.Shelf.SlicesE.Clone
import Derived.Test.YtbgkcehffiogcabGreatDoorProg
/- @packed -/
namespace Go.Proofs
open Go.Shelf
def Tryz.lays169_ren : Go.Shelf.Ren := ⟨fun | 169 => 78 | n => n, fun | 70 => 102 | 9 => 9 | 0 => 0 | 72 => 104 | 37 => 35 | 127 => 145 | 3 => 3 | 5 => 5 | n => n, fun | n => n⟩
theorem Tryz.lays169 : Go.Proofs.Lays.n169 Tryz.prog Tryz.lays169_ren := {
  mixed := by kernel_rfl
  f169 := Tryz.func78.trans (congrArg some (by kernel_rfl))
  t0 := Tryz.underlying0
  a0 := Tryz.isAgg0
  z0 := Tryz.sizeOf0
  v0 := Tryz.zeroValue0
  t3 := Tryz.underlying3
  a3 := Tryz.isAgg3
  z3 := Tryz.sizeOf3
  v3 := Tryz.zeroValue3
  t9 := Tryz.underlying9
  a9 := Tryz.isAgg9
  z9 := Tryz.sizeOf9
  v9 := Tryz.zeroValue9
  t37 := Tryz.underlying35
  a37 := Tryz.isAgg35
  z37 := Tryz.sizeOf35
  v37 := Tryz.zeroValue35
  t70 := Tryz.underlying102
  a70 := Tryz.isAgg102
  z70 := Tryz.sizeOf102
  v70 := Tryz.zeroValue102
  t72 := Tryz.underlying104
  a72 := Tryz.isAgg104
  z72 := Tryz.sizeOf104
  v72 := Tryz.zeroValue104
  t127 := Tryz.underlying145
  a127 := Tryz.isAgg145
  z127 := Tryz.sizeOf145
  v127 := Tryz.zeroValue145 }
theorem Tryz.Builder_Extra_169 : Builder.Extra Tryz.prog Tryz.lays169_ren := {
  sizeBuilder := by kernel_rfl
  liesBuilder := by kernel_rfl
  t5 := Tryz.underlying5
  a5 := Tryz.isAgg5
  z5 := Tryz.sizeOf5
  v5 := Tryz.zeroValue5
  infoByte := by kernel_rfl
  cellsByte := by kernel_rfl
  sizeByte := by kernel_rfl
  neB5 := by decide }
def Tryz.lays156_ren : Go.Shelf.Ren := ⟨fun | 156 => 94 | 165 => 135 | 166 => 77 | 169 => 78 | 240 => 120 | 241 => 179 | 276 => 149 | 277 => 210 | n => n, fun | 31 => 84 | 9 => 9 | 3 => 3 | 4 => 4 | 0 => 0 | 20 => 20 | 72 => 104 | 76 => 108 | 70 => 102 | 37 => 35 | 75 => 106 | 127 => 145 | 164 => 170 | 5 => 5 | 80 => 110 | n => n, fun | n => n⟩
theorem Tryz.lays156 : Go.Proofs.Lays.n156 Tryz.prog Tryz.lays156_ren := {
  mixed := by kernel_rfl
  f156 := Tryz.func94.trans (congrArg some (by kernel_rfl))
  f165 := Tryz.func135.trans (congrArg some (by kernel_rfl))
  f166 := Tryz.func77.trans (congrArg some (by kernel_rfl))
  f169 := Tryz.func78.trans (congrArg some (by kernel_rfl))
  f240 := Tryz.func120.trans (congrArg some (by kernel_rfl))
  f241 := Tryz.func179.trans (congrArg some (by kernel_rfl))
  f276 := Tryz.func149.trans (congrArg some (by kernel_rfl))
  f277 := Tryz.func210.trans (congrArg some (by kernel_rfl))
  t0 := Tryz.underlying0
  a0 := Tryz.isAgg0
  z0 := Tryz.sizeOf0
  v0 := Tryz.zeroValue0
  t3 := Tryz.underlying3
  a3 := Tryz.isAgg3
  z3 := Tryz.sizeOf3
  v3 := Tryz.zeroValue3
  t4 := Tryz.underlying4
  a4 := Tryz.isAgg4
  z4 := Tryz.sizeOf4
  v4 := Tryz.zeroValue4
  t9 := Tryz.underlying9
  a9 := Tryz.isAgg9
  z9 := Tryz.sizeOf9
  v9 := Tryz.zeroValue9
  t20 := Tryz.underlying20
  a20 := Tryz.isAgg20
  z20 := Tryz.sizeOf20
  v20 := Tryz.zeroValue20
  t31 := Tryz.underlying84
  a31 := Tryz.isAgg84
  z31 := Tryz.sizeOf84
  v31 := Tryz.zeroValue84
  t37 := Tryz.underlying35
  a37 := Tryz.isAgg35
  z37 := Tryz.sizeOf35
  v37 := Tryz.zeroValue35
  t70 := Tryz.underlying102
  a70 := Tryz.isAgg102
  z70 := Tryz.sizeOf102
  v70 := Tryz.zeroValue102
  t72 := Tryz.underlying104
  a72 := Tryz.isAgg104
  z72 := Tryz.sizeOf104
  v72 := Tryz.zeroValue104
  t75 := Tryz.underlying106
  a75 := Tryz.isAgg106
  z75 := Tryz.sizeOf106
  v75 := Tryz.zeroValue106
  t76 := Tryz.underlying108
  a76 := Tryz.isAgg108
  z76 := Tryz.sizeOf108
  v76 := Tryz.zeroValue108
  t127 := Tryz.underlying145
  a127 := Tryz.isAgg145
  z127 := Tryz.sizeOf145
  v127 := Tryz.zeroValue145
  t164 := Tryz.underlying170
  a164 := Tryz.isAgg170
  z164 := Tryz.sizeOf170
  v164 := Tryz.zeroValue170 }
theorem Tryz.Builder_Extra_156 : Builder.Extra Tryz.prog Tryz.lays156_ren := {
  sizeBuilder := by kernel_rfl
  liesBuilder := by kernel_rfl
  t5 := Tryz.underlying5
  a5 := Tryz.isAgg5
  z5 := Tryz.sizeOf5
  v5 := Tryz.zeroValue5
  infoByte := by kernel_rfl
  cellsByte := by kernel_rfl
  sizeByte := by kernel_rfl
  neB5 := by decide }
open Go.RowKit in
theorem Tryz.strings_Join (bk o c : Nat) (xs : List ByteArray) (sep : ByteArray) (w : World) (hcells : ∀ (j : Nat) x, xs[j]? = some x → w.cell? ⟨bk, o + j, none⟩ = some (.string x)) (hbk : bk < w.heap.size) (hN : xs.length ≤ 140737488355328) (hcap : xs.length ≤ c) (hlen : (Lib.join (xs.map (·.data.toList)) sep.data.toList).length ≤ 140737488355328) :
    Calls Tryz.prog 94 #[.slice (some ⟨bk, o, none⟩) xs.length c, .string sep] w fun e w' => e = .returned (.string ⟨(Lib.join (xs.map (·.data.toList)) sep.data.toList).toArray⟩) ∧ Below w.heap.size w w' := Any.strings_Join Tryz.lays156 Tryz.Builder_Extra_156 bk o c xs sep w hcells hbk hN hcap hlen
def Tryz.lays137_ren : Go.Shelf.Ren := ⟨fun | 137 => 82 | 217 => 123 | 266 => 161 | n => n, fun | 9 => 9 | 5 => 5 | 3 => 3 | n => n, fun | n => n⟩
theorem Tryz.lays137 : Go.Proofs.Lays.n137 Tryz.prog Tryz.lays137_ren := {
  mixed := by kernel_rfl
  f137 := Tryz.func82.trans (congrArg some (by kernel_rfl))
  f217 := Tryz.func123.trans (congrArg some (by kernel_rfl))
  f266 := Tryz.func161.trans (congrArg some (by kernel_rfl))
  t3 := Tryz.underlying3
  a3 := Tryz.isAgg3
  z3 := Tryz.sizeOf3
  v3 := Tryz.zeroValue3
  t5 := Tryz.underlying5
  a5 := Tryz.isAgg5
  z5 := Tryz.sizeOf5
  v5 := Tryz.zeroValue5
  t9 := Tryz.underlying9
  a9 := Tryz.isAgg9
  z9 := Tryz.sizeOf9
  v9 := Tryz.zeroValue9 }
open Go.RowKit in
theorem Tryz.strings_IndexByte (s : ByteArray) (c : Int) (w : World) :
    Calls Tryz.prog 82 #[.string s, .int .u8 c] w fun e w' => e = .returned (.int .i64 (Lib.indexByte s.data.toList c.toNat.toUInt8)) ∧ w' = w := Any.strings_IndexByte Tryz.lays137 s c w
open Go.RowKit in
theorem Tryz.Builder_String_any_f (B b : Nat) (l : List UInt8) (w : World) (h : Lib.IsBuilderF 104 5 B b (Lib.byteCells l) w) (hBw : B ≤ w.heap.size) :
    Calls Tryz.prog 78 #[.pointer (some ⟨b, 0, none⟩)] w fun e w' => e = .returned (.string ⟨l.toArray⟩) ∧ (Lib.IsBuilderF 104 5 B b (Lib.byteCells l) w' ∧ Below B w w') := Any.Builder_String_any_f Tryz.lays169 Tryz.Builder_Extra_169 B b l w h hBw
def Tryz.laysM171_ren : Go.Shelf.Ren := ⟨fun | 171 => 53 | 243 => 92 | 246 => 134 | 283 => 175 | 284 => 176 | 285 => 177 | 286 => 178 | 129 => 160 | 317 => 206 | 318 => 207 | 319 => 208 | 320 => 209 | 337 => 230 | 338 => 231 | n => n, fun | 3 => 3 | 9 => 9 | 2 => 2 | 4 => 4 | 171 => 191 | 0 => 0 | 53 => 183 | 37 => 35 | 5 => 5 | 173 => 193 | 212 => 209 | 51 => 181 | 20 => 20 | 213 => 210 | 46 => 148 | 232 => 228 | 233 => 229 | n => n, fun | 17 => 1 | 18 => 2 | 19 => 3 | n => n⟩
theorem Tryz.laysM171 : Go.Proofs.LaysM.n171 Tryz.prog Tryz.laysM171_ren := {
  mixed := by kernel_rfl
  f129 := Tryz.func160.trans (congrArg some (by kernel_rfl))
  f171 := Tryz.func53.trans (congrArg some (by kernel_rfl))
  f243 := Tryz.func92.trans (congrArg some (by kernel_rfl))
  f246 := Tryz.func134.trans (congrArg some (by kernel_rfl))
  f283 := Tryz.func175.trans (congrArg some (by kernel_rfl))
  f284 := Tryz.func176.trans (congrArg some (by kernel_rfl))
  f285 := Tryz.func177.trans (congrArg some (by kernel_rfl))
  f286 := Tryz.func178.trans (congrArg some (by kernel_rfl))
  f317 := Tryz.func206.trans (congrArg some (by kernel_rfl))
  f318 := Tryz.func207.trans (congrArg some (by kernel_rfl))
  f319 := Tryz.func208.trans (congrArg some (by kernel_rfl))
  f320 := Tryz.func209.trans (congrArg some (by kernel_rfl))
  f337 := Tryz.func230.trans (congrArg some (by kernel_rfl))
  f338 := Tryz.func231.trans (congrArg some (by kernel_rfl))
  t0 := Tryz.underlying0
  a0 := Tryz.isAgg0
  z0 := Tryz.sizeOf0
  v0 := Tryz.zeroValue0
  t2 := Tryz.underlying2
  a2 := Tryz.isAgg2
  z2 := Tryz.sizeOf2
  v2 := Tryz.zeroValue2
  t3 := Tryz.underlying3
  a3 := Tryz.isAgg3
  z3 := Tryz.sizeOf3
  v3 := Tryz.zeroValue3
  t4 := Tryz.underlying4
  a4 := Tryz.isAgg4
  z4 := Tryz.sizeOf4
  v4 := Tryz.zeroValue4
  t5 := Tryz.underlying5
  a5 := Tryz.isAgg5
  z5 := Tryz.sizeOf5
  v5 := Tryz.zeroValue5
  t9 := Tryz.underlying9
  a9 := Tryz.isAgg9
  z9 := Tryz.sizeOf9
  v9 := Tryz.zeroValue9
  t20 := Tryz.underlying20
  a20 := Tryz.isAgg20
  z20 := Tryz.sizeOf20
  v20 := Tryz.zeroValue20
  t37 := Tryz.underlying35
  a37 := Tryz.isAgg35
  z37 := Tryz.sizeOf35
  v37 := Tryz.zeroValue35
  t46 := Tryz.underlying148
  a46 := Tryz.isAgg148
  z46 := Tryz.sizeOf148
  v46 := Tryz.zeroValue148
  t51 := Tryz.underlying181
  a51 := Tryz.isAgg181
  z51 := Tryz.sizeOf181
  v51 := Tryz.zeroValue181
  t53 := Tryz.underlying183
  a53 := Tryz.isAgg183
  z53 := Tryz.sizeOf183
  v53 := Tryz.zeroValue183
  t171 := Tryz.underlying191
  a171 := Tryz.isAgg191
  z171 := Tryz.sizeOf191
  v171 := Tryz.zeroValue191
  t173 := Tryz.underlying193
  a173 := Tryz.isAgg193
  z173 := Tryz.sizeOf193
  v173 := Tryz.zeroValue193
  t212 := Tryz.underlying209
  a212 := Tryz.isAgg209
  z212 := Tryz.sizeOf209
  v212 := Tryz.zeroValue209
  t213 := Tryz.underlying210
  a213 := Tryz.isAgg210
  z213 := Tryz.sizeOf210
  t232 := Tryz.underlying228
  a232 := Tryz.isAgg228
  z232 := Tryz.sizeOf228
  v232 := Tryz.zeroValue228
  t233 := Tryz.underlying229
  a233 := Tryz.isAgg229
  z233 := Tryz.sizeOf229
  v233 := Tryz.zeroValue229
  g17 := by kernel_rfl
  g18 := by kernel_rfl
  g19 := by kernel_rfl
  i0 := by kernel_rfl
  i2 := by kernel_rfl
  i3 := by kernel_rfl
  i4 := by kernel_rfl
  i5 := by kernel_rfl
  i9 := by kernel_rfl
  i20 := by kernel_rfl
  i37 := by kernel_rfl
  i46 := by kernel_rfl
  i51 := by kernel_rfl
  i53 := by kernel_rfl
  i171 := by kernel_rfl
  i173 := by kernel_rfl
  i212 := by kernel_rfl
  i232 := by kernel_rfl
  i233 := by kernel_rfl
  m17 := by kernel_rfl
  m18 := by kernel_rfl
  m19 := by kernel_rfl }
open Go.RowKit Go.Sort Go.Lib in
theorem Tryz.strconv_Itoa (n : Int) (h0 : -9223372036854775808 ≤ n) (h1 : n ≤ 9223372036854775807) (w : World) (htab : Lib.TabIs Tryz.prog w "internal/strconv.uint64pow10" .u64 Lib.pow10Tab) :
    Calls Tryz.prog 53 #[.int .i64 n] w fun e w' => e = .returned (.string ⟨(Lib.itoa n).toArray⟩) ∧ ∃ k os, w' = grow (w.drewN k) os := Any.strconv_Itoa Tryz.laysM171 n h0 h1 w htab
def Tryz.lays145_ren : Go.Shelf.Ren := ⟨fun | 145 => 61 | 220 => 108 | 219 => 145 | 217 => 123 | 225 => 187 | 224 => 188 | 267 => 189 | 266 => 161 | 314 => 218 | n => n, fun | 9 => 9 | 4 => 4 | 59 => 89 | 3 => 3 | 5 => 5 | 46 => 148 | 146 => 215 | 51 => 181 | n => n, fun | 1 => 0 | n => n⟩
theorem Tryz.lays145 : Go.Proofs.Lays.n145 Tryz.prog Tryz.lays145_ren := {
  mixed := by kernel_rfl
  f145 := Tryz.func61.trans (congrArg some (by kernel_rfl))
  f217 := Tryz.func123.trans (congrArg some (by kernel_rfl))
  f219 := Tryz.func145.trans (congrArg some (by kernel_rfl))
  f220 := Tryz.func108.trans (congrArg some (by kernel_rfl))
  f224 := Tryz.func188.trans (congrArg some (by kernel_rfl))
  f225 := Tryz.func187.trans (congrArg some (by kernel_rfl))
  f266 := Tryz.func161.trans (congrArg some (by kernel_rfl))
  f267 := Tryz.func189.trans (congrArg some (by kernel_rfl))
  f314 := Tryz.func218.trans (congrArg some (by kernel_rfl))
  t3 := Tryz.underlying3
  a3 := Tryz.isAgg3
  z3 := Tryz.sizeOf3
  v3 := Tryz.zeroValue3
  t4 := Tryz.underlying4
  a4 := Tryz.isAgg4
  z4 := Tryz.sizeOf4
  v4 := Tryz.zeroValue4
  t5 := Tryz.underlying5
  a5 := Tryz.isAgg5
  z5 := Tryz.sizeOf5
  v5 := Tryz.zeroValue5
  t9 := Tryz.underlying9
  a9 := Tryz.isAgg9
  z9 := Tryz.sizeOf9
  v9 := Tryz.zeroValue9
  t46 := Tryz.underlying148
  a46 := Tryz.isAgg148
  z46 := Tryz.sizeOf148
  v46 := Tryz.zeroValue148
  t51 := Tryz.underlying181
  a51 := Tryz.isAgg181
  z51 := Tryz.sizeOf181
  v51 := Tryz.zeroValue181
  t59 := Tryz.underlying89
  a59 := Tryz.isAgg89
  z59 := Tryz.sizeOf89
  v59 := Tryz.zeroValue89
  t146 := Tryz.underlying215
  a146 := Tryz.isAgg215
  z146 := Tryz.sizeOf215
  v146 := Tryz.zeroValue215
  g1 := by kernel_rfl }
open Go.RowKit Go.Lib in
theorem Tryz.strings_Cut (s sep : ByteArray) (m : Int) (w : World) (hs : s.size < 4294967281) (hm : w.cell? ⟨0, 0, none⟩ = some (.int .i64 m)) :
    Calls Tryz.prog 61 #[.string s, .string sep] w fun e w' => e = .returned (.tuple #[.string ⟨(Lib.cut s.data.toList sep.data.toList).1.toArray⟩, .string ⟨(Lib.cut s.data.toList sep.data.toList).2.1.toArray⟩, .bool (Lib.cut s.data.toList sep.data.toList).2.2]) ∧ ∃ n, w' = w.drewN n := Any.strings_Cut Tryz.lays145 s sep m w hs hm
def Tryz.laysM145_ren : Go.Shelf.Ren := ⟨fun | 145 => 61 | 220 => 108 | 219 => 145 | 217 => 123 | 225 => 187 | 224 => 188 | 267 => 189 | 266 => 161 | 314 => 218 | n => n, fun | 9 => 9 | 4 => 4 | 59 => 89 | 3 => 3 | 5 => 5 | 46 => 148 | 146 => 215 | 51 => 181 | n => n, fun | 1 => 0 | n => n⟩
theorem Tryz.laysM145 : Go.Proofs.LaysM.n145 Tryz.prog Tryz.laysM145_ren := {
  mixed := by kernel_rfl
  f145 := Tryz.func61.trans (congrArg some (by kernel_rfl))
  f217 := Tryz.func123.trans (congrArg some (by kernel_rfl))
  f219 := Tryz.func145.trans (congrArg some (by kernel_rfl))
  f220 := Tryz.func108.trans (congrArg some (by kernel_rfl))
  f224 := Tryz.func188.trans (congrArg some (by kernel_rfl))
  f225 := Tryz.func187.trans (congrArg some (by kernel_rfl))
  f266 := Tryz.func161.trans (congrArg some (by kernel_rfl))
  f267 := Tryz.func189.trans (congrArg some (by kernel_rfl))
  f314 := Tryz.func218.trans (congrArg some (by kernel_rfl))
  t3 := Tryz.underlying3
  a3 := Tryz.isAgg3
  z3 := Tryz.sizeOf3
  v3 := Tryz.zeroValue3
  t4 := Tryz.underlying4
  a4 := Tryz.isAgg4
  z4 := Tryz.sizeOf4
  v4 := Tryz.zeroValue4
  t5 := Tryz.underlying5
  a5 := Tryz.isAgg5
  z5 := Tryz.sizeOf5
  v5 := Tryz.zeroValue5
  t9 := Tryz.underlying9
  a9 := Tryz.isAgg9
  z9 := Tryz.sizeOf9
  v9 := Tryz.zeroValue9
  t46 := Tryz.underlying148
  a46 := Tryz.isAgg148
  z46 := Tryz.sizeOf148
  v46 := Tryz.zeroValue148
  t51 := Tryz.underlying181
  a51 := Tryz.isAgg181
  z51 := Tryz.sizeOf181
  v51 := Tryz.zeroValue181
  t59 := Tryz.underlying89
  a59 := Tryz.isAgg89
  z59 := Tryz.sizeOf89
  v59 := Tryz.zeroValue89
  t146 := Tryz.underlying215
  a146 := Tryz.isAgg215
  z146 := Tryz.sizeOf215
  v146 := Tryz.zeroValue215
  g1 := by kernel_rfl
  i3 := by kernel_rfl
  i4 := by kernel_rfl
  i5 := by kernel_rfl
  i9 := by kernel_rfl
  i46 := by kernel_rfl
  i51 := by kernel_rfl
  i59 := by kernel_rfl
  i146 := by kernel_rfl
  m1 := by kernel_rfl
  s1_3 := fun w h => Go.Proofs.cell_of_shapedOpen_int (zero := #[.int .i64 0]) (t := 3) h (of_decide_eq_true (by kernel_rfl)) (by kernel_rfl) rfl (by kernel_rfl) (by kernel_rfl) Tryz.underlying3 }
def Tryz.lays189_ren : Go.Shelf.Ren := ⟨fun | 189 => 81 | 125 => 122 | 257 => 121 | 128 => 159 | 129 => 160 | 294 => 150 | 295 => 151 | 296 => 152 | 297 => 153 | 298 => 154 | 299 => 155 | 216 => 156 | 300 => 157 | 301 => 158 | 328 => 193 | 329 => 194 | 330 => 195 | 331 => 196 | 332 => 197 | 215 => 198 | 343 => 222 | n => n, fun | 28 => 22 | 3 => 3 | 46 => 148 | 0 => 0 | 51 => 181 | 53 => 183 | 4 => 4 | 183 => 174 | 182 => 173 | 131 => 91 | 5 => 5 | 9 => 9 | 218 => 200 | 222 => 204 | 228 => 219 | 229 => 220 | n => n, fun | n => n⟩
theorem Tryz.lays189 : Go.Proofs.Lays.n189 Tryz.prog Tryz.lays189_ren := {
  mixed := by kernel_rfl
  f125 := Tryz.func122.trans (congrArg some (by kernel_rfl))
  f128 := Tryz.func159.trans (congrArg some (by kernel_rfl))
  f129 := Tryz.func160.trans (congrArg some (by kernel_rfl))
  f189 := Tryz.func81.trans (congrArg some (by kernel_rfl))
  f215 := Tryz.func198.trans (congrArg some (by kernel_rfl))
  f216 := Tryz.func156.trans (congrArg some (by kernel_rfl))
  f257 := Tryz.func121.trans (congrArg some (by kernel_rfl))
  f294 := Tryz.func150.trans (congrArg some (by kernel_rfl))
  f295 := Tryz.func151.trans (congrArg some (by kernel_rfl))
  f296 := Tryz.func152.trans (congrArg some (by kernel_rfl))
  f297 := Tryz.func153.trans (congrArg some (by kernel_rfl))
  f298 := Tryz.func154.trans (congrArg some (by kernel_rfl))
  f299 := Tryz.func155.trans (congrArg some (by kernel_rfl))
  f300 := Tryz.func157.trans (congrArg some (by kernel_rfl))
  f301 := Tryz.func158.trans (congrArg some (by kernel_rfl))
  f328 := Tryz.func193.trans (congrArg some (by kernel_rfl))
  f329 := Tryz.func194.trans (congrArg some (by kernel_rfl))
  f330 := Tryz.func195.trans (congrArg some (by kernel_rfl))
  f331 := Tryz.func196.trans (congrArg some (by kernel_rfl))
  f332 := Tryz.func197.trans (congrArg some (by kernel_rfl))
  f343 := Tryz.func222.trans (congrArg some (by kernel_rfl))
  t0 := Tryz.underlying0
  a0 := Tryz.isAgg0
  z0 := Tryz.sizeOf0
  v0 := Tryz.zeroValue0
  t3 := Tryz.underlying3
  a3 := Tryz.isAgg3
  z3 := Tryz.sizeOf3
  v3 := Tryz.zeroValue3
  t4 := Tryz.underlying4
  a4 := Tryz.isAgg4
  z4 := Tryz.sizeOf4
  v4 := Tryz.zeroValue4
  t5 := Tryz.underlying5
  a5 := Tryz.isAgg5
  z5 := Tryz.sizeOf5
  v5 := Tryz.zeroValue5
  t9 := Tryz.underlying9
  a9 := Tryz.isAgg9
  z9 := Tryz.sizeOf9
  v9 := Tryz.zeroValue9
  t28 := Tryz.underlying22
  a28 := Tryz.isAgg22
  z28 := Tryz.sizeOf22
  v28 := Tryz.zeroValue22
  t46 := Tryz.underlying148
  a46 := Tryz.isAgg148
  z46 := Tryz.sizeOf148
  v46 := Tryz.zeroValue148
  t51 := Tryz.underlying181
  a51 := Tryz.isAgg181
  z51 := Tryz.sizeOf181
  v51 := Tryz.zeroValue181
  t53 := Tryz.underlying183
  a53 := Tryz.isAgg183
  z53 := Tryz.sizeOf183
  v53 := Tryz.zeroValue183
  t131 := Tryz.underlying91
  a131 := Tryz.isAgg91
  z131 := Tryz.sizeOf91
  v131 := Tryz.zeroValue91
  t182 := Tryz.underlying173
  a182 := Tryz.isAgg173
  z182 := Tryz.sizeOf173
  v182 := Tryz.zeroValue173
  t183 := Tryz.underlying174
  a183 := Tryz.isAgg174
  z183 := Tryz.sizeOf174
  v183 := Tryz.zeroValue174
  t218 := Tryz.underlying200
  a218 := Tryz.isAgg200
  z218 := Tryz.sizeOf200
  v218 := Tryz.zeroValue200
  t222 := Tryz.underlying204
  a222 := Tryz.isAgg204
  z222 := Tryz.sizeOf204
  v222 := Tryz.zeroValue204
  t228 := Tryz.underlying219
  a228 := Tryz.isAgg219
  z228 := Tryz.sizeOf219
  v228 := Tryz.zeroValue219
  t229 := Tryz.underlying220
  a229 := Tryz.isAgg220
  z229 := Tryz.sizeOf220
  v229 := Tryz.zeroValue220 }
open Go.Sort Go.RowKit in
theorem Tryz.slices_Sort_int (blk off cap : Nat) (zs : List Int) (w : World) (hH : Holds (Value.int .i64) w blk off zs.toArray) (hblk : blk < w.heap.size) (hsz : zs.length < 4611686018427387904) :
    Calls Tryz.prog 81 #[.slice (some ⟨blk, off, none⟩) zs.length cap] w fun e w' =>
      e = .returned (.tuple #[]) ∧ ∃ n os, w' = grow (putRow (Value.int .i64) (Sort.ahead w n) blk off (zs.mergeSort fun x y => decide (x ≤ y)).toArray) os := Any.slices_Sort_int Tryz.lays189 blk off cap zs w hH hblk hsz
def Tryz.lays146_ren : Go.Shelf.Ren := ⟨fun | 146 => 109 | 221 => 146 | 268 => 190 | 138 => 191 | 143 => 192 | 195 => 219 | 197 => 220 | 218 => 221 | 219 => 145 | 260 => 236 | 217 => 123 | 225 => 187 | 224 => 188 | 267 => 189 | 266 => 161 | 314 => 218 | n => n, fun | 9 => 9 | 31 => 84 | 3 => 3 | 4 => 4 | 0 => 0 | 105 => 217 | 21 => 21 | 5 => 5 | 46 => 148 | 119 => 230 | 139 => 233 | 138 => 232 | 146 => 215 | 51 => 181 | n => n, fun | 1 => 0 | 3 => 4 | 4 => 5 | n => n⟩
theorem Tryz.lays146 : Go.Proofs.Lays.n146 Tryz.prog Tryz.lays146_ren := {
  mixed := by kernel_rfl
  f138 := Tryz.func191.trans (congrArg some (by kernel_rfl))
  f143 := Tryz.func192.trans (congrArg some (by kernel_rfl))
  f146 := Tryz.func109.trans (congrArg some (by kernel_rfl))
  f195 := Tryz.func219.trans (congrArg some (by kernel_rfl))
  f197 := Tryz.func220.trans (congrArg some (by kernel_rfl))
  f217 := Tryz.func123.trans (congrArg some (by kernel_rfl))
  f218 := Tryz.func221.trans (congrArg some (by kernel_rfl))
  f219 := Tryz.func145.trans (congrArg some (by kernel_rfl))
  f221 := Tryz.func146.trans (congrArg some (by kernel_rfl))
  f224 := Tryz.func188.trans (congrArg some (by kernel_rfl))
  f225 := Tryz.func187.trans (congrArg some (by kernel_rfl))
  f260 := Tryz.func236.trans (congrArg some (by kernel_rfl))
  f266 := Tryz.func161.trans (congrArg some (by kernel_rfl))
  f267 := Tryz.func189.trans (congrArg some (by kernel_rfl))
  f268 := Tryz.func190.trans (congrArg some (by kernel_rfl))
  f314 := Tryz.func218.trans (congrArg some (by kernel_rfl))
  t0 := Tryz.underlying0
  a0 := Tryz.isAgg0
  z0 := Tryz.sizeOf0
  v0 := Tryz.zeroValue0
  t3 := Tryz.underlying3
  a3 := Tryz.isAgg3
  z3 := Tryz.sizeOf3
  v3 := Tryz.zeroValue3
  t4 := Tryz.underlying4
  a4 := Tryz.isAgg4
  z4 := Tryz.sizeOf4
  v4 := Tryz.zeroValue4
  t5 := Tryz.underlying5
  a5 := Tryz.isAgg5
  z5 := Tryz.sizeOf5
  v5 := Tryz.zeroValue5
  t9 := Tryz.underlying9
  a9 := Tryz.isAgg9
  z9 := Tryz.sizeOf9
  v9 := Tryz.zeroValue9
  t21 := Tryz.underlying21
  a21 := Tryz.isAgg21
  z21 := Tryz.sizeOf21
  v21 := Tryz.zeroValue21
  t31 := Tryz.underlying84
  a31 := Tryz.isAgg84
  z31 := Tryz.sizeOf84
  v31 := Tryz.zeroValue84
  t46 := Tryz.underlying148
  a46 := Tryz.isAgg148
  z46 := Tryz.sizeOf148
  v46 := Tryz.zeroValue148
  t51 := Tryz.underlying181
  a51 := Tryz.isAgg181
  z51 := Tryz.sizeOf181
  v51 := Tryz.zeroValue181
  t105 := Tryz.underlying217
  a105 := Tryz.isAgg217
  z105 := Tryz.sizeOf217
  v105 := Tryz.zeroValue217
  t119 := Tryz.underlying230
  a119 := Tryz.isAgg230
  z119 := Tryz.sizeOf230
  t138 := Tryz.underlying232
  a138 := Tryz.isAgg232
  z138 := Tryz.sizeOf232
  v138 := Tryz.zeroValue232
  t139 := Tryz.underlying233
  a139 := Tryz.isAgg233
  z139 := Tryz.sizeOf233
  v139 := Tryz.zeroValue233
  t146 := Tryz.underlying215
  a146 := Tryz.isAgg215
  z146 := Tryz.sizeOf215
  v146 := Tryz.zeroValue215
  g1 := by kernel_rfl
  g3 := by kernel_rfl
  g4 := by kernel_rfl }
open Go.RowKit Go.Lib in
theorem Tryz.strings_Split (s sep : ByteArray) (m : Int) (w : World) (hs : s.size < 4294967281) (hm : w.cell? ⟨0, 0, none⟩ = some (.int .i64 m)) (h1 : 1 ≤ sep.size) :
    Calls Tryz.prog 109 #[.string s, .string sep] w fun e w' =>
      e = .returned (.slice (some ⟨w.heap.size, 0, none⟩) (Lib.countB s sep + 1) (Lib.countB s sep + 1)) ∧ w' = w.alloc (.cells ((Lib.splitB sep 0 (Lib.countB s sep) s).map Value.string).toArray 9) := Any.strings_Split Tryz.lays146 (by kernel_rfl) s sep m w hs hm h1
open Go.RowKit Go.Sort in
theorem Tryz.slices_Sort_int_none (p : Option Addr) (cap : Nat) (w : World) :
    Calls Tryz.prog 81 #[.slice p 0 cap] w fun e w' => e = .returned (.tuple #[]) ∧ w' = w := Any.slices_Sort_int_none Tryz.lays189 p cap w
end Go.Proofs
