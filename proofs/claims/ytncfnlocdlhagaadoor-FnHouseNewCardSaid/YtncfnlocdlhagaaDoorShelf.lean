/-
  The contracts of the library functions that this seat calls, laid by the kit's tool at this seat's numbers. No condition of ours.
-/
import Derived.Shelf.Strings.Builder1
import Derived.Shelf.Strings.Builder2
import Derived.Shelf.Strings.OnBuilder
import Derived.Shelf.Small.Strs
import Derived.Shelf.Strings.BuilderF
import Derived.Shelf.Strings.BuilderK
import Derived.Shelf.Strconv.Itoa0
import Derived.Shelf.Strconv.Itoa1
import Derived.Shelf.LaysM
import Derived.Shelf.Strconv.Itoa2
import Derived.Shelf.Strconv.Itoa3
import Derived.Shelf.Strings.Search1
import Derived.Shelf.Strings.Search2
import Derived.Shelf.Strings.Search3
import Derived.Shelf.Strings.Cut
import Derived.Shelf.Strings.Count
import Derived.Shelf.Strings.Shaped
import Derived.Shelf.Sort.Plain
import Derived.Shelf.Strings.Split
import Derived.Shelf.Strings.SplitShaped
import Derived.Shelf.Unicode.DecodeSlow
import Derived.Shelf.Slices.In.SortNone
import Derived.Test.YtncfnlocdlhagaaDoorProg
namespace Go.Proofs
open Go.Shelf
def Tryd.lays169_ren : Go.Shelf.Ren := ⟨fun | 169 => 52 | n => n, fun | 70 => 85 | 9 => 9 | 0 => 0 | 72 => 87 | 37 => 22 | 127 => 120 | 3 => 3 | 5 => 5 | n => n, fun | n => n⟩
theorem Tryd.lays169 : Go.Proofs.Lays.n169 Tryd.prog Tryd.lays169_ren := {
  mixed := by kernel_rfl
  f169 := Tryd.func52.trans (congrArg some (by kernel_rfl))
  t0 := Tryd.underlying0
  a0 := Tryd.isAgg0
  z0 := Tryd.sizeOf0
  v0 := Tryd.zeroValue0
  t3 := Tryd.underlying3
  a3 := Tryd.isAgg3
  z3 := Tryd.sizeOf3
  v3 := Tryd.zeroValue3
  t9 := Tryd.underlying9
  a9 := Tryd.isAgg9
  z9 := Tryd.sizeOf9
  v9 := Tryd.zeroValue9
  t37 := Tryd.underlying22
  a37 := Tryd.isAgg22
  z37 := Tryd.sizeOf22
  v37 := Tryd.zeroValue22
  t70 := Tryd.underlying85
  a70 := Tryd.isAgg85
  z70 := Tryd.sizeOf85
  v70 := Tryd.zeroValue85
  t72 := Tryd.underlying87
  a72 := Tryd.isAgg87
  z72 := Tryd.sizeOf87
  v72 := Tryd.zeroValue87
  t127 := Tryd.underlying120
  a127 := Tryd.isAgg120
  z127 := Tryd.sizeOf120
  v127 := Tryd.zeroValue120 }
theorem Tryd.Builder_Extra_169 : Builder.Extra Tryd.prog Tryd.lays169_ren := {
  sizeBuilder := by kernel_rfl
  liesBuilder := by kernel_rfl
  t5 := Tryd.underlying5
  a5 := Tryd.isAgg5
  z5 := Tryd.sizeOf5
  v5 := Tryd.zeroValue5
  infoByte := by kernel_rfl
  cellsByte := by kernel_rfl
  sizeByte := by kernel_rfl
  neB5 := by decide }
open Go.RowKit in
theorem Tryd.Builder_String (B b : Nat) (l : List UInt8) (w : World) (h : Lib.IsBuilder 87 5 B b (Lib.byteCells l) w) (h0 : l ≠ []) :
    Calls Tryd.prog 52 #[.pointer (some ⟨b, 0, none⟩)] w fun e w' => e = .returned (.string ⟨l.toArray⟩) ∧ Below B w w' := Any.Builder_String Tryd.lays169 Tryd.Builder_Extra_169 B b l w h h0
open Go.RowKit in
theorem Tryd.Builder_String_empty (B b : Nat) (w : World) (h : Lib.IsBuilder 87 5 B b [] w) (hBw : B ≤ w.heap.size) :
    Calls Tryd.prog 52 #[.pointer (some ⟨b, 0, none⟩)] w fun e w' => e = .returned (.string ⟨#[]⟩) ∧ Below B w w' := Any.Builder_String_empty Tryd.lays169 Tryd.Builder_Extra_169 B b w h hBw
open Go.RowKit in
theorem Tryd.Builder_String_any (B b : Nat) (l : List UInt8) (w : World) (h : Lib.IsBuilder 87 5 B b (Lib.byteCells l) w) (hBw : B ≤ w.heap.size) :
    Calls Tryd.prog 52 #[.pointer (some ⟨b, 0, none⟩)] w fun e w' => e = .returned (.string ⟨l.toArray⟩) ∧ Below B w w' := Any.Builder_String_any Tryd.lays169 Tryd.Builder_Extra_169 B b l w h hBw
def Tryd.lays241_ren : Go.Shelf.Ren := ⟨fun | 241 => 111 | 277 => 135 | n => n, fun | 70 => 85 | 3 => 3 | 0 => 0 | 72 => 87 | 37 => 22 | 5 => 5 | n => n, fun | n => n⟩
theorem Tryd.lays241 : Go.Proofs.Lays.n241 Tryd.prog Tryd.lays241_ren := {
  mixed := by kernel_rfl
  f241 := Tryd.func111.trans (congrArg some (by kernel_rfl))
  f277 := Tryd.func135.trans (congrArg some (by kernel_rfl))
  t0 := Tryd.underlying0
  a0 := Tryd.isAgg0
  z0 := Tryd.sizeOf0
  v0 := Tryd.zeroValue0
  t3 := Tryd.underlying3
  a3 := Tryd.isAgg3
  z3 := Tryd.sizeOf3
  v3 := Tryd.zeroValue3
  t37 := Tryd.underlying22
  a37 := Tryd.isAgg22
  z37 := Tryd.sizeOf22
  v37 := Tryd.zeroValue22
  t70 := Tryd.underlying85
  a70 := Tryd.isAgg85
  z70 := Tryd.sizeOf85
  v70 := Tryd.zeroValue85
  t72 := Tryd.underlying87
  a72 := Tryd.isAgg87
  z72 := Tryd.sizeOf87
  v72 := Tryd.zeroValue87 }
theorem Tryd.Builder_Extra_241 : Builder.Extra Tryd.prog Tryd.lays241_ren := {
  sizeBuilder := by kernel_rfl
  liesBuilder := by kernel_rfl
  t5 := Tryd.underlying5
  a5 := Tryd.isAgg5
  z5 := Tryd.sizeOf5
  v5 := Tryd.zeroValue5
  infoByte := by kernel_rfl
  cellsByte := by kernel_rfl
  sizeByte := by kernel_rfl
  neB5 := by decide }
open Go.RowKit in
theorem Tryd.Builder_grow_fresh (B b n : Nat) (w : World) (hB : B ≤ b) (hbk : w.heap[b]? = some (.cells #[.pointer (some ⟨b, 0, none⟩), .slice none 0 0] 87 (0, 0))) (hBw : B ≤ w.heap.size) (hn : n ≤ 281474976710656) :
    Calls Tryd.prog 111 #[.pointer (some ⟨b, 0, none⟩), .int .i64 n] w fun e w' => e = .returned (.tuple #[]) ∧ (Lib.BuilderAt 87 5 B b (.pointer (some ⟨b, 0, none⟩)) [] w' ∧ Below B w w') := Any.Builder_grow_fresh Tryd.lays241 Tryd.Builder_Extra_241 B b n w hB hbk hBw hn
def Tryd.lays165_ren : Go.Shelf.Ren := ⟨fun | 165 => 94 | 240 => 88 | 241 => 111 | 276 => 108 | 277 => 135 | n => n, fun | 70 => 85 | 3 => 3 | 0 => 0 | 4 => 4 | 9 => 9 | 20 => 20 | 72 => 87 | 37 => 22 | 164 => 140 | 5 => 5 | n => n, fun | n => n⟩
theorem Tryd.lays165 : Go.Proofs.Lays.n165 Tryd.prog Tryd.lays165_ren := {
  mixed := by kernel_rfl
  f165 := Tryd.func94.trans (congrArg some (by kernel_rfl))
  f240 := Tryd.func88.trans (congrArg some (by kernel_rfl))
  f241 := Tryd.func111.trans (congrArg some (by kernel_rfl))
  f276 := Tryd.func108.trans (congrArg some (by kernel_rfl))
  f277 := Tryd.func135.trans (congrArg some (by kernel_rfl))
  t0 := Tryd.underlying0
  a0 := Tryd.isAgg0
  z0 := Tryd.sizeOf0
  v0 := Tryd.zeroValue0
  t3 := Tryd.underlying3
  a3 := Tryd.isAgg3
  z3 := Tryd.sizeOf3
  v3 := Tryd.zeroValue3
  t4 := Tryd.underlying4
  a4 := Tryd.isAgg4
  z4 := Tryd.sizeOf4
  v4 := Tryd.zeroValue4
  t9 := Tryd.underlying9
  a9 := Tryd.isAgg9
  z9 := Tryd.sizeOf9
  v9 := Tryd.zeroValue9
  t20 := Tryd.underlying20
  a20 := Tryd.isAgg20
  z20 := Tryd.sizeOf20
  v20 := Tryd.zeroValue20
  t37 := Tryd.underlying22
  a37 := Tryd.isAgg22
  z37 := Tryd.sizeOf22
  v37 := Tryd.zeroValue22
  t70 := Tryd.underlying85
  a70 := Tryd.isAgg85
  z70 := Tryd.sizeOf85
  v70 := Tryd.zeroValue85
  t72 := Tryd.underlying87
  a72 := Tryd.isAgg87
  z72 := Tryd.sizeOf87
  v72 := Tryd.zeroValue87
  t164 := Tryd.underlying140
  a164 := Tryd.isAgg140
  z164 := Tryd.sizeOf140
  v164 := Tryd.zeroValue140 }
theorem Tryd.Builder_Extra_165 : Builder.Extra Tryd.prog Tryd.lays165_ren := {
  sizeBuilder := by kernel_rfl
  liesBuilder := by kernel_rfl
  t5 := Tryd.underlying5
  a5 := Tryd.isAgg5
  z5 := Tryd.sizeOf5
  v5 := Tryd.zeroValue5
  infoByte := by kernel_rfl
  cellsByte := by kernel_rfl
  sizeByte := by kernel_rfl
  neB5 := by decide }
open Go.RowKit in
theorem Tryd.Builder_Grow_fresh (B b n : Nat) (w : World) (hB : B ≤ b) (hbk : w.heap[b]? = some (.cells #[.pointer none, .slice none 0 0] 87 (0, 0))) (hBw : B ≤ w.heap.size) (hn : n ≤ 281474976710656) :
    Calls Tryd.prog 94 #[.pointer (some ⟨b, 0, none⟩), .int .i64 n] w fun e w' => e = .returned (.tuple #[]) ∧ (Lib.BuilderAt 87 5 B b (.pointer (some ⟨b, 0, none⟩)) [] w' ∧ Below B w w') := Any.Builder_Grow_fresh Tryd.lays165 Tryd.Builder_Extra_165 B b n w hB hbk hBw hn
def Tryd.lays156_ren : Go.Shelf.Ren := ⟨fun | 156 => 63 | 165 => 94 | 166 => 51 | 169 => 52 | 240 => 88 | 241 => 111 | 276 => 108 | 277 => 135 | n => n, fun | 31 => 68 | 9 => 9 | 3 => 3 | 4 => 4 | 0 => 0 | 20 => 20 | 72 => 87 | 76 => 90 | 70 => 85 | 37 => 22 | 75 => 89 | 127 => 120 | 164 => 140 | 5 => 5 | 80 => 92 | n => n, fun | n => n⟩
theorem Tryd.lays156 : Go.Proofs.Lays.n156 Tryd.prog Tryd.lays156_ren := {
  mixed := by kernel_rfl
  f156 := Tryd.func63.trans (congrArg some (by kernel_rfl))
  f165 := Tryd.func94.trans (congrArg some (by kernel_rfl))
  f166 := Tryd.func51.trans (congrArg some (by kernel_rfl))
  f169 := Tryd.func52.trans (congrArg some (by kernel_rfl))
  f240 := Tryd.func88.trans (congrArg some (by kernel_rfl))
  f241 := Tryd.func111.trans (congrArg some (by kernel_rfl))
  f276 := Tryd.func108.trans (congrArg some (by kernel_rfl))
  f277 := Tryd.func135.trans (congrArg some (by kernel_rfl))
  t0 := Tryd.underlying0
  a0 := Tryd.isAgg0
  z0 := Tryd.sizeOf0
  v0 := Tryd.zeroValue0
  t3 := Tryd.underlying3
  a3 := Tryd.isAgg3
  z3 := Tryd.sizeOf3
  v3 := Tryd.zeroValue3
  t4 := Tryd.underlying4
  a4 := Tryd.isAgg4
  z4 := Tryd.sizeOf4
  v4 := Tryd.zeroValue4
  t9 := Tryd.underlying9
  a9 := Tryd.isAgg9
  z9 := Tryd.sizeOf9
  v9 := Tryd.zeroValue9
  t20 := Tryd.underlying20
  a20 := Tryd.isAgg20
  z20 := Tryd.sizeOf20
  v20 := Tryd.zeroValue20
  t31 := Tryd.underlying68
  a31 := Tryd.isAgg68
  z31 := Tryd.sizeOf68
  v31 := Tryd.zeroValue68
  t37 := Tryd.underlying22
  a37 := Tryd.isAgg22
  z37 := Tryd.sizeOf22
  v37 := Tryd.zeroValue22
  t70 := Tryd.underlying85
  a70 := Tryd.isAgg85
  z70 := Tryd.sizeOf85
  v70 := Tryd.zeroValue85
  t72 := Tryd.underlying87
  a72 := Tryd.isAgg87
  z72 := Tryd.sizeOf87
  v72 := Tryd.zeroValue87
  t75 := Tryd.underlying89
  a75 := Tryd.isAgg89
  z75 := Tryd.sizeOf89
  v75 := Tryd.zeroValue89
  t76 := Tryd.underlying90
  a76 := Tryd.isAgg90
  z76 := Tryd.sizeOf90
  v76 := Tryd.zeroValue90
  t127 := Tryd.underlying120
  a127 := Tryd.isAgg120
  z127 := Tryd.sizeOf120
  v127 := Tryd.zeroValue120
  t164 := Tryd.underlying140
  a164 := Tryd.isAgg140
  z164 := Tryd.sizeOf140
  v164 := Tryd.zeroValue140 }
theorem Tryd.Builder_Extra_156 : Builder.Extra Tryd.prog Tryd.lays156_ren := {
  sizeBuilder := by kernel_rfl
  liesBuilder := by kernel_rfl
  t5 := Tryd.underlying5
  a5 := Tryd.isAgg5
  z5 := Tryd.sizeOf5
  v5 := Tryd.zeroValue5
  infoByte := by kernel_rfl
  cellsByte := by kernel_rfl
  sizeByte := by kernel_rfl
  neB5 := by decide }
open Go.RowKit in
theorem Tryd.strings_Join_none (a : Option Addr) (c : Nat) (sep : ByteArray) (w : World) :
    Calls Tryd.prog 63 #[.slice a 0 c, .string sep] w fun e w' => e = .returned (.string ⟨#[]⟩) ∧ w' = w := Any.strings_Join_none Tryd.lays156 Tryd.Builder_Extra_156 a c sep w
open Go.RowKit in
theorem Tryd.strings_Join (bk o c : Nat) (xs : List ByteArray) (sep : ByteArray) (w : World) (hcells : ∀ (j : Nat) x, xs[j]? = some x → w.cell? ⟨bk, o + j, none⟩ = some (.string x)) (hbk : bk < w.heap.size) (hN : xs.length ≤ 140737488355328) (hcap : xs.length ≤ c) (hlen : (Lib.join (xs.map (·.data.toList)) sep.data.toList).length ≤ 140737488355328) :
    Calls Tryd.prog 63 #[.slice (some ⟨bk, o, none⟩) xs.length c, .string sep] w fun e w' => e = .returned (.string ⟨(Lib.join (xs.map (·.data.toList)) sep.data.toList).toArray⟩) ∧ Below w.heap.size w w' := Any.strings_Join Tryd.lays156 Tryd.Builder_Extra_156 bk o c xs sep w hcells hbk hN hcap hlen
def Tryd.lays137_ren : Go.Shelf.Ren := ⟨fun | 137 => 38 | 217 => 81 | 266 => 104 | n => n, fun | 9 => 9 | 5 => 5 | 3 => 3 | n => n, fun | n => n⟩
theorem Tryd.lays137 : Go.Proofs.Lays.n137 Tryd.prog Tryd.lays137_ren := {
  mixed := by kernel_rfl
  f137 := Tryd.func38.trans (congrArg some (by kernel_rfl))
  f217 := Tryd.func81.trans (congrArg some (by kernel_rfl))
  f266 := Tryd.func104.trans (congrArg some (by kernel_rfl))
  t3 := Tryd.underlying3
  a3 := Tryd.isAgg3
  z3 := Tryd.sizeOf3
  v3 := Tryd.zeroValue3
  t5 := Tryd.underlying5
  a5 := Tryd.isAgg5
  z5 := Tryd.sizeOf5
  v5 := Tryd.zeroValue5
  t9 := Tryd.underlying9
  a9 := Tryd.isAgg9
  z9 := Tryd.sizeOf9
  v9 := Tryd.zeroValue9 }
open Go.RowKit in
theorem Tryd.strings_IndexByte (s : ByteArray) (c : Int) (w : World) :
    Calls Tryd.prog 38 #[.string s, .int .u8 c] w fun e w' => e = .returned (.int .i64 (Lib.indexByte s.data.toList c.toNat.toUInt8)) ∧ w' = w := Any.strings_IndexByte Tryd.lays137 s c w
open Go.RowKit in
theorem Tryd.Builder_String_f (B b : Nat) (l : List UInt8) (w : World) (h : Lib.IsBuilderF 87 5 B b (Lib.byteCells l) w) (h0 : l ≠ []) :
    Calls Tryd.prog 52 #[.pointer (some ⟨b, 0, none⟩)] w fun e w' => e = .returned (.string ⟨l.toArray⟩) ∧ (Lib.IsBuilderF 87 5 B b (Lib.byteCells l) w' ∧ Below B w w') := Any.Builder_String_f Tryd.lays169 Tryd.Builder_Extra_169 B b l w h h0
open Go.RowKit in
theorem Tryd.Builder_String_empty_f (B b : Nat) (w : World) (h : Lib.IsBuilderF 87 5 B b [] w) (hBw : B ≤ w.heap.size) :
    Calls Tryd.prog 52 #[.pointer (some ⟨b, 0, none⟩)] w fun e w' => e = .returned (.string ⟨#[]⟩) ∧ (Lib.IsBuilderF 87 5 B b [] w' ∧ Below B w w') := Any.Builder_String_empty_f Tryd.lays169 Tryd.Builder_Extra_169 B b w h hBw
open Go.RowKit in
theorem Tryd.Builder_String_any_f (B b : Nat) (l : List UInt8) (w : World) (h : Lib.IsBuilderF 87 5 B b (Lib.byteCells l) w) (hBw : B ≤ w.heap.size) :
    Calls Tryd.prog 52 #[.pointer (some ⟨b, 0, none⟩)] w fun e w' => e = .returned (.string ⟨l.toArray⟩) ∧ (Lib.IsBuilderF 87 5 B b (Lib.byteCells l) w' ∧ Below B w w') := Any.Builder_String_any_f Tryd.lays169 Tryd.Builder_Extra_169 B b l w h hBw
open Go.RowKit in
theorem Tryd.Builder_String_k (B b : Nat) (l : List UInt8) (w : World) (h : Lib.IsBuilderF 87 5 B b (Lib.byteCells l) w) (h0 : l ≠ []) :
    Calls Tryd.prog 52 #[.pointer (some ⟨b, 0, none⟩)] w fun e w' => e = .returned (.string ⟨l.toArray⟩) ∧ (Lib.IsBuilderF 87 5 B b (Lib.byteCells l) w' ∧ Below B w w' ∧ Lib.OthersKept 5 (some b) w w') := Any.Builder_String_k Tryd.lays169 Tryd.Builder_Extra_169 B b l w h h0
open Go.RowKit in
theorem Tryd.Builder_String_empty_k (B b : Nat) (w : World) (h : Lib.IsBuilderF 87 5 B b [] w) (hBw : B ≤ w.heap.size) :
    Calls Tryd.prog 52 #[.pointer (some ⟨b, 0, none⟩)] w fun e w' => e = .returned (.string ⟨#[]⟩) ∧ (Lib.IsBuilderF 87 5 B b [] w' ∧ Below B w w' ∧ Lib.OthersKept 5 (some b) w w') := Any.Builder_String_empty_k Tryd.lays169 Tryd.Builder_Extra_169 B b w h hBw
open Go.RowKit in
theorem Tryd.Builder_String_any_k (B b : Nat) (l : List UInt8) (w : World) (h : Lib.IsBuilderF 87 5 B b (Lib.byteCells l) w) (hBw : B ≤ w.heap.size) :
    Calls Tryd.prog 52 #[.pointer (some ⟨b, 0, none⟩)] w fun e w' => e = .returned (.string ⟨l.toArray⟩) ∧ (Lib.IsBuilderF 87 5 B b (Lib.byteCells l) w' ∧ Below B w w' ∧ Lib.OthersKept 5 (some b) w w') := Any.Builder_String_any_k Tryd.lays169 Tryd.Builder_Extra_169 B b l w h hBw
def Tryd.lays129_ren : Go.Shelf.Ren := ⟨fun | 129 => 123 | n => n, fun | 53 => 156 | 3 => 3 | 4 => 4 | 46 => 135 | 5 => 5 | 9 => 9 | n => n, fun | n => n⟩
theorem Tryd.lays129 : Go.Proofs.Lays.n129 Tryd.prog Tryd.lays129_ren := {
  mixed := by kernel_rfl
  f129 := Tryd.func123.trans (congrArg some (by kernel_rfl))
  t3 := Tryd.underlying3
  a3 := Tryd.isAgg3
  z3 := Tryd.sizeOf3
  v3 := Tryd.zeroValue3
  t4 := Tryd.underlying4
  a4 := Tryd.isAgg4
  z4 := Tryd.sizeOf4
  v4 := Tryd.zeroValue4
  t5 := Tryd.underlying5
  a5 := Tryd.isAgg5
  z5 := Tryd.sizeOf5
  v5 := Tryd.zeroValue5
  t9 := Tryd.underlying9
  a9 := Tryd.isAgg9
  z9 := Tryd.sizeOf9
  v9 := Tryd.zeroValue9
  t46 := Tryd.underlying135
  a46 := Tryd.isAgg135
  z46 := Tryd.sizeOf135
  v46 := Tryd.zeroValue135
  t53 := Tryd.underlying156
  a53 := Tryd.isAgg156
  z53 := Tryd.sizeOf156
  v53 := Tryd.zeroValue156 }
theorem Tryd.bits_Len64 (x : Int) (w : World) (h0 : 0 ≤ x) (h1 : x ≤ 18446744073709551615) :
    Calls Tryd.prog 123 #[.int .u64 x] w fun e w' => e = .returned (.int .i64 (Lib.bitLen x.toNat)) ∧ w' = w := Any.bits_Len64 Tryd.lays129 x w h0 h1
def Tryd.lays317_ren : Go.Shelf.Ren := ⟨fun | 317 => 146 | n => n, fun | 3 => 3 | 46 => 135 | n => n, fun | n => n⟩
theorem Tryd.lays317 : Go.Proofs.Lays.n317 Tryd.prog Tryd.lays317_ren := {
  mixed := by kernel_rfl
  f317 := Tryd.func146.trans (congrArg some (by kernel_rfl))
  t3 := Tryd.underlying3
  a3 := Tryd.isAgg3
  z3 := Tryd.sizeOf3
  v3 := Tryd.zeroValue3
  t46 := Tryd.underlying135
  a46 := Tryd.isAgg135
  z46 := Tryd.sizeOf135
  v46 := Tryd.zeroValue135 }
open Go.Lib in
theorem Tryd.internal_strconv_log10Pow2 (x : Nat) (h : x ≤ 64) (w : World) :
    Calls Tryd.prog 146 #[.int .i64 x] w fun e w' => e = .returned (.int .i64 (Lib.l10 x)) ∧ w' = w := Any.internal_strconv_log10Pow2 Tryd.lays317 x h w
def Tryd.lays318_ren : Go.Shelf.Ren := ⟨fun | 318 => 147 | n => n, fun | 3 => 3 | 4 => 4 | n => n, fun | n => n⟩
theorem Tryd.lays318 : Go.Proofs.Lays.n318 Tryd.prog Tryd.lays318_ren := {
  mixed := by kernel_rfl
  f318 := Tryd.func147.trans (congrArg some (by kernel_rfl))
  t3 := Tryd.underlying3
  a3 := Tryd.isAgg3
  z3 := Tryd.sizeOf3
  v3 := Tryd.zeroValue3
  t4 := Tryd.underlying4
  a4 := Tryd.isAgg4
  z4 := Tryd.sizeOf4
  v4 := Tryd.zeroValue4 }
open Go.Lib in
theorem Tryd.internal_strconv_bool2_int (b : Bool) (w : World) :
    Calls Tryd.prog 147 #[.bool b] w fun e w' => e = .returned (.int .i64 (if b then 1 else 0)) ∧ w' = w := Any.internal_strconv_bool2_int Tryd.lays318 b w
def Tryd.lays283_ren : Go.Shelf.Ren := ⟨fun | 283 => 131 | n => n, fun | 3 => 3 | 9 => 9 | 4 => 4 | n => n, fun | n => n⟩
theorem Tryd.lays283 : Go.Proofs.Lays.n283 Tryd.prog Tryd.lays283_ren := {
  mixed := by kernel_rfl
  f283 := Tryd.func131.trans (congrArg some (by kernel_rfl))
  t3 := Tryd.underlying3
  a3 := Tryd.isAgg3
  z3 := Tryd.sizeOf3
  v3 := Tryd.zeroValue3
  t4 := Tryd.underlying4
  a4 := Tryd.isAgg4
  z4 := Tryd.sizeOf4
  v4 := Tryd.zeroValue4
  t9 := Tryd.underlying9
  a9 := Tryd.isAgg9
  z9 := Tryd.sizeOf9
  v9 := Tryd.zeroValue9 }
open Go.Lib in
theorem Tryd.internal_strconv_small (i : Nat) (h : i < 100) (w : World) :
    Calls Tryd.prog 131 #[.int .i64 i] w fun e w' => e = .returned (.string ⟨(Lib.decDigits i).toArray⟩) ∧ w' = w := Any.internal_strconv_small Tryd.lays283 i h w
def Tryd.laysM284_ren : Go.Shelf.Ren := ⟨fun | 284 => 132 | 129 => 123 | 317 => 146 | 318 => 147 | n => n, fun | 53 => 156 | 3 => 3 | 212 => 174 | 0 => 0 | 4 => 4 | 46 => 135 | 5 => 5 | 9 => 9 | n => n, fun | 17 => 1 | n => n⟩
theorem Tryd.laysM284 : Go.Proofs.LaysM.n284 Tryd.prog Tryd.laysM284_ren := {
  mixed := by kernel_rfl
  f129 := Tryd.func123.trans (congrArg some (by kernel_rfl))
  f284 := Tryd.func132.trans (congrArg some (by kernel_rfl))
  f317 := Tryd.func146.trans (congrArg some (by kernel_rfl))
  f318 := Tryd.func147.trans (congrArg some (by kernel_rfl))
  t0 := Tryd.underlying0
  a0 := Tryd.isAgg0
  z0 := Tryd.sizeOf0
  v0 := Tryd.zeroValue0
  t3 := Tryd.underlying3
  a3 := Tryd.isAgg3
  z3 := Tryd.sizeOf3
  v3 := Tryd.zeroValue3
  t4 := Tryd.underlying4
  a4 := Tryd.isAgg4
  z4 := Tryd.sizeOf4
  v4 := Tryd.zeroValue4
  t5 := Tryd.underlying5
  a5 := Tryd.isAgg5
  z5 := Tryd.sizeOf5
  v5 := Tryd.zeroValue5
  t9 := Tryd.underlying9
  a9 := Tryd.isAgg9
  z9 := Tryd.sizeOf9
  v9 := Tryd.zeroValue9
  t46 := Tryd.underlying135
  a46 := Tryd.isAgg135
  z46 := Tryd.sizeOf135
  v46 := Tryd.zeroValue135
  t53 := Tryd.underlying156
  a53 := Tryd.isAgg156
  z53 := Tryd.sizeOf156
  v53 := Tryd.zeroValue156
  t212 := Tryd.underlying174
  a212 := Tryd.isAgg174
  z212 := Tryd.sizeOf174
  v212 := Tryd.zeroValue174
  g17 := by kernel_rfl
  i0 := by kernel_rfl
  i3 := by kernel_rfl
  i4 := by kernel_rfl
  i5 := by kernel_rfl
  i9 := by kernel_rfl
  i46 := by kernel_rfl
  i53 := by kernel_rfl
  i212 := by kernel_rfl
  m17 := by kernel_rfl }
open Go.Lib in
theorem Tryd.internal_strconv_numDigits (u : Nat) (h1 : 1 ≤ u) (h2 : u < 18446744073709551616) (w : World) (htab : Lib.TabIs Tryd.prog w "internal/strconv.uint64pow10" .u64 Lib.pow10Tab) :
    Calls Tryd.prog 132 #[.int .u64 u] w fun e w' => e = .returned (.int .i64 (Lib.nDigits u)) ∧ w' = w := Any.internal_strconv_numDigits Tryd.laysM284 u h1 h2 w htab
def Tryd.lays285_ren : Go.Shelf.Ren := ⟨fun | 285 => 133 | n => n, fun | 37 => 22 | 53 => 156 | 3 => 3 | 4 => 4 | 51 => 154 | 9 => 9 | 5 => 5 | 0 => 0 | n => n, fun | n => n⟩
theorem Tryd.lays285 : Go.Proofs.Lays.n285 Tryd.prog Tryd.lays285_ren := {
  mixed := by kernel_rfl
  f285 := Tryd.func133.trans (congrArg some (by kernel_rfl))
  t0 := Tryd.underlying0
  a0 := Tryd.isAgg0
  z0 := Tryd.sizeOf0
  v0 := Tryd.zeroValue0
  t3 := Tryd.underlying3
  a3 := Tryd.isAgg3
  z3 := Tryd.sizeOf3
  v3 := Tryd.zeroValue3
  t4 := Tryd.underlying4
  a4 := Tryd.isAgg4
  z4 := Tryd.sizeOf4
  v4 := Tryd.zeroValue4
  t5 := Tryd.underlying5
  a5 := Tryd.isAgg5
  z5 := Tryd.sizeOf5
  v5 := Tryd.zeroValue5
  t9 := Tryd.underlying9
  a9 := Tryd.isAgg9
  z9 := Tryd.sizeOf9
  v9 := Tryd.zeroValue9
  t37 := Tryd.underlying22
  a37 := Tryd.isAgg22
  z37 := Tryd.sizeOf22
  v37 := Tryd.zeroValue22
  t51 := Tryd.underlying154
  a51 := Tryd.isAgg154
  z51 := Tryd.sizeOf154
  v51 := Tryd.zeroValue154
  t53 := Tryd.underlying156
  a53 := Tryd.isAgg156
  z53 := Tryd.sizeOf156
  v53 := Tryd.zeroValue156 }
open Go.RowKit Go.Sort Go.Lib in
theorem Tryd.internal_strconv_formatBase10 (blk off cap : Nat) (u : Nat) (d : Array UInt8) (w : World) (hH : Holds (fun (b : UInt8) => Value.int .u8 (b.toNat : Int)) w blk off d) (hu : u < 10 ^ d.size) (hu64 : u < 18446744073709551616) (hsz : d.size < 4611686018427387904) :
    Calls Tryd.prog 133 #[.slice (some ⟨blk, off, none⟩) d.size cap, .int .u64 u] w fun e w' =>
      e = .returned (.tuple #[]) ∧ ∃ (n v' : Nat) (dk : Array UInt8), w' = (putRow (fun (b : UInt8) => Value.int .u8 (b.toNat : Int)) w blk off dk).drewN n ∧ FmtInv d.size u 0 v' dk := Any.internal_strconv_formatBase10 Tryd.lays285 blk off cap u d w hH hu hu64 hsz
def Tryd.laysM246_ren : Go.Shelf.Ren := ⟨fun | 246 => 107 | 283 => 131 | 284 => 132 | 285 => 133 | 286 => 134 | 129 => 123 | 317 => 146 | 318 => 147 | 319 => 148 | 320 => 149 | 337 => 152 | 338 => 153 | n => n, fun | 2 => 2 | 3 => 3 | 9 => 9 | 4 => 4 | 171 => 158 | 0 => 0 | 53 => 156 | 37 => 22 | 5 => 5 | 173 => 160 | 212 => 174 | 51 => 154 | 20 => 20 | 213 => 175 | 46 => 135 | 232 => 183 | 233 => 184 | n => n, fun | 17 => 1 | 18 => 4 | 19 => 5 | n => n⟩
theorem Tryd.laysM246 : Go.Proofs.LaysM.n246 Tryd.prog Tryd.laysM246_ren := {
  mixed := by kernel_rfl
  f129 := Tryd.func123.trans (congrArg some (by kernel_rfl))
  f246 := Tryd.func107.trans (congrArg some (by kernel_rfl))
  f283 := Tryd.func131.trans (congrArg some (by kernel_rfl))
  f284 := Tryd.func132.trans (congrArg some (by kernel_rfl))
  f285 := Tryd.func133.trans (congrArg some (by kernel_rfl))
  f286 := Tryd.func134.trans (congrArg some (by kernel_rfl))
  f317 := Tryd.func146.trans (congrArg some (by kernel_rfl))
  f318 := Tryd.func147.trans (congrArg some (by kernel_rfl))
  f319 := Tryd.func148.trans (congrArg some (by kernel_rfl))
  f320 := Tryd.func149.trans (congrArg some (by kernel_rfl))
  f337 := Tryd.func152.trans (congrArg some (by kernel_rfl))
  f338 := Tryd.func153.trans (congrArg some (by kernel_rfl))
  t0 := Tryd.underlying0
  a0 := Tryd.isAgg0
  z0 := Tryd.sizeOf0
  v0 := Tryd.zeroValue0
  t2 := Tryd.underlying2
  a2 := Tryd.isAgg2
  z2 := Tryd.sizeOf2
  v2 := Tryd.zeroValue2
  t3 := Tryd.underlying3
  a3 := Tryd.isAgg3
  z3 := Tryd.sizeOf3
  v3 := Tryd.zeroValue3
  t4 := Tryd.underlying4
  a4 := Tryd.isAgg4
  z4 := Tryd.sizeOf4
  v4 := Tryd.zeroValue4
  t5 := Tryd.underlying5
  a5 := Tryd.isAgg5
  z5 := Tryd.sizeOf5
  v5 := Tryd.zeroValue5
  t9 := Tryd.underlying9
  a9 := Tryd.isAgg9
  z9 := Tryd.sizeOf9
  v9 := Tryd.zeroValue9
  t20 := Tryd.underlying20
  a20 := Tryd.isAgg20
  z20 := Tryd.sizeOf20
  v20 := Tryd.zeroValue20
  t37 := Tryd.underlying22
  a37 := Tryd.isAgg22
  z37 := Tryd.sizeOf22
  v37 := Tryd.zeroValue22
  t46 := Tryd.underlying135
  a46 := Tryd.isAgg135
  z46 := Tryd.sizeOf135
  v46 := Tryd.zeroValue135
  t51 := Tryd.underlying154
  a51 := Tryd.isAgg154
  z51 := Tryd.sizeOf154
  v51 := Tryd.zeroValue154
  t53 := Tryd.underlying156
  a53 := Tryd.isAgg156
  z53 := Tryd.sizeOf156
  v53 := Tryd.zeroValue156
  t171 := Tryd.underlying158
  a171 := Tryd.isAgg158
  z171 := Tryd.sizeOf158
  v171 := Tryd.zeroValue158
  t173 := Tryd.underlying160
  a173 := Tryd.isAgg160
  z173 := Tryd.sizeOf160
  v173 := Tryd.zeroValue160
  t212 := Tryd.underlying174
  a212 := Tryd.isAgg174
  z212 := Tryd.sizeOf174
  v212 := Tryd.zeroValue174
  t213 := Tryd.underlying175
  a213 := Tryd.isAgg175
  z213 := Tryd.sizeOf175
  t232 := Tryd.underlying183
  a232 := Tryd.isAgg183
  z232 := Tryd.sizeOf183
  v232 := Tryd.zeroValue183
  t233 := Tryd.underlying184
  a233 := Tryd.isAgg184
  z233 := Tryd.sizeOf184
  v233 := Tryd.zeroValue184
  g17 := by kernel_rfl
  g18 := by kernel_rfl
  g19 := by kernel_rfl
  i0 := by kernel_rfl
  i2 := by kernel_rfl
  i3 := by kernel_rfl
  i4 := by kernel_rfl
  i5 := by kernel_rfl
  i9 := by kernel_rfl
  i20 := by kernel_rfl
  i37 := by kernel_rfl
  i46 := by kernel_rfl
  i51 := by kernel_rfl
  i53 := by kernel_rfl
  i171 := by kernel_rfl
  i173 := by kernel_rfl
  i212 := by kernel_rfl
  i232 := by kernel_rfl
  i233 := by kernel_rfl
  m17 := by kernel_rfl
  m18 := by kernel_rfl
  m19 := by kernel_rfl }
open Go.RowKit Go.Sort Go.Lib in
theorem Tryd.internal_strconv_FormatInt_10 (n : Int) (h0 : -9223372036854775808 ≤ n) (h1 : n ≤ 9223372036854775807) (w : World) (htab : Lib.TabIs Tryd.prog w "internal/strconv.uint64pow10" .u64 Lib.pow10Tab) :
    Calls Tryd.prog 107 #[.int .i64 n, .int .i64 10] w fun e w' => e = .returned (.string ⟨(Lib.itoa n).toArray⟩) ∧ ∃ k os, w' = grow (w.drewN k) os := Any.internal_strconv_FormatInt_10 Tryd.laysM246 n h0 h1 w htab
def Tryd.lays246_ren : Go.Shelf.Ren := ⟨fun | 246 => 107 | 283 => 131 | 284 => 132 | 285 => 133 | 286 => 134 | 129 => 123 | 317 => 146 | 318 => 147 | 319 => 148 | 320 => 149 | 337 => 152 | 338 => 153 | n => n, fun | 2 => 2 | 3 => 3 | 9 => 9 | 4 => 4 | 171 => 158 | 0 => 0 | 53 => 156 | 37 => 22 | 5 => 5 | 173 => 160 | 212 => 174 | 51 => 154 | 20 => 20 | 213 => 175 | 46 => 135 | 232 => 183 | 233 => 184 | n => n, fun | 17 => 1 | 18 => 4 | 19 => 5 | n => n⟩
theorem Tryd.lays246 : Go.Proofs.Lays.n246 Tryd.prog Tryd.lays246_ren := {
  mixed := by kernel_rfl
  f129 := Tryd.func123.trans (congrArg some (by kernel_rfl))
  f246 := Tryd.func107.trans (congrArg some (by kernel_rfl))
  f283 := Tryd.func131.trans (congrArg some (by kernel_rfl))
  f284 := Tryd.func132.trans (congrArg some (by kernel_rfl))
  f285 := Tryd.func133.trans (congrArg some (by kernel_rfl))
  f286 := Tryd.func134.trans (congrArg some (by kernel_rfl))
  f317 := Tryd.func146.trans (congrArg some (by kernel_rfl))
  f318 := Tryd.func147.trans (congrArg some (by kernel_rfl))
  f319 := Tryd.func148.trans (congrArg some (by kernel_rfl))
  f320 := Tryd.func149.trans (congrArg some (by kernel_rfl))
  f337 := Tryd.func152.trans (congrArg some (by kernel_rfl))
  f338 := Tryd.func153.trans (congrArg some (by kernel_rfl))
  t0 := Tryd.underlying0
  a0 := Tryd.isAgg0
  z0 := Tryd.sizeOf0
  v0 := Tryd.zeroValue0
  t2 := Tryd.underlying2
  a2 := Tryd.isAgg2
  z2 := Tryd.sizeOf2
  v2 := Tryd.zeroValue2
  t3 := Tryd.underlying3
  a3 := Tryd.isAgg3
  z3 := Tryd.sizeOf3
  v3 := Tryd.zeroValue3
  t4 := Tryd.underlying4
  a4 := Tryd.isAgg4
  z4 := Tryd.sizeOf4
  v4 := Tryd.zeroValue4
  t5 := Tryd.underlying5
  a5 := Tryd.isAgg5
  z5 := Tryd.sizeOf5
  v5 := Tryd.zeroValue5
  t9 := Tryd.underlying9
  a9 := Tryd.isAgg9
  z9 := Tryd.sizeOf9
  v9 := Tryd.zeroValue9
  t20 := Tryd.underlying20
  a20 := Tryd.isAgg20
  z20 := Tryd.sizeOf20
  v20 := Tryd.zeroValue20
  t37 := Tryd.underlying22
  a37 := Tryd.isAgg22
  z37 := Tryd.sizeOf22
  v37 := Tryd.zeroValue22
  t46 := Tryd.underlying135
  a46 := Tryd.isAgg135
  z46 := Tryd.sizeOf135
  v46 := Tryd.zeroValue135
  t51 := Tryd.underlying154
  a51 := Tryd.isAgg154
  z51 := Tryd.sizeOf154
  v51 := Tryd.zeroValue154
  t53 := Tryd.underlying156
  a53 := Tryd.isAgg156
  z53 := Tryd.sizeOf156
  v53 := Tryd.zeroValue156
  t171 := Tryd.underlying158
  a171 := Tryd.isAgg158
  z171 := Tryd.sizeOf158
  v171 := Tryd.zeroValue158
  t173 := Tryd.underlying160
  a173 := Tryd.isAgg160
  z173 := Tryd.sizeOf160
  v173 := Tryd.zeroValue160
  t212 := Tryd.underlying174
  a212 := Tryd.isAgg174
  z212 := Tryd.sizeOf174
  v212 := Tryd.zeroValue174
  t213 := Tryd.underlying175
  a213 := Tryd.isAgg175
  z213 := Tryd.sizeOf175
  t232 := Tryd.underlying183
  a232 := Tryd.isAgg183
  z232 := Tryd.sizeOf183
  v232 := Tryd.zeroValue183
  t233 := Tryd.underlying184
  a233 := Tryd.isAgg184
  z233 := Tryd.sizeOf184
  v233 := Tryd.zeroValue184
  g17 := by kernel_rfl
  g18 := by kernel_rfl
  g19 := by kernel_rfl }
open Go.RowKit Go.Sort Go.Lib in
theorem Tryd.internal_strconv_FormatInt_10_small (i : Nat) (hi : i < 100) (w : World) :
    Calls Tryd.prog 107 #[.int .i64 i, .int .i64 10] w fun e w' => e = .returned (.string ⟨(Lib.decDigits i).toArray⟩) ∧ w' = w := Any.internal_strconv_FormatInt_10_small Tryd.lays246 i hi w
def Tryd.laysM243_ren : Go.Shelf.Ren := ⟨fun | 243 => 87 | 246 => 107 | 283 => 131 | 284 => 132 | 285 => 133 | 286 => 134 | 129 => 123 | 317 => 146 | 318 => 147 | 319 => 148 | 320 => 149 | 337 => 152 | 338 => 153 | n => n, fun | 3 => 3 | 9 => 9 | 2 => 2 | 4 => 4 | 171 => 158 | 0 => 0 | 53 => 156 | 37 => 22 | 5 => 5 | 173 => 160 | 212 => 174 | 51 => 154 | 20 => 20 | 213 => 175 | 46 => 135 | 232 => 183 | 233 => 184 | n => n, fun | 17 => 1 | 18 => 4 | 19 => 5 | n => n⟩
theorem Tryd.laysM243 : Go.Proofs.LaysM.n243 Tryd.prog Tryd.laysM243_ren := {
  mixed := by kernel_rfl
  f129 := Tryd.func123.trans (congrArg some (by kernel_rfl))
  f243 := Tryd.func87.trans (congrArg some (by kernel_rfl))
  f246 := Tryd.func107.trans (congrArg some (by kernel_rfl))
  f283 := Tryd.func131.trans (congrArg some (by kernel_rfl))
  f284 := Tryd.func132.trans (congrArg some (by kernel_rfl))
  f285 := Tryd.func133.trans (congrArg some (by kernel_rfl))
  f286 := Tryd.func134.trans (congrArg some (by kernel_rfl))
  f317 := Tryd.func146.trans (congrArg some (by kernel_rfl))
  f318 := Tryd.func147.trans (congrArg some (by kernel_rfl))
  f319 := Tryd.func148.trans (congrArg some (by kernel_rfl))
  f320 := Tryd.func149.trans (congrArg some (by kernel_rfl))
  f337 := Tryd.func152.trans (congrArg some (by kernel_rfl))
  f338 := Tryd.func153.trans (congrArg some (by kernel_rfl))
  t0 := Tryd.underlying0
  a0 := Tryd.isAgg0
  z0 := Tryd.sizeOf0
  v0 := Tryd.zeroValue0
  t2 := Tryd.underlying2
  a2 := Tryd.isAgg2
  z2 := Tryd.sizeOf2
  v2 := Tryd.zeroValue2
  t3 := Tryd.underlying3
  a3 := Tryd.isAgg3
  z3 := Tryd.sizeOf3
  v3 := Tryd.zeroValue3
  t4 := Tryd.underlying4
  a4 := Tryd.isAgg4
  z4 := Tryd.sizeOf4
  v4 := Tryd.zeroValue4
  t5 := Tryd.underlying5
  a5 := Tryd.isAgg5
  z5 := Tryd.sizeOf5
  v5 := Tryd.zeroValue5
  t9 := Tryd.underlying9
  a9 := Tryd.isAgg9
  z9 := Tryd.sizeOf9
  v9 := Tryd.zeroValue9
  t20 := Tryd.underlying20
  a20 := Tryd.isAgg20
  z20 := Tryd.sizeOf20
  v20 := Tryd.zeroValue20
  t37 := Tryd.underlying22
  a37 := Tryd.isAgg22
  z37 := Tryd.sizeOf22
  v37 := Tryd.zeroValue22
  t46 := Tryd.underlying135
  a46 := Tryd.isAgg135
  z46 := Tryd.sizeOf135
  v46 := Tryd.zeroValue135
  t51 := Tryd.underlying154
  a51 := Tryd.isAgg154
  z51 := Tryd.sizeOf154
  v51 := Tryd.zeroValue154
  t53 := Tryd.underlying156
  a53 := Tryd.isAgg156
  z53 := Tryd.sizeOf156
  v53 := Tryd.zeroValue156
  t171 := Tryd.underlying158
  a171 := Tryd.isAgg158
  z171 := Tryd.sizeOf158
  v171 := Tryd.zeroValue158
  t173 := Tryd.underlying160
  a173 := Tryd.isAgg160
  z173 := Tryd.sizeOf160
  v173 := Tryd.zeroValue160
  t212 := Tryd.underlying174
  a212 := Tryd.isAgg174
  z212 := Tryd.sizeOf174
  v212 := Tryd.zeroValue174
  t213 := Tryd.underlying175
  a213 := Tryd.isAgg175
  z213 := Tryd.sizeOf175
  t232 := Tryd.underlying183
  a232 := Tryd.isAgg183
  z232 := Tryd.sizeOf183
  v232 := Tryd.zeroValue183
  t233 := Tryd.underlying184
  a233 := Tryd.isAgg184
  z233 := Tryd.sizeOf184
  v233 := Tryd.zeroValue184
  g17 := by kernel_rfl
  g18 := by kernel_rfl
  g19 := by kernel_rfl
  i0 := by kernel_rfl
  i2 := by kernel_rfl
  i3 := by kernel_rfl
  i4 := by kernel_rfl
  i5 := by kernel_rfl
  i9 := by kernel_rfl
  i20 := by kernel_rfl
  i37 := by kernel_rfl
  i46 := by kernel_rfl
  i51 := by kernel_rfl
  i53 := by kernel_rfl
  i171 := by kernel_rfl
  i173 := by kernel_rfl
  i212 := by kernel_rfl
  i232 := by kernel_rfl
  i233 := by kernel_rfl
  m17 := by kernel_rfl
  m18 := by kernel_rfl
  m19 := by kernel_rfl }
open Go.RowKit Go.Sort Go.Lib in
theorem Tryd.internal_strconv_Itoa (n : Int) (h0 : -9223372036854775808 ≤ n) (h1 : n ≤ 9223372036854775807) (w : World) (htab : Lib.TabIs Tryd.prog w "internal/strconv.uint64pow10" .u64 Lib.pow10Tab) :
    Calls Tryd.prog 87 #[.int .i64 n] w fun e w' => e = .returned (.string ⟨(Lib.itoa n).toArray⟩) ∧ ∃ k os, w' = grow (w.drewN k) os := Any.internal_strconv_Itoa Tryd.laysM243 n h0 h1 w htab
def Tryd.lays243_ren : Go.Shelf.Ren := ⟨fun | 243 => 87 | 246 => 107 | 283 => 131 | 284 => 132 | 285 => 133 | 286 => 134 | 129 => 123 | 317 => 146 | 318 => 147 | 319 => 148 | 320 => 149 | 337 => 152 | 338 => 153 | n => n, fun | 3 => 3 | 9 => 9 | 2 => 2 | 4 => 4 | 171 => 158 | 0 => 0 | 53 => 156 | 37 => 22 | 5 => 5 | 173 => 160 | 212 => 174 | 51 => 154 | 20 => 20 | 213 => 175 | 46 => 135 | 232 => 183 | 233 => 184 | n => n, fun | 17 => 1 | 18 => 4 | 19 => 5 | n => n⟩
theorem Tryd.lays243 : Go.Proofs.Lays.n243 Tryd.prog Tryd.lays243_ren := {
  mixed := by kernel_rfl
  f129 := Tryd.func123.trans (congrArg some (by kernel_rfl))
  f243 := Tryd.func87.trans (congrArg some (by kernel_rfl))
  f246 := Tryd.func107.trans (congrArg some (by kernel_rfl))
  f283 := Tryd.func131.trans (congrArg some (by kernel_rfl))
  f284 := Tryd.func132.trans (congrArg some (by kernel_rfl))
  f285 := Tryd.func133.trans (congrArg some (by kernel_rfl))
  f286 := Tryd.func134.trans (congrArg some (by kernel_rfl))
  f317 := Tryd.func146.trans (congrArg some (by kernel_rfl))
  f318 := Tryd.func147.trans (congrArg some (by kernel_rfl))
  f319 := Tryd.func148.trans (congrArg some (by kernel_rfl))
  f320 := Tryd.func149.trans (congrArg some (by kernel_rfl))
  f337 := Tryd.func152.trans (congrArg some (by kernel_rfl))
  f338 := Tryd.func153.trans (congrArg some (by kernel_rfl))
  t0 := Tryd.underlying0
  a0 := Tryd.isAgg0
  z0 := Tryd.sizeOf0
  v0 := Tryd.zeroValue0
  t2 := Tryd.underlying2
  a2 := Tryd.isAgg2
  z2 := Tryd.sizeOf2
  v2 := Tryd.zeroValue2
  t3 := Tryd.underlying3
  a3 := Tryd.isAgg3
  z3 := Tryd.sizeOf3
  v3 := Tryd.zeroValue3
  t4 := Tryd.underlying4
  a4 := Tryd.isAgg4
  z4 := Tryd.sizeOf4
  v4 := Tryd.zeroValue4
  t5 := Tryd.underlying5
  a5 := Tryd.isAgg5
  z5 := Tryd.sizeOf5
  v5 := Tryd.zeroValue5
  t9 := Tryd.underlying9
  a9 := Tryd.isAgg9
  z9 := Tryd.sizeOf9
  v9 := Tryd.zeroValue9
  t20 := Tryd.underlying20
  a20 := Tryd.isAgg20
  z20 := Tryd.sizeOf20
  v20 := Tryd.zeroValue20
  t37 := Tryd.underlying22
  a37 := Tryd.isAgg22
  z37 := Tryd.sizeOf22
  v37 := Tryd.zeroValue22
  t46 := Tryd.underlying135
  a46 := Tryd.isAgg135
  z46 := Tryd.sizeOf135
  v46 := Tryd.zeroValue135
  t51 := Tryd.underlying154
  a51 := Tryd.isAgg154
  z51 := Tryd.sizeOf154
  v51 := Tryd.zeroValue154
  t53 := Tryd.underlying156
  a53 := Tryd.isAgg156
  z53 := Tryd.sizeOf156
  v53 := Tryd.zeroValue156
  t171 := Tryd.underlying158
  a171 := Tryd.isAgg158
  z171 := Tryd.sizeOf158
  v171 := Tryd.zeroValue158
  t173 := Tryd.underlying160
  a173 := Tryd.isAgg160
  z173 := Tryd.sizeOf160
  v173 := Tryd.zeroValue160
  t212 := Tryd.underlying174
  a212 := Tryd.isAgg174
  z212 := Tryd.sizeOf174
  v212 := Tryd.zeroValue174
  t213 := Tryd.underlying175
  a213 := Tryd.isAgg175
  z213 := Tryd.sizeOf175
  t232 := Tryd.underlying183
  a232 := Tryd.isAgg183
  z232 := Tryd.sizeOf183
  v232 := Tryd.zeroValue183
  t233 := Tryd.underlying184
  a233 := Tryd.isAgg184
  z233 := Tryd.sizeOf184
  v233 := Tryd.zeroValue184
  g17 := by kernel_rfl
  g18 := by kernel_rfl
  g19 := by kernel_rfl }
open Go.RowKit Go.Sort Go.Lib in
theorem Tryd.internal_strconv_Itoa_small (i : Nat) (hi : i < 100) (w : World) :
    Calls Tryd.prog 87 #[.int .i64 i] w fun e w' => e = .returned (.string ⟨(Lib.decDigits i).toArray⟩) ∧ w' = w := Any.internal_strconv_Itoa_small Tryd.lays243 i hi w
def Tryd.laysM171_ren : Go.Shelf.Ren := ⟨fun | 171 => 48 | 243 => 87 | 246 => 107 | 283 => 131 | 284 => 132 | 285 => 133 | 286 => 134 | 129 => 123 | 317 => 146 | 318 => 147 | 319 => 148 | 320 => 149 | 337 => 152 | 338 => 153 | n => n, fun | 3 => 3 | 9 => 9 | 2 => 2 | 4 => 4 | 171 => 158 | 0 => 0 | 53 => 156 | 37 => 22 | 5 => 5 | 173 => 160 | 212 => 174 | 51 => 154 | 20 => 20 | 213 => 175 | 46 => 135 | 232 => 183 | 233 => 184 | n => n, fun | 17 => 1 | 18 => 4 | 19 => 5 | n => n⟩
theorem Tryd.laysM171 : Go.Proofs.LaysM.n171 Tryd.prog Tryd.laysM171_ren := {
  mixed := by kernel_rfl
  f129 := Tryd.func123.trans (congrArg some (by kernel_rfl))
  f171 := Tryd.func48.trans (congrArg some (by kernel_rfl))
  f243 := Tryd.func87.trans (congrArg some (by kernel_rfl))
  f246 := Tryd.func107.trans (congrArg some (by kernel_rfl))
  f283 := Tryd.func131.trans (congrArg some (by kernel_rfl))
  f284 := Tryd.func132.trans (congrArg some (by kernel_rfl))
  f285 := Tryd.func133.trans (congrArg some (by kernel_rfl))
  f286 := Tryd.func134.trans (congrArg some (by kernel_rfl))
  f317 := Tryd.func146.trans (congrArg some (by kernel_rfl))
  f318 := Tryd.func147.trans (congrArg some (by kernel_rfl))
  f319 := Tryd.func148.trans (congrArg some (by kernel_rfl))
  f320 := Tryd.func149.trans (congrArg some (by kernel_rfl))
  f337 := Tryd.func152.trans (congrArg some (by kernel_rfl))
  f338 := Tryd.func153.trans (congrArg some (by kernel_rfl))
  t0 := Tryd.underlying0
  a0 := Tryd.isAgg0
  z0 := Tryd.sizeOf0
  v0 := Tryd.zeroValue0
  t2 := Tryd.underlying2
  a2 := Tryd.isAgg2
  z2 := Tryd.sizeOf2
  v2 := Tryd.zeroValue2
  t3 := Tryd.underlying3
  a3 := Tryd.isAgg3
  z3 := Tryd.sizeOf3
  v3 := Tryd.zeroValue3
  t4 := Tryd.underlying4
  a4 := Tryd.isAgg4
  z4 := Tryd.sizeOf4
  v4 := Tryd.zeroValue4
  t5 := Tryd.underlying5
  a5 := Tryd.isAgg5
  z5 := Tryd.sizeOf5
  v5 := Tryd.zeroValue5
  t9 := Tryd.underlying9
  a9 := Tryd.isAgg9
  z9 := Tryd.sizeOf9
  v9 := Tryd.zeroValue9
  t20 := Tryd.underlying20
  a20 := Tryd.isAgg20
  z20 := Tryd.sizeOf20
  v20 := Tryd.zeroValue20
  t37 := Tryd.underlying22
  a37 := Tryd.isAgg22
  z37 := Tryd.sizeOf22
  v37 := Tryd.zeroValue22
  t46 := Tryd.underlying135
  a46 := Tryd.isAgg135
  z46 := Tryd.sizeOf135
  v46 := Tryd.zeroValue135
  t51 := Tryd.underlying154
  a51 := Tryd.isAgg154
  z51 := Tryd.sizeOf154
  v51 := Tryd.zeroValue154
  t53 := Tryd.underlying156
  a53 := Tryd.isAgg156
  z53 := Tryd.sizeOf156
  v53 := Tryd.zeroValue156
  t171 := Tryd.underlying158
  a171 := Tryd.isAgg158
  z171 := Tryd.sizeOf158
  v171 := Tryd.zeroValue158
  t173 := Tryd.underlying160
  a173 := Tryd.isAgg160
  z173 := Tryd.sizeOf160
  v173 := Tryd.zeroValue160
  t212 := Tryd.underlying174
  a212 := Tryd.isAgg174
  z212 := Tryd.sizeOf174
  v212 := Tryd.zeroValue174
  t213 := Tryd.underlying175
  a213 := Tryd.isAgg175
  z213 := Tryd.sizeOf175
  t232 := Tryd.underlying183
  a232 := Tryd.isAgg183
  z232 := Tryd.sizeOf183
  v232 := Tryd.zeroValue183
  t233 := Tryd.underlying184
  a233 := Tryd.isAgg184
  z233 := Tryd.sizeOf184
  v233 := Tryd.zeroValue184
  g17 := by kernel_rfl
  g18 := by kernel_rfl
  g19 := by kernel_rfl
  i0 := by kernel_rfl
  i2 := by kernel_rfl
  i3 := by kernel_rfl
  i4 := by kernel_rfl
  i5 := by kernel_rfl
  i9 := by kernel_rfl
  i20 := by kernel_rfl
  i37 := by kernel_rfl
  i46 := by kernel_rfl
  i51 := by kernel_rfl
  i53 := by kernel_rfl
  i171 := by kernel_rfl
  i173 := by kernel_rfl
  i212 := by kernel_rfl
  i232 := by kernel_rfl
  i233 := by kernel_rfl
  m17 := by kernel_rfl
  m18 := by kernel_rfl
  m19 := by kernel_rfl }
open Go.RowKit Go.Sort Go.Lib in
theorem Tryd.strconv_Itoa (n : Int) (h0 : -9223372036854775808 ≤ n) (h1 : n ≤ 9223372036854775807) (w : World) (htab : Lib.TabIs Tryd.prog w "internal/strconv.uint64pow10" .u64 Lib.pow10Tab) :
    Calls Tryd.prog 48 #[.int .i64 n] w fun e w' => e = .returned (.string ⟨(Lib.itoa n).toArray⟩) ∧ ∃ k os, w' = grow (w.drewN k) os := Any.strconv_Itoa Tryd.laysM171 n h0 h1 w htab
def Tryd.lays171_ren : Go.Shelf.Ren := ⟨fun | 171 => 48 | 243 => 87 | 246 => 107 | 283 => 131 | 284 => 132 | 285 => 133 | 286 => 134 | 129 => 123 | 317 => 146 | 318 => 147 | 319 => 148 | 320 => 149 | 337 => 152 | 338 => 153 | n => n, fun | 3 => 3 | 9 => 9 | 2 => 2 | 4 => 4 | 171 => 158 | 0 => 0 | 53 => 156 | 37 => 22 | 5 => 5 | 173 => 160 | 212 => 174 | 51 => 154 | 20 => 20 | 213 => 175 | 46 => 135 | 232 => 183 | 233 => 184 | n => n, fun | 17 => 1 | 18 => 4 | 19 => 5 | n => n⟩
theorem Tryd.lays171 : Go.Proofs.Lays.n171 Tryd.prog Tryd.lays171_ren := {
  mixed := by kernel_rfl
  f129 := Tryd.func123.trans (congrArg some (by kernel_rfl))
  f171 := Tryd.func48.trans (congrArg some (by kernel_rfl))
  f243 := Tryd.func87.trans (congrArg some (by kernel_rfl))
  f246 := Tryd.func107.trans (congrArg some (by kernel_rfl))
  f283 := Tryd.func131.trans (congrArg some (by kernel_rfl))
  f284 := Tryd.func132.trans (congrArg some (by kernel_rfl))
  f285 := Tryd.func133.trans (congrArg some (by kernel_rfl))
  f286 := Tryd.func134.trans (congrArg some (by kernel_rfl))
  f317 := Tryd.func146.trans (congrArg some (by kernel_rfl))
  f318 := Tryd.func147.trans (congrArg some (by kernel_rfl))
  f319 := Tryd.func148.trans (congrArg some (by kernel_rfl))
  f320 := Tryd.func149.trans (congrArg some (by kernel_rfl))
  f337 := Tryd.func152.trans (congrArg some (by kernel_rfl))
  f338 := Tryd.func153.trans (congrArg some (by kernel_rfl))
  t0 := Tryd.underlying0
  a0 := Tryd.isAgg0
  z0 := Tryd.sizeOf0
  v0 := Tryd.zeroValue0
  t2 := Tryd.underlying2
  a2 := Tryd.isAgg2
  z2 := Tryd.sizeOf2
  v2 := Tryd.zeroValue2
  t3 := Tryd.underlying3
  a3 := Tryd.isAgg3
  z3 := Tryd.sizeOf3
  v3 := Tryd.zeroValue3
  t4 := Tryd.underlying4
  a4 := Tryd.isAgg4
  z4 := Tryd.sizeOf4
  v4 := Tryd.zeroValue4
  t5 := Tryd.underlying5
  a5 := Tryd.isAgg5
  z5 := Tryd.sizeOf5
  v5 := Tryd.zeroValue5
  t9 := Tryd.underlying9
  a9 := Tryd.isAgg9
  z9 := Tryd.sizeOf9
  v9 := Tryd.zeroValue9
  t20 := Tryd.underlying20
  a20 := Tryd.isAgg20
  z20 := Tryd.sizeOf20
  v20 := Tryd.zeroValue20
  t37 := Tryd.underlying22
  a37 := Tryd.isAgg22
  z37 := Tryd.sizeOf22
  v37 := Tryd.zeroValue22
  t46 := Tryd.underlying135
  a46 := Tryd.isAgg135
  z46 := Tryd.sizeOf135
  v46 := Tryd.zeroValue135
  t51 := Tryd.underlying154
  a51 := Tryd.isAgg154
  z51 := Tryd.sizeOf154
  v51 := Tryd.zeroValue154
  t53 := Tryd.underlying156
  a53 := Tryd.isAgg156
  z53 := Tryd.sizeOf156
  v53 := Tryd.zeroValue156
  t171 := Tryd.underlying158
  a171 := Tryd.isAgg158
  z171 := Tryd.sizeOf158
  v171 := Tryd.zeroValue158
  t173 := Tryd.underlying160
  a173 := Tryd.isAgg160
  z173 := Tryd.sizeOf160
  v173 := Tryd.zeroValue160
  t212 := Tryd.underlying174
  a212 := Tryd.isAgg174
  z212 := Tryd.sizeOf174
  v212 := Tryd.zeroValue174
  t213 := Tryd.underlying175
  a213 := Tryd.isAgg175
  z213 := Tryd.sizeOf175
  t232 := Tryd.underlying183
  a232 := Tryd.isAgg183
  z232 := Tryd.sizeOf183
  v232 := Tryd.zeroValue183
  t233 := Tryd.underlying184
  a233 := Tryd.isAgg184
  z233 := Tryd.sizeOf184
  v233 := Tryd.zeroValue184
  g17 := by kernel_rfl
  g18 := by kernel_rfl
  g19 := by kernel_rfl }
open Go.RowKit Go.Sort Go.Lib in
theorem Tryd.strconv_Itoa_small (i : Nat) (hi : i < 100) (w : World) :
    Calls Tryd.prog 48 #[.int .i64 i] w fun e w' => e = .returned (.string ⟨(Lib.decDigits i).toArray⟩) ∧ w' = w := Any.strconv_Itoa_small Tryd.lays171 i hi w
def Tryd.lays217_ren : Go.Shelf.Ren := ⟨fun | 217 => 81 | 266 => 104 | n => n, fun | 9 => 9 | 5 => 5 | 3 => 3 | n => n, fun | n => n⟩
theorem Tryd.lays217 : Go.Proofs.Lays.n217 Tryd.prog Tryd.lays217_ren := {
  mixed := by kernel_rfl
  f217 := Tryd.func81.trans (congrArg some (by kernel_rfl))
  f266 := Tryd.func104.trans (congrArg some (by kernel_rfl))
  t3 := Tryd.underlying3
  a3 := Tryd.isAgg3
  z3 := Tryd.sizeOf3
  v3 := Tryd.zeroValue3
  t5 := Tryd.underlying5
  a5 := Tryd.isAgg5
  z5 := Tryd.sizeOf5
  v5 := Tryd.zeroValue5
  t9 := Tryd.underlying9
  a9 := Tryd.isAgg9
  z9 := Tryd.sizeOf9
  v9 := Tryd.zeroValue9 }
open Go.RowKit Go.Lib in
theorem Tryd.stringslite_IndexByte (s : ByteArray) (c : Int) (w : World) :
    Calls Tryd.prog 81 #[.string s, .int .u8 c] w fun e w' => e = .returned (.int .i64 (Lib.indexByte s.data.toList c.toNat.toUInt8)) ∧ w' = w := Any.stringslite_IndexByte Tryd.lays217 s c w
def Tryd.lays224_ren : Go.Shelf.Ren := ⟨fun | 224 => 126 | n => n, fun | 3 => 3 | n => n, fun | n => n⟩
theorem Tryd.lays224 : Go.Proofs.Lays.n224 Tryd.prog Tryd.lays224_ren := {
  mixed := by kernel_rfl
  f224 := Tryd.func126.trans (congrArg some (by kernel_rfl))
  t3 := Tryd.underlying3
  a3 := Tryd.isAgg3
  z3 := Tryd.sizeOf3
  v3 := Tryd.zeroValue3 }
open Go.RowKit Go.Lib in
theorem Tryd.bytealg_Cutover (n : Int) (h0 : 0 ≤ n) (h1 : n < 4611686018427387904) (w : World) :
    Calls Tryd.prog 126 #[.int .i64 n] w fun e w' => e = .returned (.int .i64 ((n + 16) / 8)) ∧ w' = w := Any.bytealg_Cutover Tryd.lays224 n h0 h1 w
def Tryd.lays314_ren : Go.Shelf.Ren := ⟨fun | 314 => 142 | n => n, fun | 9 => 9 | 51 => 154 | 3 => 3 | 4 => 4 | 5 => 5 | 46 => 135 | n => n, fun | n => n⟩
theorem Tryd.lays314 : Go.Proofs.Lays.n314 Tryd.prog Tryd.lays314_ren := {
  mixed := by kernel_rfl
  f314 := Tryd.func142.trans (congrArg some (by kernel_rfl))
  t3 := Tryd.underlying3
  a3 := Tryd.isAgg3
  z3 := Tryd.sizeOf3
  v3 := Tryd.zeroValue3
  t4 := Tryd.underlying4
  a4 := Tryd.isAgg4
  z4 := Tryd.sizeOf4
  v4 := Tryd.zeroValue4
  t5 := Tryd.underlying5
  a5 := Tryd.isAgg5
  z5 := Tryd.sizeOf5
  v5 := Tryd.zeroValue5
  t9 := Tryd.underlying9
  a9 := Tryd.isAgg9
  z9 := Tryd.sizeOf9
  v9 := Tryd.zeroValue9
  t46 := Tryd.underlying135
  a46 := Tryd.isAgg135
  z46 := Tryd.sizeOf135
  v46 := Tryd.zeroValue135
  t51 := Tryd.underlying154
  a51 := Tryd.isAgg154
  z51 := Tryd.sizeOf154
  v51 := Tryd.zeroValue154 }
open Go.RowKit Go.Lib in
theorem Tryd.bytealg_hashStr (sep : ByteArray) (hs : sep.size < 4294967281) (w : World) :
    Calls Tryd.prog 142 #[.string sep] w fun e w' => e = .returned (.tuple #[.int .u32 (RK.H sep.data.toList % 4294967296), .int .u32 (16777619 ^ sep.size % 4294967296)]) ∧ w' = w := Any.bytealg_hashStr Tryd.lays314 sep hs w
def Tryd.lays267_ren : Go.Shelf.Ren := ⟨fun | 267 => 127 | 314 => 142 | n => n, fun | 9 => 9 | 3 => 3 | 146 => 169 | 51 => 154 | 4 => 4 | 5 => 5 | 46 => 135 | n => n, fun | n => n⟩
theorem Tryd.lays267 : Go.Proofs.Lays.n267 Tryd.prog Tryd.lays267_ren := {
  mixed := by kernel_rfl
  f267 := Tryd.func127.trans (congrArg some (by kernel_rfl))
  f314 := Tryd.func142.trans (congrArg some (by kernel_rfl))
  t3 := Tryd.underlying3
  a3 := Tryd.isAgg3
  z3 := Tryd.sizeOf3
  v3 := Tryd.zeroValue3
  t4 := Tryd.underlying4
  a4 := Tryd.isAgg4
  z4 := Tryd.sizeOf4
  v4 := Tryd.zeroValue4
  t5 := Tryd.underlying5
  a5 := Tryd.isAgg5
  z5 := Tryd.sizeOf5
  v5 := Tryd.zeroValue5
  t9 := Tryd.underlying9
  a9 := Tryd.isAgg9
  z9 := Tryd.sizeOf9
  v9 := Tryd.zeroValue9
  t46 := Tryd.underlying135
  a46 := Tryd.isAgg135
  z46 := Tryd.sizeOf135
  v46 := Tryd.zeroValue135
  t51 := Tryd.underlying154
  a51 := Tryd.isAgg154
  z51 := Tryd.sizeOf154
  v51 := Tryd.zeroValue154
  t146 := Tryd.underlying169
  a146 := Tryd.isAgg169
  z146 := Tryd.sizeOf169
  v146 := Tryd.zeroValue169 }
open Go.RowKit Go.Lib in
theorem Tryd.bytealg_IndexRabinKarp (s sep : ByteArray) (h1 : 1 ≤ sep.size) (h2 : sep.size ≤ s.size) (hs : s.size < 4294967281) (w : World) :
    Calls Tryd.prog 127 #[.string s, .string sep] w fun e w' => e = .returned (.int .i64 (Lib.index s.data.toList sep.data.toList)) ∧ w' = w := Any.bytealg_IndexRabinKarp Tryd.lays267 s sep h1 h2 hs w
def Tryd.lays219_ren : Go.Shelf.Ren := ⟨fun | 219 => 105 | 217 => 81 | 225 => 125 | 224 => 126 | 267 => 127 | 266 => 104 | 314 => 142 | n => n, fun | 9 => 9 | 3 => 3 | 4 => 4 | 5 => 5 | 46 => 135 | 146 => 169 | 51 => 154 | n => n, fun | 1 => 0 | n => n⟩
theorem Tryd.lays219 : Go.Proofs.Lays.n219 Tryd.prog Tryd.lays219_ren := {
  mixed := by kernel_rfl
  f217 := Tryd.func81.trans (congrArg some (by kernel_rfl))
  f219 := Tryd.func105.trans (congrArg some (by kernel_rfl))
  f224 := Tryd.func126.trans (congrArg some (by kernel_rfl))
  f225 := Tryd.func125.trans (congrArg some (by kernel_rfl))
  f266 := Tryd.func104.trans (congrArg some (by kernel_rfl))
  f267 := Tryd.func127.trans (congrArg some (by kernel_rfl))
  f314 := Tryd.func142.trans (congrArg some (by kernel_rfl))
  t3 := Tryd.underlying3
  a3 := Tryd.isAgg3
  z3 := Tryd.sizeOf3
  v3 := Tryd.zeroValue3
  t4 := Tryd.underlying4
  a4 := Tryd.isAgg4
  z4 := Tryd.sizeOf4
  v4 := Tryd.zeroValue4
  t5 := Tryd.underlying5
  a5 := Tryd.isAgg5
  z5 := Tryd.sizeOf5
  v5 := Tryd.zeroValue5
  t9 := Tryd.underlying9
  a9 := Tryd.isAgg9
  z9 := Tryd.sizeOf9
  v9 := Tryd.zeroValue9
  t46 := Tryd.underlying135
  a46 := Tryd.isAgg135
  z46 := Tryd.sizeOf135
  v46 := Tryd.zeroValue135
  t51 := Tryd.underlying154
  a51 := Tryd.isAgg154
  z51 := Tryd.sizeOf154
  v51 := Tryd.zeroValue154
  t146 := Tryd.underlying169
  a146 := Tryd.isAgg169
  z146 := Tryd.sizeOf169
  v146 := Tryd.zeroValue169
  g1 := by kernel_rfl }
open Go.RowKit Go.Lib in
theorem Tryd.stringslite_Index_one (s : ByteArray) (c : UInt8) (w : World) :
    Calls Tryd.prog 105 #[.string s, .string ⟨#[c]⟩] w fun e w' => e = .returned (.int .i64 (Lib.indexByte s.data.toList c)) ∧ w' = w := Any.stringslite_Index_one Tryd.lays219 s c w
open Go.RowKit Go.Lib in
theorem Tryd.stringslite_Index (s sub : ByteArray) (m : Int) (w : World) (hs : s.size < 4294967281) (hm : w.cell? ⟨0, 0, none⟩ = some (.int .i64 m)) :
    Calls Tryd.prog 105 #[.string s, .string sub] w fun e w' => e = .returned (.int .i64 (Lib.index s.data.toList sub.data.toList)) ∧ w' = w := Any.stringslite_Index Tryd.lays219 s sub m w hs hm
def Tryd.lays143_ren : Go.Shelf.Ren := ⟨fun | 143 => 130 | 219 => 105 | 217 => 81 | 225 => 125 | 224 => 126 | 267 => 127 | 266 => 104 | 314 => 142 | n => n, fun | 9 => 9 | 3 => 3 | 4 => 4 | 5 => 5 | 46 => 135 | 146 => 169 | 51 => 154 | n => n, fun | 1 => 0 | n => n⟩
theorem Tryd.lays143 : Go.Proofs.Lays.n143 Tryd.prog Tryd.lays143_ren := {
  mixed := by kernel_rfl
  f143 := Tryd.func130.trans (congrArg some (by kernel_rfl))
  f217 := Tryd.func81.trans (congrArg some (by kernel_rfl))
  f219 := Tryd.func105.trans (congrArg some (by kernel_rfl))
  f224 := Tryd.func126.trans (congrArg some (by kernel_rfl))
  f225 := Tryd.func125.trans (congrArg some (by kernel_rfl))
  f266 := Tryd.func104.trans (congrArg some (by kernel_rfl))
  f267 := Tryd.func127.trans (congrArg some (by kernel_rfl))
  f314 := Tryd.func142.trans (congrArg some (by kernel_rfl))
  t3 := Tryd.underlying3
  a3 := Tryd.isAgg3
  z3 := Tryd.sizeOf3
  v3 := Tryd.zeroValue3
  t4 := Tryd.underlying4
  a4 := Tryd.isAgg4
  z4 := Tryd.sizeOf4
  v4 := Tryd.zeroValue4
  t5 := Tryd.underlying5
  a5 := Tryd.isAgg5
  z5 := Tryd.sizeOf5
  v5 := Tryd.zeroValue5
  t9 := Tryd.underlying9
  a9 := Tryd.isAgg9
  z9 := Tryd.sizeOf9
  v9 := Tryd.zeroValue9
  t46 := Tryd.underlying135
  a46 := Tryd.isAgg135
  z46 := Tryd.sizeOf135
  v46 := Tryd.zeroValue135
  t51 := Tryd.underlying154
  a51 := Tryd.isAgg154
  z51 := Tryd.sizeOf154
  v51 := Tryd.zeroValue154
  t146 := Tryd.underlying169
  a146 := Tryd.isAgg169
  z146 := Tryd.sizeOf169
  v146 := Tryd.zeroValue169
  g1 := by kernel_rfl }
open Go.RowKit Go.Lib in
theorem Tryd.strings_Index_one (s : ByteArray) (c : UInt8) (w : World) :
    Calls Tryd.prog 130 #[.string s, .string ⟨#[c]⟩] w fun e w' => e = .returned (.int .i64 (Lib.indexByte s.data.toList c)) ∧ w' = w := Any.strings_Index_one Tryd.lays143 s c w
open Go.RowKit Go.Lib in
theorem Tryd.strings_Index (s sub : ByteArray) (m : Int) (w : World) (hs : s.size < 4294967281) (hm : w.cell? ⟨0, 0, none⟩ = some (.int .i64 m)) :
    Calls Tryd.prog 130 #[.string s, .string sub] w fun e w' => e = .returned (.int .i64 (Lib.index s.data.toList sub.data.toList)) ∧ w' = w := Any.strings_Index Tryd.lays143 s sub m w hs hm
def Tryd.lays220_ren : Go.Shelf.Ren := ⟨fun | 220 => 82 | 219 => 105 | 217 => 81 | 225 => 125 | 224 => 126 | 267 => 127 | 266 => 104 | 314 => 142 | n => n, fun | 9 => 9 | 4 => 4 | 3 => 3 | 5 => 5 | 46 => 135 | 146 => 169 | 51 => 154 | n => n, fun | 1 => 0 | n => n⟩
theorem Tryd.lays220 : Go.Proofs.Lays.n220 Tryd.prog Tryd.lays220_ren := {
  mixed := by kernel_rfl
  f217 := Tryd.func81.trans (congrArg some (by kernel_rfl))
  f219 := Tryd.func105.trans (congrArg some (by kernel_rfl))
  f220 := Tryd.func82.trans (congrArg some (by kernel_rfl))
  f224 := Tryd.func126.trans (congrArg some (by kernel_rfl))
  f225 := Tryd.func125.trans (congrArg some (by kernel_rfl))
  f266 := Tryd.func104.trans (congrArg some (by kernel_rfl))
  f267 := Tryd.func127.trans (congrArg some (by kernel_rfl))
  f314 := Tryd.func142.trans (congrArg some (by kernel_rfl))
  t3 := Tryd.underlying3
  a3 := Tryd.isAgg3
  z3 := Tryd.sizeOf3
  v3 := Tryd.zeroValue3
  t4 := Tryd.underlying4
  a4 := Tryd.isAgg4
  z4 := Tryd.sizeOf4
  v4 := Tryd.zeroValue4
  t5 := Tryd.underlying5
  a5 := Tryd.isAgg5
  z5 := Tryd.sizeOf5
  v5 := Tryd.zeroValue5
  t9 := Tryd.underlying9
  a9 := Tryd.isAgg9
  z9 := Tryd.sizeOf9
  v9 := Tryd.zeroValue9
  t46 := Tryd.underlying135
  a46 := Tryd.isAgg135
  z46 := Tryd.sizeOf135
  v46 := Tryd.zeroValue135
  t51 := Tryd.underlying154
  a51 := Tryd.isAgg154
  z51 := Tryd.sizeOf154
  v51 := Tryd.zeroValue154
  t146 := Tryd.underlying169
  a146 := Tryd.isAgg169
  z146 := Tryd.sizeOf169
  v146 := Tryd.zeroValue169
  g1 := by kernel_rfl }
open Go.RowKit Go.Lib in
theorem Tryd.stringslite_Cut (s sep : ByteArray) (m : Int) (w : World) (hs : s.size < 4294967281) (hm : w.cell? ⟨0, 0, none⟩ = some (.int .i64 m)) :
    Calls Tryd.prog 82 #[.string s, .string sep] w fun e w' => e = .returned (.tuple #[.string ⟨(Lib.cut s.data.toList sep.data.toList).1.toArray⟩, .string ⟨(Lib.cut s.data.toList sep.data.toList).2.1.toArray⟩, .bool (Lib.cut s.data.toList sep.data.toList).2.2]) ∧ ∃ n, w' = w.drewN n := Any.stringslite_Cut Tryd.lays220 s sep m w hs hm
def Tryd.lays145_ren : Go.Shelf.Ren := ⟨fun | 145 => 39 | 220 => 82 | 219 => 105 | 217 => 81 | 225 => 125 | 224 => 126 | 267 => 127 | 266 => 104 | 314 => 142 | n => n, fun | 9 => 9 | 4 => 4 | 59 => 71 | 3 => 3 | 5 => 5 | 46 => 135 | 146 => 169 | 51 => 154 | n => n, fun | 1 => 0 | n => n⟩
theorem Tryd.lays145 : Go.Proofs.Lays.n145 Tryd.prog Tryd.lays145_ren := {
  mixed := by kernel_rfl
  f145 := Tryd.func39.trans (congrArg some (by kernel_rfl))
  f217 := Tryd.func81.trans (congrArg some (by kernel_rfl))
  f219 := Tryd.func105.trans (congrArg some (by kernel_rfl))
  f220 := Tryd.func82.trans (congrArg some (by kernel_rfl))
  f224 := Tryd.func126.trans (congrArg some (by kernel_rfl))
  f225 := Tryd.func125.trans (congrArg some (by kernel_rfl))
  f266 := Tryd.func104.trans (congrArg some (by kernel_rfl))
  f267 := Tryd.func127.trans (congrArg some (by kernel_rfl))
  f314 := Tryd.func142.trans (congrArg some (by kernel_rfl))
  t3 := Tryd.underlying3
  a3 := Tryd.isAgg3
  z3 := Tryd.sizeOf3
  v3 := Tryd.zeroValue3
  t4 := Tryd.underlying4
  a4 := Tryd.isAgg4
  z4 := Tryd.sizeOf4
  v4 := Tryd.zeroValue4
  t5 := Tryd.underlying5
  a5 := Tryd.isAgg5
  z5 := Tryd.sizeOf5
  v5 := Tryd.zeroValue5
  t9 := Tryd.underlying9
  a9 := Tryd.isAgg9
  z9 := Tryd.sizeOf9
  v9 := Tryd.zeroValue9
  t46 := Tryd.underlying135
  a46 := Tryd.isAgg135
  z46 := Tryd.sizeOf135
  v46 := Tryd.zeroValue135
  t51 := Tryd.underlying154
  a51 := Tryd.isAgg154
  z51 := Tryd.sizeOf154
  v51 := Tryd.zeroValue154
  t59 := Tryd.underlying71
  a59 := Tryd.isAgg71
  z59 := Tryd.sizeOf71
  v59 := Tryd.zeroValue71
  t146 := Tryd.underlying169
  a146 := Tryd.isAgg169
  z146 := Tryd.sizeOf169
  v146 := Tryd.zeroValue169
  g1 := by kernel_rfl }
open Go.RowKit Go.Lib in
theorem Tryd.strings_Cut (s sep : ByteArray) (m : Int) (w : World) (hs : s.size < 4294967281) (hm : w.cell? ⟨0, 0, none⟩ = some (.int .i64 m)) :
    Calls Tryd.prog 39 #[.string s, .string sep] w fun e w' => e = .returned (.tuple #[.string ⟨(Lib.cut s.data.toList sep.data.toList).1.toArray⟩, .string ⟨(Lib.cut s.data.toList sep.data.toList).2.1.toArray⟩, .bool (Lib.cut s.data.toList sep.data.toList).2.2]) ∧ ∃ n, w' = w.drewN n := Any.strings_Cut Tryd.lays145 s sep m w hs hm
def Tryd.lays138_ren : Go.Shelf.Ren := ⟨fun | 138 => 129 | 195 => 143 | 218 => 145 | 143 => 130 | 219 => 105 | 217 => 81 | 225 => 125 | 224 => 126 | 267 => 127 | 266 => 104 | 314 => 142 | n => n, fun | 9 => 9 | 3 => 3 | 4 => 4 | 5 => 5 | 0 => 0 | 46 => 135 | 146 => 169 | 51 => 154 | n => n, fun | 1 => 0 | n => n⟩
theorem Tryd.lays138 : Go.Proofs.Lays.n138 Tryd.prog Tryd.lays138_ren := {
  mixed := by kernel_rfl
  f138 := Tryd.func129.trans (congrArg some (by kernel_rfl))
  f143 := Tryd.func130.trans (congrArg some (by kernel_rfl))
  f195 := Tryd.func143.trans (congrArg some (by kernel_rfl))
  f217 := Tryd.func81.trans (congrArg some (by kernel_rfl))
  f218 := Tryd.func145.trans (congrArg some (by kernel_rfl))
  f219 := Tryd.func105.trans (congrArg some (by kernel_rfl))
  f224 := Tryd.func126.trans (congrArg some (by kernel_rfl))
  f225 := Tryd.func125.trans (congrArg some (by kernel_rfl))
  f266 := Tryd.func104.trans (congrArg some (by kernel_rfl))
  f267 := Tryd.func127.trans (congrArg some (by kernel_rfl))
  f314 := Tryd.func142.trans (congrArg some (by kernel_rfl))
  t0 := Tryd.underlying0
  a0 := Tryd.isAgg0
  z0 := Tryd.sizeOf0
  v0 := Tryd.zeroValue0
  t3 := Tryd.underlying3
  a3 := Tryd.isAgg3
  z3 := Tryd.sizeOf3
  v3 := Tryd.zeroValue3
  t4 := Tryd.underlying4
  a4 := Tryd.isAgg4
  z4 := Tryd.sizeOf4
  v4 := Tryd.zeroValue4
  t5 := Tryd.underlying5
  a5 := Tryd.isAgg5
  z5 := Tryd.sizeOf5
  v5 := Tryd.zeroValue5
  t9 := Tryd.underlying9
  a9 := Tryd.isAgg9
  z9 := Tryd.sizeOf9
  v9 := Tryd.zeroValue9
  t46 := Tryd.underlying135
  a46 := Tryd.isAgg135
  z46 := Tryd.sizeOf135
  v46 := Tryd.zeroValue135
  t51 := Tryd.underlying154
  a51 := Tryd.isAgg154
  z51 := Tryd.sizeOf154
  v51 := Tryd.zeroValue154
  t146 := Tryd.underlying169
  a146 := Tryd.isAgg169
  z146 := Tryd.sizeOf169
  v146 := Tryd.zeroValue169
  g1 := by kernel_rfl }
open Go.RowKit Go.Lib in
theorem Tryd.strings_Count_one (s : ByteArray) (c : UInt8) (w : World) :
    Calls Tryd.prog 129 #[.string s, .string ⟨#[c]⟩] w fun e w' => e = .returned (.int .i64 (Lib.countByte s.data.toList c)) ∧ w' = w := Any.strings_Count_one Tryd.lays138 s c w
open Go.RowKit Go.Lib in
theorem Tryd.strings_Count (s sub : ByteArray) (m : Int) (w : World) (hs : s.size < 4294967281) (hm : w.cell? ⟨0, 0, none⟩ = some (.int .i64 m)) (h2 : 2 ≤ sub.size) :
    Calls Tryd.prog 129 #[.string s, .string sub] w fun e w' => e = .returned (.int .i64 (Lib.countB s sub)) ∧ w' = w := Any.strings_Count Tryd.lays138 s sub m w hs hm h2
def Tryd.laysM219_ren : Go.Shelf.Ren := ⟨fun | 219 => 105 | 217 => 81 | 225 => 125 | 224 => 126 | 267 => 127 | 266 => 104 | 314 => 142 | n => n, fun | 9 => 9 | 3 => 3 | 4 => 4 | 5 => 5 | 46 => 135 | 146 => 169 | 51 => 154 | n => n, fun | 1 => 0 | n => n⟩
theorem Tryd.laysM219 : Go.Proofs.LaysM.n219 Tryd.prog Tryd.laysM219_ren := {
  mixed := by kernel_rfl
  f217 := Tryd.func81.trans (congrArg some (by kernel_rfl))
  f219 := Tryd.func105.trans (congrArg some (by kernel_rfl))
  f224 := Tryd.func126.trans (congrArg some (by kernel_rfl))
  f225 := Tryd.func125.trans (congrArg some (by kernel_rfl))
  f266 := Tryd.func104.trans (congrArg some (by kernel_rfl))
  f267 := Tryd.func127.trans (congrArg some (by kernel_rfl))
  f314 := Tryd.func142.trans (congrArg some (by kernel_rfl))
  t3 := Tryd.underlying3
  a3 := Tryd.isAgg3
  z3 := Tryd.sizeOf3
  v3 := Tryd.zeroValue3
  t4 := Tryd.underlying4
  a4 := Tryd.isAgg4
  z4 := Tryd.sizeOf4
  v4 := Tryd.zeroValue4
  t5 := Tryd.underlying5
  a5 := Tryd.isAgg5
  z5 := Tryd.sizeOf5
  v5 := Tryd.zeroValue5
  t9 := Tryd.underlying9
  a9 := Tryd.isAgg9
  z9 := Tryd.sizeOf9
  v9 := Tryd.zeroValue9
  t46 := Tryd.underlying135
  a46 := Tryd.isAgg135
  z46 := Tryd.sizeOf135
  v46 := Tryd.zeroValue135
  t51 := Tryd.underlying154
  a51 := Tryd.isAgg154
  z51 := Tryd.sizeOf154
  v51 := Tryd.zeroValue154
  t146 := Tryd.underlying169
  a146 := Tryd.isAgg169
  z146 := Tryd.sizeOf169
  v146 := Tryd.zeroValue169
  g1 := by kernel_rfl
  i3 := by kernel_rfl
  i4 := by kernel_rfl
  i5 := by kernel_rfl
  i9 := by kernel_rfl
  i46 := by kernel_rfl
  i51 := by kernel_rfl
  i146 := by kernel_rfl
  m1 := by kernel_rfl
  s1_3 := fun w h => Go.Proofs.cell_of_shapedOpen_int (zero := #[.int .i64 0]) (t := 3) h (of_decide_eq_true (by kernel_rfl)) (by kernel_rfl) rfl (by kernel_rfl) (by kernel_rfl) Tryd.underlying3 }
open Go.RowKit Go.Lib in
theorem Tryd.stringslite_Index_shaped (s sub : ByteArray) (w : World) (h : w.ShapedOpen Tryd.prog) (hs : s.size < 4294967281) :
    Calls Tryd.prog 105 #[.string s, .string sub] w fun e w' => e = .returned (.int .i64 (Lib.index s.data.toList sub.data.toList)) ∧ w' = w := Any.stringslite_Index_shaped Tryd.laysM219 s sub w h hs
def Tryd.laysM143_ren : Go.Shelf.Ren := ⟨fun | 143 => 130 | 219 => 105 | 217 => 81 | 225 => 125 | 224 => 126 | 267 => 127 | 266 => 104 | 314 => 142 | n => n, fun | 9 => 9 | 3 => 3 | 4 => 4 | 5 => 5 | 46 => 135 | 146 => 169 | 51 => 154 | n => n, fun | 1 => 0 | n => n⟩
theorem Tryd.laysM143 : Go.Proofs.LaysM.n143 Tryd.prog Tryd.laysM143_ren := {
  mixed := by kernel_rfl
  f143 := Tryd.func130.trans (congrArg some (by kernel_rfl))
  f217 := Tryd.func81.trans (congrArg some (by kernel_rfl))
  f219 := Tryd.func105.trans (congrArg some (by kernel_rfl))
  f224 := Tryd.func126.trans (congrArg some (by kernel_rfl))
  f225 := Tryd.func125.trans (congrArg some (by kernel_rfl))
  f266 := Tryd.func104.trans (congrArg some (by kernel_rfl))
  f267 := Tryd.func127.trans (congrArg some (by kernel_rfl))
  f314 := Tryd.func142.trans (congrArg some (by kernel_rfl))
  t3 := Tryd.underlying3
  a3 := Tryd.isAgg3
  z3 := Tryd.sizeOf3
  v3 := Tryd.zeroValue3
  t4 := Tryd.underlying4
  a4 := Tryd.isAgg4
  z4 := Tryd.sizeOf4
  v4 := Tryd.zeroValue4
  t5 := Tryd.underlying5
  a5 := Tryd.isAgg5
  z5 := Tryd.sizeOf5
  v5 := Tryd.zeroValue5
  t9 := Tryd.underlying9
  a9 := Tryd.isAgg9
  z9 := Tryd.sizeOf9
  v9 := Tryd.zeroValue9
  t46 := Tryd.underlying135
  a46 := Tryd.isAgg135
  z46 := Tryd.sizeOf135
  v46 := Tryd.zeroValue135
  t51 := Tryd.underlying154
  a51 := Tryd.isAgg154
  z51 := Tryd.sizeOf154
  v51 := Tryd.zeroValue154
  t146 := Tryd.underlying169
  a146 := Tryd.isAgg169
  z146 := Tryd.sizeOf169
  v146 := Tryd.zeroValue169
  g1 := by kernel_rfl
  i3 := by kernel_rfl
  i4 := by kernel_rfl
  i5 := by kernel_rfl
  i9 := by kernel_rfl
  i46 := by kernel_rfl
  i51 := by kernel_rfl
  i146 := by kernel_rfl
  m1 := by kernel_rfl
  s1_3 := fun w h => Go.Proofs.cell_of_shapedOpen_int (zero := #[.int .i64 0]) (t := 3) h (of_decide_eq_true (by kernel_rfl)) (by kernel_rfl) rfl (by kernel_rfl) (by kernel_rfl) Tryd.underlying3 }
open Go.RowKit Go.Lib in
theorem Tryd.strings_Index_shaped (s sub : ByteArray) (w : World) (h : w.ShapedOpen Tryd.prog) (hs : s.size < 4294967281) :
    Calls Tryd.prog 130 #[.string s, .string sub] w fun e w' => e = .returned (.int .i64 (Lib.index s.data.toList sub.data.toList)) ∧ w' = w := Any.strings_Index_shaped Tryd.laysM143 s sub w h hs
def Tryd.laysM220_ren : Go.Shelf.Ren := ⟨fun | 220 => 82 | 219 => 105 | 217 => 81 | 225 => 125 | 224 => 126 | 267 => 127 | 266 => 104 | 314 => 142 | n => n, fun | 9 => 9 | 4 => 4 | 3 => 3 | 5 => 5 | 46 => 135 | 146 => 169 | 51 => 154 | n => n, fun | 1 => 0 | n => n⟩
theorem Tryd.laysM220 : Go.Proofs.LaysM.n220 Tryd.prog Tryd.laysM220_ren := {
  mixed := by kernel_rfl
  f217 := Tryd.func81.trans (congrArg some (by kernel_rfl))
  f219 := Tryd.func105.trans (congrArg some (by kernel_rfl))
  f220 := Tryd.func82.trans (congrArg some (by kernel_rfl))
  f224 := Tryd.func126.trans (congrArg some (by kernel_rfl))
  f225 := Tryd.func125.trans (congrArg some (by kernel_rfl))
  f266 := Tryd.func104.trans (congrArg some (by kernel_rfl))
  f267 := Tryd.func127.trans (congrArg some (by kernel_rfl))
  f314 := Tryd.func142.trans (congrArg some (by kernel_rfl))
  t3 := Tryd.underlying3
  a3 := Tryd.isAgg3
  z3 := Tryd.sizeOf3
  v3 := Tryd.zeroValue3
  t4 := Tryd.underlying4
  a4 := Tryd.isAgg4
  z4 := Tryd.sizeOf4
  v4 := Tryd.zeroValue4
  t5 := Tryd.underlying5
  a5 := Tryd.isAgg5
  z5 := Tryd.sizeOf5
  v5 := Tryd.zeroValue5
  t9 := Tryd.underlying9
  a9 := Tryd.isAgg9
  z9 := Tryd.sizeOf9
  v9 := Tryd.zeroValue9
  t46 := Tryd.underlying135
  a46 := Tryd.isAgg135
  z46 := Tryd.sizeOf135
  v46 := Tryd.zeroValue135
  t51 := Tryd.underlying154
  a51 := Tryd.isAgg154
  z51 := Tryd.sizeOf154
  v51 := Tryd.zeroValue154
  t146 := Tryd.underlying169
  a146 := Tryd.isAgg169
  z146 := Tryd.sizeOf169
  v146 := Tryd.zeroValue169
  g1 := by kernel_rfl
  i3 := by kernel_rfl
  i4 := by kernel_rfl
  i5 := by kernel_rfl
  i9 := by kernel_rfl
  i46 := by kernel_rfl
  i51 := by kernel_rfl
  i146 := by kernel_rfl
  m1 := by kernel_rfl
  s1_3 := fun w h => Go.Proofs.cell_of_shapedOpen_int (zero := #[.int .i64 0]) (t := 3) h (of_decide_eq_true (by kernel_rfl)) (by kernel_rfl) rfl (by kernel_rfl) (by kernel_rfl) Tryd.underlying3 }
open Go.RowKit Go.Lib in
theorem Tryd.stringslite_Cut_shaped (s sep : ByteArray) (w : World) (h : w.ShapedOpen Tryd.prog) (hs : s.size < 4294967281) :
    Calls Tryd.prog 82 #[.string s, .string sep] w fun e w' => e = .returned (.tuple #[.string ⟨(Lib.cut s.data.toList sep.data.toList).1.toArray⟩, .string ⟨(Lib.cut s.data.toList sep.data.toList).2.1.toArray⟩, .bool (Lib.cut s.data.toList sep.data.toList).2.2]) ∧ ∃ n, w' = w.drewN n := Any.stringslite_Cut_shaped Tryd.laysM220 s sep w h hs
def Tryd.laysM145_ren : Go.Shelf.Ren := ⟨fun | 145 => 39 | 220 => 82 | 219 => 105 | 217 => 81 | 225 => 125 | 224 => 126 | 267 => 127 | 266 => 104 | 314 => 142 | n => n, fun | 9 => 9 | 4 => 4 | 59 => 71 | 3 => 3 | 5 => 5 | 46 => 135 | 146 => 169 | 51 => 154 | n => n, fun | 1 => 0 | n => n⟩
theorem Tryd.laysM145 : Go.Proofs.LaysM.n145 Tryd.prog Tryd.laysM145_ren := {
  mixed := by kernel_rfl
  f145 := Tryd.func39.trans (congrArg some (by kernel_rfl))
  f217 := Tryd.func81.trans (congrArg some (by kernel_rfl))
  f219 := Tryd.func105.trans (congrArg some (by kernel_rfl))
  f220 := Tryd.func82.trans (congrArg some (by kernel_rfl))
  f224 := Tryd.func126.trans (congrArg some (by kernel_rfl))
  f225 := Tryd.func125.trans (congrArg some (by kernel_rfl))
  f266 := Tryd.func104.trans (congrArg some (by kernel_rfl))
  f267 := Tryd.func127.trans (congrArg some (by kernel_rfl))
  f314 := Tryd.func142.trans (congrArg some (by kernel_rfl))
  t3 := Tryd.underlying3
  a3 := Tryd.isAgg3
  z3 := Tryd.sizeOf3
  v3 := Tryd.zeroValue3
  t4 := Tryd.underlying4
  a4 := Tryd.isAgg4
  z4 := Tryd.sizeOf4
  v4 := Tryd.zeroValue4
  t5 := Tryd.underlying5
  a5 := Tryd.isAgg5
  z5 := Tryd.sizeOf5
  v5 := Tryd.zeroValue5
  t9 := Tryd.underlying9
  a9 := Tryd.isAgg9
  z9 := Tryd.sizeOf9
  v9 := Tryd.zeroValue9
  t46 := Tryd.underlying135
  a46 := Tryd.isAgg135
  z46 := Tryd.sizeOf135
  v46 := Tryd.zeroValue135
  t51 := Tryd.underlying154
  a51 := Tryd.isAgg154
  z51 := Tryd.sizeOf154
  v51 := Tryd.zeroValue154
  t59 := Tryd.underlying71
  a59 := Tryd.isAgg71
  z59 := Tryd.sizeOf71
  v59 := Tryd.zeroValue71
  t146 := Tryd.underlying169
  a146 := Tryd.isAgg169
  z146 := Tryd.sizeOf169
  v146 := Tryd.zeroValue169
  g1 := by kernel_rfl
  i3 := by kernel_rfl
  i4 := by kernel_rfl
  i5 := by kernel_rfl
  i9 := by kernel_rfl
  i46 := by kernel_rfl
  i51 := by kernel_rfl
  i59 := by kernel_rfl
  i146 := by kernel_rfl
  m1 := by kernel_rfl
  s1_3 := fun w h => Go.Proofs.cell_of_shapedOpen_int (zero := #[.int .i64 0]) (t := 3) h (of_decide_eq_true (by kernel_rfl)) (by kernel_rfl) rfl (by kernel_rfl) (by kernel_rfl) Tryd.underlying3 }
open Go.RowKit Go.Lib in
theorem Tryd.strings_Cut_shaped (s sep : ByteArray) (w : World) (h : w.ShapedOpen Tryd.prog) (hs : s.size < 4294967281) :
    Calls Tryd.prog 39 #[.string s, .string sep] w fun e w' => e = .returned (.tuple #[.string ⟨(Lib.cut s.data.toList sep.data.toList).1.toArray⟩, .string ⟨(Lib.cut s.data.toList sep.data.toList).2.1.toArray⟩, .bool (Lib.cut s.data.toList sep.data.toList).2.2]) ∧ ∃ n, w' = w.drewN n := Any.strings_Cut_shaped Tryd.laysM145 s sep w h hs
def Tryd.laysM138_ren : Go.Shelf.Ren := ⟨fun | 138 => 129 | 195 => 143 | 218 => 145 | 143 => 130 | 219 => 105 | 217 => 81 | 225 => 125 | 224 => 126 | 267 => 127 | 266 => 104 | 314 => 142 | n => n, fun | 9 => 9 | 3 => 3 | 4 => 4 | 5 => 5 | 0 => 0 | 46 => 135 | 146 => 169 | 51 => 154 | n => n, fun | 1 => 0 | n => n⟩
theorem Tryd.laysM138 : Go.Proofs.LaysM.n138 Tryd.prog Tryd.laysM138_ren := {
  mixed := by kernel_rfl
  f138 := Tryd.func129.trans (congrArg some (by kernel_rfl))
  f143 := Tryd.func130.trans (congrArg some (by kernel_rfl))
  f195 := Tryd.func143.trans (congrArg some (by kernel_rfl))
  f217 := Tryd.func81.trans (congrArg some (by kernel_rfl))
  f218 := Tryd.func145.trans (congrArg some (by kernel_rfl))
  f219 := Tryd.func105.trans (congrArg some (by kernel_rfl))
  f224 := Tryd.func126.trans (congrArg some (by kernel_rfl))
  f225 := Tryd.func125.trans (congrArg some (by kernel_rfl))
  f266 := Tryd.func104.trans (congrArg some (by kernel_rfl))
  f267 := Tryd.func127.trans (congrArg some (by kernel_rfl))
  f314 := Tryd.func142.trans (congrArg some (by kernel_rfl))
  t0 := Tryd.underlying0
  a0 := Tryd.isAgg0
  z0 := Tryd.sizeOf0
  v0 := Tryd.zeroValue0
  t3 := Tryd.underlying3
  a3 := Tryd.isAgg3
  z3 := Tryd.sizeOf3
  v3 := Tryd.zeroValue3
  t4 := Tryd.underlying4
  a4 := Tryd.isAgg4
  z4 := Tryd.sizeOf4
  v4 := Tryd.zeroValue4
  t5 := Tryd.underlying5
  a5 := Tryd.isAgg5
  z5 := Tryd.sizeOf5
  v5 := Tryd.zeroValue5
  t9 := Tryd.underlying9
  a9 := Tryd.isAgg9
  z9 := Tryd.sizeOf9
  v9 := Tryd.zeroValue9
  t46 := Tryd.underlying135
  a46 := Tryd.isAgg135
  z46 := Tryd.sizeOf135
  v46 := Tryd.zeroValue135
  t51 := Tryd.underlying154
  a51 := Tryd.isAgg154
  z51 := Tryd.sizeOf154
  v51 := Tryd.zeroValue154
  t146 := Tryd.underlying169
  a146 := Tryd.isAgg169
  z146 := Tryd.sizeOf169
  v146 := Tryd.zeroValue169
  g1 := by kernel_rfl
  i0 := by kernel_rfl
  i3 := by kernel_rfl
  i4 := by kernel_rfl
  i5 := by kernel_rfl
  i9 := by kernel_rfl
  i46 := by kernel_rfl
  i51 := by kernel_rfl
  i146 := by kernel_rfl
  m1 := by kernel_rfl
  s1_3 := fun w h => Go.Proofs.cell_of_shapedOpen_int (zero := #[.int .i64 0]) (t := 3) h (of_decide_eq_true (by kernel_rfl)) (by kernel_rfl) rfl (by kernel_rfl) (by kernel_rfl) Tryd.underlying3 }
open Go.RowKit Go.Lib in
theorem Tryd.strings_Count_shaped (s sub : ByteArray) (w : World) (h : w.ShapedOpen Tryd.prog) (hs : s.size < 4294967281) (h2 : 2 ≤ sub.size) :
    Calls Tryd.prog 129 #[.string s, .string sub] w fun e w' => e = .returned (.int .i64 (Lib.countB s sub)) ∧ w' = w := Any.strings_Count_shaped Tryd.laysM138 s sub w h hs h2
def Tryd.lays189_ren : Go.Shelf.Ren := ⟨fun | 189 => 78 | 125 => 101 | 257 => 100 | 128 => 122 | 129 => 123 | 294 => 113 | 295 => 114 | 296 => 115 | 297 => 116 | 298 => 117 | 299 => 118 | 216 => 119 | 300 => 120 | 301 => 121 | 328 => 136 | 329 => 137 | 330 => 138 | 331 => 139 | 332 => 140 | 215 => 141 | 343 => 150 | n => n, fun | 28 => 38 | 3 => 3 | 46 => 135 | 0 => 0 | 51 => 154 | 53 => 156 | 4 => 4 | 183 => 147 | 182 => 146 | 131 => 73 | 5 => 5 | 9 => 9 | 218 => 163 | 222 => 167 | 228 => 176 | 229 => 177 | n => n, fun | n => n⟩
theorem Tryd.lays189 : Go.Proofs.Lays.n189 Tryd.prog Tryd.lays189_ren := {
  mixed := by kernel_rfl
  f125 := Tryd.func101.trans (congrArg some (by kernel_rfl))
  f128 := Tryd.func122.trans (congrArg some (by kernel_rfl))
  f129 := Tryd.func123.trans (congrArg some (by kernel_rfl))
  f189 := Tryd.func78.trans (congrArg some (by kernel_rfl))
  f215 := Tryd.func141.trans (congrArg some (by kernel_rfl))
  f216 := Tryd.func119.trans (congrArg some (by kernel_rfl))
  f257 := Tryd.func100.trans (congrArg some (by kernel_rfl))
  f294 := Tryd.func113.trans (congrArg some (by kernel_rfl))
  f295 := Tryd.func114.trans (congrArg some (by kernel_rfl))
  f296 := Tryd.func115.trans (congrArg some (by kernel_rfl))
  f297 := Tryd.func116.trans (congrArg some (by kernel_rfl))
  f298 := Tryd.func117.trans (congrArg some (by kernel_rfl))
  f299 := Tryd.func118.trans (congrArg some (by kernel_rfl))
  f300 := Tryd.func120.trans (congrArg some (by kernel_rfl))
  f301 := Tryd.func121.trans (congrArg some (by kernel_rfl))
  f328 := Tryd.func136.trans (congrArg some (by kernel_rfl))
  f329 := Tryd.func137.trans (congrArg some (by kernel_rfl))
  f330 := Tryd.func138.trans (congrArg some (by kernel_rfl))
  f331 := Tryd.func139.trans (congrArg some (by kernel_rfl))
  f332 := Tryd.func140.trans (congrArg some (by kernel_rfl))
  f343 := Tryd.func150.trans (congrArg some (by kernel_rfl))
  t0 := Tryd.underlying0
  a0 := Tryd.isAgg0
  z0 := Tryd.sizeOf0
  v0 := Tryd.zeroValue0
  t3 := Tryd.underlying3
  a3 := Tryd.isAgg3
  z3 := Tryd.sizeOf3
  v3 := Tryd.zeroValue3
  t4 := Tryd.underlying4
  a4 := Tryd.isAgg4
  z4 := Tryd.sizeOf4
  v4 := Tryd.zeroValue4
  t5 := Tryd.underlying5
  a5 := Tryd.isAgg5
  z5 := Tryd.sizeOf5
  v5 := Tryd.zeroValue5
  t9 := Tryd.underlying9
  a9 := Tryd.isAgg9
  z9 := Tryd.sizeOf9
  v9 := Tryd.zeroValue9
  t28 := Tryd.underlying38
  a28 := Tryd.isAgg38
  z28 := Tryd.sizeOf38
  v28 := Tryd.zeroValue38
  t46 := Tryd.underlying135
  a46 := Tryd.isAgg135
  z46 := Tryd.sizeOf135
  v46 := Tryd.zeroValue135
  t51 := Tryd.underlying154
  a51 := Tryd.isAgg154
  z51 := Tryd.sizeOf154
  v51 := Tryd.zeroValue154
  t53 := Tryd.underlying156
  a53 := Tryd.isAgg156
  z53 := Tryd.sizeOf156
  v53 := Tryd.zeroValue156
  t131 := Tryd.underlying73
  a131 := Tryd.isAgg73
  z131 := Tryd.sizeOf73
  v131 := Tryd.zeroValue73
  t182 := Tryd.underlying146
  a182 := Tryd.isAgg146
  z182 := Tryd.sizeOf146
  v182 := Tryd.zeroValue146
  t183 := Tryd.underlying147
  a183 := Tryd.isAgg147
  z183 := Tryd.sizeOf147
  v183 := Tryd.zeroValue147
  t218 := Tryd.underlying163
  a218 := Tryd.isAgg163
  z218 := Tryd.sizeOf163
  v218 := Tryd.zeroValue163
  t222 := Tryd.underlying167
  a222 := Tryd.isAgg167
  z222 := Tryd.sizeOf167
  v222 := Tryd.zeroValue167
  t228 := Tryd.underlying176
  a228 := Tryd.isAgg176
  z228 := Tryd.sizeOf176
  v228 := Tryd.zeroValue176
  t229 := Tryd.underlying177
  a229 := Tryd.isAgg177
  z229 := Tryd.sizeOf177
  v229 := Tryd.zeroValue177 }
open Go.Sort Go.RowKit in
theorem Tryd.slices_Sort_int (blk off cap : Nat) (zs : List Int) (w : World) (hH : Holds (Value.int .i64) w blk off zs.toArray) (hblk : blk < w.heap.size) (hsz : zs.length < 4611686018427387904) :
    Calls Tryd.prog 78 #[.slice (some ⟨blk, off, none⟩) zs.length cap] w fun e w' =>
      e = .returned (.tuple #[]) ∧ ∃ n os, w' = grow (putRow (Value.int .i64) (Sort.ahead w n) blk off (zs.mergeSort fun x y => decide (x ≤ y)).toArray) os := Any.slices_Sort_int Tryd.lays189 blk off cap zs w hH hblk hsz
open Go.RowKit Go.Lib in
theorem Tryd.strings_Count_any (s sep : ByteArray) (m : Int) (w : World) (hs : s.size < 4294967281) (hm : w.cell? ⟨0, 0, none⟩ = some (.int .i64 m)) (h1 : 1 ≤ sep.size) :
    Calls Tryd.prog 129 #[.string s, .string sep] w fun e w' => e = .returned (.int .i64 (Lib.countB s sep)) ∧ w' = w := Any.strings_Count_any Tryd.lays138 s sep m w hs hm h1
def Tryd.lays221_ren : Go.Shelf.Ren := ⟨fun | 221 => 106 | 268 => 128 | 138 => 129 | 143 => 130 | 195 => 143 | 197 => 144 | 218 => 145 | 219 => 105 | 260 => 151 | 217 => 81 | 225 => 125 | 224 => 126 | 267 => 127 | 266 => 104 | 314 => 142 | n => n, fun | 9 => 9 | 3 => 3 | 31 => 68 | 4 => 4 | 0 => 0 | 105 => 171 | 21 => 21 | 5 => 5 | 46 => 135 | 119 => 179 | 139 => 182 | 138 => 181 | 146 => 169 | 51 => 154 | n => n, fun | 1 => 0 | 3 => 2 | 4 => 3 | n => n⟩
theorem Tryd.lays221 : Go.Proofs.Lays.n221 Tryd.prog Tryd.lays221_ren := {
  mixed := by kernel_rfl
  f138 := Tryd.func129.trans (congrArg some (by kernel_rfl))
  f143 := Tryd.func130.trans (congrArg some (by kernel_rfl))
  f195 := Tryd.func143.trans (congrArg some (by kernel_rfl))
  f197 := Tryd.func144.trans (congrArg some (by kernel_rfl))
  f217 := Tryd.func81.trans (congrArg some (by kernel_rfl))
  f218 := Tryd.func145.trans (congrArg some (by kernel_rfl))
  f219 := Tryd.func105.trans (congrArg some (by kernel_rfl))
  f221 := Tryd.func106.trans (congrArg some (by kernel_rfl))
  f224 := Tryd.func126.trans (congrArg some (by kernel_rfl))
  f225 := Tryd.func125.trans (congrArg some (by kernel_rfl))
  f260 := Tryd.func151.trans (congrArg some (by kernel_rfl))
  f266 := Tryd.func104.trans (congrArg some (by kernel_rfl))
  f267 := Tryd.func127.trans (congrArg some (by kernel_rfl))
  f268 := Tryd.func128.trans (congrArg some (by kernel_rfl))
  f314 := Tryd.func142.trans (congrArg some (by kernel_rfl))
  t0 := Tryd.underlying0
  a0 := Tryd.isAgg0
  z0 := Tryd.sizeOf0
  v0 := Tryd.zeroValue0
  t3 := Tryd.underlying3
  a3 := Tryd.isAgg3
  z3 := Tryd.sizeOf3
  v3 := Tryd.zeroValue3
  t4 := Tryd.underlying4
  a4 := Tryd.isAgg4
  z4 := Tryd.sizeOf4
  v4 := Tryd.zeroValue4
  t5 := Tryd.underlying5
  a5 := Tryd.isAgg5
  z5 := Tryd.sizeOf5
  v5 := Tryd.zeroValue5
  t9 := Tryd.underlying9
  a9 := Tryd.isAgg9
  z9 := Tryd.sizeOf9
  v9 := Tryd.zeroValue9
  t21 := Tryd.underlying21
  a21 := Tryd.isAgg21
  z21 := Tryd.sizeOf21
  v21 := Tryd.zeroValue21
  t31 := Tryd.underlying68
  a31 := Tryd.isAgg68
  z31 := Tryd.sizeOf68
  v31 := Tryd.zeroValue68
  t46 := Tryd.underlying135
  a46 := Tryd.isAgg135
  z46 := Tryd.sizeOf135
  v46 := Tryd.zeroValue135
  t51 := Tryd.underlying154
  a51 := Tryd.isAgg154
  z51 := Tryd.sizeOf154
  v51 := Tryd.zeroValue154
  t105 := Tryd.underlying171
  a105 := Tryd.isAgg171
  z105 := Tryd.sizeOf171
  v105 := Tryd.zeroValue171
  t119 := Tryd.underlying179
  a119 := Tryd.isAgg179
  z119 := Tryd.sizeOf179
  t138 := Tryd.underlying181
  a138 := Tryd.isAgg181
  z138 := Tryd.sizeOf181
  v138 := Tryd.zeroValue181
  t139 := Tryd.underlying182
  a139 := Tryd.isAgg182
  z139 := Tryd.sizeOf182
  v139 := Tryd.zeroValue182
  t146 := Tryd.underlying169
  a146 := Tryd.isAgg169
  z146 := Tryd.sizeOf169
  v146 := Tryd.zeroValue169
  g1 := by kernel_rfl
  g3 := by kernel_rfl
  g4 := by kernel_rfl }
open Go.RowKit Go.Lib in
theorem Tryd.strings_genSplit (s sep : ByteArray) (sv : Nat) (n : Int) (N : Nat) (m : Int) (w : World) (hs : s.size < 4294967281) (hm : w.cell? ⟨0, 0, none⟩ = some (.int .i64 m)) (h1 : 1 ≤ sep.size) (hsv : sv ≤ sep.size) (hn0 : n ≠ 0) (hn63 : n ≤ 9223372036854775807) (hN : (N : Int) = min (if n < 0 then (Lib.countB s sep : Int) + 1 else n) ((s.size : Int) + 1)) :
    Calls Tryd.prog 106 #[.string s, .string sep, .int .i64 sv, .int .i64 n] w fun e w' =>
      e = .returned (.slice (some ⟨w.heap.size, 0, none⟩) (Lib.splitB sep sv (N - 1) s).length N) ∧ w' = w.alloc (.cells (Lib.cellsOf (Lib.splitB sep sv (N - 1) s) N) 9) := Any.strings_genSplit Tryd.lays221 (by kernel_rfl) s sep sv n N m w hs hm h1 hsv hn0 hn63 hN
def Tryd.lays146_ren : Go.Shelf.Ren := ⟨fun | 146 => 83 | 221 => 106 | 268 => 128 | 138 => 129 | 143 => 130 | 195 => 143 | 197 => 144 | 218 => 145 | 219 => 105 | 260 => 151 | 217 => 81 | 225 => 125 | 224 => 126 | 267 => 127 | 266 => 104 | 314 => 142 | n => n, fun | 9 => 9 | 31 => 68 | 3 => 3 | 4 => 4 | 0 => 0 | 105 => 171 | 21 => 21 | 5 => 5 | 46 => 135 | 119 => 179 | 139 => 182 | 138 => 181 | 146 => 169 | 51 => 154 | n => n, fun | 1 => 0 | 3 => 2 | 4 => 3 | n => n⟩
theorem Tryd.lays146 : Go.Proofs.Lays.n146 Tryd.prog Tryd.lays146_ren := {
  mixed := by kernel_rfl
  f138 := Tryd.func129.trans (congrArg some (by kernel_rfl))
  f143 := Tryd.func130.trans (congrArg some (by kernel_rfl))
  f146 := Tryd.func83.trans (congrArg some (by kernel_rfl))
  f195 := Tryd.func143.trans (congrArg some (by kernel_rfl))
  f197 := Tryd.func144.trans (congrArg some (by kernel_rfl))
  f217 := Tryd.func81.trans (congrArg some (by kernel_rfl))
  f218 := Tryd.func145.trans (congrArg some (by kernel_rfl))
  f219 := Tryd.func105.trans (congrArg some (by kernel_rfl))
  f221 := Tryd.func106.trans (congrArg some (by kernel_rfl))
  f224 := Tryd.func126.trans (congrArg some (by kernel_rfl))
  f225 := Tryd.func125.trans (congrArg some (by kernel_rfl))
  f260 := Tryd.func151.trans (congrArg some (by kernel_rfl))
  f266 := Tryd.func104.trans (congrArg some (by kernel_rfl))
  f267 := Tryd.func127.trans (congrArg some (by kernel_rfl))
  f268 := Tryd.func128.trans (congrArg some (by kernel_rfl))
  f314 := Tryd.func142.trans (congrArg some (by kernel_rfl))
  t0 := Tryd.underlying0
  a0 := Tryd.isAgg0
  z0 := Tryd.sizeOf0
  v0 := Tryd.zeroValue0
  t3 := Tryd.underlying3
  a3 := Tryd.isAgg3
  z3 := Tryd.sizeOf3
  v3 := Tryd.zeroValue3
  t4 := Tryd.underlying4
  a4 := Tryd.isAgg4
  z4 := Tryd.sizeOf4
  v4 := Tryd.zeroValue4
  t5 := Tryd.underlying5
  a5 := Tryd.isAgg5
  z5 := Tryd.sizeOf5
  v5 := Tryd.zeroValue5
  t9 := Tryd.underlying9
  a9 := Tryd.isAgg9
  z9 := Tryd.sizeOf9
  v9 := Tryd.zeroValue9
  t21 := Tryd.underlying21
  a21 := Tryd.isAgg21
  z21 := Tryd.sizeOf21
  v21 := Tryd.zeroValue21
  t31 := Tryd.underlying68
  a31 := Tryd.isAgg68
  z31 := Tryd.sizeOf68
  v31 := Tryd.zeroValue68
  t46 := Tryd.underlying135
  a46 := Tryd.isAgg135
  z46 := Tryd.sizeOf135
  v46 := Tryd.zeroValue135
  t51 := Tryd.underlying154
  a51 := Tryd.isAgg154
  z51 := Tryd.sizeOf154
  v51 := Tryd.zeroValue154
  t105 := Tryd.underlying171
  a105 := Tryd.isAgg171
  z105 := Tryd.sizeOf171
  v105 := Tryd.zeroValue171
  t119 := Tryd.underlying179
  a119 := Tryd.isAgg179
  z119 := Tryd.sizeOf179
  t138 := Tryd.underlying181
  a138 := Tryd.isAgg181
  z138 := Tryd.sizeOf181
  v138 := Tryd.zeroValue181
  t139 := Tryd.underlying182
  a139 := Tryd.isAgg182
  z139 := Tryd.sizeOf182
  v139 := Tryd.zeroValue182
  t146 := Tryd.underlying169
  a146 := Tryd.isAgg169
  z146 := Tryd.sizeOf169
  v146 := Tryd.zeroValue169
  g1 := by kernel_rfl
  g3 := by kernel_rfl
  g4 := by kernel_rfl }
open Go.RowKit Go.Lib in
theorem Tryd.strings_Split (s sep : ByteArray) (m : Int) (w : World) (hs : s.size < 4294967281) (hm : w.cell? ⟨0, 0, none⟩ = some (.int .i64 m)) (h1 : 1 ≤ sep.size) :
    Calls Tryd.prog 83 #[.string s, .string sep] w fun e w' =>
      e = .returned (.slice (some ⟨w.heap.size, 0, none⟩) (Lib.countB s sep + 1) (Lib.countB s sep + 1)) ∧ w' = w.alloc (.cells ((Lib.splitB sep 0 (Lib.countB s sep) s).map Value.string).toArray 9) := Any.strings_Split Tryd.lays146 (by kernel_rfl) s sep m w hs hm h1
def Tryd.laysM146_ren : Go.Shelf.Ren := ⟨fun | 146 => 83 | 221 => 106 | 268 => 128 | 138 => 129 | 143 => 130 | 195 => 143 | 197 => 144 | 218 => 145 | 219 => 105 | 260 => 151 | 217 => 81 | 225 => 125 | 224 => 126 | 267 => 127 | 266 => 104 | 314 => 142 | n => n, fun | 9 => 9 | 31 => 68 | 3 => 3 | 4 => 4 | 0 => 0 | 105 => 171 | 21 => 21 | 5 => 5 | 46 => 135 | 119 => 179 | 139 => 182 | 138 => 181 | 146 => 169 | 51 => 154 | n => n, fun | 1 => 0 | 3 => 2 | 4 => 3 | n => n⟩
theorem Tryd.laysM146 : Go.Proofs.LaysM.n146 Tryd.prog Tryd.laysM146_ren := {
  mixed := by kernel_rfl
  f138 := Tryd.func129.trans (congrArg some (by kernel_rfl))
  f143 := Tryd.func130.trans (congrArg some (by kernel_rfl))
  f146 := Tryd.func83.trans (congrArg some (by kernel_rfl))
  f195 := Tryd.func143.trans (congrArg some (by kernel_rfl))
  f197 := Tryd.func144.trans (congrArg some (by kernel_rfl))
  f217 := Tryd.func81.trans (congrArg some (by kernel_rfl))
  f218 := Tryd.func145.trans (congrArg some (by kernel_rfl))
  f219 := Tryd.func105.trans (congrArg some (by kernel_rfl))
  f221 := Tryd.func106.trans (congrArg some (by kernel_rfl))
  f224 := Tryd.func126.trans (congrArg some (by kernel_rfl))
  f225 := Tryd.func125.trans (congrArg some (by kernel_rfl))
  f260 := Tryd.func151.trans (congrArg some (by kernel_rfl))
  f266 := Tryd.func104.trans (congrArg some (by kernel_rfl))
  f267 := Tryd.func127.trans (congrArg some (by kernel_rfl))
  f268 := Tryd.func128.trans (congrArg some (by kernel_rfl))
  f314 := Tryd.func142.trans (congrArg some (by kernel_rfl))
  t0 := Tryd.underlying0
  a0 := Tryd.isAgg0
  z0 := Tryd.sizeOf0
  v0 := Tryd.zeroValue0
  t3 := Tryd.underlying3
  a3 := Tryd.isAgg3
  z3 := Tryd.sizeOf3
  v3 := Tryd.zeroValue3
  t4 := Tryd.underlying4
  a4 := Tryd.isAgg4
  z4 := Tryd.sizeOf4
  v4 := Tryd.zeroValue4
  t5 := Tryd.underlying5
  a5 := Tryd.isAgg5
  z5 := Tryd.sizeOf5
  v5 := Tryd.zeroValue5
  t9 := Tryd.underlying9
  a9 := Tryd.isAgg9
  z9 := Tryd.sizeOf9
  v9 := Tryd.zeroValue9
  t21 := Tryd.underlying21
  a21 := Tryd.isAgg21
  z21 := Tryd.sizeOf21
  v21 := Tryd.zeroValue21
  t31 := Tryd.underlying68
  a31 := Tryd.isAgg68
  z31 := Tryd.sizeOf68
  v31 := Tryd.zeroValue68
  t46 := Tryd.underlying135
  a46 := Tryd.isAgg135
  z46 := Tryd.sizeOf135
  v46 := Tryd.zeroValue135
  t51 := Tryd.underlying154
  a51 := Tryd.isAgg154
  z51 := Tryd.sizeOf154
  v51 := Tryd.zeroValue154
  t105 := Tryd.underlying171
  a105 := Tryd.isAgg171
  z105 := Tryd.sizeOf171
  v105 := Tryd.zeroValue171
  t119 := Tryd.underlying179
  a119 := Tryd.isAgg179
  z119 := Tryd.sizeOf179
  t138 := Tryd.underlying181
  a138 := Tryd.isAgg181
  z138 := Tryd.sizeOf181
  v138 := Tryd.zeroValue181
  t139 := Tryd.underlying182
  a139 := Tryd.isAgg182
  z139 := Tryd.sizeOf182
  v139 := Tryd.zeroValue182
  t146 := Tryd.underlying169
  a146 := Tryd.isAgg169
  z146 := Tryd.sizeOf169
  v146 := Tryd.zeroValue169
  g1 := by kernel_rfl
  g3 := by kernel_rfl
  g4 := by kernel_rfl
  i0 := by kernel_rfl
  i3 := by kernel_rfl
  i4 := by kernel_rfl
  i5 := by kernel_rfl
  i9 := by kernel_rfl
  i21 := by kernel_rfl
  i31 := by kernel_rfl
  i46 := by kernel_rfl
  i51 := by kernel_rfl
  i105 := by kernel_rfl
  i138 := by kernel_rfl
  i139 := by kernel_rfl
  i146 := by kernel_rfl
  m1 := by kernel_rfl
  s1_3 := fun w h => Go.Proofs.cell_of_shapedOpen_int (zero := #[.int .i64 0]) (t := 3) h (of_decide_eq_true (by kernel_rfl)) (by kernel_rfl) rfl (by kernel_rfl) (by kernel_rfl) Tryd.underlying3
  m3 := by kernel_rfl
  m4 := by kernel_rfl }
open Go.RowKit Go.Lib in
theorem Tryd.strings_Split_shaped (s sep : ByteArray) (w : World) (h : w.ShapedOpen Tryd.prog) (hs : s.size < 4294967281) (h1 : 1 ≤ sep.size) :
    Calls Tryd.prog 83 #[.string s, .string sep] w fun e w' =>
      e = .returned (.slice (some ⟨w.heap.size, 0, none⟩) (Lib.countB s sep + 1) (Lib.countB s sep + 1)) ∧ w' = w.alloc (.cells ((Lib.splitB sep 0 (Lib.countB s sep) s).map Value.string).toArray 9) := Any.strings_Split_shaped Tryd.laysM146 s sep w h hs h1
def Tryd.lays260_ren : Go.Shelf.Ren := ⟨fun | 260 => 151 | n => n, fun | 9 => 9 | 21 => 21 | 3 => 3 | 4 => 4 | 5 => 5 | 119 => 179 | 0 => 0 | 46 => 135 | 139 => 182 | 138 => 181 | n => n, fun | 3 => 2 | 4 => 3 | n => n⟩
theorem Tryd.lays260 : Go.Proofs.Lays.n260 Tryd.prog Tryd.lays260_ren := {
  mixed := by kernel_rfl
  f260 := Tryd.func151.trans (congrArg some (by kernel_rfl))
  t0 := Tryd.underlying0
  a0 := Tryd.isAgg0
  z0 := Tryd.sizeOf0
  v0 := Tryd.zeroValue0
  t3 := Tryd.underlying3
  a3 := Tryd.isAgg3
  z3 := Tryd.sizeOf3
  v3 := Tryd.zeroValue3
  t4 := Tryd.underlying4
  a4 := Tryd.isAgg4
  z4 := Tryd.sizeOf4
  v4 := Tryd.zeroValue4
  t5 := Tryd.underlying5
  a5 := Tryd.isAgg5
  z5 := Tryd.sizeOf5
  v5 := Tryd.zeroValue5
  t9 := Tryd.underlying9
  a9 := Tryd.isAgg9
  z9 := Tryd.sizeOf9
  v9 := Tryd.zeroValue9
  t21 := Tryd.underlying21
  a21 := Tryd.isAgg21
  z21 := Tryd.sizeOf21
  v21 := Tryd.zeroValue21
  t46 := Tryd.underlying135
  a46 := Tryd.isAgg135
  z46 := Tryd.sizeOf135
  v46 := Tryd.zeroValue135
  t119 := Tryd.underlying179
  a119 := Tryd.isAgg179
  z119 := Tryd.sizeOf179
  t138 := Tryd.underlying181
  a138 := Tryd.isAgg181
  z138 := Tryd.sizeOf181
  v138 := Tryd.zeroValue181
  t139 := Tryd.underlying182
  a139 := Tryd.isAgg182
  z139 := Tryd.sizeOf182
  v139 := Tryd.zeroValue182
  g3 := by kernel_rfl
  g4 := by kernel_rfl }
open Go.RowKit Go.Lib in
theorem Tryd.utf8_decodeRuneInStringSlow (s : ByteArray) (w : World) (hT : Lib.Utf8Tabs 2 3 w) :
    Calls Tryd.prog 151 #[.string s] w fun e w' => e = .returned (.tuple #[.int .i32 (Lib.decodeGo s).1, .int .i64 (Lib.decodeGo s).2]) ∧ Below w.heap.size w w' := Any.utf8_decodeRuneInStringSlow Tryd.lays260 s w hT
open Go.RowKit Go.Sort in
theorem Tryd.slices_Sort_int_none (p : Option Addr) (cap : Nat) (w : World) :
    Calls Tryd.prog 78 #[.slice p 0 cap] w fun e w' => e = .returned (.tuple #[]) ∧ w' = w := Any.slices_Sort_int_none Tryd.lays189 p cap w
end Go.Proofs
