/-
  NARROWER THAN 'FOR EVERY INPUT', by the rows' own cells (each row's printed sentence says how): FnHouseValid: laid · FnHouseStay: laid · FnHouseDue: laid · FnHouseMay: laid · FnEndOrder: laid · FnExactReadHouse: laid · FnExactReadSave: laid · FnHouseText: laid · FnSaveText: laid · FnReadHouse: laid · FnReadSave: laid · FnHouseOwed: laid.
  DERIVED. THE GIVEN ROWS OF THIS SEAT. 12 by the template 'for every input the law returns true; each argument reads behind the call as it read before'; 0 by the template 'total and deterministic' (their statements: YteejdnmmpmcmeaaGreatDoorTotals.lean).
  GIVEN WITH THE SEED: the statements are not yours to turn. If you find one false, say at which input.
  Laid BY PROGRAM, IN A SANDBOX (cutbox-rows.mjs): the forced cells as the released guide's own fill.sh prints them over the translation ac23988cc33fab55… (all of the seat's roots in one cut). By AI agents, Wed Nov 11 2026. No macro, syntax, notation, axiom, sorry.
-/
import Derived.Test.YteejdnmmpmcmeaaGreatDoorChecked
import GoSem.PinnedTables
import GoSem.Claim
import GoSem.ClaimJoined
import GoSem.ClaimMapViews
import Derived.JoinedTies
import Derived.KernelRfl
namespace Go.Proofs.YteejdnmmpmcmeaaGreatDoor
/- THE CELL 'sum', in the pinned program and in every row, IS THE sha256 OF THE DUMP (.gsa) THAT YteejdnmmpmcmeaaGreatDoorProg.lean LOADS. Nothing in Lean hashes anything: it is a label: what it is worth is what the hold of that sum in a sandbox is worth. -/
noncomputable def Tryz.pinned : Pinned := { name := "yteejdnmmpmcmeaagreatdoor", sum := "ac23988cc33fab55a23cba0531fd9c53895060442d755ea22a573eaa22fa0af0", checked := Tryz.checked }
namespace Rows
def none {H : Type} : Left H := { results := [], args := [] }

/- WHAT THE LISTED PACKAGE-LEVEL VARIABLES READ AS WHEN THE CALL BEGINS. Each datum BY PROGRAM (the guide's laid-datum.mjs) off the statement by which the dump's own 'gosem.cut.vars' lays the variable. In a bare row this is a premise. The card (YteejdnmmpmcmeaaGreatDoorCards.lean) ties it to the program's text. -/
def laid_math_bits_deBruijn32tab {H : Type} : DataW H := .agg [.lit (.int .u8 0), .lit (.int .u8 1), .lit (.int .u8 28), .lit (.int .u8 2), .lit (.int .u8 29), .lit (.int .u8 14), .lit (.int .u8 24), .lit (.int .u8 3), .lit (.int .u8 30), .lit (.int .u8 22), .lit (.int .u8 20), .lit (.int .u8 15), .lit (.int .u8 25), .lit (.int .u8 17), .lit (.int .u8 4), .lit (.int .u8 8), .lit (.int .u8 31), .lit (.int .u8 27), .lit (.int .u8 13), .lit (.int .u8 23), .lit (.int .u8 21), .lit (.int .u8 19), .lit (.int .u8 16), .lit (.int .u8 7), .lit (.int .u8 26), .lit (.int .u8 12), .lit (.int .u8 18), .lit (.int .u8 6), .lit (.int .u8 11), .lit (.int .u8 5), .lit (.int .u8 10), .lit (.int .u8 9)]
def laid_math_bits_deBruijn64tab {H : Type} : DataW H := .agg [.lit (.int .u8 0), .lit (.int .u8 1), .lit (.int .u8 56), .lit (.int .u8 2), .lit (.int .u8 57), .lit (.int .u8 49), .lit (.int .u8 28), .lit (.int .u8 3), .lit (.int .u8 61), .lit (.int .u8 58), .lit (.int .u8 42), .lit (.int .u8 50), .lit (.int .u8 38), .lit (.int .u8 29), .lit (.int .u8 17), .lit (.int .u8 4), .lit (.int .u8 62), .lit (.int .u8 47), .lit (.int .u8 59), .lit (.int .u8 36), .lit (.int .u8 45), .lit (.int .u8 43), .lit (.int .u8 51), .lit (.int .u8 22), .lit (.int .u8 53), .lit (.int .u8 39), .lit (.int .u8 33), .lit (.int .u8 30), .lit (.int .u8 24), .lit (.int .u8 18), .lit (.int .u8 12), .lit (.int .u8 5), .lit (.int .u8 63), .lit (.int .u8 55), .lit (.int .u8 48), .lit (.int .u8 27), .lit (.int .u8 60), .lit (.int .u8 41), .lit (.int .u8 37), .lit (.int .u8 16), .lit (.int .u8 46), .lit (.int .u8 35), .lit (.int .u8 44), .lit (.int .u8 21), .lit (.int .u8 52), .lit (.int .u8 32), .lit (.int .u8 23), .lit (.int .u8 11), .lit (.int .u8 54), .lit (.int .u8 26), .lit (.int .u8 40), .lit (.int .u8 15), .lit (.int .u8 34), .lit (.int .u8 20), .lit (.int .u8 31), .lit (.int .u8 10), .lit (.int .u8 25), .lit (.int .u8 14), .lit (.int .u8 19), .lit (.int .u8 9), .lit (.int .u8 13), .lit (.int .u8 8), .lit (.int .u8 7), .lit (.int .u8 6)]
def laid_internal_strconv_uint64pow10 {H : Type} : DataW H := .agg [.lit (.int .u64 1), .lit (.int .u64 10), .lit (.int .u64 100), .lit (.int .u64 1000), .lit (.int .u64 10000), .lit (.int .u64 100000), .lit (.int .u64 1000000), .lit (.int .u64 10000000), .lit (.int .u64 100000000), .lit (.int .u64 1000000000), .lit (.int .u64 10000000000), .lit (.int .u64 100000000000), .lit (.int .u64 1000000000000), .lit (.int .u64 10000000000000), .lit (.int .u64 100000000000000), .lit (.int .u64 1000000000000000), .lit (.int .u64 10000000000000000), .lit (.int .u64 100000000000000000), .lit (.int .u64 1000000000000000000), .lit (.int .u64 10000000000000000000)]
def laid_unicode_utf8_acceptRanges {H : Type} : DataW H := .agg [.agg [.lit (.int .u8 128), .lit (.int .u8 191)], .agg [.lit (.int .u8 160), .lit (.int .u8 191)], .agg [.lit (.int .u8 128), .lit (.int .u8 159)], .agg [.lit (.int .u8 144), .lit (.int .u8 191)], .agg [.lit (.int .u8 128), .lit (.int .u8 143)], .agg [.lit (.int .u8 0), .lit (.int .u8 0)], .agg [.lit (.int .u8 0), .lit (.int .u8 0)], .agg [.lit (.int .u8 0), .lit (.int .u8 0)], .agg [.lit (.int .u8 0), .lit (.int .u8 0)], .agg [.lit (.int .u8 0), .lit (.int .u8 0)], .agg [.lit (.int .u8 0), .lit (.int .u8 0)], .agg [.lit (.int .u8 0), .lit (.int .u8 0)], .agg [.lit (.int .u8 0), .lit (.int .u8 0)], .agg [.lit (.int .u8 0), .lit (.int .u8 0)], .agg [.lit (.int .u8 0), .lit (.int .u8 0)], .agg [.lit (.int .u8 0), .lit (.int .u8 0)]]
/-- One of Go's own tables, pinned by name: the form's constant. -/
def laid_unicode_utf8_first : DataW Unit := Go.Pinned.utf8First

/-- 'laws.FnHouseValid': WHATEVER THE INPUT: true; the input reads as it did. -/
def fnHouseValidSpec : ChangeSpec := { name := "fnHouseValid", fn := fun _ => fun
  | [d] => { results := [.lit (.bool true)], args := [d] }
  | _ => none }
def fnHouseValidRow : OpenClaim := { program := "yteejdnmmpmcmeaagreatdoor", sum := "ac23988cc33fab55a23cba0531fd9c53895060442d755ea22a573eaa22fa0af0", func := "loop.example/parkinghouse/laws.FnHouseValid", spec := "fnHouseValid", inPlace := ["internal/abi.NoEscape"], recurses := true, named := ["internal/strconv.uint64pow10", "math/bits.deBruijn32tab", "math/bits.deBruijn64tab"], apart := false, laid := [("math/bits.deBruijn32tab", laid_math_bits_deBruijn32tab), ("math/bits.deBruijn64tab", laid_math_bits_deBruijn64tab), ("internal/strconv.uint64pow10", laid_internal_strconv_uint64pow10)] }
def FnHouseValidSaid : Prop := fnHouseValidRow.holds Tryz.pinned (OpenSpec.ofChange fnHouseValidSpec)

/-- ITS FALSE NEIGHBOUR: 'it returns false'. Refute it at one input. -/
def fnHouseValidWrong : ChangeSpec := { name := "fnHouseValid", fn := fun _ => fun
  | [d] => { results := [.lit (.bool false)], args := [d] }
  | _ => none }
def FnHouseValidWrongFalsely : Prop := fnHouseValidRow.holds Tryz.pinned (OpenSpec.ofChange fnHouseValidWrong)

/-- 'laws.FnHouseStay': WHATEVER THE INPUT: true; the input reads as it did. -/
def fnHouseStaySpec : ChangeSpec := { name := "fnHouseStay", fn := fun _ => fun
  | [d] => { results := [.lit (.bool true)], args := [d] }
  | _ => none }
def fnHouseStayRow : OpenClaim := { program := "yteejdnmmpmcmeaagreatdoor", sum := "ac23988cc33fab55a23cba0531fd9c53895060442d755ea22a573eaa22fa0af0", func := "loop.example/parkinghouse/laws.FnHouseStay", spec := "fnHouseStay", inPlace := ["internal/abi.NoEscape"], unfollowed := true, recurses := true, named := ["internal/strconv.uint64pow10", "math/bits.deBruijn32tab", "math/bits.deBruijn64tab"], apart := false, laid := [("math/bits.deBruijn32tab", laid_math_bits_deBruijn32tab), ("math/bits.deBruijn64tab", laid_math_bits_deBruijn64tab), ("internal/strconv.uint64pow10", laid_internal_strconv_uint64pow10)] }
def FnHouseStaySaid : Prop := fnHouseStayRow.holds Tryz.pinned (OpenSpec.ofChange fnHouseStaySpec)

/-- ITS FALSE NEIGHBOUR: 'it returns false'. Refute it at one input. -/
def fnHouseStayWrong : ChangeSpec := { name := "fnHouseStay", fn := fun _ => fun
  | [d] => { results := [.lit (.bool false)], args := [d] }
  | _ => none }
def FnHouseStayWrongFalsely : Prop := fnHouseStayRow.holds Tryz.pinned (OpenSpec.ofChange fnHouseStayWrong)

/-- 'laws.FnHouseDue': WHATEVER THE INPUT: true; the input reads as it did. -/
def fnHouseDueSpec : ChangeSpec := { name := "fnHouseDue", fn := fun _ => fun
  | [d] => { results := [.lit (.bool true)], args := [d] }
  | _ => none }
def fnHouseDueRow : OpenClaim := { program := "yteejdnmmpmcmeaagreatdoor", sum := "ac23988cc33fab55a23cba0531fd9c53895060442d755ea22a573eaa22fa0af0", func := "loop.example/parkinghouse/laws.FnHouseDue", spec := "fnHouseDue", inPlace := ["internal/abi.NoEscape"], unfollowed := true, recurses := true, named := ["internal/strconv.uint64pow10", "math/bits.deBruijn32tab", "math/bits.deBruijn64tab"], apart := false, laid := [("math/bits.deBruijn32tab", laid_math_bits_deBruijn32tab), ("math/bits.deBruijn64tab", laid_math_bits_deBruijn64tab), ("internal/strconv.uint64pow10", laid_internal_strconv_uint64pow10)] }
def FnHouseDueSaid : Prop := fnHouseDueRow.holds Tryz.pinned (OpenSpec.ofChange fnHouseDueSpec)

/-- ITS FALSE NEIGHBOUR: 'it returns false'. Refute it at one input. -/
def fnHouseDueWrong : ChangeSpec := { name := "fnHouseDue", fn := fun _ => fun
  | [d] => { results := [.lit (.bool false)], args := [d] }
  | _ => none }
def FnHouseDueWrongFalsely : Prop := fnHouseDueRow.holds Tryz.pinned (OpenSpec.ofChange fnHouseDueWrong)

/-- 'laws.FnHouseMay': WHATEVER THE INPUT: true; the input reads as it did. -/
def fnHouseMaySpec : ChangeSpec := { name := "fnHouseMay", fn := fun _ => fun
  | [d] => { results := [.lit (.bool true)], args := [d] }
  | _ => none }
def fnHouseMayRow : OpenClaim := { program := "yteejdnmmpmcmeaagreatdoor", sum := "ac23988cc33fab55a23cba0531fd9c53895060442d755ea22a573eaa22fa0af0", func := "loop.example/parkinghouse/laws.FnHouseMay", spec := "fnHouseMay", inPlace := ["internal/abi.NoEscape"], unfollowed := true, recurses := true, named := ["internal/strconv.uint64pow10", "math/bits.deBruijn32tab", "math/bits.deBruijn64tab"], apart := false, laid := [("math/bits.deBruijn32tab", laid_math_bits_deBruijn32tab), ("math/bits.deBruijn64tab", laid_math_bits_deBruijn64tab), ("internal/strconv.uint64pow10", laid_internal_strconv_uint64pow10)] }
def FnHouseMaySaid : Prop := fnHouseMayRow.holds Tryz.pinned (OpenSpec.ofChange fnHouseMaySpec)

/-- ITS FALSE NEIGHBOUR: 'it returns false'. Refute it at one input. -/
def fnHouseMayWrong : ChangeSpec := { name := "fnHouseMay", fn := fun _ => fun
  | [d] => { results := [.lit (.bool false)], args := [d] }
  | _ => none }
def FnHouseMayWrongFalsely : Prop := fnHouseMayRow.holds Tryz.pinned (OpenSpec.ofChange fnHouseMayWrong)

/-- 'laws.FnEndOrder': WHATEVER THE INPUT: true; the input reads as it did. -/
def fnEndOrderSpec : ChangeSpec := { name := "fnEndOrder", fn := fun _ => fun
  | [d] => { results := [.lit (.bool true)], args := [d] }
  | _ => none }
def fnEndOrderRow : OpenClaim := { program := "yteejdnmmpmcmeaagreatdoor", sum := "ac23988cc33fab55a23cba0531fd9c53895060442d755ea22a573eaa22fa0af0", func := "loop.example/parkinghouse/laws.FnEndOrder", spec := "fnEndOrder", inPlace := ["internal/abi.NoEscape"], recurses := true, named := ["internal/strconv.uint64pow10", "math/bits.deBruijn32tab", "math/bits.deBruijn64tab"], apart := false, laid := [("math/bits.deBruijn32tab", laid_math_bits_deBruijn32tab), ("math/bits.deBruijn64tab", laid_math_bits_deBruijn64tab), ("internal/strconv.uint64pow10", laid_internal_strconv_uint64pow10)] }
def FnEndOrderSaid : Prop := fnEndOrderRow.holds Tryz.pinned (OpenSpec.ofChange fnEndOrderSpec)

/-- ITS FALSE NEIGHBOUR: 'it returns false'. Refute it at one input. -/
def fnEndOrderWrong : ChangeSpec := { name := "fnEndOrder", fn := fun _ => fun
  | [d] => { results := [.lit (.bool false)], args := [d] }
  | _ => none }
def FnEndOrderWrongFalsely : Prop := fnEndOrderRow.holds Tryz.pinned (OpenSpec.ofChange fnEndOrderWrong)

/-- 'laws.FnExactReadHouse': WHATEVER THE INPUT: true; the input reads as it did. -/
def fnExactReadHouseSpec : ChangeSpec := { name := "fnExactReadHouse", fn := fun _ => fun
  | [d] => { results := [.lit (.bool true)], args := [d] }
  | _ => none }
def fnExactReadHouseRow : OpenClaim := { program := "yteejdnmmpmcmeaagreatdoor", sum := "ac23988cc33fab55a23cba0531fd9c53895060442d755ea22a573eaa22fa0af0", func := "loop.example/parkinghouse/laws.FnExactReadHouse", spec := "fnExactReadHouse", inPlace := ["internal/bytealg.CountString", "internal/bytealg.IndexByteString", "internal/bytealg.IndexString", "internal/abi.NoEscape", "internal/bytealg.MakeNoZero"], recurses := true, named := ["unicode/utf8.first", "unicode/utf8.acceptRanges", "internal/bytealg.MaxLen", "internal/strconv.uint64pow10", "math/bits.deBruijn32tab", "math/bits.deBruijn64tab"], apart := false, laid := [("math/bits.deBruijn32tab", laid_math_bits_deBruijn32tab), ("math/bits.deBruijn64tab", laid_math_bits_deBruijn64tab), ("internal/strconv.uint64pow10", laid_internal_strconv_uint64pow10), ("unicode/utf8.acceptRanges", laid_unicode_utf8_acceptRanges), ("unicode/utf8.first", laid_unicode_utf8_first)] }
def FnExactReadHouseSaid : Prop := fnExactReadHouseRow.holds Tryz.pinned (OpenSpec.ofChange fnExactReadHouseSpec)

/-- ITS FALSE NEIGHBOUR: 'it returns false'. Refute it at one input. -/
def fnExactReadHouseWrong : ChangeSpec := { name := "fnExactReadHouse", fn := fun _ => fun
  | [d] => { results := [.lit (.bool false)], args := [d] }
  | _ => none }
def FnExactReadHouseWrongFalsely : Prop := fnExactReadHouseRow.holds Tryz.pinned (OpenSpec.ofChange fnExactReadHouseWrong)

/-- 'laws.FnExactReadSave': WHATEVER THE INPUT: true; the input reads as it did. -/
def fnExactReadSaveSpec : ChangeSpec := { name := "fnExactReadSave", fn := fun _ => fun
  | [d] => { results := [.lit (.bool true)], args := [d] }
  | _ => none }
def fnExactReadSaveRow : OpenClaim := { program := "yteejdnmmpmcmeaagreatdoor", sum := "ac23988cc33fab55a23cba0531fd9c53895060442d755ea22a573eaa22fa0af0", func := "loop.example/parkinghouse/laws.FnExactReadSave", spec := "fnExactReadSave", inPlace := ["internal/bytealg.IndexByteString", "internal/bytealg.IndexString", "internal/bytealg.CountString", "internal/abi.NoEscape", "internal/bytealg.MakeNoZero"], recurses := true, named := ["internal/bytealg.MaxLen", "unicode/utf8.first", "unicode/utf8.acceptRanges", "internal/strconv.uint64pow10", "math/bits.deBruijn32tab", "math/bits.deBruijn64tab"], apart := false, laid := [("math/bits.deBruijn32tab", laid_math_bits_deBruijn32tab), ("math/bits.deBruijn64tab", laid_math_bits_deBruijn64tab), ("internal/strconv.uint64pow10", laid_internal_strconv_uint64pow10), ("unicode/utf8.acceptRanges", laid_unicode_utf8_acceptRanges), ("unicode/utf8.first", laid_unicode_utf8_first)] }
def FnExactReadSaveSaid : Prop := fnExactReadSaveRow.holds Tryz.pinned (OpenSpec.ofChange fnExactReadSaveSpec)

/-- ITS FALSE NEIGHBOUR: 'it returns false'. Refute it at one input. -/
def fnExactReadSaveWrong : ChangeSpec := { name := "fnExactReadSave", fn := fun _ => fun
  | [d] => { results := [.lit (.bool false)], args := [d] }
  | _ => none }
def FnExactReadSaveWrongFalsely : Prop := fnExactReadSaveRow.holds Tryz.pinned (OpenSpec.ofChange fnExactReadSaveWrong)

/-- 'laws.FnHouseText': WHATEVER THE INPUT: true; the input reads as it did. -/
def fnHouseTextSpec : ChangeSpec := { name := "fnHouseText", fn := fun _ => fun
  | [d] => { results := [.lit (.bool true)], args := [d] }
  | _ => none }
def fnHouseTextRow : OpenClaim := { program := "yteejdnmmpmcmeaagreatdoor", sum := "ac23988cc33fab55a23cba0531fd9c53895060442d755ea22a573eaa22fa0af0", func := "loop.example/parkinghouse/laws.FnHouseText", spec := "fnHouseText", inPlace := ["internal/abi.NoEscape", "internal/bytealg.MakeNoZero", "internal/bytealg.CountString", "internal/bytealg.IndexByteString", "internal/bytealg.IndexString"], recurses := true, named := ["internal/strconv.uint64pow10", "math/bits.deBruijn32tab", "math/bits.deBruijn64tab", "unicode/utf8.first", "unicode/utf8.acceptRanges", "internal/bytealg.MaxLen"], apart := false, laid := [("math/bits.deBruijn32tab", laid_math_bits_deBruijn32tab), ("math/bits.deBruijn64tab", laid_math_bits_deBruijn64tab), ("internal/strconv.uint64pow10", laid_internal_strconv_uint64pow10), ("unicode/utf8.acceptRanges", laid_unicode_utf8_acceptRanges), ("unicode/utf8.first", laid_unicode_utf8_first)] }
def FnHouseTextSaid : Prop := fnHouseTextRow.holds Tryz.pinned (OpenSpec.ofChange fnHouseTextSpec)

/-- ITS FALSE NEIGHBOUR: 'it returns false'. Refute it at one input. -/
def fnHouseTextWrong : ChangeSpec := { name := "fnHouseText", fn := fun _ => fun
  | [d] => { results := [.lit (.bool false)], args := [d] }
  | _ => none }
def FnHouseTextWrongFalsely : Prop := fnHouseTextRow.holds Tryz.pinned (OpenSpec.ofChange fnHouseTextWrong)

/-- 'laws.FnSaveText': WHATEVER THE INPUT: true; the input reads as it did. -/
def fnSaveTextSpec : ChangeSpec := { name := "fnSaveText", fn := fun _ => fun
  | [d] => { results := [.lit (.bool true)], args := [d] }
  | _ => none }
def fnSaveTextRow : OpenClaim := { program := "yteejdnmmpmcmeaagreatdoor", sum := "ac23988cc33fab55a23cba0531fd9c53895060442d755ea22a573eaa22fa0af0", func := "loop.example/parkinghouse/laws.FnSaveText", spec := "fnSaveText", inPlace := ["internal/abi.NoEscape", "internal/bytealg.MakeNoZero", "internal/bytealg.IndexByteString", "internal/bytealg.IndexString", "internal/bytealg.CountString"], recurses := true, named := ["internal/strconv.uint64pow10", "math/bits.deBruijn32tab", "math/bits.deBruijn64tab", "internal/bytealg.MaxLen", "unicode/utf8.first", "unicode/utf8.acceptRanges"], apart := false, laid := [("math/bits.deBruijn32tab", laid_math_bits_deBruijn32tab), ("math/bits.deBruijn64tab", laid_math_bits_deBruijn64tab), ("internal/strconv.uint64pow10", laid_internal_strconv_uint64pow10), ("unicode/utf8.acceptRanges", laid_unicode_utf8_acceptRanges), ("unicode/utf8.first", laid_unicode_utf8_first)] }
def FnSaveTextSaid : Prop := fnSaveTextRow.holds Tryz.pinned (OpenSpec.ofChange fnSaveTextSpec)

/-- ITS FALSE NEIGHBOUR: 'it returns false'. Refute it at one input. -/
def fnSaveTextWrong : ChangeSpec := { name := "fnSaveText", fn := fun _ => fun
  | [d] => { results := [.lit (.bool false)], args := [d] }
  | _ => none }
def FnSaveTextWrongFalsely : Prop := fnSaveTextRow.holds Tryz.pinned (OpenSpec.ofChange fnSaveTextWrong)

/-- 'laws.FnReadHouse': WHATEVER THE INPUT: true; the input reads as it did. -/
def fnReadHouseSpec : ChangeSpec := { name := "fnReadHouse", fn := fun _ => fun
  | [d] => { results := [.lit (.bool true)], args := [d] }
  | _ => none }
def fnReadHouseRow : OpenClaim := { program := "yteejdnmmpmcmeaagreatdoor", sum := "ac23988cc33fab55a23cba0531fd9c53895060442d755ea22a573eaa22fa0af0", func := "loop.example/parkinghouse/laws.FnReadHouse", spec := "fnReadHouse", inPlace := ["internal/bytealg.CountString", "internal/bytealg.IndexByteString", "internal/bytealg.IndexString", "internal/abi.NoEscape", "internal/bytealg.MakeNoZero"], recurses := true, named := ["unicode/utf8.first", "unicode/utf8.acceptRanges", "internal/bytealg.MaxLen", "internal/strconv.uint64pow10", "math/bits.deBruijn32tab", "math/bits.deBruijn64tab"], apart := false, laid := [("math/bits.deBruijn32tab", laid_math_bits_deBruijn32tab), ("math/bits.deBruijn64tab", laid_math_bits_deBruijn64tab), ("internal/strconv.uint64pow10", laid_internal_strconv_uint64pow10), ("unicode/utf8.acceptRanges", laid_unicode_utf8_acceptRanges), ("unicode/utf8.first", laid_unicode_utf8_first)] }
def FnReadHouseSaid : Prop := fnReadHouseRow.holds Tryz.pinned (OpenSpec.ofChange fnReadHouseSpec)

/-- ITS FALSE NEIGHBOUR: 'it returns false'. Refute it at one input. -/
def fnReadHouseWrong : ChangeSpec := { name := "fnReadHouse", fn := fun _ => fun
  | [d] => { results := [.lit (.bool false)], args := [d] }
  | _ => none }
def FnReadHouseWrongFalsely : Prop := fnReadHouseRow.holds Tryz.pinned (OpenSpec.ofChange fnReadHouseWrong)

/-- 'laws.FnReadSave': WHATEVER THE INPUT: true; the input reads as it did. -/
def fnReadSaveSpec : ChangeSpec := { name := "fnReadSave", fn := fun _ => fun
  | [d] => { results := [.lit (.bool true)], args := [d] }
  | _ => none }
def fnReadSaveRow : OpenClaim := { program := "yteejdnmmpmcmeaagreatdoor", sum := "ac23988cc33fab55a23cba0531fd9c53895060442d755ea22a573eaa22fa0af0", func := "loop.example/parkinghouse/laws.FnReadSave", spec := "fnReadSave", inPlace := ["internal/bytealg.IndexByteString", "internal/bytealg.IndexString", "internal/bytealg.CountString", "internal/abi.NoEscape", "internal/bytealg.MakeNoZero"], recurses := true, named := ["internal/bytealg.MaxLen", "unicode/utf8.first", "unicode/utf8.acceptRanges", "internal/strconv.uint64pow10", "math/bits.deBruijn32tab", "math/bits.deBruijn64tab"], apart := false, laid := [("math/bits.deBruijn32tab", laid_math_bits_deBruijn32tab), ("math/bits.deBruijn64tab", laid_math_bits_deBruijn64tab), ("internal/strconv.uint64pow10", laid_internal_strconv_uint64pow10), ("unicode/utf8.acceptRanges", laid_unicode_utf8_acceptRanges), ("unicode/utf8.first", laid_unicode_utf8_first)] }
def FnReadSaveSaid : Prop := fnReadSaveRow.holds Tryz.pinned (OpenSpec.ofChange fnReadSaveSpec)

/-- ITS FALSE NEIGHBOUR: 'it returns false'. Refute it at one input. -/
def fnReadSaveWrong : ChangeSpec := { name := "fnReadSave", fn := fun _ => fun
  | [d] => { results := [.lit (.bool false)], args := [d] }
  | _ => none }
def FnReadSaveWrongFalsely : Prop := fnReadSaveRow.holds Tryz.pinned (OpenSpec.ofChange fnReadSaveWrong)

/-- 'laws.FnHouseOwed': WHATEVER THE INPUT: true; the input reads as it did. -/
def fnHouseOwedSpec : ChangeSpec := { name := "fnHouseOwed", fn := fun _ => fun
  | [d] => { results := [.lit (.bool true)], args := [d] }
  | _ => none }
def fnHouseOwedRow : OpenClaim := { program := "yteejdnmmpmcmeaagreatdoor", sum := "ac23988cc33fab55a23cba0531fd9c53895060442d755ea22a573eaa22fa0af0", func := "loop.example/parkinghouse/laws.FnHouseOwed", spec := "fnHouseOwed", inPlace := ["internal/abi.NoEscape", "slices.overlaps[loop.example/parkinghouse/impl.Visit]"], unfollowed := true, recurses := true, named := ["internal/strconv.uint64pow10", "math/bits.deBruijn32tab", "math/bits.deBruijn64tab"], apart := false, laid := [("math/bits.deBruijn32tab", laid_math_bits_deBruijn32tab), ("math/bits.deBruijn64tab", laid_math_bits_deBruijn64tab), ("internal/strconv.uint64pow10", laid_internal_strconv_uint64pow10)] }
def FnHouseOwedSaid : Prop := fnHouseOwedRow.holds Tryz.pinned (OpenSpec.ofChange fnHouseOwedSpec)

/-- ITS FALSE NEIGHBOUR: 'it returns false'. Refute it at one input. -/
def fnHouseOwedWrong : ChangeSpec := { name := "fnHouseOwed", fn := fun _ => fun
  | [d] => { results := [.lit (.bool false)], args := [d] }
  | _ => none }
def FnHouseOwedWrongFalsely : Prop := fnHouseOwedRow.holds Tryz.pinned (OpenSpec.ofChange fnHouseOwedWrong)

/- THE SECOND FORM. 'bulk': how many values and letters a reading holds, each counted each time it is reached (what is shared counts as often as it is met; a slice's spare places count too). A statement '..UptoSaid' is the law's where the arguments, and the package variables that the reading takes, are together of bulk at most 1048576: NARROWER than '..Said'. Prove '..Said' where nothing that the law and all that it calls make is longer than what came in: it says more and counts as full. Else prove '..UptoSaid'. A law counts once. -/
mutual
def uptoBulk {H : Type} : DataW H → Nat
  | .lit (.string bytes) => bytes.length + 1
  | .lit _ => 1
  | .nil => 1
  | .ptr d => uptoBulk d + 1
  | .slice elems spare => uptoBulkAll elems + uptoBulkAll spare + 1
  | .agg parts => uptoBulkAll parts + 1
  | .iface _ d => uptoBulk d + 1
  | .map entries => uptoBulkEntries entries + 1
  | .held _ => 1
def uptoBulkAll {H : Type} : List (DataW H) → Nat
  | [] => 0
  | d :: r => uptoBulk d + uptoBulkAll r
def uptoBulkEntries {H : Type} : List (Lit × DataW H) → Nat
  | [] => 0
  | x :: r => uptoBulkEntry x + uptoBulkEntries r
def uptoBulkEntry {H : Type} : Lit × DataW H → Nat
  | (.string bytes, d) => bytes.length + uptoBulk d + 1
  | (_, d) => uptoBulk d + 1
 end
def uptoSmall : (H : Type) → List (DataW H) → Bool := fun _ ds => decide (uptoBulkAll ds ≤ 1048576)
def OpenSpec.upto (s : _root_.Go.ChangeSpec) : _root_.Go.OpenSpec := { _root_.Go.OpenSpec.ofChange s with cond := some uptoSmall }

/-- 'laws.FnHouseValid', WHERE WHAT IT READS IS OF BULK AT MOST 1048576: true; the input reads as it did. -/
def fnHouseValidUptoRow : OpenClaim := { program := "yteejdnmmpmcmeaagreatdoor", sum := "ac23988cc33fab55a23cba0531fd9c53895060442d755ea22a573eaa22fa0af0", func := "loop.example/parkinghouse/laws.FnHouseValid", spec := "fnHouseValid", inPlace := ["internal/abi.NoEscape"], recurses := true, named := ["internal/strconv.uint64pow10", "math/bits.deBruijn32tab", "math/bits.deBruijn64tab"], apart := false, laid := [("math/bits.deBruijn32tab", laid_math_bits_deBruijn32tab), ("math/bits.deBruijn64tab", laid_math_bits_deBruijn64tab), ("internal/strconv.uint64pow10", laid_internal_strconv_uint64pow10)], narrowed := true }
def FnHouseValidUptoSaid : Prop := fnHouseValidUptoRow.holds Tryz.pinned (OpenSpec.upto fnHouseValidSpec)

/-- 'laws.FnHouseStay', WHERE WHAT IT READS IS OF BULK AT MOST 1048576: true; the input reads as it did. -/
def fnHouseStayUptoRow : OpenClaim := { program := "yteejdnmmpmcmeaagreatdoor", sum := "ac23988cc33fab55a23cba0531fd9c53895060442d755ea22a573eaa22fa0af0", func := "loop.example/parkinghouse/laws.FnHouseStay", spec := "fnHouseStay", inPlace := ["internal/abi.NoEscape"], unfollowed := true, recurses := true, named := ["internal/strconv.uint64pow10", "math/bits.deBruijn32tab", "math/bits.deBruijn64tab"], apart := false, laid := [("math/bits.deBruijn32tab", laid_math_bits_deBruijn32tab), ("math/bits.deBruijn64tab", laid_math_bits_deBruijn64tab), ("internal/strconv.uint64pow10", laid_internal_strconv_uint64pow10)], narrowed := true }
def FnHouseStayUptoSaid : Prop := fnHouseStayUptoRow.holds Tryz.pinned (OpenSpec.upto fnHouseStaySpec)

/-- 'laws.FnHouseDue', WHERE WHAT IT READS IS OF BULK AT MOST 1048576: true; the input reads as it did. -/
def fnHouseDueUptoRow : OpenClaim := { program := "yteejdnmmpmcmeaagreatdoor", sum := "ac23988cc33fab55a23cba0531fd9c53895060442d755ea22a573eaa22fa0af0", func := "loop.example/parkinghouse/laws.FnHouseDue", spec := "fnHouseDue", inPlace := ["internal/abi.NoEscape"], unfollowed := true, recurses := true, named := ["internal/strconv.uint64pow10", "math/bits.deBruijn32tab", "math/bits.deBruijn64tab"], apart := false, laid := [("math/bits.deBruijn32tab", laid_math_bits_deBruijn32tab), ("math/bits.deBruijn64tab", laid_math_bits_deBruijn64tab), ("internal/strconv.uint64pow10", laid_internal_strconv_uint64pow10)], narrowed := true }
def FnHouseDueUptoSaid : Prop := fnHouseDueUptoRow.holds Tryz.pinned (OpenSpec.upto fnHouseDueSpec)

/-- 'laws.FnHouseMay', WHERE WHAT IT READS IS OF BULK AT MOST 1048576: true; the input reads as it did. -/
def fnHouseMayUptoRow : OpenClaim := { program := "yteejdnmmpmcmeaagreatdoor", sum := "ac23988cc33fab55a23cba0531fd9c53895060442d755ea22a573eaa22fa0af0", func := "loop.example/parkinghouse/laws.FnHouseMay", spec := "fnHouseMay", inPlace := ["internal/abi.NoEscape"], unfollowed := true, recurses := true, named := ["internal/strconv.uint64pow10", "math/bits.deBruijn32tab", "math/bits.deBruijn64tab"], apart := false, laid := [("math/bits.deBruijn32tab", laid_math_bits_deBruijn32tab), ("math/bits.deBruijn64tab", laid_math_bits_deBruijn64tab), ("internal/strconv.uint64pow10", laid_internal_strconv_uint64pow10)], narrowed := true }
def FnHouseMayUptoSaid : Prop := fnHouseMayUptoRow.holds Tryz.pinned (OpenSpec.upto fnHouseMaySpec)

/-- 'laws.FnEndOrder', WHERE WHAT IT READS IS OF BULK AT MOST 1048576: true; the input reads as it did. -/
def fnEndOrderUptoRow : OpenClaim := { program := "yteejdnmmpmcmeaagreatdoor", sum := "ac23988cc33fab55a23cba0531fd9c53895060442d755ea22a573eaa22fa0af0", func := "loop.example/parkinghouse/laws.FnEndOrder", spec := "fnEndOrder", inPlace := ["internal/abi.NoEscape"], recurses := true, named := ["internal/strconv.uint64pow10", "math/bits.deBruijn32tab", "math/bits.deBruijn64tab"], apart := false, laid := [("math/bits.deBruijn32tab", laid_math_bits_deBruijn32tab), ("math/bits.deBruijn64tab", laid_math_bits_deBruijn64tab), ("internal/strconv.uint64pow10", laid_internal_strconv_uint64pow10)], narrowed := true }
def FnEndOrderUptoSaid : Prop := fnEndOrderUptoRow.holds Tryz.pinned (OpenSpec.upto fnEndOrderSpec)

/-- 'laws.FnExactReadHouse', WHERE WHAT IT READS IS OF BULK AT MOST 1048576: true; the input reads as it did. -/
def fnExactReadHouseUptoRow : OpenClaim := { program := "yteejdnmmpmcmeaagreatdoor", sum := "ac23988cc33fab55a23cba0531fd9c53895060442d755ea22a573eaa22fa0af0", func := "loop.example/parkinghouse/laws.FnExactReadHouse", spec := "fnExactReadHouse", inPlace := ["internal/bytealg.CountString", "internal/bytealg.IndexByteString", "internal/bytealg.IndexString", "internal/abi.NoEscape", "internal/bytealg.MakeNoZero"], recurses := true, named := ["unicode/utf8.first", "unicode/utf8.acceptRanges", "internal/bytealg.MaxLen", "internal/strconv.uint64pow10", "math/bits.deBruijn32tab", "math/bits.deBruijn64tab"], apart := false, laid := [("math/bits.deBruijn32tab", laid_math_bits_deBruijn32tab), ("math/bits.deBruijn64tab", laid_math_bits_deBruijn64tab), ("internal/strconv.uint64pow10", laid_internal_strconv_uint64pow10), ("unicode/utf8.acceptRanges", laid_unicode_utf8_acceptRanges), ("unicode/utf8.first", laid_unicode_utf8_first)], narrowed := true }
def FnExactReadHouseUptoSaid : Prop := fnExactReadHouseUptoRow.holds Tryz.pinned (OpenSpec.upto fnExactReadHouseSpec)

/-- 'laws.FnExactReadSave', WHERE WHAT IT READS IS OF BULK AT MOST 1048576: true; the input reads as it did. -/
def fnExactReadSaveUptoRow : OpenClaim := { program := "yteejdnmmpmcmeaagreatdoor", sum := "ac23988cc33fab55a23cba0531fd9c53895060442d755ea22a573eaa22fa0af0", func := "loop.example/parkinghouse/laws.FnExactReadSave", spec := "fnExactReadSave", inPlace := ["internal/bytealg.IndexByteString", "internal/bytealg.IndexString", "internal/bytealg.CountString", "internal/abi.NoEscape", "internal/bytealg.MakeNoZero"], recurses := true, named := ["internal/bytealg.MaxLen", "unicode/utf8.first", "unicode/utf8.acceptRanges", "internal/strconv.uint64pow10", "math/bits.deBruijn32tab", "math/bits.deBruijn64tab"], apart := false, laid := [("math/bits.deBruijn32tab", laid_math_bits_deBruijn32tab), ("math/bits.deBruijn64tab", laid_math_bits_deBruijn64tab), ("internal/strconv.uint64pow10", laid_internal_strconv_uint64pow10), ("unicode/utf8.acceptRanges", laid_unicode_utf8_acceptRanges), ("unicode/utf8.first", laid_unicode_utf8_first)], narrowed := true }
def FnExactReadSaveUptoSaid : Prop := fnExactReadSaveUptoRow.holds Tryz.pinned (OpenSpec.upto fnExactReadSaveSpec)

/-- 'laws.FnHouseText', WHERE WHAT IT READS IS OF BULK AT MOST 1048576: true; the input reads as it did. -/
def fnHouseTextUptoRow : OpenClaim := { program := "yteejdnmmpmcmeaagreatdoor", sum := "ac23988cc33fab55a23cba0531fd9c53895060442d755ea22a573eaa22fa0af0", func := "loop.example/parkinghouse/laws.FnHouseText", spec := "fnHouseText", inPlace := ["internal/abi.NoEscape", "internal/bytealg.MakeNoZero", "internal/bytealg.CountString", "internal/bytealg.IndexByteString", "internal/bytealg.IndexString"], recurses := true, named := ["internal/strconv.uint64pow10", "math/bits.deBruijn32tab", "math/bits.deBruijn64tab", "unicode/utf8.first", "unicode/utf8.acceptRanges", "internal/bytealg.MaxLen"], apart := false, laid := [("math/bits.deBruijn32tab", laid_math_bits_deBruijn32tab), ("math/bits.deBruijn64tab", laid_math_bits_deBruijn64tab), ("internal/strconv.uint64pow10", laid_internal_strconv_uint64pow10), ("unicode/utf8.acceptRanges", laid_unicode_utf8_acceptRanges), ("unicode/utf8.first", laid_unicode_utf8_first)], narrowed := true }
def FnHouseTextUptoSaid : Prop := fnHouseTextUptoRow.holds Tryz.pinned (OpenSpec.upto fnHouseTextSpec)

/-- 'laws.FnSaveText', WHERE WHAT IT READS IS OF BULK AT MOST 1048576: true; the input reads as it did. -/
def fnSaveTextUptoRow : OpenClaim := { program := "yteejdnmmpmcmeaagreatdoor", sum := "ac23988cc33fab55a23cba0531fd9c53895060442d755ea22a573eaa22fa0af0", func := "loop.example/parkinghouse/laws.FnSaveText", spec := "fnSaveText", inPlace := ["internal/abi.NoEscape", "internal/bytealg.MakeNoZero", "internal/bytealg.IndexByteString", "internal/bytealg.IndexString", "internal/bytealg.CountString"], recurses := true, named := ["internal/strconv.uint64pow10", "math/bits.deBruijn32tab", "math/bits.deBruijn64tab", "internal/bytealg.MaxLen", "unicode/utf8.first", "unicode/utf8.acceptRanges"], apart := false, laid := [("math/bits.deBruijn32tab", laid_math_bits_deBruijn32tab), ("math/bits.deBruijn64tab", laid_math_bits_deBruijn64tab), ("internal/strconv.uint64pow10", laid_internal_strconv_uint64pow10), ("unicode/utf8.acceptRanges", laid_unicode_utf8_acceptRanges), ("unicode/utf8.first", laid_unicode_utf8_first)], narrowed := true }
def FnSaveTextUptoSaid : Prop := fnSaveTextUptoRow.holds Tryz.pinned (OpenSpec.upto fnSaveTextSpec)

/-- 'laws.FnReadHouse', WHERE WHAT IT READS IS OF BULK AT MOST 1048576: true; the input reads as it did. -/
def fnReadHouseUptoRow : OpenClaim := { program := "yteejdnmmpmcmeaagreatdoor", sum := "ac23988cc33fab55a23cba0531fd9c53895060442d755ea22a573eaa22fa0af0", func := "loop.example/parkinghouse/laws.FnReadHouse", spec := "fnReadHouse", inPlace := ["internal/bytealg.CountString", "internal/bytealg.IndexByteString", "internal/bytealg.IndexString", "internal/abi.NoEscape", "internal/bytealg.MakeNoZero"], recurses := true, named := ["unicode/utf8.first", "unicode/utf8.acceptRanges", "internal/bytealg.MaxLen", "internal/strconv.uint64pow10", "math/bits.deBruijn32tab", "math/bits.deBruijn64tab"], apart := false, laid := [("math/bits.deBruijn32tab", laid_math_bits_deBruijn32tab), ("math/bits.deBruijn64tab", laid_math_bits_deBruijn64tab), ("internal/strconv.uint64pow10", laid_internal_strconv_uint64pow10), ("unicode/utf8.acceptRanges", laid_unicode_utf8_acceptRanges), ("unicode/utf8.first", laid_unicode_utf8_first)], narrowed := true }
def FnReadHouseUptoSaid : Prop := fnReadHouseUptoRow.holds Tryz.pinned (OpenSpec.upto fnReadHouseSpec)

/-- 'laws.FnReadSave', WHERE WHAT IT READS IS OF BULK AT MOST 1048576: true; the input reads as it did. -/
def fnReadSaveUptoRow : OpenClaim := { program := "yteejdnmmpmcmeaagreatdoor", sum := "ac23988cc33fab55a23cba0531fd9c53895060442d755ea22a573eaa22fa0af0", func := "loop.example/parkinghouse/laws.FnReadSave", spec := "fnReadSave", inPlace := ["internal/bytealg.IndexByteString", "internal/bytealg.IndexString", "internal/bytealg.CountString", "internal/abi.NoEscape", "internal/bytealg.MakeNoZero"], recurses := true, named := ["internal/bytealg.MaxLen", "unicode/utf8.first", "unicode/utf8.acceptRanges", "internal/strconv.uint64pow10", "math/bits.deBruijn32tab", "math/bits.deBruijn64tab"], apart := false, laid := [("math/bits.deBruijn32tab", laid_math_bits_deBruijn32tab), ("math/bits.deBruijn64tab", laid_math_bits_deBruijn64tab), ("internal/strconv.uint64pow10", laid_internal_strconv_uint64pow10), ("unicode/utf8.acceptRanges", laid_unicode_utf8_acceptRanges), ("unicode/utf8.first", laid_unicode_utf8_first)], narrowed := true }
def FnReadSaveUptoSaid : Prop := fnReadSaveUptoRow.holds Tryz.pinned (OpenSpec.upto fnReadSaveSpec)

/-- 'laws.FnHouseOwed', WHERE WHAT IT READS IS OF BULK AT MOST 1048576: true; the input reads as it did. -/
def fnHouseOwedUptoRow : OpenClaim := { program := "yteejdnmmpmcmeaagreatdoor", sum := "ac23988cc33fab55a23cba0531fd9c53895060442d755ea22a573eaa22fa0af0", func := "loop.example/parkinghouse/laws.FnHouseOwed", spec := "fnHouseOwed", inPlace := ["internal/abi.NoEscape", "slices.overlaps[loop.example/parkinghouse/impl.Visit]"], unfollowed := true, recurses := true, named := ["internal/strconv.uint64pow10", "math/bits.deBruijn32tab", "math/bits.deBruijn64tab"], apart := false, laid := [("math/bits.deBruijn32tab", laid_math_bits_deBruijn32tab), ("math/bits.deBruijn64tab", laid_math_bits_deBruijn64tab), ("internal/strconv.uint64pow10", laid_internal_strconv_uint64pow10)], narrowed := true }
def FnHouseOwedUptoSaid : Prop := fnHouseOwedUptoRow.holds Tryz.pinned (OpenSpec.upto fnHouseOwedSpec)

end Rows
end Go.Proofs.YteejdnmmpmcmeaaGreatDoor
