/-
  Both functions DeedText return the text 'deedText' of a deed. Condition: the library's table of powers of ten is laid.
-/
import Derived.Test.YteejdnmmpmcmeaaGreatDoorNum
namespace Go.Proofs.YteejdnmmpmcmeaaGreatDoor
open Go.RowKit
set_option linter.unusedVariables false

def deedName (k : Int) : List UInt8 :=
  if k = 0 then [105, 110] else if k = 1 then [112, 97, 121] else if k = 2 then [111, 117, 116] else if k = 3 then [119, 97, 105, 116] else if k = 4 then [115, 108, 105, 100, 101] else []
def deedTwo (k : Int) : Bool := k == 1 || k == 4
def deedOk (k a b : Int) : Bool := decide (0 ≤ k ∧ k ≤ 4 ∧ 0 ≤ a ∧ a ≤ 9999 ∧ 0 ≤ b ∧ b ≤ 9999) && (deedTwo k || b == 0)
def deedText (k a b : Int) : List UInt8 :=
  if deedOk k a b then deedName k ++ [32] ++ Lib.decDigits a.toNat ++ (if deedTwo k then [32] ++ Lib.decDigits b.toNat else []) else []

abbrev deedV (k a b : Int) : Value := .agg #[.int .i64 k, .int .i64 a, .int .i64 b]

end Go.Proofs.YteejdnmmpmcmeaaGreatDoor
