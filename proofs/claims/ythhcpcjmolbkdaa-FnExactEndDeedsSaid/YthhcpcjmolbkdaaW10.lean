/-
  The walk of the law FnExactHouseValid.
-/
import Derived.Test.YthhcpcjmolbkdaaOpenH
namespace Go.Proofs.Ythhcpcjmolbkdaa
open Go.RowKit
set_option linter.unusedVariables false

theorem sz_big (h : HouseD) (p : Option Addr) (n cap : Nat) (q : Option Addr) (m c2 : Nat) (w : World) (hn : n ≤ 9223372036854775807) (hm : m ≤ 9223372036854775807) (hb : 1048576 < n + m) :
    Calls Try.prog 4 #[houseV h p n cap q m c2, .int .i64 1048576] w fun e w' => e = .returned (.int .i64 (-1)) ∧ Ext w w' := by
  have := szHouse_any h p n cap q m c2 w hn hm
  rwa [if_pos (by omega)] at this
theorem sz_small (h : HouseD) (p : Option Addr) (n cap : Nat) (q : Option Addr) (m c2 : Nat) (w : World) (hb : n + m ≤ 1048576) :
    Calls Try.prog 4 #[houseV h p n cap q m c2, .int .i64 1048576] w fun e w' => e = .returned (.int .i64 (1048576 - n - m)) ∧ Ext w w' := by
  have := szHouse_any h p n cap q m c2 w (by omega) (by omega)
  rwa [if_neg (by omega)] at this
end Go.Proofs.Ythhcpcjmolbkdaa
