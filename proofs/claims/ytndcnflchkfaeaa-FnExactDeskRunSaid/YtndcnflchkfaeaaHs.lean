/-
  The reference's l1Has, l1In, HallValid; both packages' HallEmpty. Condition: slices read as lists.
-/
import Derived.Test.YtndcnflchkfaeaaApp
import Derived.Test.YtndcnflchkfaeaaHv
namespace Go.Proofs.Ytndcnflchkfaeaa
open Go.RowKit
set_option linter.unusedVariables false

theorem quiet_l {f : FuncId} {args : Array Value} {w : World} {n : Nat} {v : Value} (h : Calls Try.prog f args (w.drewN n) fun e w' => e = .returned v ∧ w.drewN n = w') :
    Calls Try.prog f args (w.drewN n) fun e w' => e = .returned v ∧ ∃ m, w' = w.drewN m := h.mono fun _ _ ⟨he, hm⟩ => ⟨he, n, hm.symm⟩

set_option maxRecDepth 100000 in
set_option maxHeartbeats 1000000 in
theorem l1In_yes (n lo hi : Int) (w : World) (h : lo ≤ n) (h2 : n ≤ hi) : Calls Try.prog 55 #[.int .i64 n, .int .i64 lo, .int .i64 hi] w fun e w' => e = .returned (.bool true) ∧ w = w' := by
  go_enter Try.func55, Try.ntmps55
  go_wp2
  go_ret
  exact ⟨rfl, rfl⟩
set_option maxRecDepth 100000 in
set_option maxHeartbeats 1000000 in
theorem l1In_no (n lo hi : Int) (w : World) (h : n < lo ∨ lo ≤ n ∧ hi < n) : Calls Try.prog 55 #[.int .i64 n, .int .i64 lo, .int .i64 hi] w fun e w' => e = .returned (.bool false) ∧ w = w' := by
  rcases h with h | ⟨h, h2⟩
  all_goals
    go_enter Try.func55, Try.ntmps55
    go_wp2
    go_ret
    exact ⟨ret_bool (by first | rfl | (simp; omega)), rfl⟩

end Go.Proofs.Ytndcnflchkfaeaa
