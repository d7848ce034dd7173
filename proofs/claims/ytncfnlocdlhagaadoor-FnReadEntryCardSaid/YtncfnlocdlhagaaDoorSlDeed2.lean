/-
  The helpers of the laws on slices of deeds, wherever the slice lies; both JournalText likewise. Conditions: at most 2^40 deeds; the library's table is laid.
-/
import Derived.Test.YtncfnlocdlhagaaDoorSlDeed
import Derived.Test.YtncfnlocdlhagaaDoorOpenS
import Derived.Test.YtncfnlocdlhagaaDoorJournal2
namespace Go.Proofs.YtncfnlocdlhagaaDoor
open Go.RowKit
set_option linter.unusedVariables false

theorem own_rdz {w : World} {base : Nat} {e : TypeId} {sz n : Nat} {v : Value} {xs : List Value} (hs : 0 < sz) (h : w.ownsRow base e sz v n xs) : RdZ w v n sz xs := by
  have hrd := (show Own w base e sz v n xs from .inl h).rd
  rcases h.2 with ⟨rfl, rfl⟩ | ⟨g, cap, cur, rfl, hb, hg, hn, hm, hss, ht⟩
  · exact .inl ⟨rfl, by have := h.1; simpa using this, _, _, rfl⟩
  · by_cases h0 : n = 0
    · subst h0
      exact .inl ⟨rfl, by have := h.1; simpa using this, _, _, rfl⟩
    · exact .inr ⟨by omega, g, 0, cap, rfl, (Array.getElem?_eq_some_iff.1 hg).1, hrd⟩

set_option maxRecDepth 100000 in
set_option maxHeartbeats 1000000 in
theorem specJournal_zero (first : Int) (p : Option Addr) (cap : Nat) (w : World) :
    Calls Tryd.prog 50 #[.int .i64 first, .slice p 0 cap] w fun e w' => e = .returned (str []) ∧ Ext w w' := by
  go_enter Tryd.func50, Tryd.ntmps50
  go_wp2
  go_rounds 1
  go_ret
  exact ⟨rfl, by (repeat' (first | exact Ext.refl _ | (with_reducible assumption) | (with_reducible refine Ext.alloc ?_ _) | (with_reducible refine Ext.setCell ?_ (by first | exact Nat.le_refl _ | (dsimp only; omega) | (simp; done) | (simp; omega)) _) | (with_reducible refine Ext.drew ?_) | (with_reducible refine Ext.drewN ?_ _) | (refine Ext.trans ?_ (by with_reducible assumption))))⟩
set_option maxRecDepth 100000 in
set_option maxHeartbeats 1000000 in
theorem implJournal_zero (first : Int) (p : Option Addr) (cap : Nat) (w : World) :
    Calls Tryd.prog 17 #[.int .i64 first, .slice p 0 cap] w fun e w' => e = .returned (str []) ∧ Ext w w' := by
  go_enter Tryd.func17, Tryd.ntmps17
  go_wp2
  refine wp_loop_rounds 1 ?_
  rw [rounds_succ]
  go_wp2_with fail
  refine (Tryd.Builder_String_any_f w.heap.size w.heap.size [] _ (.inl ⟨Nat.le_refl _, .slice none 0 0, by rw [heap_alloc_new], World.ownsRowF_nil _ _ _ _, by simp [Value.ownBlock]⟩) (by simp)).mono ?_
  rintro e w1 ⟨rfl, h2, h3⟩
  have hE2 : Ext w w1 := ext_below (by (repeat' (first | exact Ext.refl _ | (with_reducible assumption) | (with_reducible refine Ext.alloc ?_ _) | (with_reducible refine Ext.setCell ?_ (by first | exact Nat.le_refl _ | (dsimp only; omega) | (simp; done) | (simp; omega)) _) | (with_reducible refine Ext.drew ?_) | (with_reducible refine Ext.drewN ?_ _) | (refine Ext.trans ?_ (by with_reducible assumption))))) h3 (Nat.le_refl _)
  clear h2 h3
  go_wp2
  go_ret
  exact ⟨rfl, by (repeat' (first | exact Ext.refl _ | (with_reducible assumption) | (with_reducible refine Ext.alloc ?_ _) | (with_reducible refine Ext.setCell ?_ (by first | exact Nat.le_refl _ | (dsimp only; omega) | (simp; done) | (simp; omega)) _) | (with_reducible refine Ext.drew ?_) | (with_reducible refine Ext.drewN ?_ _) | (refine Ext.trans ?_ (by with_reducible assumption))))⟩
theorem specJournal (first : Int) (v : Value) (ds : List Deed3) (w : World) (hB : B64 first) (h : RdZ w v ds.length 3 (ds.flatMap deedCells)) (hn : ds.length ≤ 1099511627776) :
    Calls Tryd.prog 50 #[.int .i64 first, v] w fun e w' => e = .returned (str (journalText first ds)) ∧ Ext w w' := by
  rcases h with ⟨h0, hc, p, cap, rfl⟩ | ⟨h0, b, off, cap, rfl, hb, h⟩
  · obtain rfl : ds = [] := List.eq_nil_of_length_eq_zero h0
    exact specJournal_zero first p cap w
  · exact specJournal_some first ds b off _ cap w hB rfl hn hb h
theorem implJournal (first : Int) (v : Value) (ds : List Deed3) (w : World) (hE : Env w) (hB : B64 first) (h : RdZ w v ds.length 3 (ds.flatMap deedCells)) (hn : ds.length ≤ 1099511627776) :
    Calls Tryd.prog 17 #[.int .i64 first, v] w fun e w' => e = .returned (str (journalText first ds)) ∧ Ext w w' := by
  rcases h with ⟨h0, hc, p, cap, rfl⟩ | ⟨h0, b, off, cap, rfl, hb, h⟩
  · obtain rfl : ds = [] := List.eq_nil_of_length_eq_zero h0
    exact implJournal_zero first p cap w
  · exact implJournal_some first ds b off _ cap w hE hB rfl hn hb h
end Go.Proofs.YtncfnlocdlhagaaDoor
