/-
  How a desk and a list of bookings among the arguments of a law are opened. No condition.
-/
import Derived.Test.YtndcnflchkfaeaaLawD
namespace Go.Proofs.Ytndcnflchkfaeaa
open Go.ChangeShapes Go.WideShapes Go.ChangeAt Go.RowKit Go.Deep
set_option linter.unusedVariables false
set_option linter.unusedSimpArgs false


section
variable {H : Type} {enc : TypeId × Value → H} {w : World} {base : Nat} {spare : Nat → Bool} {held : Bool} {b0 : Nat} {r : Reach} {v : Value} {d : DataW H} {p : List MemPlace}
def goodBook (v : Visit4) : Prop := B64 v.1 ∧ B64 v.2.1 ∧ B64 v.2.2.1 ∧ B64 v.2.2.2
theorem cIntB : Try.prog.cellsOf 3 = 1 := by kernel_rfl
set_option maxRecDepth 100000 in
theorem trod_book {n : Nat} {cs : List Value} {y : DataW H × List MemPlace} (hy : DataW.trod enc Try.prog w base spare held n 58 cs = some y) : ∃ a, cs = visitCells a ∧ goodBook a := by
  obtain ⟨xs, n2, _, hx, hl, hlen, hg⟩ := DataW.trod_struct Try.underlying58 hy
  have hl' : cs.length = 4 := hl.trans (by kernel_rfl)
  match cs, hl', xs, hlen with
  | [c0, c1, c2, c3], _, [t0, t1, t2, t3], _ =>
    have j0 := hg 0 _ rfl
    have j1 := hg 1 _ rfl
    have j2 := hg 2 _ rfl
    have j3 := hg 3 _ rfl
    simp only [cIntB, List.drop_zero, List.drop_succ_cons, List.take_succ_cons, List.take_zero, List.getElem?_cons_zero, List.getElem?_cons_succ] at j0 j1 j2 j3
    obtain ⟨a, rfl, ga⟩ := trod_i64 j0
    obtain ⟨b, rfl, gb⟩ := trod_i64 j1
    obtain ⟨c, rfl, gc⟩ := trod_i64 j2
    obtain ⟨e, rfl, ge⟩ := trod_i64 j3
    exact ⟨(a, b, c, e), rfl, ga, gb, gc, ge⟩

def goodDesk (d : DeskD) : Prop := B64 d.places ∧ (∀ v ∈ d.taken, goodBook v) ∧ ∀ v ∈ d.row, goodBook v
theorem list3 {cs : List Value} (h : cs.length = 3) : ∃ a b c, cs = [a, b, c] := by
  match cs, h with
  | [a, b, c], _ => exact ⟨a, b, c, rfl⟩
set_option maxRecDepth 100000 in
set_option maxHeartbeats 1000000 in
theorem open_desk (hv : Value.okWide Try.prog w r b0 24 v) (h : DataW.Trod enc Try.prog w base spare held 24 v d p) :
    ∃ y : DeskD × (Option Addr × Nat) × (Option Addr × Nat), v = deskV y.1.places y.2.1.1 y.1.taken.length y.2.1.2 y.2.2.1 y.1.row.length y.2.2.2 ∧ IsDesk w y.1 y.2.1.1 y.2.1.2 y.2.2.1 y.2.2.2 ∧ goodDesk y.1 := by
  obtain ⟨cs, rfl, hsz⟩ := okWide_struct Try.underlying24 hv
  obtain ⟨l⟩ := cs
  have hl : l.length = 3 := by have := hsz.trans (show Try.prog.cellsOf 24 = 3 by kernel_rfl); simpa using this
  obtain ⟨x0, x1, x2, rfl⟩ := list3 hl
  obtain ⟨fuel, hf⟩ := h
  obtain ⟨z0, z1, z2, m, _, _, k0, k1, k2⟩ := trod_struct3 Try.underlying24 hf
  have hcl : ∀ l : List Value, (Value.agg l.toArray).cells.toList = l := fun l => by simp [Value.cells]
  have hs1 : Try.prog.cellsOf 22 = 1 := by kernel_rfl
  simp only [hcl, cIntB, hs1, List.drop_zero, List.drop_succ_cons, List.take_succ_cons, List.take_zero] at k0 k1 k2
  obtain ⟨pl, rfl, gp⟩ := trod_i64 k0
  obtain ⟨ts, tp, tc, rfl, hT, gts⟩ := open_slc (α := Visit4) visitCells goodBook 4 Try.underlying22 (by kernel_rfl) (by omega) (fun _ => rfl) (fun n cs y hy => trod_book hy) k1
  obtain ⟨rs, rp, rc, rfl, hR, grs⟩ := open_slc (α := Visit4) visitCells goodBook 4 Try.underlying22 (by kernel_rfl) (by omega) (fun _ => rfl) (fun n cs y hy => trod_book hy) k2
  exact ⟨(⟨pl, ts, rs⟩, (tp, tc), (rp, rc)), rfl, ⟨hT, hR⟩, gp, gts, grs⟩
end
end Go.Proofs.Ytndcnflchkfaeaa
