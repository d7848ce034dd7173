/-
  How a house among the arguments of a law is opened. No condition.
-/
import Derived.Test.YthhcpcjmolbkdaaLawH3
namespace Go.Proofs.Ythhcpcjmolbkdaa
open Go.ChangeShapes Go.WideShapes Go.ChangeAt Go.RowKit Go.Deep
set_option linter.unusedVariables false
set_option linter.unusedSimpArgs false

section
variable {H : Type} {enc : TypeId × Value → H} {w : World} {base : Nat} {spare : Nat → Bool} {held : Bool} {b0 : Nat} {r : Reach} {v : Value} {d : DataW H} {p : List MemPlace}
def goodVisit (v : Visit4) : Prop := B64 v.1 ∧ B64 v.2.1 ∧ B64 v.2.2.1 ∧ B64 v.2.2.2
theorem cInt : Try.prog.cellsOf 3 = 1 := by kernel_rfl

set_option maxRecDepth 100000 in
theorem trod_visit {n : Nat} {cs : List Value} {y : DataW H × List MemPlace} (hy : DataW.trod enc Try.prog w base spare held n 74 cs = some y) : ∃ a, cs = visitCells a ∧ goodVisit a := by
  obtain ⟨y0, y1, m, _, hl, h0, h1⟩ := trod_struct2 Try.underlying74 hy
  have hl' : cs.length = 4 := hl.trans (by kernel_rfl)
  match cs, hl' with
  | [c0, c1, c2, c3], _ =>
    have hc3 : Try.prog.cellsOf 72 = 3 := by kernel_rfl
    simp only [cInt, hc3, List.drop_zero, List.drop_succ_cons, List.take_succ_cons, List.take_zero] at h0 h1
    obtain ⟨z0, z1, z2, m', _, _, g0, g1, g2⟩ := trod_struct3 Try.underlying72 h1
    simp only [cInt, List.drop_zero, List.drop_succ_cons, List.take_succ_cons, List.take_zero] at g0 g1 g2
    obtain ⟨a, rfl, ga⟩ := trod_i64 h0
    obtain ⟨b, rfl, gb⟩ := trod_i64 g0
    obtain ⟨c, rfl, gc⟩ := trod_i64 g1
    obtain ⟨e, rfl, ge⟩ := trod_i64 g2
    exact ⟨(a, b, c, e), rfl, ga, gb, gc, ge⟩

def goodHouse (h : HouseD) : Prop := B64 h.wide ∧ B64 h.deep ∧ B64 h.free ∧ B64 h.step ∧ B64 h.price ∧ B64 h.capp ∧ B64 h.clock ∧ B64 h.bank ∧ (∀ x ∈ h.cells, B64 x) ∧ ∀ v ∈ h.vs, goodVisit v

theorem list10 {cs : List Value} (h : cs.length = 10) : ∃ a b c d e f g i j k, cs = [a, b, c, d, e, f, g, i, j, k] := by
  match cs, h with
  | [a, b, c, d, e, f, g, i, j, k], _ => exact ⟨a, b, c, d, e, f, g, i, j, k, rfl⟩

set_option maxRecDepth 100000 in
set_option maxHeartbeats 1000000 in
theorem open_house (hv : Value.okWide Try.prog w r b0 29 v) (h : DataW.Trod enc Try.prog w base spare held 29 v d p) :
    ∃ y : HouseD × (Option Addr × Nat) × (Option Addr × Nat), v = houseV y.1 y.2.1.1 y.1.cells.length y.2.1.2 y.2.2.1 y.1.vs.length y.2.2.2 ∧ IsHouse w y.1 y.2.1.1 y.1.cells.length y.2.1.2 y.2.2.1 y.1.vs.length y.2.2.2 ∧ goodHouse y.1 := by
  obtain ⟨cs, rfl, hsz⟩ := okWide_struct Try.underlying29 hv
  obtain ⟨l⟩ := cs
  have hl : l.length = 10 := by have := hsz.trans (show Try.prog.cellsOf 29 = 10 by kernel_rfl); simpa using this
  obtain ⟨x0, x1, x2, x3, x4, x5, x6, x7, x8, x9, rfl⟩ := list10 hl
  obtain ⟨fuel, hf⟩ := h
  obtain ⟨xs, n, _, hx, _, hlen, hg⟩ := DataW.trod_struct Try.underlying29 hf
  have hh : Try.prog.cellsOf 24 = 3 := by kernel_rfl
  have ht : Try.prog.cellsOf 26 = 4 := by kernel_rfl
  have hs1 : Try.prog.cellsOf 27 = 1 := by kernel_rfl
  have hs2 : Try.prog.cellsOf 22 = 1 := by kernel_rfl
  have hcl : ∀ l : List Value, (Value.agg l.toArray).cells.toList = l := fun l => by simp [Value.cells]
  match xs, hlen with
  | [y0, y1, y2, y3, y4], _ =>
    have g0 := hg 0 _ rfl
    have g1 := hg 1 _ rfl
    have g2 := hg 2 _ rfl
    have g3 := hg 3 _ rfl
    have g4 := hg 4 _ rfl
    simp only [hcl, cInt, hh, ht, hs1, List.drop_zero, List.drop_succ_cons, List.take_succ_cons, List.take_zero, List.getElem?_cons_zero, List.getElem?_cons_succ] at g0 g1 g2 g3 g4
    obtain ⟨z0, z1, z2, m, _, _, k0, k1, k2⟩ := trod_struct3 Try.underlying24 g0
    simp only [cInt, hs2, List.drop_zero, List.drop_succ_cons, List.take_succ_cons, List.take_zero] at k0 k1 k2
    obtain ⟨wide, rfl, gw⟩ := trod_i64 k0
    obtain ⟨deep, rfl, gd⟩ := trod_i64 k1
    obtain ⟨cells, cp, cc, rfl, hS, gcs⟩ := open_ints_c k2
    obtain ⟨ys, m2, _, _, _, hlen2, hg2⟩ := DataW.trod_struct Try.underlying26 g1
    match ys, hlen2 with
    | [t0, t1, t2, t3], _ =>
      have j0 := hg2 0 _ rfl
      have j1 := hg2 1 _ rfl
      have j2 := hg2 2 _ rfl
      have j3 := hg2 3 _ rfl
      simp only [cInt, List.drop_zero, List.drop_succ_cons, List.take_succ_cons, List.take_zero, List.getElem?_cons_zero, List.getElem?_cons_succ] at j0 j1 j2 j3
      obtain ⟨free, rfl, gf⟩ := trod_i64 j0
      obtain ⟨step, rfl, gs⟩ := trod_i64 j1
      obtain ⟨price, rfl, gp⟩ := trod_i64 j2
      obtain ⟨capp, rfl, gc⟩ := trod_i64 j3
      obtain ⟨clock, rfl, gk⟩ := trod_i64 g2
      obtain ⟨bank, rfl, gb⟩ := trod_i64 g3
      obtain ⟨vs, vp, vc, rfl, hV, gvs⟩ := open_slc (α := Visit4) visitCells goodVisit 4 Try.underlying27 (by kernel_rfl) (by omega) (fun _ => rfl) (fun n cs y hy => trod_visit hy) g4
      exact ⟨(⟨wide, deep, cells, free, step, price, capp, clock, bank, vs⟩, (cp, cc), (vp, vc)), rfl, ⟨hS, hV⟩, gw, gd, gf, gs, gp, gc, gk, gb, gcs, gvs⟩
end
end Go.Proofs.Ythhcpcjmolbkdaa
