/-
  Both packages' HouseValid tell whether a house is valid ('houseOk'). Conditions: its slices read as lists.
-/
import Derived.Test.YtndcnflchkfaeaaHc3
import Derived.Test.YtndcnflchkfaeaaTake
namespace Go.Proofs.Ytndcnflchkfaeaa
open Go.RowKit
set_option linter.unusedVariables false

abbrev houseV (h : HouseD) (p : Option Addr) (n cap : Nat) (q : Option Addr) (m c2 : Nat) : Value :=
  .agg #[.int .i64 h.wide, .int .i64 h.deep, .slice p n cap, .int .i64 h.free, .int .i64 h.step, .int .i64 h.price, .int .i64 h.capp, .int .i64 h.clock, .int .i64 h.bank, .slice q m c2]
/-- a house's slices read as its lists -/
structure IsHouse (w : World) (h : HouseD) (p : Option Addr) (n cap : Nat) (q : Option Addr) (m c2 : Nat) : Prop where
  cells : Sl w p n cap 1 (ivs h.cells)
  vs : Sl w q m c2 4 (h.vs.flatMap visitCells)
theorem IsHouse.ext {w w' : World} {h : HouseD} {p q : Option Addr} {n cap m c2 : Nat} (i : IsHouse w h p n cap q m c2) (hx : Ext w w') : IsHouse w' h p n cap q m c2 := ⟨i.cells.ext hx, i.vs.ext hx⟩
theorem IsHouse.vlen {w : World} {h : HouseD} {p q : Option Addr} {n cap m c2 : Nat} (i : IsHouse w h p n cap q m c2) : h.vs.length = m := by
  have := i.vs.len; rw [flat_len visitCells 4 (fun _ => rfl)] at this; omega
theorem IsHouse.clen {w : World} {h : HouseD} {p q : Option Addr} {n cap m c2 : Nat} (i : IsHouse w h p n cap q m c2) : h.cells.length = n := i.cells.ilen
theorem visit_at {w : World} {q : Option Addr} {m c2 : Nat} {vs : List Visit4} (h : Sl w q m c2 4 (vs.flatMap visitCells)) {k : Nat} (hk : k < m) :
    ∃ b off a0 a1 a2 a3, q = some ⟨b, off, none⟩ ∧ vs[k]? = some (a0, a1, a2, a3) ∧ b < w.heap.size ∧ w.cell? ⟨b, off + k * 4, none⟩ = some (.int .i64 a0) ∧ w.cell? ⟨b, off + k * 4 + 1, none⟩ = some (.int .i64 a1) ∧ w.cell? ⟨b, off + k * 4 + 2, none⟩ = some (.int .i64 a2) ∧ w.cell? ⟨b, off + k * 4 + 3, none⟩ = some (.int .i64 a3) := by
  obtain ⟨b, off, x, hp, hx, hb, hc⟩ := Sl.at_ (sz := 4) (f := visitCells) (fun _ => rfl) h hk (by omega)
  obtain ⟨a0, a1, a2, a3⟩ := x
  exact ⟨b, off, a0, a1, a2, a3, hp, hx, hb, hc 0 (by omega), hc 1 (by omega), hc 2 (by omega), hc 3 (by omega)⟩

def OwnZ (w : World) (p : Option Addr) (n c : Nat) (xs : List Int) : Prop := Sl w p n c 1 (ivs xs)
theorem OwnZ.ext {w w' : World} {p : Option Addr} {n c : Nat} {xs : List Int} (h : OwnZ w p n c xs) (hx : Ext w w') : Sl w' p n c 1 (ivs xs) := Sl.ext h hx
theorem own_z {w : World} {B n c : Nat} {p : Option Addr} {xs : List Int} (h : w.ownsRow B TI 1 (.slice p n c) n (ivs xs)) : OwnZ w p n c xs := Sl.own h

end Go.Proofs.Ytndcnflchkfaeaa
