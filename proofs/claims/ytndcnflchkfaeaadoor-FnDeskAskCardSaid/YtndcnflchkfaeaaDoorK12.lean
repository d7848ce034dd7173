/-
  Texts of this proof, packed (@packed).
-/
import Derived.Test.YtndcnflchkfaeaaDoorK9
import Derived.Test.YtndcnflchkfaeaaDoorK10
namespace Go.Proofs.YtndcnflchkfaeaaDoor
open Go.RowKit
set_option linter.unusedVariables false
set_option linter.unusedSimpArgs false
abbrev TDk:TypeId:=25
abbrev deskV (P:Int)(q:Option Addr)(m c2:Nat)(q2:Option Addr)(m2 d2:Nat):Value:= .agg #[.int .i64 P,.slice q m c2,.slice q2 m2 d2]
structure IsDesk (w:World) (d:DeskD) (q:Option Addr) (c2:Nat) (q2:Option Addr) (d2:Nat):Prop where
 tk:Sl w q d.taken.length c2 4 (d.taken.flatMap visitCells)
 rw:Sl w q2 d.row.length d2 4 (d.row.flatMap visitCells)
theorem IsDesk.ext {w w':World}{d:DeskD}{q q2:Option Addr}{c2 d2:Nat}(h:IsDesk w d q c2 q2 d2)(hx:Ext w w'):IsDesk w' d q c2 q2 d2:=⟨h.tk.ext hx,h.rw.ext hx⟩
end Go.Proofs.YtndcnflchkfaeaaDoor

