/-
  The reference's reader: l20Open, odd; a law's argument read as a code.
-/
import Derived.Test.YtncfnlocdlhagaaDoorRand
import Derived.Test.YtncfnlocdlhagaaDoorFlat
namespace Go.Proofs.YtncfnlocdlhagaaDoor
open Go.RowKit
set_option linter.unusedVariables false

/-- a code: a slice of bytes -/
def Code (w : World) (v : Value) : Prop := ∃ (p : Option Addr) (n cap : Nat) (bs : List Int), v = .slice p n cap ∧ Sl w p n cap 1 (bs.map (Value.int .u8)) ∧ ∀ x ∈ bs, 0 ≤ x ∧ x ≤ 255
theorem Code.ext {w w' : World} {v : Value} (h : Code w v) (hx : Ext w w') : Code w' v := by
  obtain ⟨p, n, cap, bs, h1, h2, h3⟩ := h
  exact ⟨p, n, cap, bs, h1, h2.ext hx, h3⟩

def RetRand (w : World) (e : Ending) (w' : World) : Prop := ∃ R, e = .returned (.pointer (some ⟨R, 0, none⟩)) ∧ w.heap.size ≤ R ∧ Rand w' R 0 ∧ Ext w w'

theorem rand_new {w : World} {p : Option Addr} {n cap : Nat} {bs : List Int} (h : Sl w p n cap 1 (bs.map (Value.int .u8))) (hn : n ≤ 2000) (hb : ∀ x ∈ bs, 0 ≤ x ∧ x ≤ 255) (hp : 0 < n → ∀ b off, p = some ⟨b, off, none⟩ → b < w.heap.size) :
    Rand (w.alloc (.cells #[.slice p n cap, .int .i64 0] 117)) w.heap.size 0 :=
  ⟨p, n, cap, 0, bs, Blk.new _ _ _, by omega, by omega, h.ext ((Ext.refl w).alloc _), hn, hb, fun h0 b off e => by have := hp h0 b off e; omega⟩

set_option maxRecDepth 100000 in
set_option maxHeartbeats 1000000 in
theorem l20Open_any (v : Value) (w : World) (hc : Code w v) : Calls Tryd.prog 33 #[v] w (RetRand w) := by
  obtain ⟨p, n, cap, bs, rfl, h, hb⟩ := hc
  have hp : 0 < n → ∃ b off, p = some ⟨b, off, none⟩ ∧ b < w.heap.size := fun h0 => by
    obtain ⟨b, off, e, h1, _⟩ := h.rd h0
    exact ⟨b, off, e, h1⟩
  have hle := h.le
  have hmx := h.mx
  have hbd := h.bd
  unfold maxLen at hmx
  have H := Lib.hid h
  clear h
  by_cases hn : 2000 < n
  · obtain ⟨b, off, rfl, hb'⟩ := hp (by omega)
    go_enter Tryd.func33, Tryd.ntmps33
    go_wp2
    go_ret
    exact ⟨_, rfl, Nat.le_refl _, rand_new (by simpa using sl_cut H.out (m := 2000) (by omega)) (by omega) (fun x hx => hb x (List.mem_of_mem_take hx)) (fun _ b' off' e => by injection e with e; injection e with e; omega), by (repeat' (first | exact Ext.refl _ | (with_reducible assumption) | (with_reducible refine Ext.alloc ?_ _) | (with_reducible refine Ext.setCell ?_ (by first | exact Nat.le_refl _ | (dsimp only; omega) | (simp; done) | (simp; omega)) _) | (with_reducible refine Ext.drew ?_) | (with_reducible refine Ext.drewN ?_ _) | (refine Ext.trans ?_ (by with_reducible assumption))))⟩
  · go_enter Tryd.func33, Tryd.ntmps33
    go_wp2
    go_ret
    exact ⟨_, rfl, Nat.le_refl _, rand_new H.out (by omega) hb (fun h0 b' off' e => by obtain ⟨b, off, e2, h3⟩ := hp h0; rw [e2] at e; injection e with e; injection e with e; omega), by (repeat' (first | exact Ext.refl _ | (with_reducible assumption) | (with_reducible refine Ext.alloc ?_ _) | (with_reducible refine Ext.setCell ?_ (by first | exact Nat.le_refl _ | (dsimp only; omega) | (simp; done) | (simp; omega)) _) | (with_reducible refine Ext.drew ?_) | (with_reducible refine Ext.drewN ?_ _) | (refine Ext.trans ?_ (by with_reducible assumption))))⟩

def RandBool (R k : Nat) (n : Int) (w : World) (e : Ending) (w' : World) : Prop := ∃ t : Bool, e = .returned (.bool t) ∧ Rand w' R (k + 1) ∧ ExtR R w w'
set_option maxRecDepth 100000 in
set_option maxHeartbeats 1000000 in
theorem odd_any (R k : Nat) (n : Int) (w : World) (hr : Rand w R k) (hk : k ≤ 1099511627775) (hn : 0 ≤ n) (hn2 : n ≤ 1000000) :
    Calls Tryd.prog 97 #[.pointer (some ⟨R, 0, none⟩), .int .i64 n] w (RandBool R k n w) := by
  by_cases h0 : 0 < n
  · go_enter Tryd.func97, Tryd.ntmps97
    go_wp2_with fail
    refine (pick_any R (k) (n) _ (hr) (by omega)).mono ?_
    rintro e w1 ⟨a, rfl, a0, a1, r1, x1⟩
    replace a1 : a < n := by omega
    go_wp2
    go_ret
    exact ⟨_, rfl, r1, x1⟩
  · go_enter Tryd.func97, Tryd.ntmps97
    go_wp2
    go_ret
    exact ⟨_, rfl, hr.mono (by omega), ExtR.refl _ _⟩

theorem ExtR.blk {R g : Nat} {w w' : World} {t : TypeId} {cs : Array Value} (h : ExtR R w w') (hb : Blk w g t cs) (hne : g ≠ R) : Blk w' g t cs := hb.grown h (fun e => hne (by injection e))
section
open Go.ChangeShapes Go.WideShapes Go.ChangeAt
variable {H : Type} {enc : TypeId × Value → H} {w : World} {base : Nat} {spare : Nat → Bool} {held : Bool} {b0 : Nat} {r : Reach} {v : Value} {d : DataW H} {p : List MemPlace}
set_option maxRecDepth 100000 in
theorem open_code (hv : Value.okWide Tryd.prog w r b0 22 v) (h : DataW.Trod enc Tryd.prog w base spare held 22 v d p) : ∃ u : Unit, Code w v := by
  obtain ⟨a0, len, cap, rfl⟩ := okWide_slice Tryd.underlying22 hv
  obtain ⟨fuel, hh⟩ := h
  obtain ⟨xs, q, c, hv', hS, hg⟩ := open_slc (α := Int) (fun x => [.int .u8 x]) (fun x => 0 ≤ x ∧ x ≤ 255) 1 Tryd.underlying22 (by kernel_rfl) (by omega) (fun _ => rfl) (fun n cs y hy => by
    obtain ⟨a, rfl, _, ha⟩ := DataW.trod_int Tryd.underlying5 hy
    exact ⟨a, rfl, bounds_u8 ha⟩) (by simpa [Value.cells] using hh)
  refine ⟨(), q, _, c, xs, hv', ?_, hg⟩
  have e : xs.flatMap (fun x => [Value.int .u8 x]) = xs.map (Value.int .u8) := by
    clear hS hg hv'
    induction xs with
    | nil => rfl
    | cons x xs ih => simp_all
  rw [← e]; exact hS
end
end Go.Proofs.YtncfnlocdlhagaaDoor
