/-
  The reference's reader of codes: 'pick' returns a number from 0 on that is less than n, or 0, and turns its own block alone. Conditions: the reader's block is as l20Open makes it; fewer than 2^40 picks.
-/
import Derived.Test.YtncfnlocdlhagaaDoorBlk
import Derived.Deep.QuietTactic
import Derived.BigQuiet
import Derived.Laws.BitsAllLaws
import Derived.Laws.BitsLemmas
namespace Go.Proofs.YtncfnlocdlhagaaDoor
open Go.RowKit
set_option linter.unusedVariables false

def Rand (w : World) (R k : Nat) : Prop := ∃ (p : Option Addr) (n cap : Nat) (q : Int) (bs : List Int),
  Blk w R 117 #[.slice p n cap, .int .i64 q] ∧ 0 ≤ q ∧ q ≤ k ∧ Sl w p n cap 1 (bs.map (Value.int .u8)) ∧ n ≤ 2000 ∧ (∀ x ∈ bs, 0 ≤ x ∧ x ≤ 255) ∧ (0 < n → ∀ b off, p = some ⟨b, off, none⟩ → b < R)
theorem Rand.mono {w : World} {R k k' : Nat} (h : Rand w R k) (hk : k ≤ k') : Rand w R k' := by
  obtain ⟨p, n, cap, q, bs, h1, h2, h3, h4⟩ := h
  exact ⟨p, n, cap, q, bs, h1, h2, by omega, h4⟩
theorem Rand.below {w w' : World} {R k : Nat} (h : Rand w R k) (hx : Below (R + 1) w w') : Rand w' R k := by
  obtain ⟨p, n, cap, q, bs, h1, h2, h3, h4, h5, h6, h7⟩ := h
  refine ⟨p, n, cap, q, bs, (hx.block R (Nat.lt_succ_self R)).trans h1, h2, h3, ⟨h4.len, h4.le, h4.mx, fun h0 => ?_⟩, h5, h6, h7⟩
  obtain ⟨b, off, rfl, hb, hc⟩ := h4.rd h0
  have hbR := h7 h0 b off rfl
  exact ⟨b, off, rfl, Nat.lt_of_lt_of_le hb hx.size, fun k hk => (World.cell?_of_block (hx.block b (by omega))).trans (hc k hk)⟩
theorem Rand.alloc {w : World} {R k : Nat} (h : Rand w R k) (o : Obj) : Rand (w.alloc o) R k := by
  obtain ⟨p, n, cap, q, bs, h1, h2⟩ := id h
  exact h.below (Below.alloc (Below.refl _ _) h1.lt o)
theorem Rand.setCell {w : World} {R k : Nat} (h : Rand w R k) {p : Addr} (hp : R < p.block) (u : Value) : Rand (w.setCell p u) R k := h.below (Below.setCell (Below.refl _ _) hp u)
theorem Rand.drew {w : World} {R k : Nat} (h : Rand w R k) : Rand w.drew R k := h.below (Below.drew (Below.refl _ _))
theorem Rand.drewN {w : World} {R k : Nat} (h : Rand w R k) (n : Nat) : Rand (w.drewN n) R k := h.below (below_drewN (Below.refl _ _) n)
theorem Rand.ext {w w' : World} {R k : Nat} (h : Rand w R k) (hx : Ext w w') : Rand w' R k := by
  obtain ⟨p, n, cap, q, bs, h1, h2, h3, h4, h5⟩ := h
  exact ⟨p, n, cap, q, bs, h1.ext hx, h2, h3, h4.ext hx, h5⟩
theorem Rand.lt {w : World} {R k : Nat} (h : Rand w R k) : R < w.heap.size := by
  obtain ⟨p, n, cap, q, bs, h1, _⟩ := h
  exact h1.lt
theorem Rand.grown {w w' : World} {R k : Nat} {row : Option Nat} (h : Rand w R k) (hg : w.grownBy w' row) (hr : some R ≠ row) (hb : ∀ b, row = some b → w.heap.size ≤ b) : Rand w' R k :=
  h.ext ((Ext.refl w).grown hg hb)

theorem sl_u8_at {w : World} {p : Option Addr} {n cap : Nat} {xs : List Int} (h : Sl w p n cap 1 (xs.map (Value.int .u8))) {k : Nat} (hk : k < n) :
    ∃ b off x, p = some ⟨b, off, none⟩ ∧ x ∈ xs ∧ b < w.heap.size ∧ w.cell? ⟨b, off + k, none⟩ = some (.int .u8 x) := by
  obtain ⟨b, off, rfl, hb, hc⟩ := h.rd (by omega)
  have hl : xs.length = n := by simpa using h.len
  have hkl : k < xs.length := by rw [hl]; exact hk
  have hx : xs[k]? = some (xs[k]'hkl) := List.getElem?_eq_getElem hkl
  refine ⟨b, off, _, rfl, List.getElem_mem hkl, hb, ?_⟩
  rw [hc k (by omega), List.getElem?_map, hx]; rfl

theorem ofInt_i64 (a : Nat) (ha : a < 9223372036854775808) : (BitVec.ofInt 64 (a : Int)).toNat = a := by
  rw [BitVec.ofInt_natCast, BitVec.toNat_ofNat]; exact Nat.mod_eq_of_lt (by omega)
theorem xor_nonneg (x y : Int) (hx : 0 ≤ x) (hx2 : x < 9223372036854775808) (hy : 0 ≤ y) (hy2 : y < 9223372036854775808) : 0 ≤ bits .xor .i64 x y ∧ bits .xor .i64 x y < 9223372036854775808 := by
  obtain ⟨a, rfl⟩ := Int.eq_ofNat_of_zero_le hx
  obtain ⟨b, rfl⟩ := Int.eq_ofNat_of_zero_le hy
  have hxx : a ^^^ b < 2 ^ 63 := Nat.xor_lt_two_pow (by omega) (by omega)
  have e : bits .xor .i64 (a : Int) (b : Int) = ((a ^^^ b : Nat) : Int) := by
    show IntKind.i64.wrap ((BitVec.ofInt 64 (a : Int) ^^^ BitVec.ofInt 64 (b : Int)).toNat : Int) = _
    rw [BitVec.toNat_xor, ofInt_i64 a (by omega), ofInt_i64 b (by omega), IntKind.wrap_i64]
    omega
  rw [e]; omega

def RandInt (R k : Nat) (n : Int) (w : World) (e : Ending) (w' : World) : Prop := ∃ x : Int, e = .returned (.int .i64 x) ∧ 0 ≤ x ∧ (x < n ∨ x = 0) ∧ Rand w' R (k + 1) ∧ ExtR R w w'

theorem rand_step {w w' : World} {R k : Nat} {p : Option Addr} {n cap : Nat} {q : Int} {bs : List Int} (hw : w' = w.setCell ⟨R, 1, none⟩ (.int .i64 (q + 1)))
    (h1 : Blk w R 117 #[.slice p n cap, .int .i64 q]) (h2 : 0 ≤ q) (h3 : q ≤ k) (h4 : Sl w p n cap 1 (bs.map (Value.int .u8))) (h5 : n ≤ 2000) (h6 : ∀ x ∈ bs, 0 ≤ x ∧ x ≤ 255) (h7 : 0 < n → ∀ b off, p = some ⟨b, off, none⟩ → b < R) :
    Rand w' R (k + 1) ∧ ExtR R w w' := by
  have hx : ExtR R w w' := by rw [hw]; exact (ExtR.refl R w).setCell (p := ⟨R, 1, none⟩) (.inl rfl) _
  refine ⟨⟨p, n, cap, q + 1, bs, by rw [hw]; exact h1.set 1 _, by omega, by omega, hx.sl (b0 := 0) h4 (fun h0 b off e => by have := h7 h0 b off e; omega), h5, h6, h7⟩, hx⟩

set_option maxRecDepth 100000 in
set_option maxHeartbeats 1000000 in
theorem pick_any (R k : Nat) (n : Int) (w : World) (hr : Rand w R k) (hk : k ≤ 1099511627776) :
    Calls Tryd.prog 35 #[.pointer (some ⟨R, 0, none⟩), .int .i64 n] w (RandInt R k n w) := by
  obtain ⟨p, m, cap, q, bs, h1, h2, h3, h4, h5, h6, h7'⟩ := hr
  have h7 : 0 < m → ∀ b off, p = some ⟨b, off, none⟩ → b ≠ R := fun h0 b off e => by have := h7' h0 b off e; omega
  have c0 : w.cell? ⟨R, 0, none⟩ = some (.slice p m cap) := h1.cell 0
  have c1 : w.cell? ⟨R, 1, none⟩ = some (.int .i64 q) := h1.cell 1
  have f1 : w.frozen? ⟨R, 1, none⟩ = false := h1.frozen 1
  have HS := Lib.hid (fun w' hw => rand_step (w' := w') hw h1 h2 h3 h4 h5 h6 h7')
  by_cases hn : n < 1
  · clear h4 h6 h7
    go_enter Tryd.func35, Tryd.ntmps35
    go_wp2
    go_ret
    exact ⟨0, rfl, by omega, .inr rfl, HS.out _ rfl⟩
  · by_cases hm : m = 0
    · subst hm
      clear h4 h6 h7
      go_enter Tryd.func35, Tryd.ntmps35
      go_wp2
      go_ret
      exact ⟨0, rfl, by omega, .inr rfl, HS.out _ rfl⟩
    · by_cases hq : q < m
      · obtain ⟨b, off, x, rfl, hx, hb, hc⟩ := sl_u8_at h4 (k := q.toNat) (by omega)
        obtain ⟨x0, x1⟩ := h6 x hx
        have hbR : b ≠ R := h7 (by omega) b off rfl
        have hl := h4.le
        clear h4 h6 h7
        go_enter Tryd.func35, Tryd.ntmps35
        go_wp2
        go_ret
        exact ⟨_, rfl, Int.emod_nonneg _ (by omega), .inl (Int.emod_lt_of_pos _ (by omega)), HS.out _ rfl⟩
      · obtain ⟨b, off, x, rfl, hx, hb, hc⟩ := sl_u8_at h4 (k := (q % m).toNat) (by have := Int.emod_lt_of_pos q (show (0 : Int) < m by omega); have := Int.emod_nonneg q (show (m : Int) ≠ 0 by omega); omega)
        obtain ⟨b2, off2, y, hp2, hy, hb2, hc2⟩ := sl_u8_at h4 (k := ((q * 7 + 3) % m).toNat) (by have := Int.emod_lt_of_pos (q * 7 + 3) (show (0 : Int) < m by omega); have := Int.emod_nonneg (q * 7 + 3) (show (m : Int) ≠ 0 by omega); omega)
        simp only [Option.some.injEq, Addr.mk.injEq, and_true] at hp2
        obtain ⟨rfl, rfl⟩ := hp2
        obtain ⟨x0, x1⟩ := h6 x hx
        obtain ⟨y0, y1⟩ := h6 y hy
        have hbR : b ≠ R := h7 (by omega) b off rfl
        have hl := h4.le
        have i1 : 0 ≤ q % m := Int.emod_nonneg _ (by omega)
        have i2 : q % m < m := Int.emod_lt_of_pos _ (by omega)
        have i3 : 0 ≤ (q * 7 + 3) % m := Int.emod_nonneg _ (by omega)
        have i4 : (q * 7 + 3) % m < m := Int.emod_lt_of_pos _ (by omega)
        have i5 : 0 ≤ q / m := Int.ediv_nonneg h2 (by omega)
        have i6 : q / m ≤ q := Int.ediv_le_self _ h2
        clear h4 h6 h7
        go_enter Tryd.func35, Tryd.ntmps35
        go_wp2
        go_quiet (fail)
        all_goals go_wp2
        all_goals go_ret
        have z0 : 0 ≤ x * 131 + y * 1117 + q * 29 + q / m * 53 := by omega
        have z1 : x * 131 + y * 1117 + q * 29 + q / m * 53 < 9223372036854775808 := by omega
        obtain ⟨z2, z3⟩ := xor_nonneg (x * 131 + y * 1117 + q * 29 + q / m * 53) ((x * 131 + y * 1117 + q * 29 + q / m * 53) / 64) z0 z1 (by omega) (by omega)
        refine ⟨_, rfl, ?_, .inl ?_, ?_⟩
        · rw [Int.tmod_eq_emod_of_nonneg z2]; exact Int.emod_nonneg _ (by omega)
        · rw [Int.tmod_eq_emod_of_nonneg z2]; exact Int.emod_lt_of_pos _ (by omega)
        · obtain ⟨a1, a2⟩ := HS.out _ rfl
          exact ⟨a1.ext (Ext.drewN (Ext.refl _) _), a2.drewN _⟩
end Go.Proofs.YtncfnlocdlhagaaDoor
