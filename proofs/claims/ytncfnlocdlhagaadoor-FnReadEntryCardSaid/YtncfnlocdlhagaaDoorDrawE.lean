/-
  The reference's draws of journals: a number and deeds that have texts.
-/
import Derived.Test.YtncfnlocdlhagaaDoorDrawB
import Derived.Test.YtncfnlocdlhagaaDoorRJ2
namespace Go.Proofs.YtncfnlocdlhagaaDoor
open Go.RowKit
set_option linter.unusedVariables false

def deedsOk (ds : List Deed3) : Prop := ∀ d ∈ ds, deedOk d.1 d.2.1 d.2.2 = true
def RandLog (R c : Nat) (w : World) (e : Ending) (w' : World) : Prop := ∃ (first : Int) (ds : List Deed3) (p : Option Addr) (cap : Nat),
  e = .returned (.tuple #[.int .i64 first, .slice p ds.length cap]) ∧ w'.ownsRow w.heap.size TD 3 (.slice p ds.length cap) ds.length (ds.flatMap deedCells) ∧ ds.length ≤ 6 ∧ 1 ≤ first ∧ first ≤ 20 ∧ deedsOk ds ∧ Rand w' R (c + 30) ∧ ExtR R w w'
theorem rand_log {R c : Nat} {w w' : World} {first : Int} {ds : List Deed3} {p : Option Addr} {n cap k : Nat} (hn : n = ds.length) (ho : w'.ownsRow w.heap.size TD 3 (.slice p n cap) n (ds.flatMap deedCells)) (h6 : n ≤ 6) (h1 : 1 ≤ first) (h2 : first ≤ 20) (hd : deedsOk ds) (hr : Rand w' R k) (hk : k ≤ c + 30) (hx : ExtR R w w') :
    RandLog R c w (.returned (.tuple #[.int .i64 first, .slice p n cap])) w' := by
  subst hn
  exact ⟨first, ds, p, cap, rfl, ho, h6, h1, h2, hd, hr.mono hk, hx⟩
theorem Rand.push {a w' : World} {R k : Nat} {row : Option Nat} (h : Rand a R k) (hg : a.grownBy w' row) (hr : ∀ g, row = some g → R + 1 ≤ g) : Rand w' R k :=
  h.below (Below.grown (Below.refl _ _) hg h.lt hr)

set_option maxRecDepth 100000 in
set_option maxHeartbeats 1000000 in
theorem l20Log_any (R c : Nat) (w : World) (hr : Rand w R c) (hc : c ≤ 1000000) : Calls Tryd.prog 49 #[.pointer (some ⟨R, 0, none⟩)] w (RandLog R c w) := by
  obtain ⟨i0, hi, hz0, hz1, hz2⟩ := info_parts infoDeedB
  have hRw := hr.lt
  go_enter Tryd.func49, Tryd.ntmps49
  go_wp2_with fail
  refine (pick_any R (c) (7) _ (hr.ext (by (repeat' (first | exact Ext.refl _ | (with_reducible assumption) | (with_reducible refine Ext.alloc ?_ _) | (with_reducible refine Ext.setCell ?_ (by first | exact Nat.le_refl _ | (dsimp only; omega) | (simp; done) | (simp; omega)) _) | (with_reducible refine Ext.drew ?_) | (with_reducible refine Ext.drewN ?_ _) | (refine Ext.trans ?_ (by with_reducible assumption)))))) (by omega)).mono ?_
  rintro e w1 ⟨m, rfl, m0, m1, r1, x1⟩
  replace m1 : m < 7 := by omega
  have ho : (w.alloc (.cells #[] TD)).ownsRow w.heap.size TD 3 (.slice (some ⟨w.heap.size, 0, none⟩) 0 0) 0 [] := World.ownsRow_made _ #[] 0 (Nat.le_refl _) (by simp [maxLen]) rfl
  have HO1 := Lib.hid (x1.own ho hRw)
  have hx1 : ExtR R w w1 := ((ExtR.refl R w).alloc _).trans x1
  have HX1 := Lib.hid hx1
  have R1 := Lib.hid r1
  clear ho hx1 x1 r1
  obtain ⟨mn, rfl⟩ := Int.eq_ofNat_of_zero_le m0
  go_wp2
  go_loopw [4, 5] (fun v k wr => ∃ (j : Nat) (ds : List Deed3) (p : Option Addr) (n cap : Nat), k = .int .i64 j ∧ v = .slice p n cap ∧ n = ds.length ∧ n + j ≤ 6 ∧ wr.ownsRow w.heap.size TD 3 (.slice p n cap) n (ds.flatMap deedCells) ∧ deedsOk ds ∧ Rand wr R (c + 1 + 3 * n) ∧ ExtR R w wr) (fun _ k _ => (intOf k).toNat)
  case atStart => exact ⟨mn, [], _, 0, 0, rfl, rfl, rfl, by omega, by simpa using HO1.out, (fun d hd => by cases hd), by simpa using R1.out, HX1.out⟩
  case round =>
    obtain ⟨j, ds, p, n, cap, rfl, rfl, hn, hnj, hown, hok, hR, hX⟩ := hrel
    have HN := Lib.hid hn
    have HX := Lib.hid hX
    have hsz := hX.sz
    have hRr := hR.lt
    clear hn hX
    by_cases hj : 0 < j
    · go_wp2_with fail
      refine (l20Deed_any R _ _ hR (by omega)).mono ?_
      rintro e w2 ⟨a, b, c', rfl, hd, r2, x2⟩
      have hown2 := x2.own hown hRw
      have hsz2 := x2.sz
      have HX2 := Lib.hid (HX.out.trans x2)
      have R2 := Lib.hid r2
      have HD := Lib.hid hd
      have HOK := Lib.hid hok
      clear hown x2 r2 hd hok
      unfold deedV
      go_wp2_with (at_builtin; refine wpList_append_own _ rfl _ _ 33 rfl w.heap.size TD i0 (.agg #[.int .i64 0, .int .i64 0, .int .i64 0]) 3 24 Tryd.underlying33 hi hz0 hz1 hz2 rfl (by decide) _ _ _ rfl (hown2.alloc _) ⟨w2.heap.size, 0, none⟩ 1 1 [.int .i64 a, .int .i64 b, .int .i64 c'] rfl rfl ?c1 ?c2 ?c3 ?c4 ?c5 ?_)
      case c1 => intro j u h; exact cells_new3 w2 (.int .i64 a) (.int .i64 b) (.int .i64 c') TD j u h
      case c2 => intro u hu; simp at hu; rcases hu with rfl | rfl | rfl <;> rfl
      case c3 => unfold maxLen; omega
      case c4 => omega
      case c5 => simp; omega
      intro v' w3 hown' hgrow _
      have hR3 := Lib.hid ((R2.out.alloc _).push hgrow (fun g hg => by have := (hown2.lt g hg).1; omega))
      have hX3 := Lib.hid ((HX2.out.alloc _).grown hgrow (fun g hg => .inl (hown2.lt g hg).1))
      clear hgrow hown2
      obtain ⟨p2, cap2, rfl⟩ := own_len hown'
      have HO' := Lib.hid hown'
      clear hown'
      go_wp2
      go_roundw
      case rel => exact ⟨j - 1, ds ++ [(a, b, c')], p2, n + 1, cap2, by go_num, rfl, by simp [HN.out], by omega, by simpa [deedCells] using HO'.out, (fun d hd => by rcases List.mem_append.1 hd with h | h; exact HOK.out d h; simp at h; subst h; exact HD.out), hR3.out.mono (by omega), hX3.out⟩
      case measure => simp [intOf]; omega
    · obtain rfl : j = 0 := by omega
      have HOW := Lib.hid hown
      clear hown
      have HOK := Lib.hid hok
      clear hok
      go_wp2_with fail
      refine (pick_any R (c + 1 + 3 * n) (20) _ (hR) (by omega)).mono ?_
      rintro e w2 ⟨x, rfl, x0, x1, r2, x2⟩
      replace x1 : x < 20 := by omega
      go_wp2_with fail
      refine (pick_any R (c + 1 + 3 * n + 1) (2) _ (r2) (by omega)).mono ?_
      rintro e w3 ⟨y, rfl, y0, y1, r3, x3⟩
      replace y1 : y < 2 := by omega
      have HO3 := Lib.hid (x3.own (x2.own HOW.out hRw) hRw)
      have HX3 := Lib.hid ((HX.out.trans x2).trans x3)
      have R3 := Lib.hid r3
      have q1 : 0 ≤ x * y := Int.mul_nonneg x0 y0
      have q2 : x * y ≤ 19 * 1 := Int.mul_le_mul (by omega) (by omega) y0 (by omega)
      clear x2 x3 r2 r3
      go_wp2
      exact bodyPost_ret (v := .tuple #[.int .i64 (1 + x * y), .slice p n cap]) (by simp [results, Tryd.results49, go_sem]) rfl (rand_log HN.out HO3.out (by omega) (by omega) (by omega) HOK.out R3.out (by omega) HX3.out)

theorem own_lower {w : World} {B B' n sz : Nat} {e : TypeId} {v : Value} {xs : List Value} (h : w.ownsRow B e sz v n xs) (hb : B' ≤ B) : w.ownsRow B' e sz v n xs := by
  refine ⟨h.1, ?_⟩
  rcases h.2 with h2 | ⟨g, cap', cur, e1, hb', r⟩
  · exact .inl h2
  · exact .inr ⟨g, cap', cur, e1, Nat.le_trans hb hb', r⟩
def DrewLog (w : World) (e : Ending) (w' : World) : Prop := ∃ (first : Int) (ds : List Deed3) (v : Value), e = .returned (.tuple #[.int .i64 first, v]) ∧ w'.ownsRow w.heap.size TD 3 v ds.length (ds.flatMap deedCells) ∧ ds.length ≤ 6 ∧ 1 ≤ first ∧ first ≤ 97 ∧ Ext w w'

end Go.Proofs.YtncfnlocdlhagaaDoor
