/-
  Both packages' HouseNew return a new house, or the zero value.
-/
import Derived.Test.YtncfnlocdlhagaaDoorLawH3
import Derived.Test.YtncfnlocdlhagaaDoorLin
namespace Go.Proofs.YtncfnlocdlhagaaDoor
open Go.RowKit
set_option linter.unusedVariables false
set_option linter.unusedSimpArgs false

def houseNew (wide deep f s p c : Int) : HouseD := if tariffOk f s p c = true ∧ 2 ≤ wide ∧ wide ≤ 4 ∧ 2 ≤ deep ∧ deep ≤ 3 then ⟨wide, deep, List.replicate (wide * deep).toNat 0, f, s, p, c, 0, 0, []⟩ else houseZero
theorem ret_house0 {w w' : World} {W D : Int} {xs : List Int} {f s p c : Int} {q : Option Addr} {cap : Nat} (ho : w'.ownsRow w.heap.size TI 1 (.slice q xs.length cap) xs.length (ivs xs)) (hx : Ext w w') :
    RetHouse ⟨W, D, xs, f, s, p, c, 0, 0, []⟩ w (.returned (houseV ⟨W, D, xs, f, s, p, c, 0, 0, []⟩ q xs.length cap none 0 0)) w' := ⟨q, cap, none, 0, rfl, ho, World.ownsRow_nil _ _ _ _, hx⟩
theorem own_blk_ne {w : World} {B n : Nat} {q : Option Addr} {cap : Nat} {xs : List Value} {g : Nat} {t : TypeId} {cs : Array Value} (ho : w.ownsRow B TI 1 (.slice q n cap) n xs) (hb : Blk w g t cs) (ht : t ≠ TI) : (Value.slice q n cap).ownBlock ≠ some g := by
  intro he
  rcases ho.2 with ⟨h1, h2⟩ | ⟨g', cap', cur, h1, hb', hg, hn, hm, hs, ht'⟩
  · injection h1 with e1; subst e1; simp [Value.ownBlock] at he
  · injection h1 with e1 e2 e3
    subst e1
    simp [Value.ownBlock] at he
    subst he
    unfold Blk at hb
    rw [hb] at hg
    injection hg with e; injection e with e1 e2
    exact ht e2

set_option maxRecDepth 100000 in
set_option maxHeartbeats 1000000 in
theorem implHn_no (wide deep free step price capp W D : Int) (xs : List Int) (w : World) (HE : Hid (∀ w', Ext w w' → Calls Tryd.prog 70 #[.int .i64 wide, .int .i64 deep] w' (RetHall W D xs w')))
    (HV : Hid (∀ w' p c, Sl w' p xs.length c 1 (ivs xs) → Calls Tryd.prog 30 #[.agg #[.int .i64 W, .int .i64 D, .slice p xs.length c, .int .i64 free, .int .i64 step, .int .i64 price, .int .i64 capp, .int .i64 0, .int .i64 0, .slice none 0 0]] w' fun e w'' => e = .returned (.bool false) ∧ Ext w' w'')) :
    Calls Tryd.prog 26 #[.int .i64 wide, .int .i64 deep, tariffV free step price capp] w (RetHouse houseZero w) := by
  go_enter Tryd.func26, Tryd.ntmps26
  go_wp2
  refine region_lin (gl [gEq (.int .i64 wide), gEq (.int .i64 deep), (fun v w' => ∃ p c, v = hallV W D p xs.length c ∧ w'.ownsRow w.heap.size TI 1 (.slice p xs.length c) xs.length (ivs xs)), gEq (.agg #[.int .i64 free, .int .i64 step, .int .i64 price, .int .i64 capp]), (fun v w' => ∃ p c, v = .agg #[.int .i64 W, .int .i64 D, .slice p xs.length c, .int .i64 free, .int .i64 step, .int .i64 price, .int .i64 capp, .int .i64 0, .int .i64 0, .slice none 0 0] ∧ w'.ownsRow w.heap.size TI 1 (.slice p xs.length c) xs.length (ivs xs)), gBlk (w.heap.size + 2) 52 #[.int .i64 0, .int .i64 0, .slice none 0 0, .int .i64 0, .int .i64 0, .int .i64 0, .int .i64 0, .int .i64 0, .int .i64 0, .slice none 0 0]]) 6 (by kernel_rfl) rfl (by kernel_rfl) (by kernel_rfl) (by kernel_rfl) (gl_mono (gl_cons (gEq_mono _) (gl_cons (gEq_mono _) (gl_cons (fun v w w' ⟨p, c, he, ho⟩ hx => ⟨p, c, he, own_ext ho hx⟩) (gl_cons (gEq_mono _) (gl_cons (fun v w w' ⟨p, c, he, ho⟩ hx => ⟨p, c, he, own_ext ho hx⟩) (gl_cons (gBlk_mono _ _ _) (gl_nil)))))))) (k := 7) (by kernel_rfl) (by decide) (ls := [(0, some 8), (1, some 9), (2, some 10), (3, some 11), (4, some 12), (5, some 7)]) (by kernel_rfl) (ir := [0, 1, 2, 3, 4, 5]) (by kernel_rfl) ?steps (tl := #[true, true, true, true, true, true, false]) (by kernel_rfl) ?fin
  case steps =>
    refine StepsL.cons (ps := []) rfl (by kernel_rfl) (fun wi hx => ?_) ?_
    · intro K hK
      go_simp
      exact hK _ _ ⟨.int .i64 wide, rfl, rfl, Ext.refl _⟩
    refine StepsL.cons (ps := []) rfl (by kernel_rfl) (fun wi hx => ?_) ?_
    · intro K hK
      go_simp
      exact hK _ _ ⟨.int .i64 deep, rfl, rfl, Ext.refl _⟩
    refine StepsL.cons (ps := [(0, some 8), (1, some 9)]) rfl (by kernel_rfl) (fun wi hx => ?_) ?_
    · intro v0 h0 v1 h1 K hK
      obtain rfl := h0
      obtain rfl := h1
      go_wp2_with fail
      refine (HE.out _ (by (repeat' (first | exact Ext.refl _ | (with_reducible assumption) | (with_reducible refine Ext.alloc ?_ _) | (with_reducible refine Ext.setCell ?_ (by first | exact Nat.le_refl _ | (dsimp only; omega) | (simp; done) | (simp; omega)) _) | (with_reducible refine Ext.drew ?_) | (with_reducible refine Ext.drewN ?_ _) | (refine Ext.trans ?_ (by with_reducible assumption)))))).mono ?_
      rintro e w2 ⟨q1, d1, rfl, ho, hx2⟩
      go_simp
      exact hK _ _ ⟨hallV W D q1 xs.length d1, rfl, ⟨q1, d1, rfl, own_base ho (by have := hx.sz; simp at this; omega)⟩, hx2⟩
    refine StepsL.cons (ps := []) rfl (by kernel_rfl) (fun wi hx => ?_) ?_
    · intro K hK
      have hx1 : Ext (w.alloc (.cells #[.int .i64 free, .int .i64 step, .int .i64 price, .int .i64 capp] 49)) wi := by (repeat' (first | exact Ext.refl _ | (with_reducible assumption) | (with_reducible refine Ext.alloc ?_ _) | (with_reducible refine Ext.setCell ?_ (by first | exact Nat.le_refl _ | (dsimp only; omega) | (simp; done) | (simp; omega)) _) | (with_reducible refine Ext.drew ?_) | (with_reducible refine Ext.drewN ?_ _) | (refine Ext.trans ?_ (by with_reducible assumption))))
      have B1 := (Blk.new w 49 #[.int .i64 free, .int .i64 step, .int .i64 price, .int .i64 capp]).ext hx1
      have t0 : wi.cell? ⟨w.heap.size, 0, none⟩ = some (.int .i64 free) := B1.cell 0
      have t1 : wi.cell? ⟨w.heap.size, 1, none⟩ = some (.int .i64 step) := B1.cell 1
      have t2 : wi.cell? ⟨w.heap.size, 2, none⟩ = some (.int .i64 price) := B1.cell 2
      have t3 : wi.cell? ⟨w.heap.size, 3, none⟩ = some (.int .i64 capp) := B1.cell 3
      go_simp
      exact hK _ _ ⟨.agg #[.int .i64 free, .int .i64 step, .int .i64 price, .int .i64 capp], rfl, rfl, Ext.refl _⟩
    refine StepsL.cons (ps := [(2, some 10), (3, some 11)]) rfl (by kernel_rfl) (fun wi hx => ?_) ?_
    · intro v2 h2 v3 h3 K hK
      obtain ⟨p2, c2, rfl, ho2⟩ := h2
      obtain rfl := h3
      go_simp
      exact hK _ _ ⟨.agg #[.int .i64 W, .int .i64 D, .slice p2 xs.length c2, .int .i64 free, .int .i64 step, .int .i64 price, .int .i64 capp, .int .i64 0, .int .i64 0, .slice none 0 0], rfl, ⟨p2, c2, rfl, ho2⟩, Ext.refl _⟩
    refine StepsL.cons (ps := []) rfl (by kernel_rfl) (fun wi hx => ?_) StepsL.nil
    · intro K hK
      go_simp
      exact hK _ _ ⟨.pointer (some ⟨wi.heap.size, 0, none⟩), rfl, ⟨wi.heap.size, rfl, by have := hx.sz; simp at this; omega, Blk.new _ _ _⟩, (Ext.refl _).alloc _⟩
  case fin =>
    intro wi hx v0 h0 v1 h1 v2 h2 v3 h3 v4 h4 v5 h5
    obtain rfl := h0
    obtain rfl := h1
    obtain ⟨p2, c2, rfl, ho2⟩ := h2
    obtain rfl := h3
    obtain ⟨p4, c4, rfl, ho4⟩ := h4
    obtain ⟨g5, rfl, hg5, B5⟩ := h5
    clear ho2
    have hz := hx.sz
    have hg6 : g5 < wi.heap.size := B5.lt
    simp at hz
    have hxw : Ext w wi := by (repeat' (first | exact Ext.refl _ | (with_reducible assumption) | (with_reducible refine Ext.alloc ?_ _) | (with_reducible refine Ext.setCell ?_ (by first | exact Nat.le_refl _ | (dsimp only; omega) | (simp; done) | (simp; omega)) _) | (with_reducible refine Ext.drew ?_) | (with_reducible refine Ext.drewN ?_ _) | (refine Ext.trans ?_ (by with_reducible assumption))))
    have BZ : Blk wi (w.heap.size + 1) 52 #[.int .i64 0, .int .i64 0, .slice none 0 0, .int .i64 0, .int .i64 0, .int .i64 0, .int .i64 0, .int .i64 0, .int .i64 0, .slice none 0 0] := by have := (Blk.new (w.alloc (.cells #[.int .i64 free, .int .i64 step, .int .i64 price, .int .i64 capp] 49)) 52 #[.int .i64 0, .int .i64 0, .slice none 0 0, .int .i64 0, .int .i64 0, .int .i64 0, .int .i64 0, .int .i64 0, .int .i64 0, .slice none 0 0]).ext hx.of_drew; simpa using this
    have z0 : wi.cell? ⟨g5, 0, none⟩ = some (.int .i64 0) := B5.cell 0
    have z1 : wi.cell? ⟨g5, 1, none⟩ = some (.int .i64 0) := B5.cell 1
    have z2 : wi.cell? ⟨g5, 2, none⟩ = some (.slice none 0 0) := B5.cell 2
    have z3 : wi.cell? ⟨g5, 3, none⟩ = some (.int .i64 0) := B5.cell 3
    have z4 : wi.cell? ⟨g5, 4, none⟩ = some (.int .i64 0) := B5.cell 4
    have z5 : wi.cell? ⟨g5, 5, none⟩ = some (.int .i64 0) := B5.cell 5
    have z6 : wi.cell? ⟨g5, 6, none⟩ = some (.int .i64 0) := B5.cell 6
    have z7 : wi.cell? ⟨g5, 7, none⟩ = some (.int .i64 0) := B5.cell 7
    have z8 : wi.cell? ⟨g5, 8, none⟩ = some (.int .i64 0) := B5.cell 8
    have z9 : wi.cell? ⟨g5, 9, none⟩ = some (.slice none 0 0) := B5.cell 9
    have zf0 : wi.frozen? ⟨g5, 0, none⟩ = false := B5.frozen 0
    have zf1 : wi.frozen? ⟨g5, 1, none⟩ = false := B5.frozen 1
    have zf2 : wi.frozen? ⟨g5, 2, none⟩ = false := B5.frozen 2
    have zf3 : wi.frozen? ⟨g5, 3, none⟩ = false := B5.frozen 3
    have zf4 : wi.frozen? ⟨g5, 4, none⟩ = false := B5.frozen 4
    have zf5 : wi.frozen? ⟨g5, 5, none⟩ = false := B5.frozen 5
    have zf6 : wi.frozen? ⟨g5, 6, none⟩ = false := B5.frozen 6
    have zf7 : wi.frozen? ⟨g5, 7, none⟩ = false := B5.frozen 7
    have zf8 : wi.frozen? ⟨g5, 8, none⟩ = false := B5.frozen 8
    have zf9 : wi.frozen? ⟨g5, 9, none⟩ = false := B5.frozen 9
    have BN := ((((((((((B5).set 0 (.int .i64 W)).set 1 (.int .i64 D)).set 2 (.slice p4 xs.length c4)).set 3 (.int .i64 free)).set 4 (.int .i64 step)).set 5 (.int .i64 price)).set 6 (.int .i64 capp)).set 7 (.int .i64 0)).set 8 (.int .i64 0)).set 9 (.slice none 0 0)
    simp only [List.setIfInBounds_toArray, List.set_cons_zero, List.set_cons_succ] at BN
    refine wpAny_ready (rs := [6]) (by kernel_rfl) (by simp) ?_
    refine AllReady.cons rfl (fun K hK => ?_) AllReady.nil
    go_simp
    refine hK _ _ ?_
    clear hK K
    clear z0 z1 z2 z3 z4 z5 z6 z7 z8 z9 zf0 zf1 zf2 zf3 zf4 zf5 zf6 zf7 zf8 zf9
    generalize hw3 : World.setCell _ _ _ = w3
    rw [hw3] at BN
    have hR : ExtR g5 wi w3 := by rw [← hw3]; exact ((((((((((ExtR.refl g5 wi).setCell (p := ⟨g5, 0, none⟩) (.inl rfl) (.int .i64 W)).setCell (p := ⟨g5, 1, none⟩) (.inl rfl) (.int .i64 D)).setCell (p := ⟨g5, 2, none⟩) (.inl rfl) (.slice p4 xs.length c4)).setCell (p := ⟨g5, 3, none⟩) (.inl rfl) (.int .i64 free)).setCell (p := ⟨g5, 4, none⟩) (.inl rfl) (.int .i64 step)).setCell (p := ⟨g5, 5, none⟩) (.inl rfl) (.int .i64 price)).setCell (p := ⟨g5, 6, none⟩) (.inl rfl) (.int .i64 capp)).setCell (p := ⟨g5, 7, none⟩) (.inl rfl) (.int .i64 0)).setCell (p := ⟨g5, 8, none⟩) (.inl rfl) (.int .i64 0)).setCell (p := ⟨g5, 9, none⟩) (.inl rfl) (.slice none 0 0)
    clear hw3
    have B3 := Lib.hid BN
    have Z3 := Lib.hid (show Blk w3 (w.heap.size + 1) 52 #[.int .i64 0, .int .i64 0, .slice none 0 0, .int .i64 0, .int .i64 0, .int .i64 0, .int .i64 0, .int .i64 0, .int .i64 0, .slice none 0 0] from (hR.block _ BZ.lt (by simp; omega)).trans BZ)
    have O3 := Lib.hid (ho4.kept hR (.inr (own_blk_ne ho4 B5 (by decide))))
    have X3 := Lib.hid (ExtR.new hxw hR (by omega))
    clear BN BZ ho4 hR hxw hx B5 hz
    refine wpAny_done (by kernel_rfl) ?_ _
    have n0 : w3.cell? ⟨g5, 0, none⟩ = some (.int .i64 W) := B3.out.cell 0
    have n1 : w3.cell? ⟨g5, 1, none⟩ = some (.int .i64 D) := B3.out.cell 1
    have n2 : w3.cell? ⟨g5, 2, none⟩ = some (.slice p4 xs.length c4) := B3.out.cell 2
    have n3 : w3.cell? ⟨g5, 3, none⟩ = some (.int .i64 free) := B3.out.cell 3
    have n4 : w3.cell? ⟨g5, 4, none⟩ = some (.int .i64 step) := B3.out.cell 4
    have n5 : w3.cell? ⟨g5, 5, none⟩ = some (.int .i64 price) := B3.out.cell 5
    have n6 : w3.cell? ⟨g5, 6, none⟩ = some (.int .i64 capp) := B3.out.cell 6
    have n7 : w3.cell? ⟨g5, 7, none⟩ = some (.int .i64 0) := B3.out.cell 7
    have n8 : w3.cell? ⟨g5, 8, none⟩ = some (.int .i64 0) := B3.out.cell 8
    have n9 : w3.cell? ⟨g5, 9, none⟩ = some (.slice none 0 0) := B3.out.cell 9
    go_wp2_with fail
    clear n0 n1 n2 n3 n4 n5 n6 n7 n8 n9
    refine (HV.out _ _ _ (Sl.own O3.out)).mono ?_
    rintro e w4 ⟨rfl, hx4⟩
    have B4 := Lib.hid (B3.out.ext hx4)
    have Z4 := Lib.hid (Z3.out.ext hx4)
    have O4 := Lib.hid (own_ext O3.out hx4)
    have X4 := Lib.hid (X3.out.trans hx4)
    clear hx4 B3 Z3 O3 X3
    have z0 : w4.cell? ⟨w.heap.size + 1, 0, none⟩ = some (.int .i64 0) := Z4.out.cell 0
    have z1 : w4.cell? ⟨w.heap.size + 1, 1, none⟩ = some (.int .i64 0) := Z4.out.cell 1
    have z2 : w4.cell? ⟨w.heap.size + 1, 2, none⟩ = some (.slice none 0 0) := Z4.out.cell 2
    have z3 : w4.cell? ⟨w.heap.size + 1, 3, none⟩ = some (.int .i64 0) := Z4.out.cell 3
    have z4 : w4.cell? ⟨w.heap.size + 1, 4, none⟩ = some (.int .i64 0) := Z4.out.cell 4
    have z5 : w4.cell? ⟨w.heap.size + 1, 5, none⟩ = some (.int .i64 0) := Z4.out.cell 5
    have z6 : w4.cell? ⟨w.heap.size + 1, 6, none⟩ = some (.int .i64 0) := Z4.out.cell 6
    have z7 : w4.cell? ⟨w.heap.size + 1, 7, none⟩ = some (.int .i64 0) := Z4.out.cell 7
    have z8 : w4.cell? ⟨w.heap.size + 1, 8, none⟩ = some (.int .i64 0) := Z4.out.cell 8
    have z9 : w4.cell? ⟨w.heap.size + 1, 9, none⟩ = some (.slice none 0 0) := Z4.out.cell 9
    have zf0 : w4.frozen? ⟨w.heap.size + 1, 0, none⟩ = false := Z4.out.frozen 0
    have zf1 : w4.frozen? ⟨w.heap.size + 1, 1, none⟩ = false := Z4.out.frozen 1
    have zf2 : w4.frozen? ⟨w.heap.size + 1, 2, none⟩ = false := Z4.out.frozen 2
    have zf3 : w4.frozen? ⟨w.heap.size + 1, 3, none⟩ = false := Z4.out.frozen 3
    have zf4 : w4.frozen? ⟨w.heap.size + 1, 4, none⟩ = false := Z4.out.frozen 4
    have zf5 : w4.frozen? ⟨w.heap.size + 1, 5, none⟩ = false := Z4.out.frozen 5
    have zf6 : w4.frozen? ⟨w.heap.size + 1, 6, none⟩ = false := Z4.out.frozen 6
    have zf7 : w4.frozen? ⟨w.heap.size + 1, 7, none⟩ = false := Z4.out.frozen 7
    have zf8 : w4.frozen? ⟨w.heap.size + 1, 8, none⟩ = false := Z4.out.frozen 8
    have zf9 : w4.frozen? ⟨w.heap.size + 1, 9, none⟩ = false := Z4.out.frozen 9
    go_wp2
    exact bodyPost_ret (v := .agg #[.int .i64 0, .int .i64 0, .slice none 0 0, .int .i64 0, .int .i64 0, .int .i64 0, .int .i64 0, .int .i64 0, .int .i64 0, .slice none 0 0]) (by simp [results, Tryd.results26, go_sem, *]) rfl ⟨none, 0, none, 0, rfl, World.ownsRow_nil _ _ _ _, World.ownsRow_nil _ _ _ _, ((((((((((X4.out.setCell (p := ⟨w.heap.size + 1, 0, none⟩) (by dsimp only; omega) (.int .i64 0)).setCell (p := ⟨w.heap.size + 1, 1, none⟩) (by dsimp only; omega) (.int .i64 0)).setCell (p := ⟨w.heap.size + 1, 2, none⟩) (by dsimp only; omega) (.slice none 0 0)).setCell (p := ⟨w.heap.size + 1, 3, none⟩) (by dsimp only; omega) (.int .i64 0)).setCell (p := ⟨w.heap.size + 1, 4, none⟩) (by dsimp only; omega) (.int .i64 0)).setCell (p := ⟨w.heap.size + 1, 5, none⟩) (by dsimp only; omega) (.int .i64 0)).setCell (p := ⟨w.heap.size + 1, 6, none⟩) (by dsimp only; omega) (.int .i64 0)).setCell (p := ⟨w.heap.size + 1, 7, none⟩) (by dsimp only; omega) (.int .i64 0)).setCell (p := ⟨w.heap.size + 1, 8, none⟩) (by dsimp only; omega) (.int .i64 0)).setCell (p := ⟨w.heap.size + 1, 9, none⟩) (by dsimp only; omega) (.slice none 0 0))⟩

set_option maxRecDepth 100000 in
set_option maxHeartbeats 1000000 in
theorem implHn_yes (wide deep free step price capp W D : Int) (xs : List Int) (w : World) (HE : Hid (∀ w', Ext w w' → Calls Tryd.prog 70 #[.int .i64 wide, .int .i64 deep] w' (RetHall W D xs w')))
    (HV : Hid (∀ w' p c, Sl w' p xs.length c 1 (ivs xs) → Calls Tryd.prog 30 #[.agg #[.int .i64 W, .int .i64 D, .slice p xs.length c, .int .i64 free, .int .i64 step, .int .i64 price, .int .i64 capp, .int .i64 0, .int .i64 0, .slice none 0 0]] w' fun e w'' => e = .returned (.bool true) ∧ Ext w' w'')) :
    Calls Tryd.prog 26 #[.int .i64 wide, .int .i64 deep, tariffV free step price capp] w (RetHouse ⟨W, D, xs, free, step, price, capp, 0, 0, []⟩ w) := by
  go_enter Tryd.func26, Tryd.ntmps26
  go_wp2
  refine region_lin (gl [gEq (.int .i64 wide), gEq (.int .i64 deep), (fun v w' => ∃ p c, v = hallV W D p xs.length c ∧ w'.ownsRow w.heap.size TI 1 (.slice p xs.length c) xs.length (ivs xs)), gEq (.agg #[.int .i64 free, .int .i64 step, .int .i64 price, .int .i64 capp]), (fun v w' => ∃ p c, v = .agg #[.int .i64 W, .int .i64 D, .slice p xs.length c, .int .i64 free, .int .i64 step, .int .i64 price, .int .i64 capp, .int .i64 0, .int .i64 0, .slice none 0 0] ∧ w'.ownsRow w.heap.size TI 1 (.slice p xs.length c) xs.length (ivs xs)), gBlk (w.heap.size + 2) 52 #[.int .i64 0, .int .i64 0, .slice none 0 0, .int .i64 0, .int .i64 0, .int .i64 0, .int .i64 0, .int .i64 0, .int .i64 0, .slice none 0 0]]) 6 (by kernel_rfl) rfl (by kernel_rfl) (by kernel_rfl) (by kernel_rfl) (gl_mono (gl_cons (gEq_mono _) (gl_cons (gEq_mono _) (gl_cons (fun v w w' ⟨p, c, he, ho⟩ hx => ⟨p, c, he, own_ext ho hx⟩) (gl_cons (gEq_mono _) (gl_cons (fun v w w' ⟨p, c, he, ho⟩ hx => ⟨p, c, he, own_ext ho hx⟩) (gl_cons (gBlk_mono _ _ _) (gl_nil)))))))) (k := 7) (by kernel_rfl) (by decide) (ls := [(0, some 8), (1, some 9), (2, some 10), (3, some 11), (4, some 12), (5, some 7)]) (by kernel_rfl) (ir := [0, 1, 2, 3, 4, 5]) (by kernel_rfl) ?steps (tl := #[true, true, true, true, true, true, false]) (by kernel_rfl) ?fin
  case steps =>
    refine StepsL.cons (ps := []) rfl (by kernel_rfl) (fun wi hx => ?_) ?_
    · intro K hK
      go_simp
      exact hK _ _ ⟨.int .i64 wide, rfl, rfl, Ext.refl _⟩
    refine StepsL.cons (ps := []) rfl (by kernel_rfl) (fun wi hx => ?_) ?_
    · intro K hK
      go_simp
      exact hK _ _ ⟨.int .i64 deep, rfl, rfl, Ext.refl _⟩
    refine StepsL.cons (ps := [(0, some 8), (1, some 9)]) rfl (by kernel_rfl) (fun wi hx => ?_) ?_
    · intro v0 h0 v1 h1 K hK
      obtain rfl := h0
      obtain rfl := h1
      go_wp2_with fail
      refine (HE.out _ (by (repeat' (first | exact Ext.refl _ | (with_reducible assumption) | (with_reducible refine Ext.alloc ?_ _) | (with_reducible refine Ext.setCell ?_ (by first | exact Nat.le_refl _ | (dsimp only; omega) | (simp; done) | (simp; omega)) _) | (with_reducible refine Ext.drew ?_) | (with_reducible refine Ext.drewN ?_ _) | (refine Ext.trans ?_ (by with_reducible assumption)))))).mono ?_
      rintro e w2 ⟨q1, d1, rfl, ho, hx2⟩
      go_simp
      exact hK _ _ ⟨hallV W D q1 xs.length d1, rfl, ⟨q1, d1, rfl, own_base ho (by have := hx.sz; simp at this; omega)⟩, hx2⟩
    refine StepsL.cons (ps := []) rfl (by kernel_rfl) (fun wi hx => ?_) ?_
    · intro K hK
      have hx1 : Ext (w.alloc (.cells #[.int .i64 free, .int .i64 step, .int .i64 price, .int .i64 capp] 49)) wi := by (repeat' (first | exact Ext.refl _ | (with_reducible assumption) | (with_reducible refine Ext.alloc ?_ _) | (with_reducible refine Ext.setCell ?_ (by first | exact Nat.le_refl _ | (dsimp only; omega) | (simp; done) | (simp; omega)) _) | (with_reducible refine Ext.drew ?_) | (with_reducible refine Ext.drewN ?_ _) | (refine Ext.trans ?_ (by with_reducible assumption))))
      have B1 := (Blk.new w 49 #[.int .i64 free, .int .i64 step, .int .i64 price, .int .i64 capp]).ext hx1
      have t0 : wi.cell? ⟨w.heap.size, 0, none⟩ = some (.int .i64 free) := B1.cell 0
      have t1 : wi.cell? ⟨w.heap.size, 1, none⟩ = some (.int .i64 step) := B1.cell 1
      have t2 : wi.cell? ⟨w.heap.size, 2, none⟩ = some (.int .i64 price) := B1.cell 2
      have t3 : wi.cell? ⟨w.heap.size, 3, none⟩ = some (.int .i64 capp) := B1.cell 3
      go_simp
      exact hK _ _ ⟨.agg #[.int .i64 free, .int .i64 step, .int .i64 price, .int .i64 capp], rfl, rfl, Ext.refl _⟩
    refine StepsL.cons (ps := [(2, some 10), (3, some 11)]) rfl (by kernel_rfl) (fun wi hx => ?_) ?_
    · intro v2 h2 v3 h3 K hK
      obtain ⟨p2, c2, rfl, ho2⟩ := h2
      obtain rfl := h3
      go_simp
      exact hK _ _ ⟨.agg #[.int .i64 W, .int .i64 D, .slice p2 xs.length c2, .int .i64 free, .int .i64 step, .int .i64 price, .int .i64 capp, .int .i64 0, .int .i64 0, .slice none 0 0], rfl, ⟨p2, c2, rfl, ho2⟩, Ext.refl _⟩
    refine StepsL.cons (ps := []) rfl (by kernel_rfl) (fun wi hx => ?_) StepsL.nil
    · intro K hK
      go_simp
      exact hK _ _ ⟨.pointer (some ⟨wi.heap.size, 0, none⟩), rfl, ⟨wi.heap.size, rfl, by have := hx.sz; simp at this; omega, Blk.new _ _ _⟩, (Ext.refl _).alloc _⟩
  case fin =>
    intro wi hx v0 h0 v1 h1 v2 h2 v3 h3 v4 h4 v5 h5
    obtain rfl := h0
    obtain rfl := h1
    obtain ⟨p2, c2, rfl, ho2⟩ := h2
    obtain rfl := h3
    obtain ⟨p4, c4, rfl, ho4⟩ := h4
    obtain ⟨g5, rfl, hg5, B5⟩ := h5
    clear ho2
    have hz := hx.sz
    have hg6 : g5 < wi.heap.size := B5.lt
    simp at hz
    have hxw : Ext w wi := by (repeat' (first | exact Ext.refl _ | (with_reducible assumption) | (with_reducible refine Ext.alloc ?_ _) | (with_reducible refine Ext.setCell ?_ (by first | exact Nat.le_refl _ | (dsimp only; omega) | (simp; done) | (simp; omega)) _) | (with_reducible refine Ext.drew ?_) | (with_reducible refine Ext.drewN ?_ _) | (refine Ext.trans ?_ (by with_reducible assumption))))
    have BZ : Blk wi (w.heap.size + 1) 52 #[.int .i64 0, .int .i64 0, .slice none 0 0, .int .i64 0, .int .i64 0, .int .i64 0, .int .i64 0, .int .i64 0, .int .i64 0, .slice none 0 0] := by have := (Blk.new (w.alloc (.cells #[.int .i64 free, .int .i64 step, .int .i64 price, .int .i64 capp] 49)) 52 #[.int .i64 0, .int .i64 0, .slice none 0 0, .int .i64 0, .int .i64 0, .int .i64 0, .int .i64 0, .int .i64 0, .int .i64 0, .slice none 0 0]).ext hx.of_drew; simpa using this
    have z0 : wi.cell? ⟨g5, 0, none⟩ = some (.int .i64 0) := B5.cell 0
    have z1 : wi.cell? ⟨g5, 1, none⟩ = some (.int .i64 0) := B5.cell 1
    have z2 : wi.cell? ⟨g5, 2, none⟩ = some (.slice none 0 0) := B5.cell 2
    have z3 : wi.cell? ⟨g5, 3, none⟩ = some (.int .i64 0) := B5.cell 3
    have z4 : wi.cell? ⟨g5, 4, none⟩ = some (.int .i64 0) := B5.cell 4
    have z5 : wi.cell? ⟨g5, 5, none⟩ = some (.int .i64 0) := B5.cell 5
    have z6 : wi.cell? ⟨g5, 6, none⟩ = some (.int .i64 0) := B5.cell 6
    have z7 : wi.cell? ⟨g5, 7, none⟩ = some (.int .i64 0) := B5.cell 7
    have z8 : wi.cell? ⟨g5, 8, none⟩ = some (.int .i64 0) := B5.cell 8
    have z9 : wi.cell? ⟨g5, 9, none⟩ = some (.slice none 0 0) := B5.cell 9
    have zf0 : wi.frozen? ⟨g5, 0, none⟩ = false := B5.frozen 0
    have zf1 : wi.frozen? ⟨g5, 1, none⟩ = false := B5.frozen 1
    have zf2 : wi.frozen? ⟨g5, 2, none⟩ = false := B5.frozen 2
    have zf3 : wi.frozen? ⟨g5, 3, none⟩ = false := B5.frozen 3
    have zf4 : wi.frozen? ⟨g5, 4, none⟩ = false := B5.frozen 4
    have zf5 : wi.frozen? ⟨g5, 5, none⟩ = false := B5.frozen 5
    have zf6 : wi.frozen? ⟨g5, 6, none⟩ = false := B5.frozen 6
    have zf7 : wi.frozen? ⟨g5, 7, none⟩ = false := B5.frozen 7
    have zf8 : wi.frozen? ⟨g5, 8, none⟩ = false := B5.frozen 8
    have zf9 : wi.frozen? ⟨g5, 9, none⟩ = false := B5.frozen 9
    have BN := ((((((((((B5).set 0 (.int .i64 W)).set 1 (.int .i64 D)).set 2 (.slice p4 xs.length c4)).set 3 (.int .i64 free)).set 4 (.int .i64 step)).set 5 (.int .i64 price)).set 6 (.int .i64 capp)).set 7 (.int .i64 0)).set 8 (.int .i64 0)).set 9 (.slice none 0 0)
    simp only [List.setIfInBounds_toArray, List.set_cons_zero, List.set_cons_succ] at BN
    refine wpAny_ready (rs := [6]) (by kernel_rfl) (by simp) ?_
    refine AllReady.cons rfl (fun K hK => ?_) AllReady.nil
    go_simp
    refine hK _ _ ?_
    clear hK K
    clear z0 z1 z2 z3 z4 z5 z6 z7 z8 z9 zf0 zf1 zf2 zf3 zf4 zf5 zf6 zf7 zf8 zf9
    generalize hw3 : World.setCell _ _ _ = w3
    rw [hw3] at BN
    have hR : ExtR g5 wi w3 := by rw [← hw3]; exact ((((((((((ExtR.refl g5 wi).setCell (p := ⟨g5, 0, none⟩) (.inl rfl) (.int .i64 W)).setCell (p := ⟨g5, 1, none⟩) (.inl rfl) (.int .i64 D)).setCell (p := ⟨g5, 2, none⟩) (.inl rfl) (.slice p4 xs.length c4)).setCell (p := ⟨g5, 3, none⟩) (.inl rfl) (.int .i64 free)).setCell (p := ⟨g5, 4, none⟩) (.inl rfl) (.int .i64 step)).setCell (p := ⟨g5, 5, none⟩) (.inl rfl) (.int .i64 price)).setCell (p := ⟨g5, 6, none⟩) (.inl rfl) (.int .i64 capp)).setCell (p := ⟨g5, 7, none⟩) (.inl rfl) (.int .i64 0)).setCell (p := ⟨g5, 8, none⟩) (.inl rfl) (.int .i64 0)).setCell (p := ⟨g5, 9, none⟩) (.inl rfl) (.slice none 0 0)
    clear hw3
    have B3 := Lib.hid BN
    have Z3 := Lib.hid (show Blk w3 (w.heap.size + 1) 52 #[.int .i64 0, .int .i64 0, .slice none 0 0, .int .i64 0, .int .i64 0, .int .i64 0, .int .i64 0, .int .i64 0, .int .i64 0, .slice none 0 0] from (hR.block _ BZ.lt (by simp; omega)).trans BZ)
    have O3 := Lib.hid (ho4.kept hR (.inr (own_blk_ne ho4 B5 (by decide))))
    have X3 := Lib.hid (ExtR.new hxw hR (by omega))
    clear BN BZ ho4 hR hxw hx B5 hz
    refine wpAny_done (by kernel_rfl) ?_ _
    have n0 : w3.cell? ⟨g5, 0, none⟩ = some (.int .i64 W) := B3.out.cell 0
    have n1 : w3.cell? ⟨g5, 1, none⟩ = some (.int .i64 D) := B3.out.cell 1
    have n2 : w3.cell? ⟨g5, 2, none⟩ = some (.slice p4 xs.length c4) := B3.out.cell 2
    have n3 : w3.cell? ⟨g5, 3, none⟩ = some (.int .i64 free) := B3.out.cell 3
    have n4 : w3.cell? ⟨g5, 4, none⟩ = some (.int .i64 step) := B3.out.cell 4
    have n5 : w3.cell? ⟨g5, 5, none⟩ = some (.int .i64 price) := B3.out.cell 5
    have n6 : w3.cell? ⟨g5, 6, none⟩ = some (.int .i64 capp) := B3.out.cell 6
    have n7 : w3.cell? ⟨g5, 7, none⟩ = some (.int .i64 0) := B3.out.cell 7
    have n8 : w3.cell? ⟨g5, 8, none⟩ = some (.int .i64 0) := B3.out.cell 8
    have n9 : w3.cell? ⟨g5, 9, none⟩ = some (.slice none 0 0) := B3.out.cell 9
    go_wp2_with fail
    clear n0 n1 n2 n3 n4 n5 n6 n7 n8 n9
    refine (HV.out _ _ _ (Sl.own O3.out)).mono ?_
    rintro e w4 ⟨rfl, hx4⟩
    have B4 := Lib.hid (B3.out.ext hx4)
    have Z4 := Lib.hid (Z3.out.ext hx4)
    have O4 := Lib.hid (own_ext O3.out hx4)
    have X4 := Lib.hid (X3.out.trans hx4)
    clear hx4 B3 Z3 O3 X3
    have z0 : w4.cell? ⟨w.heap.size + 1, 0, none⟩ = some (.int .i64 0) := Z4.out.cell 0
    have z1 : w4.cell? ⟨w.heap.size + 1, 1, none⟩ = some (.int .i64 0) := Z4.out.cell 1
    have z2 : w4.cell? ⟨w.heap.size + 1, 2, none⟩ = some (.slice none 0 0) := Z4.out.cell 2
    have z3 : w4.cell? ⟨w.heap.size + 1, 3, none⟩ = some (.int .i64 0) := Z4.out.cell 3
    have z4 : w4.cell? ⟨w.heap.size + 1, 4, none⟩ = some (.int .i64 0) := Z4.out.cell 4
    have z5 : w4.cell? ⟨w.heap.size + 1, 5, none⟩ = some (.int .i64 0) := Z4.out.cell 5
    have z6 : w4.cell? ⟨w.heap.size + 1, 6, none⟩ = some (.int .i64 0) := Z4.out.cell 6
    have z7 : w4.cell? ⟨w.heap.size + 1, 7, none⟩ = some (.int .i64 0) := Z4.out.cell 7
    have z8 : w4.cell? ⟨w.heap.size + 1, 8, none⟩ = some (.int .i64 0) := Z4.out.cell 8
    have z9 : w4.cell? ⟨w.heap.size + 1, 9, none⟩ = some (.slice none 0 0) := Z4.out.cell 9
    have zf0 : w4.frozen? ⟨w.heap.size + 1, 0, none⟩ = false := Z4.out.frozen 0
    have zf1 : w4.frozen? ⟨w.heap.size + 1, 1, none⟩ = false := Z4.out.frozen 1
    have zf2 : w4.frozen? ⟨w.heap.size + 1, 2, none⟩ = false := Z4.out.frozen 2
    have zf3 : w4.frozen? ⟨w.heap.size + 1, 3, none⟩ = false := Z4.out.frozen 3
    have zf4 : w4.frozen? ⟨w.heap.size + 1, 4, none⟩ = false := Z4.out.frozen 4
    have zf5 : w4.frozen? ⟨w.heap.size + 1, 5, none⟩ = false := Z4.out.frozen 5
    have zf6 : w4.frozen? ⟨w.heap.size + 1, 6, none⟩ = false := Z4.out.frozen 6
    have zf7 : w4.frozen? ⟨w.heap.size + 1, 7, none⟩ = false := Z4.out.frozen 7
    have zf8 : w4.frozen? ⟨w.heap.size + 1, 8, none⟩ = false := Z4.out.frozen 8
    have zf9 : w4.frozen? ⟨w.heap.size + 1, 9, none⟩ = false := Z4.out.frozen 9
    have n0 : w4.cell? ⟨g5, 0, none⟩ = some (.int .i64 W) := B4.out.cell 0
    have n1 : w4.cell? ⟨g5, 1, none⟩ = some (.int .i64 D) := B4.out.cell 1
    have n2 : w4.cell? ⟨g5, 2, none⟩ = some (.slice p4 xs.length c4) := B4.out.cell 2
    have n3 : w4.cell? ⟨g5, 3, none⟩ = some (.int .i64 free) := B4.out.cell 3
    have n4 : w4.cell? ⟨g5, 4, none⟩ = some (.int .i64 step) := B4.out.cell 4
    have n5 : w4.cell? ⟨g5, 5, none⟩ = some (.int .i64 price) := B4.out.cell 5
    have n6 : w4.cell? ⟨g5, 6, none⟩ = some (.int .i64 capp) := B4.out.cell 6
    have n7 : w4.cell? ⟨g5, 7, none⟩ = some (.int .i64 0) := B4.out.cell 7
    have n8 : w4.cell? ⟨g5, 8, none⟩ = some (.int .i64 0) := B4.out.cell 8
    have n9 : w4.cell? ⟨g5, 9, none⟩ = some (.slice none 0 0) := B4.out.cell 9
    go_wp2
    generalize hw5 : World.setCell _ _ _ = w5
    have hR : ExtR (w.heap.size + 1) w4 w5 := by rw [← hw5]; exact ((((((((((ExtR.refl (w.heap.size + 1) w4).setCell (p := ⟨w.heap.size + 1, 0, none⟩) (.inl rfl) (.int .i64 W)).setCell (p := ⟨w.heap.size + 1, 1, none⟩) (.inl rfl) (.int .i64 D)).setCell (p := ⟨w.heap.size + 1, 2, none⟩) (.inl rfl) (.slice p4 xs.length c4)).setCell (p := ⟨w.heap.size + 1, 3, none⟩) (.inl rfl) (.int .i64 free)).setCell (p := ⟨w.heap.size + 1, 4, none⟩) (.inl rfl) (.int .i64 step)).setCell (p := ⟨w.heap.size + 1, 5, none⟩) (.inl rfl) (.int .i64 price)).setCell (p := ⟨w.heap.size + 1, 6, none⟩) (.inl rfl) (.int .i64 capp)).setCell (p := ⟨w.heap.size + 1, 7, none⟩) (.inl rfl) (.int .i64 0)).setCell (p := ⟨w.heap.size + 1, 8, none⟩) (.inl rfl) (.int .i64 0)).setCell (p := ⟨w.heap.size + 1, 9, none⟩) (.inl rfl) (.slice none 0 0)
    have O5 := O4.out.kept hR (.inr (own_blk_ne O4.out Z4.out (by decide)))
    have X5 := ExtR.new X4.out hR (by omega)
    have Z5 := Z4.out
    have Y5 := ((((((((((Z4.out).set 0 (.int .i64 W)).set 1 (.int .i64 D)).set 2 (.slice p4 xs.length c4)).set 3 (.int .i64 free)).set 4 (.int .i64 step)).set 5 (.int .i64 price)).set 6 (.int .i64 capp)).set 7 (.int .i64 0)).set 8 (.int .i64 0)).set 9 (.slice none 0 0)
    simp only [List.setIfInBounds_toArray, List.set_cons_zero, List.set_cons_succ] at Y5
    rw [hw5] at Y5
    clear hw5 Z5 z0 zf0 z1 zf1 z2 zf2 z3 zf3 z4 zf4 z5 zf5 z6 zf6 z7 zf7 z8 zf8 z9 zf9 n0 n1 n2 n3 n4 n5 n6 n7 n8 n9
    have y0 : w5.cell? ⟨w.heap.size + 1, 0, none⟩ = some (.int .i64 W) := Y5.cell 0
    have y1 : w5.cell? ⟨w.heap.size + 1, 1, none⟩ = some (.int .i64 D) := Y5.cell 1
    have y2 : w5.cell? ⟨w.heap.size + 1, 2, none⟩ = some (.slice p4 xs.length c4) := Y5.cell 2
    have y3 : w5.cell? ⟨w.heap.size + 1, 3, none⟩ = some (.int .i64 free) := Y5.cell 3
    have y4 : w5.cell? ⟨w.heap.size + 1, 4, none⟩ = some (.int .i64 step) := Y5.cell 4
    have y5 : w5.cell? ⟨w.heap.size + 1, 5, none⟩ = some (.int .i64 price) := Y5.cell 5
    have y6 : w5.cell? ⟨w.heap.size + 1, 6, none⟩ = some (.int .i64 capp) := Y5.cell 6
    have y7 : w5.cell? ⟨w.heap.size + 1, 7, none⟩ = some (.int .i64 0) := Y5.cell 7
    have y8 : w5.cell? ⟨w.heap.size + 1, 8, none⟩ = some (.int .i64 0) := Y5.cell 8
    have y9 : w5.cell? ⟨w.heap.size + 1, 9, none⟩ = some (.slice none 0 0) := Y5.cell 9
    exact bodyPost_ret (v := .agg #[.int .i64 W, .int .i64 D, .slice p4 xs.length c4, .int .i64 free, .int .i64 step, .int .i64 price, .int .i64 capp, .int .i64 0, .int .i64 0, .slice none 0 0]) (by simp [results, Tryd.results26, go_sem, *]) rfl (ret_house0 O5 X5)

set_option maxRecDepth 100000 in
set_option maxHeartbeats 1000000 in
theorem specHn_no1 (wide deep free step price capp W D : Int) (xs : List Int) (w : World) (tok : Bool) (HE : Hid (∀ w', Ext w w' → Calls Tryd.prog 72 #[.int .i64 wide, .int .i64 deep] w' (RetHall W D xs w')))
    (HV : Hid (∀ w' p c, Sl w' p xs.length c 1 (ivs xs) → Calls Tryd.prog 73 #[hallV W D p xs.length c] w' fun e w'' => e = .returned (.bool false) ∧ Ext w' w''))
    (HT : Hid (∀ w', Calls Tryd.prog 74 #[tariffV free step price capp] w' fun e w'' => e = .returned (.bool tok) ∧ Ext w' w'')) :
    Calls Tryd.prog 28 #[.int .i64 wide, .int .i64 deep, tariffV free step price capp] w (RetHouse houseZero w) := by
  go_enter Tryd.func28, Tryd.ntmps28
  go_wp2_with fail
  refine (HE.out _ (by (repeat' (first | exact Ext.refl _ | (with_reducible assumption) | (with_reducible refine Ext.alloc ?_ _) | (with_reducible refine Ext.setCell ?_ (by first | exact Nat.le_refl _ | (dsimp only; omega) | (simp; done) | (simp; omega)) _) | (with_reducible refine Ext.drew ?_) | (with_reducible refine Ext.drewN ?_ _) | (refine Ext.trans ?_ (by with_reducible assumption)))))).mono ?_
  rintro e w1 ⟨p1, c1, rfl, o1, hx1⟩
  have BT : Blk w1 (w.heap.size) 49 #[.int .i64 free, .int .i64 step, .int .i64 price, .int .i64 capp] := by have := (Blk.new w 49 #[.int .i64 free, .int .i64 step, .int .i64 price, .int .i64 capp]).ext (((Ext.refl _).alloc _).trans hx1); simpa using this
  have BZ : Blk w1 (w.heap.size + 1) 52 #[.int .i64 0, .int .i64 0, .slice none 0 0, .int .i64 0, .int .i64 0, .int .i64 0, .int .i64 0, .int .i64 0, .int .i64 0, .slice none 0 0] := by have := (Blk.new (w.alloc (.cells #[.int .i64 free, .int .i64 step, .int .i64 price, .int .i64 capp] 49)) 52 #[.int .i64 0, .int .i64 0, .slice none 0 0, .int .i64 0, .int .i64 0, .int .i64 0, .int .i64 0, .int .i64 0, .int .i64 0, .slice none 0 0]).ext ((Ext.refl _).trans hx1); simpa using this
  have X1 := Lib.hid (show Ext w w1 by (repeat' (first | exact Ext.refl _ | (with_reducible assumption) | (with_reducible refine Ext.alloc ?_ _) | (with_reducible refine Ext.setCell ?_ (by first | exact Nat.le_refl _ | (dsimp only; omega) | (simp; done) | (simp; omega)) _) | (with_reducible refine Ext.drew ?_) | (with_reducible refine Ext.drewN ?_ _) | (refine Ext.trans ?_ (by with_reducible assumption)))))
  have O1 := Lib.hid (own_base o1 (show w.heap.size ≤ _ by simp; omega))
  have H1 := Lib.hid (Sl.own O1.out)
  have BTH := Lib.hid BT
  have BZH := Lib.hid BZ
  have s1 : w.heap.size + 1 < w1.heap.size := BZ.lt
  clear BT BZ o1 hx1
  go_wp2_with fail
  refine (HV.out _ _ _ (H1.out.ext (by (repeat' (first | exact Ext.refl _ | (with_reducible assumption) | (with_reducible refine Ext.alloc ?_ _) | (with_reducible refine Ext.setCell ?_ (by first | exact Nat.le_refl _ | (dsimp only; omega) | (simp; done) | (simp; omega)) _) | (with_reducible refine Ext.drew ?_) | (with_reducible refine Ext.drewN ?_ _) | (refine Ext.trans ?_ (by with_reducible assumption))))))).mono ?_
  rintro e w2 ⟨rfl, hx2⟩
  have BH2 := Lib.hid ((Blk.new w1 48 #[.int .i64 W, .int .i64 D, .slice p1 xs.length c1]).ext hx2)
  have hy2 : Ext w1 w2 := by (repeat' (first | exact Ext.refl _ | (with_reducible assumption) | (with_reducible refine Ext.alloc ?_ _) | (with_reducible refine Ext.setCell ?_ (by first | exact Nat.le_refl _ | (dsimp only; omega) | (simp; done) | (simp; omega)) _) | (with_reducible refine Ext.drew ?_) | (with_reducible refine Ext.drewN ?_ _) | (refine Ext.trans ?_ (by with_reducible assumption))))
  have BT2 := Lib.hid (BTH.out.ext hy2)
  have BZ2 := Lib.hid (BZH.out.ext hy2)
  have O2 := Lib.hid (own_ext O1.out hy2)
  have X2 := Lib.hid (X1.out.trans hy2)
  have s2 : w1.heap.size < w2.heap.size := BH2.out.lt
  clear hx2 hy2 BTH BZH O1 X1 H1
  have z0 : w2.cell? ⟨w.heap.size + 1, 0, none⟩ = some (.int .i64 0) := BZ2.out.cell 0
  have z1 : w2.cell? ⟨w.heap.size + 1, 1, none⟩ = some (.int .i64 0) := BZ2.out.cell 1
  have z2 : w2.cell? ⟨w.heap.size + 1, 2, none⟩ = some (.slice none 0 0) := BZ2.out.cell 2
  have z3 : w2.cell? ⟨w.heap.size + 1, 3, none⟩ = some (.int .i64 0) := BZ2.out.cell 3
  have z4 : w2.cell? ⟨w.heap.size + 1, 4, none⟩ = some (.int .i64 0) := BZ2.out.cell 4
  have z5 : w2.cell? ⟨w.heap.size + 1, 5, none⟩ = some (.int .i64 0) := BZ2.out.cell 5
  have z6 : w2.cell? ⟨w.heap.size + 1, 6, none⟩ = some (.int .i64 0) := BZ2.out.cell 6
  have z7 : w2.cell? ⟨w.heap.size + 1, 7, none⟩ = some (.int .i64 0) := BZ2.out.cell 7
  have z8 : w2.cell? ⟨w.heap.size + 1, 8, none⟩ = some (.int .i64 0) := BZ2.out.cell 8
  have z9 : w2.cell? ⟨w.heap.size + 1, 9, none⟩ = some (.slice none 0 0) := BZ2.out.cell 9
  have zf0 : w2.frozen? ⟨w.heap.size + 1, 0, none⟩ = false := BZ2.out.frozen 0
  have zf1 : w2.frozen? ⟨w.heap.size + 1, 1, none⟩ = false := BZ2.out.frozen 1
  have zf2 : w2.frozen? ⟨w.heap.size + 1, 2, none⟩ = false := BZ2.out.frozen 2
  have zf3 : w2.frozen? ⟨w.heap.size + 1, 3, none⟩ = false := BZ2.out.frozen 3
  have zf4 : w2.frozen? ⟨w.heap.size + 1, 4, none⟩ = false := BZ2.out.frozen 4
  have zf5 : w2.frozen? ⟨w.heap.size + 1, 5, none⟩ = false := BZ2.out.frozen 5
  have zf6 : w2.frozen? ⟨w.heap.size + 1, 6, none⟩ = false := BZ2.out.frozen 6
  have zf7 : w2.frozen? ⟨w.heap.size + 1, 7, none⟩ = false := BZ2.out.frozen 7
  have zf8 : w2.frozen? ⟨w.heap.size + 1, 8, none⟩ = false := BZ2.out.frozen 8
  have zf9 : w2.frozen? ⟨w.heap.size + 1, 9, none⟩ = false := BZ2.out.frozen 9
  go_wp2
  exact bodyPost_ret (v := .agg #[.int .i64 0, .int .i64 0, .slice none 0 0, .int .i64 0, .int .i64 0, .int .i64 0, .int .i64 0, .int .i64 0, .int .i64 0, .slice none 0 0]) (by simp [results, Tryd.results28, go_sem, *]) rfl ⟨none, 0, none, 0, rfl, World.ownsRow_nil _ _ _ _, World.ownsRow_nil _ _ _ _, ((((((((((X2.out.setCell (p := ⟨w.heap.size + 1, 0, none⟩) (by dsimp only; omega) (.int .i64 0)).setCell (p := ⟨w.heap.size + 1, 1, none⟩) (by dsimp only; omega) (.int .i64 0)).setCell (p := ⟨w.heap.size + 1, 2, none⟩) (by dsimp only; omega) (.slice none 0 0)).setCell (p := ⟨w.heap.size + 1, 3, none⟩) (by dsimp only; omega) (.int .i64 0)).setCell (p := ⟨w.heap.size + 1, 4, none⟩) (by dsimp only; omega) (.int .i64 0)).setCell (p := ⟨w.heap.size + 1, 5, none⟩) (by dsimp only; omega) (.int .i64 0)).setCell (p := ⟨w.heap.size + 1, 6, none⟩) (by dsimp only; omega) (.int .i64 0)).setCell (p := ⟨w.heap.size + 1, 7, none⟩) (by dsimp only; omega) (.int .i64 0)).setCell (p := ⟨w.heap.size + 1, 8, none⟩) (by dsimp only; omega) (.int .i64 0)).setCell (p := ⟨w.heap.size + 1, 9, none⟩) (by dsimp only; omega) (.slice none 0 0))⟩

set_option maxRecDepth 100000 in
set_option maxHeartbeats 1000000 in
theorem specHn_no2 (wide deep free step price capp W D : Int) (xs : List Int) (w : World) (tok : Bool) (HE : Hid (∀ w', Ext w w' → Calls Tryd.prog 72 #[.int .i64 wide, .int .i64 deep] w' (RetHall W D xs w')))
    (HV : Hid (∀ w' p c, Sl w' p xs.length c 1 (ivs xs) → Calls Tryd.prog 73 #[hallV W D p xs.length c] w' fun e w'' => e = .returned (.bool true) ∧ Ext w' w''))
    (HT : Hid (∀ w', Calls Tryd.prog 74 #[tariffV free step price capp] w' fun e w'' => e = .returned (.bool false) ∧ Ext w' w'')) :
    Calls Tryd.prog 28 #[.int .i64 wide, .int .i64 deep, tariffV free step price capp] w (RetHouse houseZero w) := by
  go_enter Tryd.func28, Tryd.ntmps28
  go_wp2_with fail
  refine (HE.out _ (by (repeat' (first | exact Ext.refl _ | (with_reducible assumption) | (with_reducible refine Ext.alloc ?_ _) | (with_reducible refine Ext.setCell ?_ (by first | exact Nat.le_refl _ | (dsimp only; omega) | (simp; done) | (simp; omega)) _) | (with_reducible refine Ext.drew ?_) | (with_reducible refine Ext.drewN ?_ _) | (refine Ext.trans ?_ (by with_reducible assumption)))))).mono ?_
  rintro e w1 ⟨p1, c1, rfl, o1, hx1⟩
  have BT : Blk w1 (w.heap.size) 49 #[.int .i64 free, .int .i64 step, .int .i64 price, .int .i64 capp] := by have := (Blk.new w 49 #[.int .i64 free, .int .i64 step, .int .i64 price, .int .i64 capp]).ext (((Ext.refl _).alloc _).trans hx1); simpa using this
  have BZ : Blk w1 (w.heap.size + 1) 52 #[.int .i64 0, .int .i64 0, .slice none 0 0, .int .i64 0, .int .i64 0, .int .i64 0, .int .i64 0, .int .i64 0, .int .i64 0, .slice none 0 0] := by have := (Blk.new (w.alloc (.cells #[.int .i64 free, .int .i64 step, .int .i64 price, .int .i64 capp] 49)) 52 #[.int .i64 0, .int .i64 0, .slice none 0 0, .int .i64 0, .int .i64 0, .int .i64 0, .int .i64 0, .int .i64 0, .int .i64 0, .slice none 0 0]).ext ((Ext.refl _).trans hx1); simpa using this
  have X1 := Lib.hid (show Ext w w1 by (repeat' (first | exact Ext.refl _ | (with_reducible assumption) | (with_reducible refine Ext.alloc ?_ _) | (with_reducible refine Ext.setCell ?_ (by first | exact Nat.le_refl _ | (dsimp only; omega) | (simp; done) | (simp; omega)) _) | (with_reducible refine Ext.drew ?_) | (with_reducible refine Ext.drewN ?_ _) | (refine Ext.trans ?_ (by with_reducible assumption)))))
  have O1 := Lib.hid (own_base o1 (show w.heap.size ≤ _ by simp; omega))
  have H1 := Lib.hid (Sl.own O1.out)
  have BTH := Lib.hid BT
  have BZH := Lib.hid BZ
  have s1 : w.heap.size + 1 < w1.heap.size := BZ.lt
  clear BT BZ o1 hx1
  go_wp2_with fail
  refine (HV.out _ _ _ (H1.out.ext (by (repeat' (first | exact Ext.refl _ | (with_reducible assumption) | (with_reducible refine Ext.alloc ?_ _) | (with_reducible refine Ext.setCell ?_ (by first | exact Nat.le_refl _ | (dsimp only; omega) | (simp; done) | (simp; omega)) _) | (with_reducible refine Ext.drew ?_) | (with_reducible refine Ext.drewN ?_ _) | (refine Ext.trans ?_ (by with_reducible assumption))))))).mono ?_
  rintro e w2 ⟨rfl, hx2⟩
  have BH2 := Lib.hid ((Blk.new w1 48 #[.int .i64 W, .int .i64 D, .slice p1 xs.length c1]).ext hx2)
  have hy2 : Ext w1 w2 := by (repeat' (first | exact Ext.refl _ | (with_reducible assumption) | (with_reducible refine Ext.alloc ?_ _) | (with_reducible refine Ext.setCell ?_ (by first | exact Nat.le_refl _ | (dsimp only; omega) | (simp; done) | (simp; omega)) _) | (with_reducible refine Ext.drew ?_) | (with_reducible refine Ext.drewN ?_ _) | (refine Ext.trans ?_ (by with_reducible assumption))))
  have BT2 := Lib.hid (BTH.out.ext hy2)
  have BZ2 := Lib.hid (BZH.out.ext hy2)
  have O2 := Lib.hid (own_ext O1.out hy2)
  have X2 := Lib.hid (X1.out.trans hy2)
  have s2 : w1.heap.size < w2.heap.size := BH2.out.lt
  clear hx2 hy2 BTH BZH O1 X1 H1
  have t0 : w2.cell? ⟨w.heap.size, 0, none⟩ = some (.int .i64 free) := BT2.out.cell 0
  have t1 : w2.cell? ⟨w.heap.size, 1, none⟩ = some (.int .i64 step) := BT2.out.cell 1
  have t2 : w2.cell? ⟨w.heap.size, 2, none⟩ = some (.int .i64 price) := BT2.out.cell 2
  have t3 : w2.cell? ⟨w.heap.size, 3, none⟩ = some (.int .i64 capp) := BT2.out.cell 3
  go_wp2_with fail
  clear t0 t1 t2 t3
  refine (HT.out _).mono ?_
  rintro e w3 ⟨rfl, hx3⟩
  have BT3 := Lib.hid (BT2.out.ext hx3)
  have BZ3 := Lib.hid (BZ2.out.ext hx3)
  have BH3 := Lib.hid (BH2.out.ext hx3)
  have O3 := Lib.hid (own_ext O2.out hx3)
  have X3 := Lib.hid (X2.out.trans hx3)
  have s3 : w2.heap.size ≤ w3.heap.size := hx3.sz
  clear hx3 BT2 BZ2 BH2 O2 X2
  have z0 : w3.cell? ⟨w.heap.size + 1, 0, none⟩ = some (.int .i64 0) := BZ3.out.cell 0
  have z1 : w3.cell? ⟨w.heap.size + 1, 1, none⟩ = some (.int .i64 0) := BZ3.out.cell 1
  have z2 : w3.cell? ⟨w.heap.size + 1, 2, none⟩ = some (.slice none 0 0) := BZ3.out.cell 2
  have z3 : w3.cell? ⟨w.heap.size + 1, 3, none⟩ = some (.int .i64 0) := BZ3.out.cell 3
  have z4 : w3.cell? ⟨w.heap.size + 1, 4, none⟩ = some (.int .i64 0) := BZ3.out.cell 4
  have z5 : w3.cell? ⟨w.heap.size + 1, 5, none⟩ = some (.int .i64 0) := BZ3.out.cell 5
  have z6 : w3.cell? ⟨w.heap.size + 1, 6, none⟩ = some (.int .i64 0) := BZ3.out.cell 6
  have z7 : w3.cell? ⟨w.heap.size + 1, 7, none⟩ = some (.int .i64 0) := BZ3.out.cell 7
  have z8 : w3.cell? ⟨w.heap.size + 1, 8, none⟩ = some (.int .i64 0) := BZ3.out.cell 8
  have z9 : w3.cell? ⟨w.heap.size + 1, 9, none⟩ = some (.slice none 0 0) := BZ3.out.cell 9
  have zf0 : w3.frozen? ⟨w.heap.size + 1, 0, none⟩ = false := BZ3.out.frozen 0
  have zf1 : w3.frozen? ⟨w.heap.size + 1, 1, none⟩ = false := BZ3.out.frozen 1
  have zf2 : w3.frozen? ⟨w.heap.size + 1, 2, none⟩ = false := BZ3.out.frozen 2
  have zf3 : w3.frozen? ⟨w.heap.size + 1, 3, none⟩ = false := BZ3.out.frozen 3
  have zf4 : w3.frozen? ⟨w.heap.size + 1, 4, none⟩ = false := BZ3.out.frozen 4
  have zf5 : w3.frozen? ⟨w.heap.size + 1, 5, none⟩ = false := BZ3.out.frozen 5
  have zf6 : w3.frozen? ⟨w.heap.size + 1, 6, none⟩ = false := BZ3.out.frozen 6
  have zf7 : w3.frozen? ⟨w.heap.size + 1, 7, none⟩ = false := BZ3.out.frozen 7
  have zf8 : w3.frozen? ⟨w.heap.size + 1, 8, none⟩ = false := BZ3.out.frozen 8
  have zf9 : w3.frozen? ⟨w.heap.size + 1, 9, none⟩ = false := BZ3.out.frozen 9
  go_wp2
  exact bodyPost_ret (v := .agg #[.int .i64 0, .int .i64 0, .slice none 0 0, .int .i64 0, .int .i64 0, .int .i64 0, .int .i64 0, .int .i64 0, .int .i64 0, .slice none 0 0]) (by simp [results, Tryd.results28, go_sem, *]) rfl ⟨none, 0, none, 0, rfl, World.ownsRow_nil _ _ _ _, World.ownsRow_nil _ _ _ _, ((((((((((X3.out.setCell (p := ⟨w.heap.size + 1, 0, none⟩) (by dsimp only; omega) (.int .i64 0)).setCell (p := ⟨w.heap.size + 1, 1, none⟩) (by dsimp only; omega) (.int .i64 0)).setCell (p := ⟨w.heap.size + 1, 2, none⟩) (by dsimp only; omega) (.slice none 0 0)).setCell (p := ⟨w.heap.size + 1, 3, none⟩) (by dsimp only; omega) (.int .i64 0)).setCell (p := ⟨w.heap.size + 1, 4, none⟩) (by dsimp only; omega) (.int .i64 0)).setCell (p := ⟨w.heap.size + 1, 5, none⟩) (by dsimp only; omega) (.int .i64 0)).setCell (p := ⟨w.heap.size + 1, 6, none⟩) (by dsimp only; omega) (.int .i64 0)).setCell (p := ⟨w.heap.size + 1, 7, none⟩) (by dsimp only; omega) (.int .i64 0)).setCell (p := ⟨w.heap.size + 1, 8, none⟩) (by dsimp only; omega) (.int .i64 0)).setCell (p := ⟨w.heap.size + 1, 9, none⟩) (by dsimp only; omega) (.slice none 0 0))⟩

set_option maxRecDepth 100000 in
set_option maxHeartbeats 1000000 in
theorem specHn_yes (wide deep free step price capp W D : Int) (xs : List Int) (w : World) (tok : Bool) (HE : Hid (∀ w', Ext w w' → Calls Tryd.prog 72 #[.int .i64 wide, .int .i64 deep] w' (RetHall W D xs w')))
    (HV : Hid (∀ w' p c, Sl w' p xs.length c 1 (ivs xs) → Calls Tryd.prog 73 #[hallV W D p xs.length c] w' fun e w'' => e = .returned (.bool true) ∧ Ext w' w''))
    (HT : Hid (∀ w', Calls Tryd.prog 74 #[tariffV free step price capp] w' fun e w'' => e = .returned (.bool true) ∧ Ext w' w'')) :
    Calls Tryd.prog 28 #[.int .i64 wide, .int .i64 deep, tariffV free step price capp] w (RetHouse ⟨W, D, xs, free, step, price, capp, 0, 0, []⟩ w) := by
  go_enter Tryd.func28, Tryd.ntmps28
  go_wp2_with fail
  refine (HE.out _ (by (repeat' (first | exact Ext.refl _ | (with_reducible assumption) | (with_reducible refine Ext.alloc ?_ _) | (with_reducible refine Ext.setCell ?_ (by first | exact Nat.le_refl _ | (dsimp only; omega) | (simp; done) | (simp; omega)) _) | (with_reducible refine Ext.drew ?_) | (with_reducible refine Ext.drewN ?_ _) | (refine Ext.trans ?_ (by with_reducible assumption)))))).mono ?_
  rintro e w1 ⟨p1, c1, rfl, o1, hx1⟩
  have BT : Blk w1 (w.heap.size) 49 #[.int .i64 free, .int .i64 step, .int .i64 price, .int .i64 capp] := by have := (Blk.new w 49 #[.int .i64 free, .int .i64 step, .int .i64 price, .int .i64 capp]).ext (((Ext.refl _).alloc _).trans hx1); simpa using this
  have BZ : Blk w1 (w.heap.size + 1) 52 #[.int .i64 0, .int .i64 0, .slice none 0 0, .int .i64 0, .int .i64 0, .int .i64 0, .int .i64 0, .int .i64 0, .int .i64 0, .slice none 0 0] := by have := (Blk.new (w.alloc (.cells #[.int .i64 free, .int .i64 step, .int .i64 price, .int .i64 capp] 49)) 52 #[.int .i64 0, .int .i64 0, .slice none 0 0, .int .i64 0, .int .i64 0, .int .i64 0, .int .i64 0, .int .i64 0, .int .i64 0, .slice none 0 0]).ext ((Ext.refl _).trans hx1); simpa using this
  have X1 := Lib.hid (show Ext w w1 by (repeat' (first | exact Ext.refl _ | (with_reducible assumption) | (with_reducible refine Ext.alloc ?_ _) | (with_reducible refine Ext.setCell ?_ (by first | exact Nat.le_refl _ | (dsimp only; omega) | (simp; done) | (simp; omega)) _) | (with_reducible refine Ext.drew ?_) | (with_reducible refine Ext.drewN ?_ _) | (refine Ext.trans ?_ (by with_reducible assumption)))))
  have O1 := Lib.hid (own_base o1 (show w.heap.size ≤ _ by simp; omega))
  have H1 := Lib.hid (Sl.own O1.out)
  have BTH := Lib.hid BT
  have BZH := Lib.hid BZ
  have s1 : w.heap.size + 1 < w1.heap.size := BZ.lt
  clear BT BZ o1 hx1
  go_wp2_with fail
  refine (HV.out _ _ _ (H1.out.ext (by (repeat' (first | exact Ext.refl _ | (with_reducible assumption) | (with_reducible refine Ext.alloc ?_ _) | (with_reducible refine Ext.setCell ?_ (by first | exact Nat.le_refl _ | (dsimp only; omega) | (simp; done) | (simp; omega)) _) | (with_reducible refine Ext.drew ?_) | (with_reducible refine Ext.drewN ?_ _) | (refine Ext.trans ?_ (by with_reducible assumption))))))).mono ?_
  rintro e w2 ⟨rfl, hx2⟩
  have BH2 := Lib.hid ((Blk.new w1 48 #[.int .i64 W, .int .i64 D, .slice p1 xs.length c1]).ext hx2)
  have hy2 : Ext w1 w2 := by (repeat' (first | exact Ext.refl _ | (with_reducible assumption) | (with_reducible refine Ext.alloc ?_ _) | (with_reducible refine Ext.setCell ?_ (by first | exact Nat.le_refl _ | (dsimp only; omega) | (simp; done) | (simp; omega)) _) | (with_reducible refine Ext.drew ?_) | (with_reducible refine Ext.drewN ?_ _) | (refine Ext.trans ?_ (by with_reducible assumption))))
  have BT2 := Lib.hid (BTH.out.ext hy2)
  have BZ2 := Lib.hid (BZH.out.ext hy2)
  have O2 := Lib.hid (own_ext O1.out hy2)
  have X2 := Lib.hid (X1.out.trans hy2)
  have s2 : w1.heap.size < w2.heap.size := BH2.out.lt
  clear hx2 hy2 BTH BZH O1 X1 H1
  have t0 : w2.cell? ⟨w.heap.size, 0, none⟩ = some (.int .i64 free) := BT2.out.cell 0
  have t1 : w2.cell? ⟨w.heap.size, 1, none⟩ = some (.int .i64 step) := BT2.out.cell 1
  have t2 : w2.cell? ⟨w.heap.size, 2, none⟩ = some (.int .i64 price) := BT2.out.cell 2
  have t3 : w2.cell? ⟨w.heap.size, 3, none⟩ = some (.int .i64 capp) := BT2.out.cell 3
  go_wp2_with fail
  clear t0 t1 t2 t3
  refine (HT.out _).mono ?_
  rintro e w3 ⟨rfl, hx3⟩
  have BT3 := Lib.hid (BT2.out.ext hx3)
  have BZ3 := Lib.hid (BZ2.out.ext hx3)
  have BH3 := Lib.hid (BH2.out.ext hx3)
  have O3 := Lib.hid (own_ext O2.out hx3)
  have X3 := Lib.hid (X2.out.trans hx3)
  have s3 : w2.heap.size ≤ w3.heap.size := hx3.sz
  clear hx3 BT2 BZ2 BH2 O2 X2
  have t0 : w3.cell? ⟨w.heap.size, 0, none⟩ = some (.int .i64 free) := BT3.out.cell 0
  have t1 : w3.cell? ⟨w.heap.size, 1, none⟩ = some (.int .i64 step) := BT3.out.cell 1
  have t2 : w3.cell? ⟨w.heap.size, 2, none⟩ = some (.int .i64 price) := BT3.out.cell 2
  have t3 : w3.cell? ⟨w.heap.size, 3, none⟩ = some (.int .i64 capp) := BT3.out.cell 3
  have h0 : w3.cell? ⟨w1.heap.size, 0, none⟩ = some (.int .i64 W) := BH3.out.cell 0
  have h1 : w3.cell? ⟨w1.heap.size, 1, none⟩ = some (.int .i64 D) := BH3.out.cell 1
  have h2 : w3.cell? ⟨w1.heap.size, 2, none⟩ = some (.slice p1 xs.length c1) := BH3.out.cell 2
  have z0 : w3.cell? ⟨w.heap.size + 1, 0, none⟩ = some (.int .i64 0) := BZ3.out.cell 0
  have z1 : w3.cell? ⟨w.heap.size + 1, 1, none⟩ = some (.int .i64 0) := BZ3.out.cell 1
  have z2 : w3.cell? ⟨w.heap.size + 1, 2, none⟩ = some (.slice none 0 0) := BZ3.out.cell 2
  have z3 : w3.cell? ⟨w.heap.size + 1, 3, none⟩ = some (.int .i64 0) := BZ3.out.cell 3
  have z4 : w3.cell? ⟨w.heap.size + 1, 4, none⟩ = some (.int .i64 0) := BZ3.out.cell 4
  have z5 : w3.cell? ⟨w.heap.size + 1, 5, none⟩ = some (.int .i64 0) := BZ3.out.cell 5
  have z6 : w3.cell? ⟨w.heap.size + 1, 6, none⟩ = some (.int .i64 0) := BZ3.out.cell 6
  have z7 : w3.cell? ⟨w.heap.size + 1, 7, none⟩ = some (.int .i64 0) := BZ3.out.cell 7
  have z8 : w3.cell? ⟨w.heap.size + 1, 8, none⟩ = some (.int .i64 0) := BZ3.out.cell 8
  have z9 : w3.cell? ⟨w.heap.size + 1, 9, none⟩ = some (.slice none 0 0) := BZ3.out.cell 9
  have zf0 : w3.frozen? ⟨w.heap.size + 1, 0, none⟩ = false := BZ3.out.frozen 0
  have zf1 : w3.frozen? ⟨w.heap.size + 1, 1, none⟩ = false := BZ3.out.frozen 1
  have zf2 : w3.frozen? ⟨w.heap.size + 1, 2, none⟩ = false := BZ3.out.frozen 2
  have zf3 : w3.frozen? ⟨w.heap.size + 1, 3, none⟩ = false := BZ3.out.frozen 3
  have zf4 : w3.frozen? ⟨w.heap.size + 1, 4, none⟩ = false := BZ3.out.frozen 4
  have zf5 : w3.frozen? ⟨w.heap.size + 1, 5, none⟩ = false := BZ3.out.frozen 5
  have zf6 : w3.frozen? ⟨w.heap.size + 1, 6, none⟩ = false := BZ3.out.frozen 6
  have zf7 : w3.frozen? ⟨w.heap.size + 1, 7, none⟩ = false := BZ3.out.frozen 7
  have zf8 : w3.frozen? ⟨w.heap.size + 1, 8, none⟩ = false := BZ3.out.frozen 8
  have zf9 : w3.frozen? ⟨w.heap.size + 1, 9, none⟩ = false := BZ3.out.frozen 9
  go_wp2
  generalize hw5 : World.setCell _ _ _ = w5
  have hR : ExtR (w.heap.size + 1) w3 w5 := by rw [← hw5]; exact ((((((((((ExtR.refl (w.heap.size + 1) w3).setCell (p := ⟨w.heap.size + 1, 0, none⟩) (.inl rfl) (.int .i64 W)).setCell (p := ⟨w.heap.size + 1, 1, none⟩) (.inl rfl) (.int .i64 D)).setCell (p := ⟨w.heap.size + 1, 2, none⟩) (.inl rfl) (.slice p1 xs.length c1)).setCell (p := ⟨w.heap.size + 1, 3, none⟩) (.inl rfl) (.int .i64 free)).setCell (p := ⟨w.heap.size + 1, 4, none⟩) (.inl rfl) (.int .i64 step)).setCell (p := ⟨w.heap.size + 1, 5, none⟩) (.inl rfl) (.int .i64 price)).setCell (p := ⟨w.heap.size + 1, 6, none⟩) (.inl rfl) (.int .i64 capp)).setCell (p := ⟨w.heap.size + 1, 7, none⟩) (.inl rfl) (.int .i64 0)).setCell (p := ⟨w.heap.size + 1, 8, none⟩) (.inl rfl) (.int .i64 0)).setCell (p := ⟨w.heap.size + 1, 9, none⟩) (.inl rfl) (.slice none 0 0)
  have O5 := O3.out.kept hR (.inr (own_blk_ne O3.out BZ3.out (by decide)))
  have X5 := ExtR.new X3.out hR (by omega)
  have Y5 := ((((((((((BZ3.out).set 0 (.int .i64 W)).set 1 (.int .i64 D)).set 2 (.slice p1 xs.length c1)).set 3 (.int .i64 free)).set 4 (.int .i64 step)).set 5 (.int .i64 price)).set 6 (.int .i64 capp)).set 7 (.int .i64 0)).set 8 (.int .i64 0)).set 9 (.slice none 0 0)
  simp only [List.setIfInBounds_toArray, List.set_cons_zero, List.set_cons_succ] at Y5
  rw [hw5] at Y5
  clear hw5 z0 zf0 z1 zf1 z2 zf2 z3 zf3 z4 zf4 z5 zf5 z6 zf6 z7 zf7 z8 zf8 z9 zf9 t0 t1 t2 t3 h0 h1 h2
  have y0 : w5.cell? ⟨w.heap.size + 1, 0, none⟩ = some (.int .i64 W) := Y5.cell 0
  have y1 : w5.cell? ⟨w.heap.size + 1, 1, none⟩ = some (.int .i64 D) := Y5.cell 1
  have y2 : w5.cell? ⟨w.heap.size + 1, 2, none⟩ = some (.slice p1 xs.length c1) := Y5.cell 2
  have y3 : w5.cell? ⟨w.heap.size + 1, 3, none⟩ = some (.int .i64 free) := Y5.cell 3
  have y4 : w5.cell? ⟨w.heap.size + 1, 4, none⟩ = some (.int .i64 step) := Y5.cell 4
  have y5 : w5.cell? ⟨w.heap.size + 1, 5, none⟩ = some (.int .i64 price) := Y5.cell 5
  have y6 : w5.cell? ⟨w.heap.size + 1, 6, none⟩ = some (.int .i64 capp) := Y5.cell 6
  have y7 : w5.cell? ⟨w.heap.size + 1, 7, none⟩ = some (.int .i64 0) := Y5.cell 7
  have y8 : w5.cell? ⟨w.heap.size + 1, 8, none⟩ = some (.int .i64 0) := Y5.cell 8
  have y9 : w5.cell? ⟨w.heap.size + 1, 9, none⟩ = some (.slice none 0 0) := Y5.cell 9
  exact bodyPost_ret (v := .agg #[.int .i64 W, .int .i64 D, .slice p1 xs.length c1, .int .i64 free, .int .i64 step, .int .i64 price, .int .i64 capp, .int .i64 0, .int .i64 0, .slice none 0 0]) (by simp [results, Tryd.results28, go_sem, *]) rfl (ret_house0 O5 X5)

theorem implHe (wide deep : Int) (w : World) : Calls Tryd.prog 70 #[.int .i64 wide, .int .i64 deep] w (RetHall (emptyHall wide deep).1 (emptyHall wide deep).2.1 (emptyHall wide deep).2.2 w) := by
  by_cases h : 2 ≤ wide ∧ wide ≤ 4 ∧ 2 ≤ deep ∧ deep ≤ 3
  · have h1 : emptyHall wide deep = (wide, deep, List.replicate (wide * deep).toNat 0) := by unfold emptyHall; rw [if_pos h]
    rw [h1]
    obtain ⟨a, b, c, d⟩ := h
    have h4 : 0 ≤ wide * deep := Int.mul_nonneg (by omega) (by omega)
    have h5 : wide * deep ≤ 12 := by have := Int.mul_le_mul b d (by omega) (by omega); omega
    exact implHe_ok wide deep (wide * deep).toNat w a b c d h4 h5 (by omega) (by omega)
  · have h1 : emptyHall wide deep = (0, 0, []) := by unfold emptyHall; rw [if_neg h]
    rw [h1]
    exact implHe_bad wide deep w (by omega)
theorem specHe (wide deep : Int) (w : World) : Calls Tryd.prog 72 #[.int .i64 wide, .int .i64 deep] w (RetHall (emptyHall wide deep).1 (emptyHall wide deep).2.1 (emptyHall wide deep).2.2 w) := by
  by_cases h : 2 ≤ wide ∧ wide ≤ 4 ∧ 2 ≤ deep ∧ deep ≤ 3
  · have h1 : emptyHall wide deep = (wide, deep, List.replicate (wide * deep).toNat 0) := by unfold emptyHall; rw [if_pos h]
    rw [h1]
    obtain ⟨a, b, c, d⟩ := h
    have h4 : 0 ≤ wide * deep := Int.mul_nonneg (by omega) (by omega)
    have h5 : wide * deep ≤ 12 := by have := Int.mul_le_mul b d (by omega) (by omega); omega
    exact specHe_ok wide deep (wide * deep).toNat w a b c d h4 h5 (by omega) (by omega)
  · have h1 : emptyHall wide deep = (0, 0, []) := by unfold emptyHall; rw [if_neg h]
    rw [h1]
    exact specHe_bad wide deep w (by omega)
theorem houseOk_new (wide deep f s p c : Int) (xs : List Int) (hx : ∀ x ∈ xs, x = 0) : houseOk ⟨wide, deep, xs, f, s, p, c, 0, 0, []⟩ = (hallOk wide deep xs && tariffOk f s p c) := by
  have h0 : posOfL xs = [] := by
    unfold posOfL; rw [List.filter_eq_nil_iff]; intro x h; rw [hx x h]; simp
  unfold houseOk numsOk carsOf
  rw [h0]
  simp [sortL, visitsOk]
theorem hallOk_new {wide deep : Int} (h : 2 ≤ wide ∧ wide ≤ 4 ∧ 2 ≤ deep ∧ deep ≤ 3) : hallOk wide deep (List.replicate (wide * deep).toNat 0) = true := by
  obtain ⟨h0, h1, h2, h3⟩ := h
  have h4 : 0 ≤ wide * deep := Int.mul_nonneg (by omega) (by omega)
  unfold hallOk
  rw [Bool.and_eq_true]
  refine ⟨by simp only [shapeOk, decide_eq_true_eq, List.length_replicate]; omega, ?_⟩
  rw [cellsOk_iff]
  refine ⟨fun x hx => ?_, fun x hx h => ?_, ?_⟩
  · rw [List.mem_replicate] at hx; omega
  · rw [List.mem_replicate] at hx; omega
  · have : (List.replicate (wide * deep).toNat (0 : Int)).filter (fun x => decide (0 < x)) = [] := by
      rw [List.filter_eq_nil_iff]; intro x hx; rw [List.mem_replicate] at hx; simp [hx.2]
    rw [this]; exact List.nodup_nil
theorem emptyHall_zeros {wide deep : Int} {x : Int} (h : x ∈ (emptyHall wide deep).2.2) : x = 0 := by
  unfold emptyHall at h
  split at h
  · exact (List.mem_replicate.1 h).2
  · simp at h
theorem houseNew_eq (wide deep f s p c : Int) : houseNew wide deep f s p c = (if hallOk (emptyHall wide deep).1 (emptyHall wide deep).2.1 (emptyHall wide deep).2.2 && tariffOk f s p c then ⟨(emptyHall wide deep).1, (emptyHall wide deep).2.1, (emptyHall wide deep).2.2, f, s, p, c, 0, 0, []⟩ else houseZero) := by
  unfold houseNew
  by_cases h : 2 ≤ wide ∧ wide ≤ 4 ∧ 2 ≤ deep ∧ deep ≤ 3
  · have h1 : emptyHall wide deep = (wide, deep, List.replicate (wide * deep).toNat 0) := by unfold emptyHall; rw [if_pos h]
    rw [h1, hallOk_new h, Bool.true_and]
    cases tariffOk f s p c <;> simp [h]
  · have h1 : emptyHall wide deep = (0, 0, []) := by unfold emptyHall; rw [if_neg h]
    rw [h1]
    have h2 : hallOk 0 0 [] = false := by simp [hallOk, shapeOk]
    rw [h2, Bool.false_and]
    have h3 : ¬ (tariffOk f s p c = true ∧ 2 ≤ wide ∧ wide ≤ 4 ∧ 2 ≤ deep ∧ deep ≤ 3) := fun k => h k.2
    rw [if_neg h3]; rfl
theorem implHn (wide deep free step price capp : Int) (w : World) : Calls Tryd.prog 26 #[.int .i64 wide, .int .i64 deep, tariffV free step price capp] w (RetHouse (houseNew wide deep free step price capp) w) := by
  have HE := fun (w' : World) (hx : Ext w w') => implHe wide deep w'
  have HV := fun (w' : World) p c (hS : Sl w' p (emptyHall wide deep).2.2.length c 1 (ivs (emptyHall wide deep).2.2)) => implHouse ⟨(emptyHall wide deep).1, (emptyHall wide deep).2.1, (emptyHall wide deep).2.2, free, step, price, capp, 0, 0, []⟩ p _ c none 0 0 w' ⟨hS, Sl.nil _ _⟩
  rw [houseOk_new _ _ _ _ _ _ _ (fun x hx => emptyHall_zeros hx)] at HV
  rw [houseNew_eq]
  cases hok : hallOk (emptyHall wide deep).1 (emptyHall wide deep).2.1 (emptyHall wide deep).2.2 && tariffOk free step price capp with
  | true => rw [hok] at HV; exact implHn_yes wide deep free step price capp _ _ _ w HE HV
  | false => rw [hok] at HV; exact implHn_no wide deep free step price capp _ _ _ w HE HV
theorem specHn (wide deep free step price capp : Int) (w : World) : Calls Tryd.prog 28 #[.int .i64 wide, .int .i64 deep, tariffV free step price capp] w (RetHouse (houseNew wide deep free step price capp) w) := by
  have HE := fun (w' : World) (hx : Ext w w') => specHe wide deep w'
  have HV := fun (w' : World) p c (hS : Sl w' p (emptyHall wide deep).2.2.length c 1 (ivs (emptyHall wide deep).2.2)) => specHv (emptyHall wide deep).1 (emptyHall wide deep).2.1 p _ c (emptyHall wide deep).2.2 w' hS
  have HT := fun (w' : World) => specTv free step price capp w'
  rw [houseNew_eq]
  cases h1 : hallOk (emptyHall wide deep).1 (emptyHall wide deep).2.1 (emptyHall wide deep).2.2 with
  | false => rw [h1] at HV; cases h2 : tariffOk free step price capp <;> (rw [h2] at HT; exact specHn_no1 wide deep free step price capp _ _ _ w _ HE HV HT)
  | true =>
    rw [h1] at HV
    cases h2 : tariffOk free step price capp with
    | false => rw [h2] at HT; exact specHn_no2 wide deep free step price capp _ _ _ w true HE HV HT
    | true => rw [h2] at HT; exact specHn_yes wide deep free step price capp _ _ _ w true HE HV HT
end Go.Proofs.YtncfnlocdlhagaaDoor
